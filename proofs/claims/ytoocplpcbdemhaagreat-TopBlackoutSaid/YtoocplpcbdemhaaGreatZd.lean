import Derived.Test.YtoocplpcbdemhaaGreatZc
set_option linter.unusedVariables false
set_option linter.unusedSimpArgs false
set_option linter.unusedSectionVars false
namespace Go.Proofs.YtoocplpcbdemhaaGreat
theorem vn:type_of% @List.length_set:=@List.length_set
theorem Cy:type_of% @List.countP_append:=@List.countP_append
theorem iw:type_of% @List.countP_cons:=@List.countP_cons
theorem acR:type_of% @Classical.byContradiction:=@Classical.byContradiction
theorem CG:type_of% @List.find?_eq_none:=@List.find?_eq_none
theorem Co:type_of% @List.mem_of_find?_eq_some:=@List.mem_of_find?_eq_some
theorem Am:type_of% @List.find?_some:=@List.find?_some
theorem Ag:type_of% @and_congr_right:=@and_congr_right
theorem pH:type_of% @List.mem_cons_self:=@List.mem_cons_self
theorem Cw:type_of% @List.set_cons_zero:=@List.set_cons_zero
theorem I':type_of% @List.set_cons_succ:=@List.set_cons_succ
theorem CE:type_of% @List.sum_cons:=@List.sum_cons
theorem I_:type_of% @List.contains_cons:=@List.contains_cons
theorem na:type_of% @List.contains_iff_mem:=@List.contains_iff_mem
theorem Al:type_of% @List.find?_cons:=@List.find?_cons
theorem Cm:type_of% @Bool.not_eq_true:=@Bool.not_eq_true
theorem Jc:type_of% @List.Pairwise.filter:=@List.Pairwise.filter
theorem I9:type_of% @List.getLastD_cons:=@List.getLastD_cons
theorem FP:type_of% @List.nodup_range:=@List.nodup_range
theorem Bi:type_of% @List.drop_eq_nil_of_le:=@List.drop_eq_nil_of_le
end Go.Proofs.YtoocplpcbdemhaaGreat
namespace Go.Proofs.YtoocplpcbdemhaaGreat.Vm
section
open Go M
set_option maxRecDepth 100000
theorem r65 (F b d e)(a f g h:Int):Eq (aI E F 65 [G a b d e f g,h] []) (aj (F 118 [.sl 3 b,.fn 119 [.ptr 0 0]] [.box [h]]) λr=>ctl (cC [.one (.int .i64)] r.fst&&okB [.inl [.inl (.int .i64)]] r.snd) (some ([.p (ri r 0)],[])) none):=by kernel_rfl
theorem akp (F)(a b d e:Int):Eq (aI E F 119 [.agg [a,b,d],.t (.ptr 0 0)] [.box [e]]) (aj (ctl (a==2) (some (d==e)) (some false)) λv=>some ([.p (.bool v)],[.box [e]])):=by kernel_rfl
theorem r66 (F b d e h i j k)(a f g l:Int):Eq (aI E F 66 [G a b d e f g,W h i j k,l] []) (aG b l λc=>ctl (c3 c) (aj (F 86 [W h i j k,n 2,l] []) λr=>ctl (kb r) (aj (ctl (!(rb r 0)) (aj (F 86 [W h i j k,n 3,ci c 1] []) λr=>ctl (kb r) (some !(rb r 0)) none) (some false)) λv=>aj (ctl v (ctl (!(ci c 0:Int) !=1) (aj (F 86 [W h i j k,n 3,ci c 2] []) λr=>ctl (kb r) (some !(rb r 0)) none) (some true)) (some false)) λv=>some ([.p (.bool v)],[])) none) none):=by kernel_rfl
theorem r64 (F b d e h i j k)(a f g l:Int):Eq (aI E F 64 [G a b d e f g,W h i j k,l] []) (aj (F 65 [G a b d e f g,l] []) λr=>ctl (ki r) (aj (F 66 [G a b d e f g,W h i j k,ri r 0] []) λr=>ctl (kb r) (aj (ctl (rb r 0) (aj (F 86 [W h i j k,n 1,l] []) λr=>ctl (kb r) (some !(rb r 0)) none) (some false)) λv=>aj (ctl v (aG i l λc=>ctl (c4 c) (some ((ci c 0:Int) !=3)) none) (some false)) λv=>some ([.p (.bool v)],[])) none) none):=by kernel_rfl
theorem abZ (F e f g j k l m o)(a b d h i:Int):Eq (lp E F 21 0 [] 0 ⟨[a,b],[.box (bd d e f g h i []),.box (pw j k l m []),a1 o]⟩) (ctl (aT b a) (aj (F 64 [G d e f g h i,W j k l m,b] []) λr=>ctl (kb r) (ctl (rb r 0) (aj (F 65 [G d e f g h i,b] []) λr=>ctl (ki r) (aG e (ri r 0) λc=>ctl (c3 c) (ctl (bJ 0 (ci c 1)&&aT (ci c 1) (↑o.length:Int)) (lp E F 21 0 [] 0 ⟨[a,(wr (b+1))],[.box (bd d e f g h i []),.box (pw j k l m []),a1 (bg o (ci c 1:Int).toNat 0 [.bool true])]⟩) none) none) none) (lp E F 21 0 [] 0 ⟨[a,(wr (b+1))],[.box (bd d e f g h i []),.box (pw j k l m []),a1 o]⟩)) none) (some (.exit 0,⟨[],[.box (bd d e f g h i []),.box (pw j k l m []),a1 o]⟩))):=lu (by kernel_rfl)
theorem abY (F e f g j k l m o)(a b d h i:Int):Eq (lp E F 21 0 [] 2 ⟨[a,b],[.box (bd d e f g h i []),.box (pw j k l m []),a1 o]⟩) (ctl (aT b a) (aj (lp E F 21 0 [] 4 ⟨[a,b,.sl 3 e,(ln e),n 0],[.box (bd d e f g h i []),.box (pw j k l m []),a1 o]⟩) λp=>ctl (x 4 p) (ctl ((po [(sp 2 0),(sp 3 1),(sh 5 2),(sj 39),(sj 40)] [.inl (bs []),.inl (ps []),.inr 1] p)) (lp E F 21 0 [] 2 ⟨[xi p 0,(wr ((xi p 1:Int)+1))],[.box (kh p 0 []),.box (EP p 1 []),a1 (ae p 2)]⟩) none) none) (some (.exit 2,⟨[],[a1 o]⟩))):=lu (by kernel_rfl)
theorem abX (F d h i j m o q s u)(a b e f g k l:Int):Eq (lp E F 21 0 [] 4 ⟨[a,b,.sl 3 d,e,f],[.box (bd g h i j k l []),.box (pw m o q s []),a1 u]⟩) (ctl (aT f e) (aG d f λc=>ctl (c3 c) (aj (ctl ((ci c 0:Int)==1) (aj (F 66 [G g h i j k l,W m o q s,f] []) λr=>ctl (kb r) (some (rb r 0:Bool)) none) (some false)) λv=>ctl v (ctl (bJ 0 (ci c 1)&&aT (ci c 1) (↑u.length:Int)) (ctl (bL [.bool] (List.take 1 (List.drop 0 (nth [] u (ci c 1:Int).toNat)))) (aj (ctl (!(nth .aM (nth [] u (ci c 1:Int).toNat) 0).toBool) (ctl (bJ 0 (ci c 2)&&aT (ci c 2) (↑u.length:Int)) (ctl (bL [.bool] (List.take 1 (List.drop 0 (nth [] u (ci c 2:Int).toNat)))) (some (nth .aM (nth [] u (ci c 2:Int).toNat) 0).toBool) none) none) (some true)) λv=>ctl (bJ 0 (ci c 1)&&aT (ci c 1) (↑u.length:Int)) (ctl (bJ 0 (ci c 2)&&aT (ci c 2) (↑(bg u (ci c 1:Int).toNat 0 [.bool v]).length:Int)) (lp E F 21 0 [] 4 ⟨[a,b,.sl 3 d,e,(wr (f+1))],[.box (bd g h i j k l []),.box (pw m o q s []),a1 (bg (bg u (ci c 1:Int).toNat 0 [.bool v]) (ci c 2:Int).toNat 0 [.bool v])]⟩) none) none) none) none) (lp E F 21 0 [] 4 ⟨[a,b,.sl 3 d,e,(wr (f+1))],[.box (bd g h i j k l []),.box (pw m o q s []),a1 u]⟩)) none) (some (.exit 4,⟨[a,b],[.box (bd g h i j k l []),.box (pw m o q s []),a1 u]⟩))):=lu (by kernel_rfl)
theorem r21 (F b d e h i j k)(a f g:Int):Eq (aI E F 21 [G a b d e f g,W h i j k] []) (aj (F 31 [G a b d e f g,W h i j k] []) λr=>ctl (ki r) (ctl ((ri r 0:Int) !=0) (some ([.p (.sl 1 [])],[])) (ctl (bJ 0 a&&(bJ a a&&(bJ a 9223372036854775807&&bJ (a*1) 140737488355328))) (aj (lp E F 21 0 [] 0 ⟨[(ln d),n 0],[.box (bd a b d e f g []),.box (pw h i j k []),a1 (dm ([.bool false]:List PV) a.toNat)]⟩) λp=>ctl (x 0 p) (ctl ((po [(sp 2 0),(sp 3 1),(sh 5 2)] [.inl (bs []),.inl (ps []),.inr 1] p)) (aj (lp E F 21 0 [] 2 ⟨[vi p 0 0,n 0],[.box (kh p 0 []),.box (EP p 1 []),a1 (ae p 2)]⟩) λp=>ctl (x 2 p) (ctl ((po [(sh 5 0)] [.inr 1] p)) (some ([.p (.sl 1 (ae p 0))],[])) none) none) none) none) none)) none):=by kernel_rfl
theorem abW (F a f g h k l m o)(b d e i j:Int):Eq (lp E F 25 0 [] 0 ⟨[.sl 1 a,b,d],[.box (bd e f g h i j []),.box (pw k l m o [])]⟩) (ctl (aT d b) (aG a d λc=>ctl (c0 c) (aj (ctl (cb c 0) (aj (F 24 [G e f g h i j,W k l m o,d] []) λr=>ctl (kb r) (some !(rb r 0)) none) (some false)) λv=>ctl v (some (.ret,⟨[.bool false],[]⟩)) (lp E F 25 0 [] 0 ⟨[.sl 1 a,b,(wr (d+1))],[.box (bd e f g h i j []),.box (pw k l m o [])]⟩)) none) (some (.exit 0,⟨[],[.box (bd e f g h i j []),.box (pw k l m o [])]⟩))):=lu (by kernel_rfl)
theorem r25 (F b d e h i j k)(a f g:Int):Eq (aI E F 25 [G a b d e f g,W h i j k] []) (aj (F 21 [G a b d e f g,W h i j k] []) λr=>ctl (k0 [.one (.sl 1)] r) (aj (lp E F 25 0 [] 0 ⟨[.sl 1 (re r 0),n (↑(re r 0:LE).length:Int),n 0],[.box (bd a b d e f g []),.box (pw h i j k [])]⟩) λp=>ctl (x 0 p) (ctl ((po [(sp 2 0),(sp 3 1)] [.inl (bs []),.inl (ps [])] p)) (aj (F 31 [.agg (CQ p 0),.agg (YJ p 1)] []) λr=>ctl (ki r) (some ([.p (.bool ((ri r 0:Int)==0))],[])) none) none) (e2 4 p)) none):=by kernel_rfl
theorem adM (F b d e)(a f g h i:Int):Eq (aI E F 161 [G a b d e f g,h,i] []) (ctl (h==1) (aj (ctl (bJ 0 i) (some (aT i (↑d.length:Int))) (some false)) λv=>some ([.p (.bool v)],[])) (ctl (h==2) (aj (ctl (bJ 0 i) (some (aT i (↑b.length:Int))) (some false)) λv=>some ([.p (.bool v)],[])) (ctl (h==3) (aj (ctl (bJ 0 i) (some (aT i a)) (some false)) λv=>some ([.p (.bool v)],[])) (ctl (h==4) (aj (ctl (bJ 0 i) (some (aT i (↑e.length:Int))) (some false)) λv=>some ([.p (.bool v)],[])) (aj (ctl (bJ 0 i) (some (aT i 0)) (some false)) λv=>some ([.p (.bool v)],[])))))):=by kernel_rfl
theorem YE (F b d e)(a f g h i j:Int):Eq (aI E F 127 [G a b d e f g,.agg [h,i,j]] []) (ctl (h==1) (ctl (h==1) (aj (F 161 [G a b d e f g,n 2,i] []) λr=>ctl (kb r) (some ([.p (.bool (rb r 0))],[])) none) (ctl (h==3) (ctl (h==3) (aj (F 161 [G a b d e f g,n 1,i] []) λr=>ctl (kb r) (some ([.p (.bool (rb r 0))],[])) none) (ctl (h==5) (aj (F 161 [G a b d e f g,n 4,i] []) λr=>ctl (kb r) (some ([.p (.bool (rb r 0))],[])) none) (ctl (h==6) (aj (F 161 [G a b d e f g,n 1,i] []) λr=>ctl (kb r) (aj (ctl (rb r 0) (aj (F 161 [G a b d e f g,n 3,j] []) λr=>ctl (kb r) (some (rb r 0:Bool)) none) (some false)) λv=>some ([.p (.bool v)],[])) none) (ctl (h==8) (ctl (h==8) (aj (F 161 [G a b d e f g,j,i] []) λr=>ctl (kb r) (some ([.p (.bool (rb r 0))],[])) none) (some ([.p (.bool true)],[]))) (ctl (h==9) (aj (F 161 [G a b d e f g,j,i] []) λr=>ctl (kb r) (some ([.p (.bool (rb r 0))],[])) none) (some ([.p (.bool true)],[]))))))) (ctl (h==4) (aj (F 161 [G a b d e f g,n 1,i] []) λr=>ctl (kb r) (some ([.p (.bool (rb r 0))],[])) none) (ctl (h==5) (aj (F 161 [G a b d e f g,n 4,i] []) λr=>ctl (kb r) (some ([.p (.bool (rb r 0))],[])) none) (ctl (h==6) (aj (F 161 [G a b d e f g,n 1,i] []) λr=>ctl (kb r) (aj (ctl (rb r 0) (aj (F 161 [G a b d e f g,n 3,j] []) λr=>ctl (kb r) (some (rb r 0:Bool)) none) (some false)) λv=>some ([.p (.bool v)],[])) none) (ctl (h==8) (ctl (h==8) (aj (F 161 [G a b d e f g,j,i] []) λr=>ctl (kb r) (some ([.p (.bool (rb r 0))],[])) none) (some ([.p (.bool true)],[]))) (ctl (h==9) (aj (F 161 [G a b d e f g,j,i] []) λr=>ctl (kb r) (some ([.p (.bool (rb r 0))],[])) none) (some ([.p (.bool true)],[]))))))))) (ctl (h==2) (aj (F 161 [G a b d e f g,n 2,i] []) λr=>ctl (kb r) (some ([.p (.bool (rb r 0))],[])) none) (ctl (h==3) (ctl (h==3) (aj (F 161 [G a b d e f g,n 1,i] []) λr=>ctl (kb r) (some ([.p (.bool (rb r 0))],[])) none) (ctl (h==5) (aj (F 161 [G a b d e f g,n 4,i] []) λr=>ctl (kb r) (some ([.p (.bool (rb r 0))],[])) none) (ctl (h==6) (aj (F 161 [G a b d e f g,n 1,i] []) λr=>ctl (kb r) (aj (ctl (rb r 0) (aj (F 161 [G a b d e f g,n 3,j] []) λr=>ctl (kb r) (some (rb r 0:Bool)) none) (some false)) λv=>some ([.p (.bool v)],[])) none) (ctl (h==8) (ctl (h==8) (aj (F 161 [G a b d e f g,j,i] []) λr=>ctl (kb r) (some ([.p (.bool (rb r 0))],[])) none) (some ([.p (.bool true)],[]))) (ctl (h==9) (aj (F 161 [G a b d e f g,j,i] []) λr=>ctl (kb r) (some ([.p (.bool (rb r 0))],[])) none) (some ([.p (.bool true)],[]))))))) (ctl (h==4) (aj (F 161 [G a b d e f g,n 1,i] []) λr=>ctl (kb r) (some ([.p (.bool (rb r 0))],[])) none) (ctl (h==5) (aj (F 161 [G a b d e f g,n 4,i] []) λr=>ctl (kb r) (some ([.p (.bool (rb r 0))],[])) none) (ctl (h==6) (aj (F 161 [G a b d e f g,n 1,i] []) λr=>ctl (kb r) (aj (ctl (rb r 0) (aj (F 161 [G a b d e f g,n 3,j] []) λr=>ctl (kb r) (some (rb r 0:Bool)) none) (some false)) λv=>some ([.p (.bool v)],[])) none) (ctl (h==8) (ctl (h==8) (aj (F 161 [G a b d e f g,j,i] []) λr=>ctl (kb r) (some ([.p (.bool (rb r 0))],[])) none) (some ([.p (.bool true)],[]))) (ctl (h==9) (aj (F 161 [G a b d e f g,j,i] []) λr=>ctl (kb r) (some ([.p (.bool (rb r 0))],[])) none) (some ([.p (.bool true)],[])))))))))):=by kernel_rfl
theorem ajV (F d e f j k l m)(a b g h i:Int):Eq (aI E F 165 [.t (.ptr 0 0),a] [.box (bd b d e f g h (h4 1 2 3 4 [i])),a1 j,a4 k,a1 l,a2 m]) (ctl (bJ 0 a&&aT a (↑k.length:Int)) (ctl (bL [.int .i64] (List.take 1 (List.drop 0 (nth [] k a.toNat)))) (aj (ctl (!(nth .aM (nth [] k a.toNat) 0).toInt !=0) (aj (F 86 [W j k l m,n 1,a] []) λr=>ctl (cC [.one .bool] r.fst&&okB [] r.snd&&(bM r.fst&&cr r.snd)) (some (rb r 0:Bool)) none) (some true)) λv=>ctl v (some ([.p (n 11)],[.box (bd b d e f g h (h4 1 2 3 4 [i])),a1 j,a4 k,a1 l,a2 m])) (aG e a λc=>ctl (c3 c) (ctl ((ci c 2:Int)==0) (aj (F 65 [G b d e f g h,a] []) λr=>ctl (ki r) (ctl (bJ 0 (ri r 0)&&aT (ri r 0) (↑j.length:Int)&&bL [.bool] (nth [] j (ri r 0:Int).toNat)) (ctl (!(nth .aM (nth [] j (ri r 0:Int).toNat) 0).toBool) (ctl (bJ 0 a&&aT a (↑k.length:Int)) (some ([.p (n 0)],[.box (bd b d e f g h (h4 1 2 3 4 [i])),a1 j,a4 (bg k a.toNat 0 [n 2,i,n 5000,n 0]),a1 l,a2 m])) none) (ctl (bJ 0 a&&aT a (↑k.length:Int)) (some ([.p (n 0)],[.box (bd b d e f g h (h4 1 2 3 4 [i])),a1 j,a4 (bg k a.toNat 0 [n 1,i,n 5000,n 0]),a1 l,a2 m])) none)) none) none) (ctl (bJ 0 a&&aT a (↑k.length:Int)) (some ([.p (n 0)],[.box (bd b d e f g h (h4 1 2 3 4 [i])),a1 j,a4 (bg k a.toNat 0 [n 1,i,n 5000,n 0]),a1 l,a2 m])) none)) none)) none) none):=by kernel_rfl
theorem ajU (F d e f j k l m)(a b g h i:Int):Eq (aI E F 166 [.t (.ptr 0 0),a] [.box (bd b d e f g h (h4 1 2 3 4 [i])),a1 j,a4 k,a1 l,a2 m]) (ctl (bJ 0 a&&aT a (↑k.length:Int)) (ctl (bL [.int .i64] (List.take 1 (List.drop 0 (nth [] k a.toNat)))) (aj (ctl ((nth .aM (nth [] k a.toNat) 0).toInt !=1) (ctl (bL [.int .i64] (List.take 1 (List.drop 0 (nth [] k a.toNat)))) (some ((nth .aM (nth [] k a.toNat) 0).toInt !=2)) none) (some false)) λv=>ctl (!v) (aj (F 65 [G b d e f g h,a] []) λr=>ctl (ki r) (ctl (bJ 0 (ri r 0)&&aT (ri r 0) (↑j.length:Int)&&bL [.bool] (nth [] j (ri r 0:Int).toNat)) (ctl (!!(nth .aM (nth [] j (ri r 0:Int).toNat) 0).toBool) (some ([.p (n 11)],[.box (bd b d e f g h (h4 1 2 3 4 [i])),a1 j,a4 k,a1 l,a2 m])) (some ([.p (n 0)],[.box (bd b d e f g h (h4 1 2 3 4 [i])),a1 j,a4 (bg k a.toNat 0 [n 0]),a1 l,a2 m]))) none) none) (some ([.p (n 11)],[.box (bd b d e f g h (h4 1 2 3 4 [i])),a1 j,a4 k,a1 l,a2 m]))) none) none):=by kernel_rfl
theorem S9 (F e f g k l m o)(a b d h i j:Int):Eq (lp E F 168 1 [] 0 ⟨[a,b],[.box (bd d e f g h i (h4 1 2 3 4 [j])),a1 k,a4 l,a1 m,a2 o]⟩) (ctl (aT b a) (ctl (bJ 0 b&&aT b (↑l.length:Int)) (ctl (bL [.int .i64] (List.take 1 (List.drop 0 (nth [] l b.toNat)))) (ctl ((nth .aM (nth [] l b.toNat) 0).toInt==1) (aj (F 65 [G d e f g h i,b] []) λr=>ctl (ki r) (ctl (bJ 0 (ri r 0)&&aT (ri r 0) (↑k.length:Int)&&bL [.bool] (nth [] k (ri r 0:Int).toNat)) (aj (ctl (!(nth .aM (nth [] k (ri r 0:Int).toNat) 0).toBool) (ctl (bL [.int .i64] (List.take 1 (List.drop 1 (nth [] l b.toNat)))) (aG f b λc=>ctl (c3 c) (some (bJ (IntKind.i64.wrap ((nth .aM (nth [] l b.toNat) 1).toInt+(ci c 2:Int))) (IntKind.i64.wrap (j+1)))) none) none) (some false)) λv=>ctl v (lp E F 168 1 [] 0 ⟨[a,(wr (b+1))],[.box (bd d e f g h i (h4 1 2 3 4 [j])),a1 k,a4 (bg l b.toNat 0 [n 2]),a1 m,a2 o]⟩) (lp E F 168 1 [] 0 ⟨[a,(wr (b+1))],[.box (bd d e f g h i (h4 1 2 3 4 [j])),a1 k,a4 l,a1 m,a2 o]⟩)) none) none) (lp E F 168 1 [] 0 ⟨[a,(wr (b+1))],[.box (bd d e f g h i (h4 1 2 3 4 [j])),a1 k,a4 l,a1 m,a2 o]⟩)) none) none) (some (.exit 0,⟨[],[.box (bd d e f g h i (h4 1 2 3 4 [j])),a1 k,a4 l,a1 m,a2 o]⟩))):=lu (by kernel_rfl)
theorem ajT (F b d e i j k l)(a f g h:Int):Eq (aI E F 168 [.t (.ptr 0 0)] [.box (bd a b d e f g (h4 1 2 3 4 [h])),a1 i,a4 j,a1 k,a2 l]) (aj (F 183 [G a b d e f g,W i j k l] []) λr=>ctl (cC [.bm [.ow 1,.ow 4,.ow 1,.ow 2],.one (.int .i64)] r.fst&&okB [] r.snd&&(bM r.fst&&cr r.snd)) (aj (lp E F 168 1 [] 0 ⟨[n (↑(oe r 0 1:LE).length:Int),n 0],[.box (bd a b d e f g (h4 1 2 3 4 [h])),a1 (oe r 0 0),a4 (oe r 0 1),a1 (oe r 0 2),a2 (oe r 0 3)]⟩) λp=>ctl (x 0 p) (ctl ((po [] [.inl (bs (g4 1 2 3 4 [.inl (.int .i64)])),.inr 1,.inr 4,.inr 1,.inr 2] p)) (some ([],[.box (kh p 0 (h4 1 2 3 4 [vi p 0 10])),a1 (ae p 1),a4 (ae p 2),a1 (ae p 3),a2 (ae p 4)])) none) none) none):=by kernel_rfl
theorem PT (F f g h l m o q)(a b d e i j k:Int):Eq (aI E F 128 [.t (.ptr 0 0),.agg [a,b,d]] [.box (bd e f g h i j (h4 1 2 3 4 [k])),a1 l,a4 m,a1 o,a2 q]) (ctl (a==1) (aj (F 162 [G e f g h i j,W l m o q,b] []) λr=>ctl (cC [.bm [.ow 1,.ow 4,.ow 1,.ow 2],.one (.int .i64)] r.fst&&okB [] r.snd&&(bM r.fst&&cr r.snd)) (some ([.p (ri r 1)],[.box (bd e f g h i j (h4 1 2 3 4 [k])),a1 (oe r 0 0),a4 (oe r 0 1),a1 (oe r 0 2),a2 (oe r 0 3)])) none) (ctl (a==2) (aj (F 163 [G e f g h i j,W l m o q,b] []) λr=>ctl (cC [.bm [.ow 1,.ow 4,.ow 1,.ow 2],.one (.int .i64)] r.fst&&okB [] r.snd&&(bM r.fst&&cr r.snd)) (some ([.p (ri r 1)],[.box (bd e f g h i j (h4 1 2 3 4 [k])),a1 (oe r 0 0),a4 (oe r 0 1),a1 (oe r 0 2),a2 (oe r 0 3)])) none) (ctl (a==6) (aj (F 164 [G e f g h i j,W l m o q,b,d] []) λr=>ctl (cC [.bm [.ow 1,.ow 4,.ow 1,.ow 2],.one (.int .i64)] r.fst&&okB [] r.snd&&(bM r.fst&&cr r.snd)) (some ([.p (ri r 1)],[.box (bd e f g h i j (h4 1 2 3 4 [k])),a1 (oe r 0 0),a4 (oe r 0 1),a1 (oe r 0 2),a2 (oe r 0 3)])) none) (ctl (a==3) (aj (F 165 [.t (.ptr 0 0),b] [.box (bd e f g h i j (h4 1 2 3 4 [k])),a1 l,a4 m,a1 o,a2 q]) λr=>ctl (cC [.one (.int .i64)] r.fst&&okB [.inl (bs (g4 1 2 3 4 [.inl (.int .i64)])),.inr 1,.inr 4,.inr 1,.inr 2] r.snd) (some ([.p (ri r 0)],[.box (rM r 0 (h4 1 2 3 4 [wi r 0 10])),a1 (he r 1),a4 (he r 2),a1 (he r 3),a2 (he r 4)])) none) (ctl (a==4) (aj (F 166 [.t (.ptr 0 0),b] [.box (bd e f g h i j (h4 1 2 3 4 [k])),a1 l,a4 m,a1 o,a2 q]) λr=>ctl (cC [.one (.int .i64)] r.fst&&okB [.inl (bs (g4 1 2 3 4 [.inl (.int .i64)])),.inr 1,.inr 4,.inr 1,.inr 2] r.snd) (some ([.p (ri r 0)],[.box (rM r 0 (h4 1 2 3 4 [wi r 0 10])),a1 (he r 1),a4 (he r 2),a1 (he r 3),a2 (he r 4)])) none) (ctl (a==5) (aj (F 167 [.t (.ptr 0 0),b,d] [.box (bd e f g h i j (h4 1 2 3 4 [k])),a1 l,a4 m,a1 o,a2 q]) λr=>ctl (cC [.one (.int .i64)] r.fst&&okB [.inl (bs (g4 1 2 3 4 [.inl (.int .i64)])),.inr 1,.inr 4,.inr 1,.inr 2] r.snd) (some ([.p (ri r 0)],[.box (rM r 0 (h4 1 2 3 4 [wi r 0 10])),a1 (he r 1),a4 (he r 2),a1 (he r 3),a2 (he r 4)])) none) (ctl (a==7) (aj (F 168 [.t (.ptr 0 0)] [.box (bd e f g h i j (h4 1 2 3 4 [k])),a1 l,a4 m,a1 o,a2 q]) λr=>ctl (cC [] r.fst&&okB [.inl (bs (g4 1 2 3 4 [.inl (.int .i64)])),.inr 1,.inr 4,.inr 1,.inr 2] r.snd) (some ([.p (n 0)],[.box (rM r 0 (h4 1 2 3 4 [wi r 0 10])),a1 (he r 1),a4 (he r 2),a1 (he r 3),a2 (he r 4)])) none) (aj (F 169 [.t (.ptr 0 0),.agg [d,b],.bool (a==8)] [.box (bd e f g h i j (h4 1 2 3 4 [k])),a1 l,a4 m,a1 o,a2 q]) λr=>ctl (cC [.one (.int .i64)] r.fst&&okB [.inl (bs (g4 1 2 3 4 [.inl (.int .i64)])),.inr 1,.inr 4,.inr 1,.inr 2] r.snd) (some ([.p (ri r 0)],[.box (rM r 0 (h4 1 2 3 4 [wi r 0 10])),a1 (he r 1),a4 (he r 2),a1 (he r 3),a2 (he r 4)])) none)))))))):=by kernel_rfl
theorem r72 (F b d e h i j k)(a f g l m o q:Int):Eq (aI E F 72 [G a b d e f g,W h i j k,l,.agg [m,o,q]] []) (aj (F 31 [G a b d e f g,W h i j k] []) λr=>ctl (ki r) (ctl ((ri r 0:Int) !=0) (some ([.bm [.own 1 [],.own 4 [],.own 1 [],.own 2 []],.p (ri r 0)],[])) (aj (ctl (!aT l 0) (some (aT 2147483648 l)) (some true)) λv=>aj (ctl (!v) (some (aT m 1)) (some true)) λv=>aj (ctl (!v) (some (aT 9 m)) (some true)) λv=>ctl v (some ([.bm [.own 1 [],.own 4 [],.own 1 [],.own 2 []],.p (n 1)],[])) (aj (F 127 [G a b d e f g,.agg [m,o,q]] []) λr=>ctl (kb r) (ctl (!(rb r 0)) (some ([.bm [.own 1 [],.own 4 [],.own 1 [],.own 2 []],.p (n 10)],[])) (aj (F 57 [W h i j k] []) λr=>ctl (k0 [.bm [.ow 1,.ow 4,.ow 1,.ow 2]] r) (aj (F 128 [.t (.ptr 0 0),.agg [m,o,q]] [.box (bd a b d e f g (h4 1 2 3 4 [l])),a1 (oe r 0 0),a4 (oe r 0 1),a1 (oe r 0 2),a2 (oe r 0 3)]) λr=>ctl (cC [.one (.int .i64)] r.fst&&okB [.inl (bs (g4 1 2 3 4 [.inl (.int .i64)])),.inr 1,.inr 4,.inr 1,.inr 2] r.snd) (ctl ((ri r 0:Int) !=0) (some ([.bm [.own 1 [],.own 4 [],.own 1 [],.own 2 []],.p (ri r 0)],[])) (some ([.bm [.own 1 (he r 1:LE),.own 4 (he r 2:LE),.own 1 (he r 3:LE),.own 2 (he r 4:LE)],.p (n 0)],[]))) none) none)) none))) none):=by kernel_rfl
theorem abK (F a f g h k l m o q s u)(b d e i j:Int):Eq (lp E F 58 1 [] 0 ⟨[.sl 3 a,b,d],[.box (bd e f g h i j (h4 1 2 3 4 [.sl 1 k,(t 5)])),a1 l,a4 m,a1 o,a2 q,a3 s,a1 u]⟩) (ctl (aT d b) (aG a d λc=>ctl (c3 c) (aj (ctl ((ci c 0:Int) !=2) (ctl (bJ 0 d&&aT d (↑l.length:Int)) (ctl (bL [.bool] (List.take 1 (List.drop 0 (nth [] l d.toNat)))) (some (nth .aM (nth [] l d.toNat) 0).toBool) none) none) (some false)) λv=>aj (ctl v (aj (F 86 [W l m o q,n 2,d] []) λr=>ctl (cC [.one .bool] r.fst&&okB [] r.snd&&(bM r.fst&&cr r.snd)) (some !(rb r 0)) none) (some false)) λv=>ctl v (aj (F 24 [G e f g h i j,W l m o q,ci c 1] []) λr=>ctl (kb r) (ctl (!(rb r 0)) (ctl (iW ((u.length+1)*8) 140737488355328) (lp E F 58 1 [] 0 ⟨[.sl 3 a,b,(wr (d+1))],[.box (bd e f g h i j (h4 1 2 3 4 [.sl 1 k,(t 5)])),a1 l,a4 m,a1 o,a2 q,a3 s,a1 (u++([[d]]:LE))]⟩) none) (lp E F 58 1 [] 0 ⟨[.sl 3 a,b,(wr (d+1))],[.box (bd e f g h i j (h4 1 2 3 4 [.sl 1 k,(t 5)])),a1 l,a4 m,a1 o,a2 q,a3 s,a1 u]⟩)) none) (lp E F 58 1 [] 0 ⟨[.sl 3 a,b,(wr (d+1))],[.box (bd e f g h i j (h4 1 2 3 4 [.sl 1 k,(t 5)])),a1 l,a4 m,a1 o,a2 q,a3 s,a1 u]⟩)) none) (some (.exit 0,⟨[],[.box (bd e f g h i j (h4 1 2 3 4 [.sl 1 k,(t 5)])),a1 l,a4 m,a1 o,a2 q,a3 s,a1 u]⟩))):=lu (by kernel_rfl)
theorem abJ (F a f g h k l m o q s)(b d e i j:Int):Eq (lp E F 58 1 [] 2 ⟨[.sl 1 a,b,d],[.box (bd e f g h i j (h4 1 2 3 4 [.sl 1 k,(t 5)])),a1 l,a4 m,a1 o,a2 q,a3 s]⟩) (ctl (aT d b) (aG a d λc=>ctl (c1 c) (ctl (iW ((s.length+1)*24) 140737488355328) (ctl (bJ 0 (ci c 0)&&aT (ci c 0) (↑l.length:Int)) (lp E F 58 1 [] 2 ⟨[.sl 1 a,b,(wr (d+1))],[.box (bd e f g h i j (h4 1 2 3 4 [.sl 1 k,(t 5)])),a1 (bg l (ci c 0:Int).toNat 0 [.bool false]),a4 m,a1 o,a2 q,a3 (s++([[n 2,ci c 0,n 0]]:LE))]⟩) none) none) none) (some (.exit 2,⟨[],[.box (bd e f g h i j (h4 1 2 3 4 [.sl 1 k,(t 5)])),a1 l,a4 m,a1 o,a2 q,a3 s]⟩))):=lu (by kernel_rfl)
theorem r58 (F b d e h i j k l m)(a f g:Int):Eq (aI E F 58 [.t (.ptr 0 0)] [.box (bd a b d e f g (h4 1 2 3 4 [.sl 1 h,(t 5)])),a1 i,a4 j,a1 k,a2 l,a3 m]) (aj (lp E F 58 1 [] 0 ⟨[.sl 3 b,(ln b),n 0],[.box (bd a b d e f g (h4 1 2 3 4 [.sl 1 h,(t 5)])),a1 i,a4 j,a1 k,a2 l,a3 m,a1 []]⟩) λp=>ctl (x 0 p) (ctl ((po [(sp 0 0),(sh 2 6)] [.inl (bs (g4 1 2 3 4 [.inl (.sl 1),.inr (.t (.ak 5))])),.inr 1,.inr 4,.inr 1,.inr 2,.inr 3,.inr 1] p)) (aj (lp E F 58 1 [] 2 ⟨[.sl 1 (ae p 6),n (↑(ae p 6:LE).length:Int),n 0],[.box (kh p 0 (h4 1 2 3 4 [.sl 1 (ve p 0 10),(t 5)])),a1 (ae p 1),a4 (ae p 2),a1 (ae p 3),a2 (ae p 4),a3 (ae p 5)]⟩) λp=>ctl (x 2 p) (ctl ((po [] [.inl (bs (g4 1 2 3 4 [.inl (.sl 1),.inr (.t (.ak 5))])),.inr 1,.inr 4,.inr 1,.inr 2,.inr 3] p)) (some ([],[.box (kh p 0 (h4 1 2 3 4 [.sl 1 (ve p 0 10),(t 5)])),a1 (ae p 1),a4 (ae p 2),a1 (ae p 3),a2 (ae p 4),a3 (ae p 5)])) none) none) none) none):=by kernel_rfl
theorem abI (F f g h k l m o q s)(a b d e i j:Int):Eq (lp E F 59 1 [] 0 ⟨[a,b,d],[.box (bd e f g h i j (h4 1 2 3 4 [.sl 1 k,(t 5)])),a1 l,a4 m,a1 o,a2 q,a3 s]⟩) (ctl (aT d b) (ctl (bJ 0 d&&aT d (↑m.length:Int)) (ctl (bL [.int .i64,.int .i64,.int .i64,.int .i64] (List.take 4 (List.drop 0 (nth [] m d.toNat)))) (aj (F 64 [G e f g h i j,W l m o q,d] []) λr=>ctl (cC [.one .bool] r.fst&&okB [] r.snd&&(bM r.fst&&cr r.snd)) (ctl (!!(rb r 0)) (aj (F 65 [G e f g h i j,d] []) λr=>ctl (ki r) (aG f (ri r 0) λc=>ctl (c3 c) (aj (F 24 [G e f g h i j,W l m o q,ci c 1] []) λr=>ctl (kb r) (ctl (rb r 0) (lp E F 59 1 [] 0 ⟨[a,b,(wr (d+1))],[.box (bd e f g h i j (h4 1 2 3 4 [.sl 1 k,(t 5)])),a1 l,a4 m,a1 o,a2 q,a3 s]⟩) (ctl ((nth .aM (nth [] m d.toNat) 0).toInt==0) (ctl (iW ((s.length+1)*24) 140737488355328) (aG g d λc=>ctl (c3 c) (ctl (bJ 0 d&&aT d (↑m.length:Int)) (lp E F 59 1 [] 0 ⟨[n (gu (ci c 2) a),b,(wr (d+1))],[.box (bd e f g h i j (h4 1 2 3 4 [.sl 1 k,(t 5)])),a1 l,a4 (bg m d.toNat 0 [n 2]),a1 o,a2 q,a3 (s++([[n 3,d,n 0]]:LE))]⟩) none) none) none) (ctl ((nth .aM (nth [] m d.toNat) 0).toInt==1) (aG g d λc=>ctl (c3 c) (ctl (bJ 0 d&&aT d (↑m.length:Int)) (lp E F 59 1 [] 0 ⟨[.int .i64 (gu 1 (gu (ci c 2) a)),b,(wr (d+1))],[.box (bd e f g h i j (h4 1 2 3 4 [.sl 1 k,(t 5)])),a1 l,a4 (bg m d.toNat 0 [n 2]),a1 o,a2 q,a3 s]⟩) none) none) (ctl (bJ 0 d&&aT d (↑m.length:Int)) (lp E F 59 1 [] 0 ⟨[a,b,(wr (d+1))],[.box (bd e f g h i j (h4 1 2 3 4 [.sl 1 k,(t 5)])),a1 l,a4 (bg m d.toNat 0 [n 2]),a1 o,a2 q,a3 s]⟩) none)))) none) none) none) (lp E F 59 1 [] 0 ⟨[a,b,(wr (d+1))],[.box (bd e f g h i j (h4 1 2 3 4 [.sl 1 k,(t 5)])),a1 l,a4 m,a1 o,a2 q,a3 s]⟩)) none) none) none) (some (.exit 0,⟨[a],[.box (bd e f g h i j (h4 1 2 3 4 [.sl 1 k,(t 5)])),a1 l,a4 m,a1 o,a2 q,a3 s]⟩))):=lu (by kernel_rfl)
theorem r59 (F b d e h i j k l m)(a f g:Int):Eq (aI E F 59 [.t (.ptr 0 0)] [.box (bd a b d e f g (h4 1 2 3 4 [.sl 1 h,(t 5)])),a1 i,a4 j,a1 k,a2 l,a3 m]) (aj (lp E F 59 1 [] 0 ⟨[n 0,(ln j),n 0],[.box (bd a b d e f g (h4 1 2 3 4 [.sl 1 h,(t 5)])),a1 i,a4 j,a1 k,a2 l,a3 m]⟩) λp=>ctl (x 0 p) (ctl ((po [(sp 0 0),(sj 2)] [.inl (bs (g4 1 2 3 4 [.inl (.sl 1),.inr (.t (.ak 5))])),.inr 1,.inr 4,.inr 1,.inr 2,.inr 3] p)) (aj (F 115 [.sl 3 [[n 7,n 0,n 0]],xi p 0] []) λr=>ctl (cC [.own 3] r.fst&&okB [] r.snd&&(bM r.fst&&cr r.snd)) (ctl (iW (((ae p 5:LE).length+(nth (.p .aM) r.fst 0).di.length)*24) 140737488355328) (some ([],[.box (kh p 0 (h4 1 2 3 4 [.sl 1 (ve p 0 10),(t 5)])),a1 (ae p 1),a4 (ae p 2),a1 (ae p 3),a2 (ae p 4),a3 ((ae p 5:LE)++(nth (.p .aM) r.fst 0).di)])) none) none) none) none):=by kernel_rfl
theorem abH (F e f g j k l m o q)(a b d h i:Int):Eq (lp E F 60 1 [] 0 ⟨[a,b],[.box (bd d e f g h i (h4 1 2 3 4 [.sl 1 j,(t 5)])),a1 k,a4 l,a1 m,a2 o,a3 q]⟩) (ctl (aT b a) (aj (lp E F 60 1 [] 2 ⟨[b,a,b,(ln f),n 0],[.box (bd d e f g h i (h4 1 2 3 4 [.sl 1 j,(t 5)])),a1 k,a4 l,a1 m,a2 o,a3 q]⟩) λp=>ctl (x 2 p) (ctl ((po [(sp 0 0),(sj 9),(sj 10)] [.inl (bs (g4 1 2 3 4 [.inl (.sl 1),.inr (.t (.ak 5))])),.inr 1,.inr 4,.inr 1,.inr 2,.inr 3] p)) (lp E F 60 1 [] 0 ⟨[xi p 0,(wr ((xi p 1:Int)+1))],[.box (kh p 0 (h4 1 2 3 4 [.sl 1 (ve p 0 10),(t 5)])),a1 (ae p 1),a4 (ae p 2),a1 (ae p 3),a2 (ae p 4),a3 (ae p 5)]⟩) none) none) (some (.exit 0,⟨[],[.box (bd d e f g h i (h4 1 2 3 4 [.sl 1 j,(t 5)])),a1 k,a4 l,a1 m,a2 o,a3 q]⟩))):=lu (by kernel_rfl)
theorem abG (F h i j m o q s u w)(a b d e f g k l:Int):Eq (lp E F 60 1 [] 2 ⟨[a,b,d,e,f],[.box (bd g h i j k l (h4 1 2 3 4 [.sl 1 m,(t 5)])),a1 o,a4 q,a1 s,a2 u,a3 w]⟩) (ctl (aT f e) (aj (F 65 [G g h i j k l,f] []) λr=>ctl (ki r) (aG h (ri r 0) λc=>ctl (c3 c) (aj (ctl ((ci c 1:Int)==a) (aj (F 64 [G g h i j k l,W o q s u,f] []) λr=>ctl (cC [.one .bool] r.fst&&okB [] r.snd&&(bM r.fst&&cr r.snd)) (some (rb r 0:Bool)) none) (some false)) λv=>ctl v (aj (F 24 [G g h i j k l,W o q s u,a] []) λaV=>ctl (k0 [.one .bool] aV) (ctl (!(rb aV 0)) (ctl (iW ((w.length+1)*24) 140737488355328) (ctl (bJ 0 (ri r 0)&&aT (ri r 0) (↑o.length:Int)) (lp E F 60 1 [] 2 ⟨[a,b,d,e,(wr (f+1))],[.box (bd g h i j k l (h4 1 2 3 4 [.sl 1 m,(t 5)])),a1 (bg o (ri r 0:Int).toNat 0 [.bool true]),a4 q,a1 s,a2 u,a3 (w++([[n 1,ri r 0,n 0]]:LE))]⟩) none) none) (lp E F 60 1 [] 2 ⟨[a,b,d,e,(wr (f+1))],[.box (bd g h i j k l (h4 1 2 3 4 [.sl 1 m,(t 5)])),a1 o,a4 q,a1 s,a2 u,a3 w]⟩)) none) (lp E F 60 1 [] 2 ⟨[a,b,d,e,(wr (f+1))],[.box (bd g h i j k l (h4 1 2 3 4 [.sl 1 m,(t 5)])),a1 o,a4 q,a1 s,a2 u,a3 w]⟩)) none) none) (some (.exit 2,⟨[b,d],[.box (bd g h i j k l (h4 1 2 3 4 [.sl 1 m,(t 5)])),a1 o,a4 q,a1 s,a2 u,a3 w]⟩))):=lu (by kernel_rfl)
theorem r60 (F b d e h i j k l m)(a f g:Int):Eq (aI E F 60 [.t (.ptr 0 0)] [.box (bd a b d e f g (h4 1 2 3 4 [.sl 1 h,(t 5)])),a1 i,a4 j,a1 k,a2 l,a3 m]) (aj (lp E F 60 1 [] 0 ⟨[a,n 0],[.box (bd a b d e f g (h4 1 2 3 4 [.sl 1 h,(t 5)])),a1 i,a4 j,a1 k,a2 l,a3 m]⟩) λp=>ctl (x 0 p) (ctl ((po [] [.inl (bs (g4 1 2 3 4 [.inl (.sl 1),.inr (.t (.ak 5))])),.inr 1,.inr 4,.inr 1,.inr 2,.inr 3] p)) (some ([],[.box (kh p 0 (h4 1 2 3 4 [.sl 1 (ve p 0 10),(t 5)])),a1 (ae p 1),a4 (ae p 2),a1 (ae p 3),a2 (ae p 4),a3 (ae p 5)])) none) none):=by kernel_rfl
theorem abF (F a f g h k l m o q s)(b d e i j:Int):Eq (lp E F 61 1 [] 0 ⟨[.sl 3 a,b,d],[.box (bd e f g h i j (h4 1 2 3 4 [.sl 1 k,(t 5)])),a1 l,a4 m,a1 o,a2 q,a3 s]⟩) (ctl (aT d b) (aG a d λc=>ctl (c3 c) (ctl ((ci c 0:Int)==1) (ctl (bJ 0 d&&aT d (↑l.length:Int)) (ctl (bL [.bool] (List.take 1 (List.drop 0 (nth [] l d.toNat)))) (ctl (!(nth .aM (nth [] l d.toNat) 0).toBool) (aj (F 66 [G e f g h i j,W l m o q,d] []) λr=>ctl (cC [.one .bool] r.fst&&okB [] r.snd&&(bM r.fst&&cr r.snd)) (ctl (rb r 0) (aG k (ci c 1) λdP=>ctl (c0 dP) (ctl (cb dP 0) (aj (F 24 [G e f g h i j,W l m o q,ci c 1] []) λr=>ctl (kb r) (aj (F 24 [G e f g h i j,W l m o q,ci c 2] []) λaV=>ctl (k0 [.one .bool] aV) (ctl (!(rb r 0:Bool)==(rb aV 0:Bool)) (some (.ret,⟨[d,.bool true],[.box (bd e f g h i j (h4 1 2 3 4 [.sl 1 k,(t 5)])),a1 l,a4 m,a1 o,a2 q,a3 s]⟩)) (lp E F 61 1 [] 0 ⟨[.sl 3 a,b,(wr (d+1))],[.box (bd e f g h i j (h4 1 2 3 4 [.sl 1 k,(t 5)])),a1 l,a4 m,a1 o,a2 q,a3 s]⟩)) none) none) (lp E F 61 1 [] 0 ⟨[.sl 3 a,b,(wr (d+1))],[.box (bd e f g h i j (h4 1 2 3 4 [.sl 1 k,(t 5)])),a1 l,a4 m,a1 o,a2 q,a3 s]⟩)) none) (lp E F 61 1 [] 0 ⟨[.sl 3 a,b,(wr (d+1))],[.box (bd e f g h i j (h4 1 2 3 4 [.sl 1 k,(t 5)])),a1 l,a4 m,a1 o,a2 q,a3 s]⟩)) none) (lp E F 61 1 [] 0 ⟨[.sl 3 a,b,(wr (d+1))],[.box (bd e f g h i j (h4 1 2 3 4 [.sl 1 k,(t 5)])),a1 l,a4 m,a1 o,a2 q,a3 s]⟩)) none) none) (lp E F 61 1 [] 0 ⟨[.sl 3 a,b,(wr (d+1))],[.box (bd e f g h i j (h4 1 2 3 4 [.sl 1 k,(t 5)])),a1 l,a4 m,a1 o,a2 q,a3 s]⟩)) none) (some (.exit 0,⟨[],[.box (bd e f g h i j (h4 1 2 3 4 [.sl 1 k,(t 5)])),a1 l,a4 m,a1 o,a2 q,a3 s]⟩))):=lu (by kernel_rfl)
theorem r61 (F b d e h i j k l m)(a f g:Int):Eq (aI E F 61 [.t (.ptr 0 0)] [.box (bd a b d e f g (h4 1 2 3 4 [.sl 1 h,(t 5)])),a1 i,a4 j,a1 k,a2 l,a3 m]) (aj (lp E F 61 1 [] 0 ⟨[.sl 3 b,(ln b),n 0],[.box (bd a b d e f g (h4 1 2 3 4 [.sl 1 h,(t 5)])),a1 i,a4 j,a1 k,a2 l,a3 m]⟩) λp=>ctl (x 0 p) (ctl ((po [] [.inl (bs (g4 1 2 3 4 [.inl (.sl 1),.inr (.t (.ak 5))])),.inr 1,.inr 4,.inr 1,.inr 2,.inr 3] p)) (some ([.p (n 0),.p (.bool false)],[.box (kh p 0 (h4 1 2 3 4 [.sl 1 (ve p 0 10),(t 5)])),a1 (ae p 1),a4 (ae p 2),a1 (ae p 3),a2 (ae p 4),a3 (ae p 5)])) none) (ctl (p.fst.iI .ret) (ctl ((po [(sj 2),(3,.inl .bool)] [.inl (bs (g4 1 2 3 4 [.inl (.sl 1),.inr (.t (.ak 5))])),.inr 1,.inr 4,.inr 1,.inr 2,.inr 3] p)) (some ([.p (xi p 0),.p (.bool (xb p 1))],[.box (kh p 0 (h4 1 2 3 4 [.sl 1 (ve p 0 10),(t 5)])),a1 (ae p 1),a4 (ae p 2),a1 (ae p 3),a2 (ae p 4),a3 (ae p 5)])) none) none)):=by kernel_rfl
theorem ago (F a e f g j k l m o q)(b d h i:Int):Eq (qp E F 63 1 [] 0 (a,[b]) ⟨[],[.box (bd d e f g h i (h4 2 3 4 5 [.sl 1 j,(t 6)])),.box [.t (.ptr 0 0)],a1 k,a4 l,a1 m,a2 o,a3 q]⟩ some) (aj (F 117 [G d e f g h i,W k l m o,b] []) λr=>ctl (cC [.one (.int .i64),.one .bool] r.fst&&okB [] r.snd&&(bM r.fst&&cr r.snd)) (aj (ctl (!(rb r 1)) (aj (F 86 [W k l m o,n 4,b] []) λr=>ctl (cC [.one .bool] r.fst&&okB [] r.snd&&(bM r.fst&&cr r.snd)) (some (rb r 0:Bool)) none) (some true)) λv=>ctl v (some (Ex.eF,⟨[],[.box (bd d e f g h i (h4 2 3 4 5 [.sl 1 j,(t 6)])),.box [.t (.ptr 0 0)],a1 k,a4 l,a1 m,a2 o,a3 q]⟩)) (aj (lp E F 63 2 [] 2 ⟨[b,.sl 3 e,(ln e),n 0],[.box (bd d e f g h i (h4 2 3 4 5 [.sl 1 j,(t 6)])),.box [.t (.ptr 0 0)],a1 k,a4 l,a1 m,a2 o,a3 q]⟩) λp=>ctl (x 2 p) (ctl ((po [(sp 1 1)] [.inl (bs (g4 2 3 4 5 [.inl (.sl 1),.inr (.t (.ak 6))])),.inl [.inr (.t (.ptr 0 0))],.inr 1,.inr 4,.inr 1,.inr 2,.inr 3] p)) (some (Ex.eF,⟨[],[.box (kh p 0 (h4 2 3 4 5 [.sl 1 (ve p 0 10),(t 6)])),.box [.t (.ptr 0 0)],a1 (ae p 2),a4 (ae p 3),a1 (ae p 4),a2 (ae p 5),a3 (ae p 6)]⟩)) none) none)) none):=by kernel_rfl
theorem abE (F b g h i l m o q s u)(a d e f j k:Int):Eq (lp E F 63 2 [] 2 ⟨[a,.sl 3 b,d,e],[.box (bd f g h i j k (h4 2 3 4 5 [.sl 1 l,(t 6)])),.box [.t (.ptr 0 0)],a1 m,a4 o,a1 q,a2 s,a3 u]⟩) (ctl (aT e d) (aG b e λc=>ctl (c3 c) (aj (ctl (!(ci c 0:Int) !=3) (some ((ci c 2:Int) !=a)) (some true)) λv=>aj (ctl (!v) (aj (F 66 [G f g h i j k,W m o q s,e] []) λr=>ctl (cC [.one .bool] r.fst&&okB [] r.snd&&(bM r.fst&&cr r.snd)) (some !(rb r 0)) none) (some true)) λv=>ctl (!v) (aj (F 24 [G f g h i j k,W m o q s,ci c 1] []) λr=>ctl (kb r) (ctl (!(rb r 0)) (lp E F 63 2 [] 2 ⟨[a,.sl 3 b,d,(wr (e+1))],[.box (bd f g h i j k (h4 2 3 4 5 [.sl 1 l,(t 6)])),.box [.t (.ptr 0 0)],a1 m,a4 o,a1 q,a2 s,a3 u]⟩) (aj (F 40 [G f g h i j k,W m o q s,ci c 1] []) λr=>ctl (cC [.one (.int .i64)] r.fst&&okB [] r.snd&&(bM r.fst&&cr r.snd)) (ctl (bJ 0 a&&aT a (↑q.length:Int)) (ctl (bL [.int .i64] (List.take 1 (List.drop 0 (nth [] q a.toNat)))) (aj (F 41 [G f g h i j k,W m o q s,ci c 1] []) λaV=>ctl (cC [.one (.int .i64)] aV.fst&&okB [] aV.snd&&(bM aV.fst&&cr aV.snd)) (ctl (bJ (IntKind.i64.wrap ((ri r 0:Int)+(nth .aM (nth [] q a.toNat) 0).toInt)) (ri aV 0:Int)) (ctl (iW ((u.length+1)*24) 140737488355328) (ctl (bJ 0 e&&aT e (↑m.length:Int)) (some (.exit 2,⟨[],[.box (bd f g h i j k (h4 2 3 4 5 [.sl 1 l,(t 6)])),.box [.t (.ptr 0 0)],a1 (bg m e.toNat 0 [.bool true]),a4 o,a1 q,a2 s,a3 (u++([[n 1,e,n 0]]:LE))]⟩)) none) none) (some (.exit 2,⟨[],[.box (bd f g h i j k (h4 2 3 4 5 [.sl 1 l,(t 6)])),.box [.t (.ptr 0 0)],a1 m,a4 o,a1 q,a2 s,a3 u]⟩))) none) none) none) none)) none) (lp E F 63 2 [] 2 ⟨[a,.sl 3 b,d,(wr (e+1))],[.box (bd f g h i j k (h4 2 3 4 5 [.sl 1 l,(t 6)])),.box [.t (.ptr 0 0)],a1 m,a4 o,a1 q,a2 s,a3 u]⟩)) none) (some (.exit 2,⟨[],[.box (bd f g h i j k (h4 2 3 4 5 [.sl 1 l,(t 6)])),.box [.t (.ptr 0 0)],a1 m,a4 o,a1 q,a2 s,a3 u]⟩))):=lu (by kernel_rfl)
theorem r63 (F b d e h i j k l m)(a f g:Int):Eq (aI E F 63 [.t (.ptr 0 0)] [.box (bd a b d e f g (h4 1 2 3 4 [.sl 1 h,(t 5)])),a1 i,a4 j,a1 k,a2 l,a3 m]) (aj (F 100 [G a b d e f g] []) λr=>ctl (k0 [.one (.sl 1)] r) (ctl (iW (re r 0:LE).length 140737488351232&&Ju (re r 0:LE)) (aj (rg E F 63 1 [] 0 (nV 0 (re r 0:LE)).reverse ⟨[],[.box (bd a b d e f g (h4 2 3 4 5 [.sl 1 h,(t 6)])),.box [.t (.ptr 0 0)],a1 i,a4 j,a1 k,a2 l,a3 m]⟩) λp=>ctl (p.fst.iI Ex.eF) (ctl ((po [(sp 1 1)] [.inl (bs (g4 2 3 4 5 [.inl (.sl 1),.inr (.t (.ak 6))])),.inl [.inr (.t (.ptr 0 0))],.inr 1,.inr 4,.inr 1,.inr 2,.inr 3] p)) (some ([],[.box (kh p 0 (h4 1 2 3 4 [.sl 1 (ve p 0 10),(t 5)])),a1 (ae p 2),a4 (ae p 3),a1 (ae p 4),a2 (ae p 5),a3 (ae p 6)])) none) none) none) none):=by kernel_rfl
theorem abL (F a f g h k l m o)(b d e i j:Int):Eq (lp E F 55 0 [] 0 ⟨[.sl 3 a,b,d],[.box (bd e f g h i j []),.box (pw k l m o [])]⟩) (ctl (aT d b) (aG a d λc=>ctl (c3 c) (aj (ctl ((ci c 0:Int)==1) (aG k d λc=>ctl (c0 c) (some (cb c 0:Bool)) none) (some false)) λv=>aj (ctl v (aj (F 86 [W k l m o,n 2,d] []) λr=>ctl (kb r) (some (rb r 0:Bool)) none) (some false)) λv=>aj (ctl v (aj (F 24 [G e f g h i j,W k l m o,ci c 1] []) λr=>ctl (kb r) (some !(rb r 0)) none) (some false)) λv=>ctl v (some (.ret,⟨[.bool true],[]⟩)) (lp E F 55 0 [] 0 ⟨[.sl 3 a,b,(wr (d+1))],[.box (bd e f g h i j []),.box (pw k l m o [])]⟩)) none) (some (.exit 0,⟨[],[]⟩))):=lu (by kernel_rfl)
theorem r55 (F b d e h i j k)(a f g:Int):Eq (aI E F 55 [G a b d e f g,W h i j k] []) (aj (lp E F 55 0 [] 0 ⟨[.sl 3 b,(ln b),n 0],[.box (bd a b d e f g []),.box (pw h i j k [])]⟩) λp=>ctl (x 0 p) (some ([.p (.bool false)],[])) (e2 4 p)):=by kernel_rfl
theorem r56 (F a b):Eq (aI E F 56 [.sl 1 a,.bool b] []) (aj (F 110 [.sl 1 a,.bool b] []) λr=>ctl (ki r) (some ([.p (.bool (bJ 0 (ri r 0)))],[])) none):=by kernel_rfl
theorem L0 (F a b)(d e:Int):Eq (lp E F 110 0 [] 0 ⟨[.sl 1 a,.bool b,d,e],[]⟩) (ctl (aT e d) (aG a e λc=>ctl (c0 c) (ctl (b==(cb c 0:Bool)) (some (.ret,⟨[e],[]⟩)) (lp E F 110 0 [] 0 ⟨[.sl 1 a,.bool b,d,(wr (e+1))],[]⟩)) none) (some (.exit 0,⟨[],[]⟩))):=lu (by kernel_rfl)
theorem akr (F a b):Eq (aI E F 110 [.sl 1 a,.bool b] []) (aj (lp E F 110 0 [] 0 ⟨[.sl 1 a,.bool b,(ln a),n 0],[]⟩) λp=>ctl (x 0 p) (some ([.p (n (-1))],[])) (e1 4 p)):=by kernel_rfl
theorem SM (F b d e h i j k l m)(a f g:Int):Eq (lp E F 20 0 [] 1 ⟨[],[.box (bd a b d e f g (h4 1 2 3 4 [.sl 1 h,(t 5)])),a1 i,a4 j,a1 k,a2 l,a3 m]⟩) (aj (F 61 [.t (.ptr 0 0)] [.box (bd a b d e f g (h4 1 2 3 4 [.sl 1 h,(t 5)])),a1 i,a4 j,a1 k,a2 l,a3 m]) λr=>ctl (cC [.one (.int .i64),.one .bool] r.fst&&okB [.inl (bs (g4 1 2 3 4 [.inl (.sl 1),.inr (.t (.ak 5))])),.inr 1,.inr 4,.inr 1,.inr 2,.inr 3] r.snd) (ctl (!(rb r 1)) (some (.exit 1,⟨[],[.box (rM r 0 (h4 1 2 3 4 [.sl 1 (we r 0 10),(t 5)])),a1 (he r 1),a4 (he r 2),a1 (he r 3),a2 (he r 4),a3 (he r 5)]⟩)) (ctl (iW (((he r 5:LE).length+1)*24) 140737488355328) (ctl (bJ 0 (ri r 0)&&aT (ri r 0) (↑(he r 1:LE).length:Int)) (lp E F 20 0 [] 1 ⟨[],[.box (rM r 0 (h4 1 2 3 4 [.sl 1 (we r 0 10),(t 5)])),a1 (bg (he r 1) (ri r 0:Int).toNat 0 [.bool true]),a4 (he r 2),a1 (he r 3),a2 (he r 4),a3 ((he r 5:LE)++([[n 1,ri r 0,n 0]]:LE))]⟩) none) none)) none):=lu (by kernel_rfl)
theorem r20 (F b d e h i j k)(a f g:Int):Eq (aI E F 20 [G a b d e f g,W h i j k] []) (aj (F 19 [G a b d e f g,W h i j k] []) λr=>ctl (k0 [.bm [.ow 1,.ow 4,.ow 1,.ow 2],.own 3,.one (.int .i64)] r) (ctl ((ri r 2:Int) !=0) (some ([.p (.sl 3 []),.p (ri r 2)],[])) (aj (F 54 [W h i j k,.agg (rC (oe r 0 0) (oe r 0 1) (oe r 0 2) (oe r 0 3))] []) λr=>ctl (cC [.one .bool] r.fst&&okB [] r.snd&&(bM r.fst&&cr r.snd)) (aj (ctl (!!(rb r 0)) (aj (F 55 [G a b d e f g,W h i j k] []) λr=>ctl (kb r) (some (rb r 0:Bool)) none) (some true)) λv=>ctl v (some ([.p (.sl 3 []),.p (n 11)],[])) (aj (F 21 [G a b d e f g,W h i j k] []) λr=>ctl (k0 [.one (.sl 1)] r) (aj (F 56 [.sl 1 (re r 0),.bool true] []) λr=>ctl (kb r) (aj (ctl (!!(rb r 0)) (aj (F 25 [G a b d e f g,W h i j k] []) λr=>ctl (kb r) (some (rb r 0:Bool)) none) (some true)) λv=>ctl v (some ([.p (.sl 3 []),.p (n 9)],[])) (aj (F 57 [W h i j k] []) λr=>ctl (k0 [.bm [.ow 1,.ow 4,.ow 1,.ow 2]] r) (aj (F 21 [G a b d e f g,W h i j k] []) λaV=>ctl (k0 [.one (.sl 1)] aV) (aj (F 58 [.t (.ptr 0 0)] [.box (bd a b d e f g (h4 1 2 3 4 [.sl 1 (re aV 0),(t 5)])),a1 (oe r 0 0),a4 (oe r 0 1),a1 (oe r 0 2),a2 (oe r 0 3),a3 []]) λr=>ctl (cC [] r.fst&&okB [.inl (bs (g4 1 2 3 4 [.inl (.sl 1),.inr (.t (.ak 5))])),.inr 1,.inr 4,.inr 1,.inr 2,.inr 3] r.snd) (aj (F 59 [.t (.ptr 0 0)] [.box (rM r 0 (h4 1 2 3 4 [.sl 1 (we r 0 10),(t 5)])),a1 (he r 1),a4 (he r 2),a1 (he r 3),a2 (he r 4),a3 (he r 5)]) λr=>ctl (cC [] r.fst&&okB [.inl (bs (g4 1 2 3 4 [.inl (.sl 1),.inr (.t (.ak 5))])),.inr 1,.inr 4,.inr 1,.inr 2,.inr 3] r.snd) (aj (F 60 [.t (.ptr 0 0)] [.box (rM r 0 (h4 1 2 3 4 [.sl 1 (we r 0 10),(t 5)])),a1 (he r 1),a4 (he r 2),a1 (he r 3),a2 (he r 4),a3 (he r 5)]) λr=>ctl (cC [] r.fst&&okB [.inl (bs (g4 1 2 3 4 [.inl (.sl 1),.inr (.t (.ak 5))])),.inr 1,.inr 4,.inr 1,.inr 2,.inr 3] r.snd) (aj (lp E F 20 0 [] 1 ⟨[],[.box (rM r 0 (h4 1 2 3 4 [.sl 1 (we r 0 10),(t 5)])),a1 (he r 1),a4 (he r 2),a1 (he r 3),a2 (he r 4),a3 (he r 5)]⟩) λp=>ctl (x 1 p) (ctl ((po [(sp 9 0)] [.inl (bs (g4 1 2 3 4 [.inl (.sl 1),.inr (.t (.ak 5))])),.inr 1,.inr 4,.inr 1,.inr 2,.inr 3] p)) (aj (F 63 [.t (.ptr 0 0)] [.box (kh p 0 (h4 1 2 3 4 [.sl 1 (ve p 0 10),(t 5)])),a1 (ae p 1),a4 (ae p 2),a1 (ae p 3),a2 (ae p 4),a3 (ae p 5)]) λr=>ctl (cC [] r.fst&&okB [.inl (bs (g4 1 2 3 4 [.inl (.sl 1),.inr (.t (.ak 5))])),.inr 1,.inr 4,.inr 1,.inr 2,.inr 3] r.snd) (some ([.p (.sl 3 (he r 5)),.p (n 0)],[])) none) none) none) none) none) none) none) none)) none) none)) none)) none):=by kernel_rfl
theorem afG (F b g h i)(a d e f j k:Int):Eq (lp E F 23 0 [] 0 ⟨[a,.sl 3 b,d,e],[.box (bd f g h i j k [])]⟩) (ctl (aT e d) (aG b e λc=>ctl (c3 c) (lp E F 23 0 [] 0 ⟨[n (gu (ci c 2) a),.sl 3 b,d,(wr (e+1))],[.box (bd f g h i j k [])]⟩) none) (some (.exit 0,⟨[a],[.box (bd f g h i j k [])]⟩))):=lu (by kernel_rfl)
theorem r23 (F b d e)(a f g:Int):Eq (aI E F 23 [G a b d e f g] []) (aj (F 47 [G a b d e f g] []) λr=>ctl (ki r) (ctl ((ri r 0:Int) !=0) (some ([.p (n 0)],[])) (aj (lp E F 23 0 [] 0 ⟨[n 0,.sl 3 d,(ln d),n 0],[.box (bd a b d e f g [])]⟩) λp=>ctl (x 0 p) (ctl ((po [(sp 1 0),(sj 3)] [.inl (bs [])] p)) (some ([.p (.int .i64 (IntKind.i64.wrap (IntKind.i64.wrap (IntKind.i64.wrap (IntKind.i64.wrap (2*(↑(ve p 0 1:LE).length:Int))+(↑(ve p 0 2:LE).length:Int))+(xi p 0:Int))+1)))],[])) none) none)) none):=by kernel_rfl
theorem r95 (F h i j m o q s u w y z)(a b d e f g k l:Int):Eq (aI E F 95 [.t (.ptr 0 0),.agg [a,b,d],e] [.box (.int .i64 f::.t (.ak 1)::.t (.ak 2)::.t (.ak 3)::.t (.ak 4)::.t (.ak 5)::.t (.ak 6)::bd g h i j k l [(t 7),(t 8)]),a1 m,a4 o,a1 q,a2 s,a2 u,a5 w,a5 y,a4 z]) (ctl (iW ((y.length+1)*40) 140737488355328) (some ([],[.box (.int .i64 f::.t (.ak 1)::.t (.ak 2)::.t (.ak 3)::.t (.ak 4)::.t (.ak 5)::.t (.ak 6)::bd g h i j k l [(t 7),(t 8)]),a1 m,a4 o,a1 q,a2 s,a2 u,a5 w,a5 (y++([[f,a,b,d,e]]:LE)),a4 z])) none):=by kernel_rfl
theorem abN (F a g h i l m o q s u w y z A B C D H J K)(b d e f j k:Int):Eq (lp E F 49 1 [] 0 ⟨[.sl 3 a,b,d],[.box (.int .i64 e::.t (.ak 1)::.t (.ak 2)::.t (.ak 3)::.t (.ak 4)::.t (.ak 5)::.t (.ak 6)::bd f g h i j k [(t 7),(t 8)]),a1 l,a4 m,a1 o,a2 q,a2 s,a5 u,a5 w,a4 y,.box (h4 10 11 12 13 []),a1 z,a4 A,a1 B,a2 C,.box (h4 15 16 17 18 []),a1 D,a4 H,a1 J,a2 K]⟩) (ctl (aT d b) (aG a d λc=>ctl (c3 c) (aj (F 95 [.t (.ptr 0 0),.agg [ci c 0,ci c 1,ci c 2],n 0] [.box (.int .i64 e::.t (.ak 1)::.t (.ak 2)::.t (.ak 3)::.t (.ak 4)::.t (.ak 5)::.t (.ak 6)::bd f g h i j k [(t 7),(t 8)]),a1 l,a4 m,a1 o,a2 q,a2 s,a5 u,a5 w,a4 y]) λr=>ctl (cC [] r.fst&&okB [.inl (.inl (.int .i64)::.inr (.t (.ak 1))::.inr (.t (.ak 2))::.inr (.t (.ak 3))::.inr (.t (.ak 4))::.inr (.t (.ak 5))::.inr (.t (.ak 6))::bs [.inr (.t (.ak 7)),.inr (.t (.ak 8))]),.inr 1,.inr 4,.inr 1,.inr 2,.inr 2,.inr 5,.inr 5,.inr 4] r.snd) (ctl ((ci c 0:Int)==2) (ctl (bJ 0 (ci c 1)&&aT (ci c 1) (↑z.length:Int)) (aj (F 57 [.agg (rC (bg z (ci c 1:Int).toNat 0 [.bool false]) A B C)] []) λaV=>ctl (cC [.bm [.ow 1,.ow 4,.ow 1,.ow 2]] aV.fst&&okB [] aV.snd&&(bM aV.fst&&cr aV.snd)) (ctl (iW (((he r 8:LE).length+1)*96) 140737488355328) (lp E F 49 1 [] 0 ⟨[.sl 3 a,b,(wr (d+1))],[.box (wi r 0 0::.t (.ak 1)::.t (.ak 2)::.t (.ak 3)::.t (.ak 4)::.t (.ak 5)::.t (.ak 6)::bd (wi r 0 7) (we r 0 8) (we r 0 9) (we r 0 10) (wi r 0 11) (wi r 0 12) [(t 7),(t 8)]),a1 (he r 1),a4 (he r 2),a1 (he r 3),a2 (he r 4),a2 (he r 5),a5 (he r 6),a5 (he r 7),a4 ((he r 8:LE)++([(rC (oe aV 0 0) (oe aV 0 1) (oe aV 0 2) (oe aV 0 3))]:LE)),.box (h4 10 11 12 13 []),a1 (bg z (ci c 1:Int).toNat 0 [.bool false]),a4 A,a1 B,a2 C,.box (h4 15 16 17 18 []),a1 D,a4 H,a1 J,a2 K]⟩) none) none) none) (ctl (bJ 0 (ci c 1)&&aT (ci c 1) (↑B.length:Int)) (aj (F 57 [.agg (rC z A (bg B (ci c 1:Int).toNat 0 [ci c 2]) C)] []) λaV=>ctl (cC [.bm [.ow 1,.ow 4,.ow 1,.ow 2]] aV.fst&&okB [] aV.snd&&(bM aV.fst&&cr aV.snd)) (ctl (iW (((he r 8:LE).length+1)*96) 140737488355328) (lp E F 49 1 [] 0 ⟨[.sl 3 a,b,(wr (d+1))],[.box (wi r 0 0::.t (.ak 1)::.t (.ak 2)::.t (.ak 3)::.t (.ak 4)::.t (.ak 5)::.t (.ak 6)::bd (wi r 0 7) (we r 0 8) (we r 0 9) (we r 0 10) (wi r 0 11) (wi r 0 12) [(t 7),(t 8)]),a1 (he r 1),a4 (he r 2),a1 (he r 3),a2 (he r 4),a2 (he r 5),a5 (he r 6),a5 (he r 7),a4 ((he r 8:LE)++([(rC (oe aV 0 0) (oe aV 0 1) (oe aV 0 2) (oe aV 0 3))]:LE)),.box (h4 10 11 12 13 []),a1 z,a4 A,a1 (bg B (ci c 1:Int).toNat 0 [ci c 2]),a2 C,.box (h4 15 16 17 18 []),a1 D,a4 H,a1 J,a2 K]⟩) none) none) none)) none) none) (some (.exit 0,⟨[],[.box (.int .i64 e::.t (.ak 1)::.t (.ak 2)::.t (.ak 3)::.t (.ak 4)::.t (.ak 5)::.t (.ak 6)::bd f g h i j k [(t 7),(t 8)]),a1 l,a4 m,a1 o,a2 q,a2 s,a5 u,a5 w,a4 y,.box (h4 10 11 12 13 []),a1 z,a4 A,a1 B,a2 C,.box (h4 15 16 17 18 []),a1 D,a4 H,a1 J,a2 K]⟩))):=lu (by kernel_rfl)
theorem r49 (F g h i l m o q s u w y)(a b d e f j k:Int):Eq (aI E F 49 [.t (.ptr 0 0),.agg [a,b,d]] [.box (.int .i64 e::.t (.ak 1)::.t (.ak 2)::.t (.ak 3)::.t (.ak 4)::.t (.ak 5)::.t (.ak 6)::bd f g h i j k [(t 7),(t 8)]),a1 l,a4 m,a1 o,a2 q,a2 s,a5 u,a5 w,a4 y]) (aj (F 72 [G f g h i j k,W l m o q,e,.agg [a,b,d]] []) λr=>ctl (cC [.bm [.ow 1,.ow 4,.ow 1,.ow 2],.one (.int .i64)] r.fst&&okB [] r.snd&&(bM r.fst&&cr r.snd)) (ctl (a==7) (aj (F 95 [.t (.ptr 0 0),.agg [a,b,d],n 1] [.box (.int .i64 e::.t (.ak 1)::.t (.ak 2)::.t (.ak 3)::.t (.ak 4)::.t (.ak 5)::.t (.ak 6)::bd f g h i j k [(t 7),(t 8)]),a1 l,a4 m,a1 o,a2 q,a2 s,a5 u,a5 w,a4 y]) λr=>ctl (cC [] r.fst&&okB [.inl (.inl (.int .i64)::.inr (.t (.ak 1))::.inr (.t (.ak 2))::.inr (.t (.ak 3))::.inr (.t (.ak 4))::.inr (.t (.ak 5))::.inr (.t (.ak 6))::bs [.inr (.t (.ak 7)),.inr (.t (.ak 8))]),.inr 1,.inr 4,.inr 1,.inr 2,.inr 2,.inr 5,.inr 5,.inr 4] r.snd) (some ([],[.box (wi r 0 0::.t (.ak 1)::.t (.ak 2)::.t (.ak 3)::.t (.ak 4)::.t (.ak 5)::.t (.ak 6)::bd (wi r 0 7) (we r 0 8) (we r 0 9) (we r 0 10) (wi r 0 11) (wi r 0 12) [(t 7),(t 8)]),a1 (he r 1),a4 (he r 2),a1 (he r 3),a2 (he r 4),a2 (he r 5),a5 (he r 6),a5 (he r 7),a4 (he r 8)])) none) (aj (F 95 [.t (.ptr 0 0),.agg [a,b,d],ri r 1] [.box (.int .i64 e::.t (.ak 1)::.t (.ak 2)::.t (.ak 3)::.t (.ak 4)::.t (.ak 5)::.t (.ak 6)::bd f g h i j k [(t 7),(t 8)]),a1 l,a4 m,a1 o,a2 q,a2 s,a5 u,a5 w,a4 y]) λaV=>ctl (cC [] aV.fst&&okB [.inl (.inl (.int .i64)::.inr (.t (.ak 1))::.inr (.t (.ak 2))::.inr (.t (.ak 3))::.inr (.t (.ak 4))::.inr (.t (.ak 5))::.inr (.t (.ak 6))::bs [.inr (.t (.ak 7)),.inr (.t (.ak 8))]),.inr 1,.inr 4,.inr 1,.inr 2,.inr 2,.inr 5,.inr 5,.inr 4] aV.snd) (ctl ((ri r 1:Int) !=0) (some ([],[.box (wi aV 0 0::.t (.ak 1)::.t (.ak 2)::.t (.ak 3)::.t (.ak 4)::.t (.ak 5)::.t (.ak 6)::bd (wi aV 0 7) (we aV 0 8) (we aV 0 9) (we aV 0 10) (wi aV 0 11) (wi aV 0 12) [(t 7),(t 8)]),a1 (he aV 1),a4 (he aV 2),a1 (he aV 3),a2 (he aV 4),a2 (he aV 5),a5 (he aV 6),a5 (he aV 7),a4 (he aV 8)])) (aj (F 57 [.agg (rC (oe r 0 0) (oe r 0 1) (oe r 0 2) (oe r 0 3))] []) λej=>ctl (cC [.bm [.ow 1,.ow 4,.ow 1,.ow 2]] ej.fst&&okB [] ej.snd&&(bM ej.fst&&cr ej.snd)) (ctl (iW (((he aV 8:LE).length+1)*96) 140737488355328) (aj (F 19 [.agg (Oe (wi aV 0 7) (we aV 0 8) (we aV 0 9) (we aV 0 10) (wi aV 0 11) (wi aV 0 12)),.agg (rC (oe r 0 0) (oe r 0 1) (oe r 0 2) (oe r 0 3))] []) λia=>ctl (cC [.bm [.ow 1,.ow 4,.ow 1,.ow 2],.own 3,.one (.int .i64)] ia.fst&&okB [] ia.snd&&(bM ia.fst&&cr ia.snd)) (aj (lp E F 49 1 [] 0 ⟨[.sl 3 (nth (.p .aM) ia.fst 1).di,.int .i64 (↑(nth (.p .aM) ia.fst 1).di.length:Int),n 0],[.box (wi aV 0 0::.t (.ak 1)::.t (.ak 2)::.t (.ak 3)::.t (.ak 4)::.t (.ak 5)::.t (.ak 6)::bd (wi aV 0 7) (we aV 0 8) (we aV 0 9) (we aV 0 10) (wi aV 0 11) (wi aV 0 12) [(t 7),(t 8)]),a1 (he aV 1),a4 (he aV 2),a1 (he aV 3),a2 (he aV 4),a2 (he aV 5),a5 (he aV 6),a5 (he aV 7),a4 ((he aV 8:LE)++([(rC (oe ej 0 0) (oe ej 0 1) (oe ej 0 2) (oe ej 0 3))]:LE)),.box (h4 10 11 12 13 []),a1 (oe r 0 0),a4 (oe r 0 1),a1 (oe r 0 2),a2 (oe r 0 3),.box (h4 15 16 17 18 []),a1 (oe ia 0 0),a4 (oe ia 0 1),a1 (oe ia 0 2),a2 (oe ia 0 3)]⟩) λp=>ctl (x 0 p) (ctl ((po [(sp 0 0),(sp 4 9),(sp 6 14)] [.inl (.inl (.int .i64)::.inr (.t (.ak 1))::.inr (.t (.ak 2))::.inr (.t (.ak 3))::.inr (.t (.ak 4))::.inr (.t (.ak 5))::.inr (.t (.ak 6))::bs [.inr (.t (.ak 7)),.inr (.t (.ak 8))]),.inr 1,.inr 4,.inr 1,.inr 2,.inr 2,.inr 5,.inr 5,.inr 4,.inl (g4 10 11 12 13 []),.inr 1,.inr 4,.inr 1,.inr 2,.inl (g4 15 16 17 18 []),.inr 1,.inr 4,.inr 1,.inr 2] p)) (aj (F 54 [.agg (rC (ae p 10) (ae p 11) (ae p 12) (ae p 13)),.agg (rC (ae p 15) (ae p 16) (ae p 17) (ae p 18))] []) λr=>ctl (cC [.one .bool] r.fst&&okB [] r.snd&&(bM r.fst&&cr r.snd)) (ctl (!(rb r 0)) (aj (F 57 [.agg (rC (ae p 15) (ae p 16) (ae p 17) (ae p 18))] []) λr=>ctl (cC [.bm [.ow 1,.ow 4,.ow 1,.ow 2]] r.fst&&okB [] r.snd&&(bM r.fst&&cr r.snd)) (ctl (iW (((ae p 8:LE).length+1)*96) 140737488355328) (some ([],[.box (vi p 0 0::.t (.ak 1)::.t (.ak 2)::.t (.ak 3)::.t (.ak 4)::.t (.ak 5)::.t (.ak 6)::bd (vi p 0 7) (ve p 0 8) (ve p 0 9) (ve p 0 10) (vi p 0 11) (vi p 0 12) [(t 7),(t 8)]),a1 (ae p 15),a4 (ae p 16),a1 (ae p 17),a2 (ae p 18),a2 (ae p 5),a5 (ae p 6),a5 (ae p 7),a4 ((ae p 8:LE)++([(rC (oe r 0 0) (oe r 0 1) (oe r 0 2) (oe r 0 3))]:LE))])) none) none) (some ([],[.box (vi p 0 0::.t (.ak 1)::.t (.ak 2)::.t (.ak 3)::.t (.ak 4)::.t (.ak 5)::.t (.ak 6)::bd (vi p 0 7) (ve p 0 8) (ve p 0 9) (ve p 0 10) (vi p 0 11) (vi p 0 12) [(t 7),(t 8)]),a1 (ae p 15),a4 (ae p 16),a1 (ae p 17),a2 (ae p 18),a2 (ae p 5),a5 (ae p 6),a5 (ae p 7),a4 (ae p 8)]))) none) none) none) none) none) none)) none)) none):=by kernel_rfl
theorem r48 (F b d e i j k l m o)(a f g h:Int):Eq (aI E F 48 [G a b d e f g,.agg [h,.sl 1 i,.sl 4 j,.sl 1 k,.sl 2 l,.sl 2 m,.sl 5 o]] []) (aj (F 57 [W i j k l] []) λr=>ctl (k0 [.bm [.ow 1,.ow 4,.ow 1,.ow 2]] r) (aj (F 94 [.sl 2 m] []) λaV=>ctl (k0 [.own 2] aV) (aj (F 73 [.sl 5 o] []) λej=>ctl (k0 [.own 5] ej) (some ([RV.nU [.p (.int .i64 h),.own 1 (oe r 0 0:LE),.own 4 (oe r 0 1:LE),.own 1 (oe r 0 2:LE),.own 2 (oe r 0 3:LE),.own 2 (nth (.p .aM) aV.fst 0).di,.own 5 (nth (.p .aM) ej.fst 0).di,.p (.int .i64 a),.p (.sl 3 b),.p (.sl 3 d),.p (.sl 5 e),.p (.int .i64 f),.p (.int .i64 g),.own 5 [],.own 4 []]],[])) none) none) none):=by kernel_rfl
theorem r18 (F b d e i j k l m o)(a f g h q s u:Int):Eq (aI E F 18 [G a b d e f g,.agg [h,.sl 1 i,.sl 4 j,.sl 1 k,.sl 2 l,.sl 2 m,.sl 5 o],.agg [q,s,u]] []) (aj (F 31 [G a b d e f g,W i j k l] []) λr=>ctl (ki r) (ctl ((ri r 0:Int) !=0) (some ([.agg [n 0,PV.bN,PV.bN,PV.bN,PV.bN,PV.bN,PV.bN],.p (.sl 4 []),.p (ri r 0)],[])) (aj (F 48 [G a b d e f g,.agg [h,.sl 1 i,.sl 4 j,.sl 1 k,.sl 2 l,.sl 2 m,.sl 5 o]] []) λr=>ctl (k0 [uI.nU [.pl (.int .i64),.ow 1,.ow 4,.ow 1,.ow 2,.ow 2,.ow 5,.pl (.int .i64),.pl (.sl 3),.pl (.sl 3),.pl (.sl 5),.pl (.int .i64),.pl (.int .i64),.ow 5,.ow 4]] r) (aj (F 49 [.t (.ptr 0 0),.agg [q,s,u]] [.box (qi r 0 0::.t (.ak 1)::.t (.ak 2)::.t (.ak 3)::.t (.ak 4)::.t (.ak 5)::.t (.ak 6)::bd (qi r 0 7) (qe r 0 8) (qe r 0 9) (qe r 0 10) (qi r 0 11) (qi r 0 12) [(t 7),(t 8)]),a1 (oe r 0 1),a4 (oe r 0 2),a1 (oe r 0 3),a2 (oe r 0 4),a2 (oe r 0 5),a5 (oe r 0 6),a5 (oe r 0 13),a4 (oe r 0 14)]) λr=>ctl (cC [] r.fst&&okB [.inl (.inl (.int .i64)::.inr (.t (.ak 1))::.inr (.t (.ak 2))::.inr (.t (.ak 3))::.inr (.t (.ak 4))::.inr (.t (.ak 5))::.inr (.t (.ak 6))::bs [.inr (.t (.ak 7)),.inr (.t (.ak 8))]),.inr 1,.inr 4,.inr 1,.inr 2,.inr 2,.inr 5,.inr 5,.inr 4] r.snd) (ctl (iW (((he r 6:LE).length+(he r 7:LE).length)*40) 140737488355328) (some ([.agg [wi r 0 0,.sl 1 (he r 1),.sl 4 (he r 2),.sl 1 (he r 3),.sl 2 (he r 4),.sl 2 (he r 5),.sl 5 ((he r 6:LE)++(he r 7:LE))],.p (.sl 4 (he r 8)),.p (n 0)],[])) none) none) none)) none):=by kernel_rfl
theorem r87 (F)(a:Int):Eq (aI E F 87 [a] []) (aj (F 137 [.sl 2 [[n (-1),n (-1)]],a] []) λr=>ctl (cC [.own 2] r.fst&&okB [] r.snd&&(bM r.fst&&cr r.snd)) (some ([.own 2 (nth (.p .aM) r.fst 0).di],[])) none):=by kernel_rfl
theorem r69 (F b d e l m o q s u)(a f g h i j k:Int):Eq (aI E F 69 [G a b d e f g,.agg [h,i,j],.agg [k,.sl 1 l,.sl 4 m,.sl 1 o,.sl 2 q,.sl 2 s,.sl 5 u]] []) (aj (F 99 [G a b d e f g,W l m o q] []) λr=>ctl (k0 [.bm [.ow 1,.ow 4,.ow 1,.ow 2],.one (.int .i64)] r) (ctl ((ri r 1:Int) !=0) (some ([.p (ri r 1)],[])) (aj (F 39 [.agg [h,i,j]] []) λaV=>ctl (k0 [.one .bool] aV) (aj (ctl (!!(rb aV 0)) (some (aT k 0)) (some true)) λv=>aj (ctl (!v) (some (aT 2147483648 k)) (some true)) λv=>ctl v (some ([.p (n 1)],[])) (ctl ((↑s.length:Int) !=a) (some ([.p (n 8)],[])) (aj (F 54 [W l m o q,.agg (rC (oe r 0 0) (oe r 0 1) (oe r 0 2) (oe r 0 3))] []) λr=>ctl (cC [.one .bool] r.fst&&okB [] r.snd&&(bM r.fst&&cr r.snd)) (ctl (!!(rb r 0)) (aj (F 124 [.sl 2 s,.fn 125 [.ptr 0 0]] [.box [.fn 123 [.ptr 1 0]],.box (.int .i64 k::pw l m o q [.sl 2 s,.sl 5 u])]) λr=>ctl (cC [.one .bool] r.fst&&okB [.inl [.inr (.fn 123 [.ptr 1 0])],.inl (.inl (.int .i64)::ps [.inl (.sl 2),.inl (.sl 5)])] r.snd) (ctl (rb r 0) (some ([.p (n 11)],[])) (some ([.p (n 0)],[]))) none) (some ([.p (n 11)],[]))) none))) none)) none):=by kernel_rfl
theorem akl (F d e f g h i)(a b:Int):Eq (aI E F 123 [a,.t (.ptr 0 0)] [.box (.int .i64 b::pw d e f g [.sl 2 h,.sl 5 i])]) (aj (ctl (bJ (-1) a) (some (bJ a b)) (some false)) λv=>some ([.p (.bool v)],[.box (.int .i64 b::pw d e f g [.sl 2 h,.sl 5 i])])):=by kernel_rfl
theorem agy (F a d e f g h i)(b:Int):Eq (aI E F 124 [.sl 2 a,.fn 125 [.ptr 0 0]] [.box [.fn 123 [.ptr 1 0]],.box (.int .i64 b::pw d e f g [.sl 2 h,.sl 5 i])]) (aj (F 156 [.sl 2 a,.fn 125 [.ptr 0 0]] [.box [.fn 123 [.ptr 1 0]],.box (.int .i64 b::pw d e f g [.sl 2 h,.sl 5 i])]) λr=>ctl (cC [.one (.int .i64)] r.fst&&okB [.inl [.inr (.fn 123 [.ptr 1 0])],.inl (.inl (.int .i64)::ps [.inl (.sl 2),.inl (.sl 5)])] r.snd) (some ([.p (.bool (bJ 0 (ri r 0)))],[.box [.fn 123 [.ptr 1 0]],.box (wi r 1 0::pw (we r 1 1) (we r 1 2) (we r 1 3) (we r 1 4) [.sl 2 (we r 1 5),.sl 5 (we r 1 6)])])) none):=by kernel_rfl
theorem akk (F e f g h i j)(a b d:Int):Eq (aI E F 125 [.agg [a,b],.t (.ptr 0 0)] [.box [.fn 123 [.ptr 1 0]],.box (.int .i64 d::pw e f g h [.sl 2 i,.sl 5 j])]) (aj (F 123 [a,.t (.ptr 0 0)] [.box (.int .i64 d::pw e f g h [.sl 2 i,.sl 5 j])]) λr=>ctl (cC [.one .bool] r.fst&&okB [.inl (.inl (.int .i64)::ps [.inl (.sl 2),.inl (.sl 5)])] r.snd) (ctl (!!(rb r 0)) (aj (F 123 [b,.t (.ptr 0 0)] [.box (wi r 0 0::pw (we r 0 1) (we r 0 2) (we r 0 3) (we r 0 4) [.sl 2 (we r 0 5),.sl 5 (we r 0 6)])]) λr=>ctl (cC [.one .bool] r.fst&&okB [.inl (.inl (.int .i64)::ps [.inl (.sl 2),.inl (.sl 5)])] r.snd) (some ([.p (.bool !(rb r 0))],[.box [.fn 123 [.ptr 1 0]],.box (wi r 0 0::pw (we r 0 1) (we r 0 2) (we r 0 3) (we r 0 4) [.sl 2 (we r 0 5),.sl 5 (we r 0 6)])])) none) (some ([.p (.bool true)],[.box [.fn 123 [.ptr 1 0]],.box (wi r 0 0::pw (we r 0 1) (we r 0 2) (we r 0 3) (we r 0 4) [.sl 2 (we r 0 5),.sl 5 (we r 0 6)])]))) none):=by kernel_rfl
theorem N2 (F a f g h i j k)(b d e:Int):Eq (lp E F 156 2 [AV.undef,.fn 125 [.ptr 0 0]] 0 ⟨[.sl 2 a,b,d],[.box [.fn 123 [.ptr 1 0]],.box (.int .i64 e::pw f g h i [.sl 2 j,.sl 5 k])]⟩) (ctl (aT d b) (aG a d λc=>ctl (bL [.int .i64,.int .i64] c) (aj (F 125 [.agg [ci c 0,ci c 1],.t (.ptr 0 0)] [.box [.fn 123 [.ptr 1 0]],.box (.int .i64 e::pw f g h i [.sl 2 j,.sl 5 k])]) λr=>ctl (cC [.one .bool] r.fst&&okB [.inl [.inr (.fn 123 [.ptr 1 0])],.inl (.inl (.int .i64)::ps [.inl (.sl 2),.inl (.sl 5)])] r.snd) (ctl (rb r 0) (some (.ret,⟨[d],[.box [.fn 123 [.ptr 1 0]],.box (wi r 1 0::pw (we r 1 1) (we r 1 2) (we r 1 3) (we r 1 4) [.sl 2 (we r 1 5),.sl 5 (we r 1 6)])]⟩)) (lp E F 156 2 [AV.undef,.fn 125 [.ptr 0 0]] 0 ⟨[.sl 2 a,b,(wr (d+1))],[.box [.fn 123 [.ptr 1 0]],.box (wi r 1 0::pw (we r 1 1) (we r 1 2) (we r 1 3) (we r 1 4) [.sl 2 (we r 1 5),.sl 5 (we r 1 6)])]⟩)) none) none) (some (.exit 0,⟨[],[.box [.fn 123 [.ptr 1 0]],.box (.int .i64 e::pw f g h i [.sl 2 j,.sl 5 k])]⟩))):=lu (by kernel_rfl)
theorem agv (F a d e f g h i)(b:Int):Eq (aI E F 156 [.sl 2 a,.fn 125 [.ptr 0 0]] [.box [.fn 123 [.ptr 1 0]],.box (.int .i64 b::pw d e f g [.sl 2 h,.sl 5 i])]) (aj (lp E F 156 2 [AV.undef,.fn 125 [.ptr 0 0]] 0 ⟨[.sl 2 a,(ln a),n 0],[.box [.fn 123 [.ptr 1 0]],.box (.int .i64 b::pw d e f g [.sl 2 h,.sl 5 i])]⟩) λp=>ctl (x 0 p) (ctl ((po [] [.inl [.inr (.fn 123 [.ptr 1 0])],.inl (.inl (.int .i64)::ps [.inl (.sl 2),.inl (.sl 5)])] p)) (some ([.p (n (-1))],[.box [.fn 123 [.ptr 1 0]],.box (vi p 1 0::pw (ve p 1 1) (ve p 1 2) (ve p 1 3) (ve p 1 4) [.sl 2 (ve p 1 5),.sl 5 (ve p 1 6)])])) none) (ctl (p.fst.iI .ret) (ctl ((po [(sj 4)] [.inl [.inr (.fn 123 [.ptr 1 0])],.inl (.inl (.int .i64)::ps [.inl (.sl 2),.inl (.sl 5)])] p)) (some ([.p (xi p 0)],[.box [.fn 123 [.ptr 1 0]],.box (vi p 1 0::pw (ve p 1 1) (ve p 1 2) (ve p 1 3) (ve p 1 4) [.sl 2 (ve p 1 5),.sl 5 (ve p 1 6)])])) none) none)):=by kernel_rfl
theorem aby (F a g h i l m o q s u w y C)(A B b d e f j k z:Int):Eq (lp E F 71 1 [] 0 ⟨[.sl 3 a,b,d],[.box (.int .i64 e::.t (.ak 1)::.t (.ak 2)::.t (.ak 3)::.t (.ak 4)::.t (.ak 5)::.t (.ak 6)::bd f g h i j k [(t 7),(t 8)]),a1 l,a4 m,a1 o,a2 q,a2 s,a5 u,a5 w,a4 y,.box [z,A,B],a2 C]⟩) (ctl (aT d b) (aG a d λc=>ctl (bL [.sl 1,.sl 1,.sl 1] c) (aG (ce c 0) 0 λdP=>ctl (c1 dP) (aj (ctl (!(↑(ce c 1:LE).length:Int)==0) (aj (F 24 [G f g h i j k,W l m o q,ci dP 0] []) λr=>ctl (cC [.one .bool] r.fst&&okB [] r.snd&&(bM r.fst&&cr r.snd)) (some !(rb r 0)) none) (some true)) λv=>ctl v (lp E F 71 1 [] 0 ⟨[.sl 3 a,b,(wr (d+1))],[.box (.int .i64 e::.t (.ak 1)::.t (.ak 2)::.t (.ak 3)::.t (.ak 4)::.t (.ak 5)::.t (.ak 6)::bd f g h i j k [(t 7),(t 8)]),a1 l,a4 m,a1 o,a2 q,a2 s,a5 u,a5 w,a4 y,.box [z,A,B],a2 C]⟩) (ctl (bJ 0 (ci dP 0)&&aT (ci dP 0) (↑s.length:Int)) (ctl (bL [.int .i64,.int .i64] (List.take 2 (List.drop 0 (nth [] s (ci dP 0:Int).toNat)))) (aj (F 126 [G f g h i j k,.agg [z,A,B],W l m o q,ci dP 0,e,.agg [.int .i64 (nth .aM (nth [] s (ci dP 0:Int).toNat) 0).toInt,.int .i64 (nth .aM (nth [] s (ci dP 0:Int).toNat) 1).toInt]] []) λr=>ctl (cC [.agg [.int .i64,.int .i64],.own 3,.one (.int .i64)] r.fst&&okB [] r.snd&&(bM r.fst&&cr r.snd)) (ctl (bJ 0 (ci dP 0)&&aT (ci dP 0) (↑C.length:Int)) (aj (lp E F 71 1 [] 2 ⟨[.sl 3 a,b,d,.sl 3 (nth (.p .aM) r.fst 1).di,.int .i64 (↑(nth (.p .aM) r.fst 1).di.length:Int),n 0],[.box (.int .i64 e::.t (.ak 1)::.t (.ak 2)::.t (.ak 3)::.t (.ak 4)::.t (.ak 5)::.t (.ak 6)::bd f g h i j k [(t 7),(t 8)]),a1 l,a4 m,a1 o,a2 q,a2 s,a5 u,a5 w,a4 y,.box [z,A,B],a2 (bg C (ci dP 0:Int).toNat 0 [si r 0 0,si r 0 1])]⟩) λp=>ctl (x 2 p) (ctl ((po [(sp 0 0),(sp 3 9),(sh 4 10),(sl 28 3),(sj 29),(sj 30)] [.inl (.inl (.int .i64)::.inr (.t (.ak 1))::.inr (.t (.ak 2))::.inr (.t (.ak 3))::.inr (.t (.ak 4))::.inr (.t (.ak 5))::.inr (.t (.ak 6))::bs [.inr (.t (.ak 7)),.inr (.t (.ak 8))]),.inr 1,.inr 4,.inr 1,.inr 2,.inr 2,.inr 5,.inr 5,.inr 4,.inl [.inl (.int .i64),.inl (.int .i64),.inl (.int .i64)],.inr 2] p)) (lp E F 71 1 [] 0 ⟨[.sl 3 (xe p 0),xi p 1,(wr ((xi p 2:Int)+1))],[.box (vi p 0 0::.t (.ak 1)::.t (.ak 2)::.t (.ak 3)::.t (.ak 4)::.t (.ak 5)::.t (.ak 6)::bd (vi p 0 7) (ve p 0 8) (ve p 0 9) (ve p 0 10) (vi p 0 11) (vi p 0 12) [(t 7),(t 8)]),a1 (ae p 1),a4 (ae p 2),a1 (ae p 3),a2 (ae p 4),a2 (ae p 5),a5 (ae p 6),a5 (ae p 7),a4 (ae p 8),.box [vi p 9 0,vi p 9 1,vi p 9 2],a2 (ae p 10)]⟩) none) none) none) none) none) none)) none) none) (some (.exit 0,⟨[],[.box (.int .i64 e::.t (.ak 1)::.t (.ak 2)::.t (.ak 3)::.t (.ak 4)::.t (.ak 5)::.t (.ak 6)::bd f g h i j k [(t 7),(t 8)]),a1 l,a4 m,a1 o,a2 q,a2 s,a5 u,a5 w,a4 y,a2 C]⟩))):=lu (by kernel_rfl)
theorem abx (F a e j k l q s u w y z A B J)(C D H b d f g h i m o:Int):Eq (lp E F 71 1 [] 2 ⟨[.sl 3 a,b,d,.sl 3 e,f,g],[.box (.int .i64 h::.t (.ak 1)::.t (.ak 2)::.t (.ak 3)::.t (.ak 4)::.t (.ak 5)::.t (.ak 6)::bd i j k l m o [(t 7),(t 8)]),a1 q,a4 s,a1 u,a2 w,a2 y,a5 z,a5 A,a4 B,.box [C,D,H],a2 J]⟩) (ctl (aT g f) (aG e g λc=>ctl (c3 c) (aj (F 49 [.t (.ptr 0 0),.agg [ci c 0,ci c 1,ci c 2]] [.box (.int .i64 h::.t (.ak 1)::.t (.ak 2)::.t (.ak 3)::.t (.ak 4)::.t (.ak 5)::.t (.ak 6)::bd i j k l m o [(t 7),(t 8)]),a1 q,a4 s,a1 u,a2 w,a2 y,a5 z,a5 A,a4 B]) λr=>ctl (cC [] r.fst&&okB [.inl (.inl (.int .i64)::.inr (.t (.ak 1))::.inr (.t (.ak 2))::.inr (.t (.ak 3))::.inr (.t (.ak 4))::.inr (.t (.ak 5))::.inr (.t (.ak 6))::bs [.inr (.t (.ak 7)),.inr (.t (.ak 8))]),.inr 1,.inr 4,.inr 1,.inr 2,.inr 2,.inr 5,.inr 5,.inr 4] r.snd) (lp E F 71 1 [] 2 ⟨[.sl 3 a,b,d,.sl 3 e,f,(wr (g+1))],[.box (wi r 0 0::.t (.ak 1)::.t (.ak 2)::.t (.ak 3)::.t (.ak 4)::.t (.ak 5)::.t (.ak 6)::bd (wi r 0 7) (we r 0 8) (we r 0 9) (we r 0 10) (wi r 0 11) (wi r 0 12) [(t 7),(t 8)]),a1 (he r 1),a4 (he r 2),a1 (he r 3),a2 (he r 4),a2 (he r 5),a5 (he r 6),a5 (he r 7),a4 (he r 8),.box [C,D,H],a2 J]⟩) none) none) (some (.exit 2,⟨[.sl 3 a,b,d],[.box (.int .i64 h::.t (.ak 1)::.t (.ak 2)::.t (.ak 3)::.t (.ak 4)::.t (.ak 5)::.t (.ak 6)::bd i j k l m o [(t 7),(t 8)]),a1 q,a4 s,a1 u,a2 w,a2 y,a5 z,a5 A,a4 B,.box [C,D,H],a2 J]⟩))):=lu (by kernel_rfl)
theorem r71 (F g h i l m o q s u w y)(a b d e f j k:Int):Eq (aI E F 71 [.t (.ptr 0 0),.agg [a,b,d]] [.box (.int .i64 e::.t (.ak 1)::.t (.ak 2)::.t (.ak 3)::.t (.ak 4)::.t (.ak 5)::.t (.ak 6)::bd f g h i j k [(t 7),(t 8)]),a1 l,a4 m,a1 o,a2 q,a2 s,a5 u,a5 w,a4 y]) (aj (F 87 [f] []) λr=>ctl (k0 [.own 2] r) (aj (F 12 [G f g h i j k,W l m o q] []) λaV=>ctl (k0 [.one (.sl 3)] aV) (aj (lp E F 71 1 [] 0 ⟨[.sl 3 (re aV 0),n (↑(re aV 0:LE).length:Int),n 0],[.box (.int .i64 e::.t (.ak 1)::.t (.ak 2)::.t (.ak 3)::.t (.ak 4)::.t (.ak 5)::.t (.ak 6)::bd f g h i j k [(t 7),(t 8)]),a1 l,a4 m,a1 o,a2 q,a2 s,a5 u,a5 w,a4 y,.box [a,b,d],a2 (nth (.p .aM) r.fst 0).di]⟩) λp=>ctl (x 0 p) (ctl ((po [(sp 0 0),(sh 4 9)] [.inl (.inl (.int .i64)::.inr (.t (.ak 1))::.inr (.t (.ak 2))::.inr (.t (.ak 3))::.inr (.t (.ak 4))::.inr (.t (.ak 5))::.inr (.t (.ak 6))::bs [.inr (.t (.ak 7)),.inr (.t (.ak 8))]),.inr 1,.inr 4,.inr 1,.inr 2,.inr 2,.inr 5,.inr 5,.inr 4,.inr 2] p)) (some ([],[.box (vi p 0 0::.t (.ak 1)::.t (.ak 2)::.t (.ak 3)::.t (.ak 4)::.t (.ak 5)::.t (.ak 6)::bd (vi p 0 7) (ve p 0 8) (ve p 0 9) (ve p 0 10) (vi p 0 11) (vi p 0 12) [(t 7),(t 8)]),a1 (ae p 1),a4 (ae p 2),a1 (ae p 3),a2 (ae p 4),a2 (ae p 9),a5 (ae p 6),a5 (ae p 7),a4 (ae p 8)])) none) none) none) none):=by kernel_rfl
theorem abV (F a f g h s u w A B C D H J K L)(b d e i j k l m o q y z:Int):Eq (lp E F 30 0 [] 1 ⟨[.sl 3 a,b,d],[.box (bd e f g h i j []),.box [k,l,m],.box (.int .i64 o::.t (.ak 3)::.t (.ak 4)::.t (.ak 5)::.t (.ak 6)::.t (.ak 7)::.t (.ak 8)::bd q s u w y z [(t 9),(t 10)]),a1 A,a4 B,a1 C,a2 D,a2 H,a5 J,a5 K,a4 L]⟩) (ctl (aT d b) (aG a d λc=>ctl (c3 c) (aj (F 49 [.t (.ptr 0 0),.agg [ci c 0,ci c 1,ci c 2]] [.box (.int .i64 o::.t (.ak 1)::.t (.ak 2)::.t (.ak 3)::.t (.ak 4)::.t (.ak 5)::.t (.ak 6)::bd q s u w y z [(t 7),(t 8)]),a1 A,a4 B,a1 C,a2 D,a2 H,a5 J,a5 K,a4 L]) λr=>ctl (cC [] r.fst&&okB [.inl (.inl (.int .i64)::.inr (.t (.ak 1))::.inr (.t (.ak 2))::.inr (.t (.ak 3))::.inr (.t (.ak 4))::.inr (.t (.ak 5))::.inr (.t (.ak 6))::bs [.inr (.t (.ak 7)),.inr (.t (.ak 8))]),.inr 1,.inr 4,.inr 1,.inr 2,.inr 2,.inr 5,.inr 5,.inr 4] r.snd) (lp E F 30 0 [] 1 ⟨[.sl 3 a,b,(wr (d+1))],[.box (bd e f g h i j []),.box [k,l,m],.box (wi r 0 0::.t (.ak 3)::.t (.ak 4)::.t (.ak 5)::.t (.ak 6)::.t (.ak 7)::.t (.ak 8)::bd (wi r 0 7) (we r 0 8) (we r 0 9) (we r 0 10) (wi r 0 11) (wi r 0 12) [(t 9),(t 10)]),a1 (he r 1),a4 (he r 2),a1 (he r 3),a2 (he r 4),a2 (he r 5),a5 (he r 6),a5 (he r 7),a4 (he r 8)]⟩) none) none) (some (.exit 1,⟨[],[.box (bd e f g h i j []),.box [k,l,m],.box (.int .i64 o::.t (.ak 3)::.t (.ak 4)::.t (.ak 5)::.t (.ak 6)::.t (.ak 7)::.t (.ak 8)::bd q s u w y z [(t 9),(t 10)]),a1 A,a4 B,a1 C,a2 D,a2 H,a5 J,a5 K,a4 L]⟩))):=lu (by kernel_rfl)
theorem r30 (F b d e l m o q s u w)(a f g h i j k:Int):Eq (aI E F 30 [G a b d e f g,.agg [h,i,j],.agg [k,.sl 1 l,.sl 4 m,.sl 1 o,.sl 2 q,.sl 2 s,.sl 5 u],.sl 3 w] []) (aj (F 69 [G a b d e f g,.agg [h,i,j],.agg [k,.sl 1 l,.sl 4 m,.sl 1 o,.sl 2 q,.sl 2 s,.sl 5 u]] []) λr=>ctl (ki r) (ctl ((ri r 0:Int) !=0) none (ctl (aT 200 (↑w.length:Int)) none (ctl (k==2147483648) none (aj (F 48 [G a b d e f g,.agg [k,.sl 1 l,.sl 4 m,.sl 1 o,.sl 2 q,.sl 2 s,.sl 5 u]] []) λr=>ctl (k0 [uI.nU [.pl (.int .i64),.ow 1,.ow 4,.ow 1,.ow 2,.ow 2,.ow 5,.pl (.int .i64),.pl (.sl 3),.pl (.sl 3),.pl (.sl 5),.pl (.int .i64),.pl (.int .i64),.ow 5,.ow 4]] r) (aj (F 57 [W l m o q] []) λaV=>ctl (k0 [.bm [.ow 1,.ow 4,.ow 1,.ow 2]] aV) (ctl (iW (((oe r 0 14:LE).length+1)*96) 140737488355328) (aj (lp E F 30 0 [] 1 ⟨[.sl 3 w,(ln w),n 0],[.box (bd a b d e f g []),.box [h,i,j],.box (qi r 0 0::.t (.ak 3)::.t (.ak 4)::.t (.ak 5)::.t (.ak 6)::.t (.ak 7)::.t (.ak 8)::bd (qi r 0 7) (qe r 0 8) (qe r 0 9) (qe r 0 10) (qi r 0 11) (qi r 0 12) [(t 9),(t 10)]),a1 (oe r 0 1),a4 (oe r 0 2),a1 (oe r 0 3),a2 (oe r 0 4),a2 (oe r 0 5),a5 (oe r 0 6),a5 (oe r 0 13),a4 ((oe r 0 14:LE)++([(rC (oe aV 0 0) (oe aV 0 1) (oe aV 0 2) (oe aV 0 3))]:LE))]⟩) λp=>ctl (x 1 p) (ctl ((po [(sp 4 0),(sp 5 1),(sp 11 2)] [.inl (bs []),.inl [.inl (.int .i64),.inl (.int .i64),.inl (.int .i64)],.inl (.inl (.int .i64)::.inr (.t (.ak 3))::.inr (.t (.ak 4))::.inr (.t (.ak 5))::.inr (.t (.ak 6))::.inr (.t (.ak 7))::.inr (.t (.ak 8))::bs [.inr (.t (.ak 9)),.inr (.t (.ak 10))]),.inr 1,.inr 4,.inr 1,.inr 2,.inr 2,.inr 5,.inr 5,.inr 4] p)) (aj (F 71 [.t (.ptr 0 0),.agg [vi p 1 0,vi p 1 1,vi p 1 2]] [.box (vi p 2 0::.t (.ak 1)::.t (.ak 2)::.t (.ak 3)::.t (.ak 4)::.t (.ak 5)::.t (.ak 6)::bd (vi p 2 7) (ve p 2 8) (ve p 2 9) (ve p 2 10) (vi p 2 11) (vi p 2 12) [(t 7),(t 8)]),a1 (ae p 3),a4 (ae p 4),a1 (ae p 5),a2 (ae p 6),a2 (ae p 7),a5 (ae p 8),a5 (ae p 9),a4 (ae p 10)]) λr=>ctl (cC [] r.fst&&okB [.inl (.inl (.int .i64)::.inr (.t (.ak 1))::.inr (.t (.ak 2))::.inr (.t (.ak 3))::.inr (.t (.ak 4))::.inr (.t (.ak 5))::.inr (.t (.ak 6))::bs [.inr (.t (.ak 7)),.inr (.t (.ak 8))]),.inr 1,.inr 4,.inr 1,.inr 2,.inr 2,.inr 5,.inr 5,.inr 4] r.snd) (aj (F 72 [.agg (CQ p 0),.agg (rC (he r 1) (he r 2) (he r 3) (he r 4)),wi r 0 0,.agg [n 7,n 0,n 0]] []) λej=>ctl (cC [.bm [.ow 1,.ow 4,.ow 1,.ow 2],.one (.int .i64)] ej.fst&&okB [] ej.snd&&(bM ej.fst&&cr ej.snd)) (aj (F 57 [.agg (rC (oe ej 0 0) (oe ej 0 1) (oe ej 0 2) (oe ej 0 3))] []) λia=>ctl (cC [.bm [.ow 1,.ow 4,.ow 1,.ow 2]] ia.fst&&okB [] ia.snd&&(bM ia.fst&&cr ia.snd)) (ctl (iW (((he r 8:LE).length+1)*96) 140737488355328) (ctl (iW (((he r 6:LE).length+(he r 7:LE).length)*40) 140737488355328) (ctl (bJ 0 (gu (IntKind.i64.wrap ((↑((he r 6:LE)++(he r 7:LE)).length:Int)-200)) 0)&&(bJ (gu (IntKind.i64.wrap ((↑((he r 6:LE)++(he r 7:LE)).length:Int)-200)) 0) (↑((he r 6:LE)++(he r 7:LE)).length:Int)&&bJ (↑((he r 6:LE)++(he r 7:LE)).length:Int) (↑((he r 6:LE)++(he r 7:LE)).length:Int))) (aj (F 73 [.sl 5 (tz ((he r 6:LE)++(he r 7:LE)) (gu (IntKind.i64.wrap ((↑((he r 6:LE)++(he r 7:LE)).length:Int)-200)) 0) (↑((he r 6:LE)++(he r 7:LE)).length:Int))] []) λrY=>ctl (k0 [.own 5] rY) (some ([.kI [.int .i64 (IntKind.i64.wrap ((wi r 0 0:Int)+1)),.sl 1 (oe ej 0 0),.sl 4 (oe ej 0 1),.sl 1 (oe ej 0 2),.sl 2 (oe ej 0 3),.sl 2 (he r 5),.sl 5 (nth (.p .aM) rY.fst 0).di,wi r 0 7,.sl 3 (we r 0 8),.sl 3 (we r 0 9),.sl 5 (we r 0 10),wi r 0 11,wi r 0 12,.sl 5 (he r 7),.sl 4 ((he r 8:LE)++([(rC (oe ia 0 0) (oe ia 0 1) (oe ia 0 2) (oe ia 0 3))]:LE))],.p (n 0)],[])) none) none) none) none) none) none) none) none) none) none) none) none)))) none):=by kernel_rfl
theorem r10 (F b d e l m o q s u w)(a f g h i j k:Int):Eq (aI E F 10 [G a b d e f g,.agg [h,i,j],.agg [k,.sl 1 l,.sl 4 m,.sl 1 o,.sl 2 q,.sl 2 s,.sl 5 u],.sl 3 w] []) (aj (F 30 [G a b d e f g,.agg [h,i,j],.agg [k,.sl 1 l,.sl 4 m,.sl 1 o,.sl 2 q,.sl 2 s,.sl 5 u],.sl 3 w] []) λr=>ctl (k0 [.kI [.int .i64,.sl 1,.sl 4,.sl 1,.sl 2,.sl 2,.sl 5,.int .i64,.sl 3,.sl 3,.sl 5,.int .i64,.int .i64,.sl 5,.sl 4],.one (.int .i64)] r) (ctl ((ri r 1:Int) !=0) (some ([.agg [n 0,PV.bN,PV.bN,PV.bN,PV.bN,PV.bN,PV.bN],.p (.sl 5 []),.p (ri r 1)],[])) (some ([.agg [si r 0 0,.sl 1 (se r 0 1),.sl 4 (se r 0 2),.sl 1 (se r 0 3),.sl 2 (se r 0 4),.sl 2 (se r 0 5),.sl 5 (se r 0 6)],.p (.sl 5 (se r 0 13)),.p (n 0)],[]))) none):=by kernel_rfl
end
section
open Go M
set_option maxRecDepth 100000
theorem r5 (F a):Eq (aI E F 5 [.sl 1 a] []) (ctl (true&&(bJ 0 (lC 600 (↑a.length:Int))&&bJ (lC 600 (↑a.length:Int)) (↑a.length:Int))) (some ([.kI [.sl 1 (tz a 0 (lC 600 (↑a.length:Int))),n 0]],[])) none):=by kernel_rfl
theorem agn (F b f g h o q s)(a d e i j k l m:Int):Eq (lp E F 6 1 [] 0 ⟨[a],[.box [.sl 1 b,d],.box (bd e f g h i j []),.box [k,(t 3),(t 4),(t 5),l,m],a3 o,a3 q,a5 s]⟩) (ctl (aT a k) (aj (F 7 [.t (.ptr 0 0),n 6] [.box [.sl 1 b,d]]) λr=>ctl (kS r) (ctl (aT (ri r 0) 5) (aj (F 7 [.t (.ptr 0 0),a] [.box [.sl 1 (we r 0 0),wi r 0 1]]) λr=>ctl (kS r) (ctl (iW ((o.length+1)*24) 140737488355328) (lp E F 6 1 [] 0 ⟨[(wr (a+1))],[.box [.sl 1 (we r 0 0),wi r 0 1],.box (bd e f g h i j []),.box [k,(t 3),(t 4),(t 5),l,m],a3 (o++([[n 1,ri r 0,a]]:LE)),a3 q,a5 s]⟩) none) none) (lp E F 6 1 [] 0 ⟨[(wr (a+1))],[.box [.sl 1 (we r 0 0),wi r 0 1],.box (bd e f g h i j []),.box [k,(t 3),(t 4),(t 5),l,m],a3 o,a3 q,a5 s]⟩)) none) (some (.exit 0,⟨[],[.box [.sl 1 b,d],.box (bd e f g h i j []),.box [k,(t 3),(t 4),(t 5),l,m],a3 o,a3 q,a5 s]⟩))):=lu (by kernel_rfl)
theorem agm (F b f g h o q s)(a d e i j k l m:Int):Eq (lp E F 6 1 [] 2 ⟨[a],[.box [.sl 1 b,d],.box (bd e f g h i j []),.box [k,(t 3),(t 4),(t 5),l,m],a3 o,a3 q,a5 s]⟩) (ctl (aT 0 a) (aj (F 7 [.t (.ptr 0 0),k] [.box [.sl 1 b,d]]) λr=>ctl (kS r) (ctl (iW ((o.length+1)*24) 140737488355328) (aj (F 27 [.t (.ptr 0 0),.sl 1 [[n 10],[n 50],[n 100]]] [.box [.sl 1 (we r 0 0),wi r 0 1]]) λaV=>ctl (kS aV) (aj (F 27 [.t (.ptr 0 0),.sl 1 [[n 0],[n 5],[ri aV 0]]] [.box [.sl 1 (we aV 0 0),wi aV 0 1]]) λej=>ctl (kS ej) (aj (F 27 [.t (.ptr 0 0),.sl 1 [[n 0],[n 1],[n 3]]] [.box [.sl 1 (we ej 0 0),wi ej 0 1]]) λia=>ctl (kS ia) (ctl (iW ((q.length+1)*24) 140737488355328) (lp E F 6 1 [] 2 ⟨[(wr (a-1))],[.box [.sl 1 (we ia 0 0),wi ia 0 1],.box (bd e f g h i j []),.box [k,(t 3),(t 4),(t 5),l,m],a3 (o++([[n 2,ri r 0,n (↑q.length:Int)]]:LE)),a3 (q++([[ri aV 0,ri ej 0,ri ia 0]]:LE)),a5 s]⟩) none) none) none) none) none) none) (some (.exit 2,⟨[],[.box [.sl 1 b,d],.box (bd e f g h i j []),.box [k,(t 3),(t 4),(t 5),l,m],a3 o,a3 q,a5 s]⟩))):=lu (by kernel_rfl)
theorem agl (F b f g h o q s)(a d e i j k l m:Int):Eq (lp E F 6 1 [] 4 ⟨[a],[.box [.sl 1 b,d],.box (bd e f g h i j []),.box [k,(t 3),(t 4),(t 5),l,m],a3 o,a3 q,a5 s]⟩) (ctl (aT 0 a) (aj (F 7 [.t (.ptr 0 0),k] [.box [.sl 1 b,d]]) λr=>ctl (kS r) (ctl (iW ((o.length+1)*24) 140737488355328) (ctl (aT 1 k) (aj (F 7 [.t (.ptr 0 0),n 4] [.box [.sl 1 (we r 0 0),wi r 0 1]]) λaV=>ctl (kS aV) (ctl ((ri aV 0:Int)==3) (ctl (true&&neB k 0) (ctl (iW (((o++([[n 3,ri r 0,n (↑s.length:Int)]]:LE)).length+1)*24) 140737488355328) (aj (F 27 [.t (.ptr 0 0),.sl 1 [[n 0],[n 5],[n 20],[n 40]]] [.box [.sl 1 (we aV 0 0),wi aV 0 1]]) λej=>ctl (kS ej) (aj (F 27 [.t (.ptr 0 0),.sl 1 [[n 0],[.int .i64 (IntKind.i64.wrap ((ri ej 0:Int).tdiv 2))],[ri ej 0]]] [.box [.sl 1 (we ej 0 0),wi ej 0 1]]) λia=>ctl (kS ia) (aj (F 7 [.t (.ptr 0 0),n 3] [.box [.sl 1 (we ia 0 0),wi ia 0 1]]) λrY=>ctl (kS rY) (aj (F 26 [.t (.ptr 0 0),n (-1),n 2] [.box [.sl 1 (we rY 0 0),wi rY 0 1]]) λvP=>ctl (kS vP) (ctl (aT 0 (↑s.length:Int)) (aj (F 7 [.t (.ptr 0 0),n 4] [.box [.sl 1 (we vP 0 0),wi vP 0 1]]) λIe=>ctl (kS Ie) (ctl ((ri Ie 0:Int)==3) (aj (F 7 [.t (.ptr 0 0),(ln s)] [.box [.sl 1 (we Ie 0 0),wi Ie 0 1]]) λYv=>ctl (kS Yv) (ctl (iW ((s.length+1)*56) 140737488355328) (lp E F 6 1 [] 4 ⟨[(wr (a-1))],[.box [.sl 1 (we Yv 0 0),wi Yv 0 1],.box (bd e f g h i j []),.box [k,(t 3),(t 4),(t 5),l,m],a3 (o++([[n 3,ri r 0,n (↑s.length:Int)]]:LE)++([[n 3,.int .i64 ((IntKind.i64.wrap ((ri r 0:Int)+1)).tmod k),n (↑s.length:Int)]]:LE)),a3 q,a5 (s++([[ri ej 0,ri ia 0,ri rY 0,ri vP 0,.sl 1 [[ri Yv 0]]]]:LE))]⟩) none) none) (ctl (iW ((s.length+1)*56) 140737488355328) (lp E F 6 1 [] 4 ⟨[(wr (a-1))],[.box [.sl 1 (we Ie 0 0),wi Ie 0 1],.box (bd e f g h i j []),.box [k,(t 3),(t 4),(t 5),l,m],a3 (o++([[n 3,ri r 0,n (↑s.length:Int)]]:LE)++([[n 3,.int .i64 ((IntKind.i64.wrap ((ri r 0:Int)+1)).tmod k),n (↑s.length:Int)]]:LE)),a3 q,a5 (s++([[ri ej 0,ri ia 0,ri rY 0,ri vP 0,.sl 1 []]]:LE))]⟩) none)) none) (ctl (iW ((s.length+1)*56) 140737488355328) (lp E F 6 1 [] 4 ⟨[(wr (a-1))],[.box [.sl 1 (we vP 0 0),wi vP 0 1],.box (bd e f g h i j []),.box [k,(t 3),(t 4),(t 5),l,m],a3 (o++([[n 3,ri r 0,n (↑s.length:Int)]]:LE)++([[n 3,.int .i64 ((IntKind.i64.wrap ((ri r 0:Int)+1)).tmod k),n (↑s.length:Int)]]:LE)),a3 q,a5 (s++([[ri ej 0,ri ia 0,ri rY 0,ri vP 0,.sl 1 []]]:LE))]⟩) none)) none) none) none) none) none) none) (aj (F 27 [.t (.ptr 0 0),.sl 1 [[n 0],[n 5],[n 20],[n 40]]] [.box [.sl 1 (we aV 0 0),wi aV 0 1]]) λej=>ctl (kS ej) (aj (F 27 [.t (.ptr 0 0),.sl 1 [[n 0],[.int .i64 (IntKind.i64.wrap ((ri ej 0:Int).tdiv 2))],[ri ej 0]]] [.box [.sl 1 (we ej 0 0),wi ej 0 1]]) λia=>ctl (kS ia) (aj (F 7 [.t (.ptr 0 0),n 3] [.box [.sl 1 (we ia 0 0),wi ia 0 1]]) λrY=>ctl (kS rY) (aj (F 26 [.t (.ptr 0 0),n (-1),n 2] [.box [.sl 1 (we rY 0 0),wi rY 0 1]]) λvP=>ctl (kS vP) (ctl (aT 0 (↑s.length:Int)) (aj (F 7 [.t (.ptr 0 0),n 4] [.box [.sl 1 (we vP 0 0),wi vP 0 1]]) λIe=>ctl (kS Ie) (ctl ((ri Ie 0:Int)==3) (aj (F 7 [.t (.ptr 0 0),(ln s)] [.box [.sl 1 (we Ie 0 0),wi Ie 0 1]]) λYv=>ctl (kS Yv) (ctl (iW ((s.length+1)*56) 140737488355328) (lp E F 6 1 [] 4 ⟨[(wr (a-1))],[.box [.sl 1 (we Yv 0 0),wi Yv 0 1],.box (bd e f g h i j []),.box [k,(t 3),(t 4),(t 5),l,m],a3 (o++([[n 3,ri r 0,n (↑s.length:Int)]]:LE)),a3 q,a5 (s++([[ri ej 0,ri ia 0,ri rY 0,ri vP 0,.sl 1 [[ri Yv 0]]]]:LE))]⟩) none) none) (ctl (iW ((s.length+1)*56) 140737488355328) (lp E F 6 1 [] 4 ⟨[(wr (a-1))],[.box [.sl 1 (we Ie 0 0),wi Ie 0 1],.box (bd e f g h i j []),.box [k,(t 3),(t 4),(t 5),l,m],a3 (o++([[n 3,ri r 0,n (↑s.length:Int)]]:LE)),a3 q,a5 (s++([[ri ej 0,ri ia 0,ri rY 0,ri vP 0,.sl 1 []]]:LE))]⟩) none)) none) (ctl (iW ((s.length+1)*56) 140737488355328) (lp E F 6 1 [] 4 ⟨[(wr (a-1))],[.box [.sl 1 (we vP 0 0),wi vP 0 1],.box (bd e f g h i j []),.box [k,(t 3),(t 4),(t 5),l,m],a3 (o++([[n 3,ri r 0,n (↑s.length:Int)]]:LE)),a3 q,a5 (s++([[ri ej 0,ri ia 0,ri rY 0,ri vP 0,.sl 1 []]]:LE))]⟩) none)) none) none) none) none)) none) (aj (F 27 [.t (.ptr 0 0),.sl 1 [[n 0],[n 5],[n 20],[n 40]]] [.box [.sl 1 (we r 0 0),wi r 0 1]]) λaV=>ctl (kS aV) (aj (F 27 [.t (.ptr 0 0),.sl 1 [[n 0],[.int .i64 (IntKind.i64.wrap ((ri aV 0:Int).tdiv 2))],[ri aV 0]]] [.box [.sl 1 (we aV 0 0),wi aV 0 1]]) λej=>ctl (kS ej) (aj (F 7 [.t (.ptr 0 0),n 3] [.box [.sl 1 (we ej 0 0),wi ej 0 1]]) λia=>ctl (kS ia) (aj (F 26 [.t (.ptr 0 0),n (-1),n 2] [.box [.sl 1 (we ia 0 0),wi ia 0 1]]) λrY=>ctl (kS rY) (ctl (aT 0 (↑s.length:Int)) (aj (F 7 [.t (.ptr 0 0),n 4] [.box [.sl 1 (we rY 0 0),wi rY 0 1]]) λvP=>ctl (kS vP) (ctl ((ri vP 0:Int)==3) (aj (F 7 [.t (.ptr 0 0),(ln s)] [.box [.sl 1 (we vP 0 0),wi vP 0 1]]) λIe=>ctl (kS Ie) (ctl (iW ((s.length+1)*56) 140737488355328) (lp E F 6 1 [] 4 ⟨[(wr (a-1))],[.box [.sl 1 (we Ie 0 0),wi Ie 0 1],.box (bd e f g h i j []),.box [k,(t 3),(t 4),(t 5),l,m],a3 (o++([[n 3,ri r 0,n (↑s.length:Int)]]:LE)),a3 q,a5 (s++([[ri aV 0,ri ej 0,ri ia 0,ri rY 0,.sl 1 [[ri Ie 0]]]]:LE))]⟩) none) none) (ctl (iW ((s.length+1)*56) 140737488355328) (lp E F 6 1 [] 4 ⟨[(wr (a-1))],[.box [.sl 1 (we vP 0 0),wi vP 0 1],.box (bd e f g h i j []),.box [k,(t 3),(t 4),(t 5),l,m],a3 (o++([[n 3,ri r 0,n (↑s.length:Int)]]:LE)),a3 q,a5 (s++([[ri aV 0,ri ej 0,ri ia 0,ri rY 0,.sl 1 []]]:LE))]⟩) none)) none) (ctl (iW ((s.length+1)*56) 140737488355328) (lp E F 6 1 [] 4 ⟨[(wr (a-1))],[.box [.sl 1 (we rY 0 0),wi rY 0 1],.box (bd e f g h i j []),.box [k,(t 3),(t 4),(t 5),l,m],a3 (o++([[n 3,ri r 0,n (↑s.length:Int)]]:LE)),a3 q,a5 (s++([[ri aV 0,ri ej 0,ri ia 0,ri rY 0,.sl 1 []]]:LE))]⟩) none)) none) none) none) none)) none) none) (some (.exit 4,⟨[],[.box [.sl 1 b,d],.box (bd e f g h i j []),.box [k,(t 3),(t 4),(t 5),l,m],a3 o,a3 q,a5 s]⟩))):=lu (by kernel_rfl)
theorem r6 (F a)(b:Int):Eq (aI E F 6 [.t (.ptr 0 0)] [.box [.sl 1 a,b]]) (aj (F 26 [.t (.ptr 0 0),n 1,n 4] [.box [.sl 1 a,b]]) λr=>ctl (kS r) (aj (F 27 [.t (.ptr 0 0),.sl 1 [[n 0],[n 50],[n 200],[n 1800]]] [.box [.sl 1 (we r 0 0),wi r 0 1]]) λaV=>ctl (kS aV) (aj (F 27 [.t (.ptr 0 0),.sl 1 [[n 0],[n 10],[n 50]]] [.box [.sl 1 (we aV 0 0),wi aV 0 1]]) λej=>ctl (kS ej) (aj (lp E F 6 1 [] 0 ⟨[n 1],[.box [.sl 1 (we ej 0 0),wi ej 0 1],.box (bd 0 ([]) ([]) ([]) 0 0 []),.box [ri r 0,(t 3),(t 4),(t 5),ri aV 0,ri ej 0],a3 [],a3 [],a5 []]⟩) λp=>ctl (x 0 p) (ctl ((po [(sp 0 0),(sp 2 1),(sp 3 2)] [.inl [.inl (.sl 1),.inl (.int .i64)],.inl (bs []),.inl [.inl (.int .i64),.inr (.t (.ak 3)),.inr (.t (.ak 4)),.inr (.t (.ak 5)),.inl (.int .i64),.inl (.int .i64)],.inr 3,.inr 3,.inr 5] p)) (ctl (aT 2 (vi p 2 0)) (aj (F 7 [.t (.ptr 0 0),n 2] [.box [.sl 1 (ve p 0 0),vi p 0 1]]) λr=>ctl (kS r) (ctl ((ri r 0:Int)==1) (ctl (iW (((ae p 3:LE).length+1)*24) 140737488355328) (aj (F 7 [.t (.ptr 0 0),n 5] [.box [.sl 1 (we r 0 0),wi r 0 1]]) λr=>ctl (kS r) (aj (lp E F 6 1 [] 2 ⟨[ri r 0],[.box [.sl 1 (we r 0 0),wi r 0 1],.box (kh p 1 []),.box [vi p 2 0,(t 3),(t 4),(t 5),vi p 2 4,vi p 2 5],a3 ((ae p 3:LE)++([[n 1,n 0,.int .i64 (IntKind.i64.wrap ((vi p 2 0:Int)-1))]]:LE)),a3 (ae p 4),a5 (ae p 5)]⟩) λp=>ctl (x 2 p) (ctl ((po [(sp 0 0),(sp 2 1),(sp 3 2)] [.inl [.inl (.sl 1),.inl (.int .i64)],.inl (bs []),.inl [.inl (.int .i64),.inr (.t (.ak 3)),.inr (.t (.ak 4)),.inr (.t (.ak 5)),.inl (.int .i64),.inl (.int .i64)],.inr 3,.inr 3,.inr 5] p)) (aj (F 7 [.t (.ptr 0 0),n 6] [.box [.sl 1 (ve p 0 0),vi p 0 1]]) λr=>ctl (kS r) (aj (lp E F 6 1 [] 4 ⟨[ri r 0],[.box [.sl 1 (we r 0 0),wi r 0 1],.box (kh p 1 []),.box [vi p 2 0,(t 3),(t 4),(t 5),vi p 2 4,vi p 2 5],a3 (ae p 3),a3 (ae p 4),a5 (ae p 5)]⟩) λp=>ctl (x 4 p) (ctl ((po [(sp 2 1),(sp 3 2)] [.inl [.inl (.sl 1),.inl (.int .i64)],.inl (bs []),.inl [.inl (.int .i64),.inr (.t (.ak 3)),.inr (.t (.ak 4)),.inr (.t (.ak 5)),.inl (.int .i64),.inl (.int .i64)],.inr 3,.inr 3,.inr 5] p)) (some ([.agg (Oe (vi p 2 0) (ae p 3) (ae p 4) (ae p 5) (vi p 2 4) (vi p 2 5))],[.box [.sl 1 (ve p 0 0),vi p 0 1]])) none) none) none) none) none) none) none) (aj (F 7 [.t (.ptr 0 0),n 5] [.box [.sl 1 (we r 0 0),wi r 0 1]]) λr=>ctl (kS r) (aj (lp E F 6 1 [] 2 ⟨[ri r 0],[.box [.sl 1 (we r 0 0),wi r 0 1],.box (kh p 1 []),.box [vi p 2 0,(t 3),(t 4),(t 5),vi p 2 4,vi p 2 5],a3 (ae p 3),a3 (ae p 4),a5 (ae p 5)]⟩) λp=>ctl (x 2 p) (ctl ((po [(sp 0 0),(sp 2 1),(sp 3 2)] [.inl [.inl (.sl 1),.inl (.int .i64)],.inl (bs []),.inl [.inl (.int .i64),.inr (.t (.ak 3)),.inr (.t (.ak 4)),.inr (.t (.ak 5)),.inl (.int .i64),.inl (.int .i64)],.inr 3,.inr 3,.inr 5] p)) (aj (F 7 [.t (.ptr 0 0),n 6] [.box [.sl 1 (ve p 0 0),vi p 0 1]]) λr=>ctl (kS r) (aj (lp E F 6 1 [] 4 ⟨[ri r 0],[.box [.sl 1 (we r 0 0),wi r 0 1],.box (kh p 1 []),.box [vi p 2 0,(t 3),(t 4),(t 5),vi p 2 4,vi p 2 5],a3 (ae p 3),a3 (ae p 4),a5 (ae p 5)]⟩) λp=>ctl (x 4 p) (ctl ((po [(sp 2 1),(sp 3 2)] [.inl [.inl (.sl 1),.inl (.int .i64)],.inl (bs []),.inl [.inl (.int .i64),.inr (.t (.ak 3)),.inr (.t (.ak 4)),.inr (.t (.ak 5)),.inl (.int .i64),.inl (.int .i64)],.inr 3,.inr 3,.inr 5] p)) (some ([.agg (Oe (vi p 2 0) (ae p 3) (ae p 4) (ae p 5) (vi p 2 4) (vi p 2 5))],[.box [.sl 1 (ve p 0 0),vi p 0 1]])) none) none) none) none) none) none)) none) (aj (F 7 [.t (.ptr 0 0),n 5] [.box [.sl 1 (ve p 0 0),vi p 0 1]]) λr=>ctl (kS r) (aj (lp E F 6 1 [] 2 ⟨[ri r 0],[.box [.sl 1 (we r 0 0),wi r 0 1],.box (kh p 1 []),.box [vi p 2 0,(t 3),(t 4),(t 5),vi p 2 4,vi p 2 5],a3 (ae p 3),a3 (ae p 4),a5 (ae p 5)]⟩) λp=>ctl (x 2 p) (ctl ((po [(sp 0 0),(sp 2 1),(sp 3 2)] [.inl [.inl (.sl 1),.inl (.int .i64)],.inl (bs []),.inl [.inl (.int .i64),.inr (.t (.ak 3)),.inr (.t (.ak 4)),.inr (.t (.ak 5)),.inl (.int .i64),.inl (.int .i64)],.inr 3,.inr 3,.inr 5] p)) (aj (F 7 [.t (.ptr 0 0),n 6] [.box [.sl 1 (ve p 0 0),vi p 0 1]]) λr=>ctl (kS r) (aj (lp E F 6 1 [] 4 ⟨[ri r 0],[.box [.sl 1 (we r 0 0),wi r 0 1],.box (kh p 1 []),.box [vi p 2 0,(t 3),(t 4),(t 5),vi p 2 4,vi p 2 5],a3 (ae p 3),a3 (ae p 4),a5 (ae p 5)]⟩) λp=>ctl (x 4 p) (ctl ((po [(sp 2 1),(sp 3 2)] [.inl [.inl (.sl 1),.inl (.int .i64)],.inl (bs []),.inl [.inl (.int .i64),.inr (.t (.ak 3)),.inr (.t (.ak 4)),.inr (.t (.ak 5)),.inl (.int .i64),.inl (.int .i64)],.inr 3,.inr 3,.inr 5] p)) (some ([.agg (Oe (vi p 2 0) (ae p 3) (ae p 4) (ae p 5) (vi p 2 4) (vi p 2 5))],[.box [.sl 1 (ve p 0 0),vi p 0 1]])) none) none) none) none) none) none)) none) none) none) none) none):=by kernel_rfl
theorem r7 (F b)(a d:Int):Eq (aI E F 7 [.t (.ptr 0 0),a] [.box [.sl 1 b,d]]) (ctl (bJ (↑b.length:Int) d) (some ([.p (n 0)],[.box [.sl 1 b,d]])) (aG b (IntKind.i64.wrap (IntKind.i64.wrap (d+1)-1)) λc=>ctl (c1 c) (aj (F 28 [ci c 0,a] []) λr=>ctl (ki r) (some ([.p (ri r 0)],[.box [.sl 1 b,(wr (d+1))]])) none) none)):=by kernel_rfl
theorem agk (F b f g h l m o q s u y z A B C D)(a d e i j k w:Int):Eq (lp E F 8 1 [] 0 ⟨[a],[.box [.sl 1 b,d],.box (bd e f g h i j []),.box (.int .i64 k::pw l m o q [.sl 2 s,.sl 5 u]),.box (.int .i64 w::pw y z A B [(t 4),.sl 5 C]),a2 D]⟩) (ctl (aT a e) (aj (F 26 [.t (.ptr 0 0),n (-1),n 4] [.box [.sl 1 b,d]]) λr=>ctl (kS r) (aj (F 26 [.t (.ptr 0 0),n (-1),n 4] [.box [.sl 1 (we r 0 0),wi r 0 1]]) λaV=>ctl (kS aV) (ctl (iW ((D.length+1)*16) 140737488355328) (lp E F 8 1 [] 0 ⟨[(wr (a+1))],[.box [.sl 1 (we aV 0 0),wi aV 0 1],.box (bd e f g h i j []),.box (.int .i64 k::pw l m o q [.sl 2 s,.sl 5 u]),.box (.int .i64 w::pw y z A B [(t 4),.sl 5 C]),a2 (D++([[ri r 0,ri aV 0]]:LE))]⟩) none) none) none) (some (.exit 0,⟨[],[.box [.sl 1 b,d],.box (.int .i64 k::pw l m o q [.sl 2 s,.sl 5 u]),.box (.int .i64 w::pw y z A B [(t 3),.sl 5 C]),a2 D]⟩))):=lu (by kernel_rfl)
theorem r8 (F b d e h)(a f g i:Int):Eq (aI E F 8 [.t (.ptr 0 0),G a b d e f g] [.box [.sl 1 h,i]]) (aj (F 26 [.t (.ptr 0 0),n 5,n 20] [.box [.sl 1 h,i]]) λr=>ctl (kS r) (aj (F 29 [.t (.ptr 0 0),G a b d e f g] [.box [.sl 1 (we r 0 0),wi r 0 1]]) λaV=>ctl (kT [.agg [.sl 1,.sl 4,.sl 1,.sl 2]] aV) (aj (lp E F 8 1 [] 0 ⟨[n 0],[.box [.sl 1 (we aV 0 0),wi aV 0 1],.box (bd a b d e f g []),.box (.int .i64 0::pw ([]) ([]) ([]) ([]) [.sl 2 [],.sl 5 []]),.box (ri r 0::pw (se aV 0 0) (se aV 0 1) (se aV 0 2) (se aV 0 3) [(t 4),.sl 5 []]),a2 []]⟩) λp=>ctl (x 0 p) (ctl ((po [(sp 4 1),(sp 5 2)] [.inl [.inl (.sl 1),.inl (.int .i64)],.inl (.inl (.int .i64)::ps [.inl (.sl 2),.inl (.sl 5)]),.inl (.inl (.int .i64)::ps [.inr (.t (.ak 3)),.inl (.sl 5)]),.inr 2] p)) (some ([.agg [vi p 2 0,.sl 1 (ve p 2 1),.sl 4 (ve p 2 2),.sl 1 (ve p 2 3),.sl 2 (ve p 2 4),.sl 2 (ae p 3),.sl 5 (ve p 2 6)]],[.box [.sl 1 (ve p 0 0),vi p 0 1]])) none) none) none) none):=by kernel_rfl
theorem r16 (F a)(b:Int):Eq (aI E F 16 [.t (.ptr 0 0)] [.box [.sl 1 a,b]]) (aj (F 27 [.t (.ptr 0 0),.sl 1 [[n 60],[n 80],[n 100]]] [.box [.sl 1 a,b]]) λr=>ctl (kS r) (aj (F 27 [.t (.ptr 0 0),.sl 1 [[n 1],[n 30],[n 50]]] [.box [.sl 1 (we r 0 0),wi r 0 1]]) λaV=>ctl (kS aV) (aj (F 27 [.t (.ptr 0 0),.sl 1 [[n 0],[n 1],[n 3]]] [.box [.sl 1 (we aV 0 0),wi aV 0 1]]) λej=>ctl (kS ej) (some ([.agg [ri r 0,ri aV 0,ri ej 0]],[.box [.sl 1 (we ej 0 0),wi ej 0 1]])) none) none) none):=by kernel_rfl
theorem r26 (F d)(a b e:Int):Eq (aI E F 26 [.t (.ptr 0 0),a,b] [.box [.sl 1 d,e]]) (aj (F 7 [.t (.ptr 0 0),(wr (IntKind.i64.wrap (b-a)+1))] [.box [.sl 1 d,e]]) λr=>ctl (kS r) (some ([.p (.int .i64 (IntKind.i64.wrap (a+(ri r 0:Int))))],[.box [.sl 1 (we r 0 0),wi r 0 1]])) none):=by kernel_rfl
theorem r27 (F a b)(d:Int):Eq (aI E F 27 [.t (.ptr 0 0),.sl 1 a] [.box [.sl 1 b,d]]) (aj (F 7 [.t (.ptr 0 0),(ln a)] [.box [.sl 1 b,d]]) λr=>ctl (kS r) (aG a (ri r 0) λc=>ctl (c1 c) (some ([.p (ci c 0)],[.box [.sl 1 (we r 0 0),wi r 0 1]])) none) none):=by kernel_rfl
theorem r28 (F)(a b:Int):Eq (aI E F 28 [a,b] []) (ctl (aT b 1) (some ([.p (n 0)],[])) (ctl (true&&neB b 0) (ctl (true&&neB b 0) (some ([.p (.int .i64 ((IntKind.i64.wrap (a.tmod b+b)).tmod b))],[])) none) none)):=by kernel_rfl
theorem r29 (F b d e h)(a f g i:Int):Eq (aI E F 29 [.t (.ptr 0 0),G a b d e f g] [.box [.sl 1 h,i]]) (aj (F 68 [.t (.ptr 0 0),G a b d e f g] [.box [.sl 1 h,i]]) λr=>ctl (kT [.agg [.sl 1,.sl 4,.sl 1,.sl 2]] r) (aj (F 67 [G a b d e f g,.agg (rC (se r 0 0) (se r 0 1) (se r 0 2) (se r 0 3))] []) λaV=>ctl (k0 [.agg [.sl 1,.sl 4,.sl 1,.sl 2],.one (.int .i64)] aV) (some ([.agg (rC (se aV 0 0) (se aV 0 1) (se aV 0 2) (se aV 0 3))],[.box [.sl 1 (we r 0 0),wi r 0 1]])) none) none):=by kernel_rfl
theorem abD (F d g h i l m o q s u w y)(a b e f j k:Int):Eq (lp E F 68 1 [] 0 ⟨[a,b],[.box [.sl 1 d,e],.box (bd f g h i j k []),.box (pw l m o q []),.box (h4 4 5 6 7 []),a1 s,a4 u,a1 w,a2 y]⟩) (ctl (aT b a) (aj (F 7 [.t (.ptr 0 0),n 2] [.box [.sl 1 d,e]]) λr=>ctl (kS r) (ctl (iW ((s.length+1)*1) 140737488355328) (lp E F 68 1 [] 0 ⟨[a,(wr (b+1))],[.box [.sl 1 (we r 0 0),wi r 0 1],.box (bd f g h i j k []),.box (pw l m o q []),.box (h4 4 5 6 7 []),a1 (s++([[.bool ((ri r 0:Int)==1)]]:LE)),a4 u,a1 w,a2 y]⟩) none) none) (some (.exit 0,⟨[],[.box [.sl 1 d,e],.box (bd f g h i j k []),.box (pw l m o q []),.box (h4 4 5 6 7 []),a1 s,a4 u,a1 w,a2 y]⟩))):=lu (by kernel_rfl)
theorem abC (F d g h i l m o q s u w y)(a b e f j k:Int):Eq (lp E F 68 1 [] 2 ⟨[a,b],[.box [.sl 1 d,e],.box (bd f g h i j k []),.box (pw l m o q []),.box (h4 4 5 6 7 []),a1 s,a4 u,a1 w,a2 y]⟩) (ctl (aT b a) (aj (lp E F 68 1 [] 4 ⟨[b,.bool true,a,b,.sl 3 g,(ln g),n 0],[.box [.sl 1 d,e],.box (bd f g h i j k []),.box (pw l m o q []),.box (h4 4 5 6 7 []),a1 s,a4 u,a1 w,a2 y]⟩) λp=>ctl (x 4 p) (ctl ((po [(sp 0 0),(sp 3 1),(sp 4 2),(sp 5 3),(sj 30),(sj 31)] [.inl [.inl (.sl 1),.inl (.int .i64)],.inl (bs []),.inl (ps []),.inl (g4 4 5 6 7 []),.inr 1,.inr 4,.inr 1,.inr 2] p)) (lp E F 68 1 [] 2 ⟨[xi p 0,(wr ((xi p 1:Int)+1))],[.box [.sl 1 (ve p 0 0),vi p 0 1],.box (kh p 1 []),.box (EP p 2 []),.box (h4 4 5 6 7 []),a1 (ae p 4),a4 (ae p 5),a1 (ae p 6),a2 (ae p 7)]⟩) none) none) (some (.exit 2,⟨[],[.box [.sl 1 d,e],.box (bd f g h i j k []),.box (pw l m o q []),.box (h4 4 5 6 7 []),a1 s,a4 u,a1 w,a2 y]⟩))):=lu (by kernel_rfl)
theorem abB (F b f i l m o u w y z A B C D)(a d e g h j k q s:Int):Eq (lp E F 68 1 [] 4 ⟨[a,.bool b,d,e,.sl 3 f,g,h],[.box [.sl 1 i,j],.box (bd k l m o q s []),.box (pw u w y z []),.box (h4 4 5 6 7 []),a1 A,a4 B,a1 C,a2 D]⟩) (ctl (aT h g) (aG f h λc=>ctl (c3 c) (aj (ctl ((ci c 0:Int)==3) (some ((ci c 2:Int)==a)) (some false)) λv=>aj (ctl v (ctl (bJ 0 h&&aT h (↑A.length:Int)) (ctl (bL [.bool] (List.take 1 (List.drop 0 (nth [] A h.toNat)))) (some (nth .aM (nth [] A h.toNat) 0).toBool) none) none) (some false)) λv=>ctl v (ctl (bJ 0 h&&aT h (↑A.length:Int)) (lp E F 68 1 [] 4 ⟨[a,.bool false,d,e,.sl 3 f,g,(wr (h+1))],[.box [.sl 1 i,j],.box (bd k l m o q s []),.box (pw u w y z []),.box (h4 4 5 6 7 []),a1 (bg A h.toNat 0 [.bool b]),a4 B,a1 C,a2 D]⟩) none) (lp E F 68 1 [] 4 ⟨[a,.bool b,d,e,.sl 3 f,g,(wr (h+1))],[.box [.sl 1 i,j],.box (bd k l m o q s []),.box (pw u w y z []),.box (h4 4 5 6 7 []),a1 A,a4 B,a1 C,a2 D]⟩)) none) (some (.exit 4,⟨[d,e],[.box [.sl 1 i,j],.box (bd k l m o q s []),.box (pw u w y z []),.box (h4 4 5 6 7 []),a1 A,a4 B,a1 C,a2 D]⟩))):=lu (by kernel_rfl)
theorem abA (F d g h i l m o q s u w y)(a b e f j k:Int):Eq (lp E F 68 1 [] 6 ⟨[a,b],[.box [.sl 1 d,e],.box (bd f g h i j k []),.box (pw l m o q []),.box (h4 4 5 6 7 []),a1 s,a4 u,a1 w,a2 y]⟩) (ctl (aT b a) (aj (F 27 [.t (.ptr 0 0),.sl 1 [[n 0],[n 1],[n 2],[n 2],[n 2],[n 3]]] [.box [.sl 1 d,e]]) λr=>ctl (kS r) (aj (F 7 [.t (.ptr 0 0),n 5] [.box [.sl 1 (we r 0 0),wi r 0 1]]) λaV=>ctl (kS aV) (aj (F 27 [.t (.ptr 0 0),.sl 1 [[n 5000],[n 5000],[n 5005],[n 4950]]] [.box [.sl 1 (we aV 0 0),wi aV 0 1]]) λej=>ctl (kS ej) (aj (F 27 [.t (.ptr 0 0),.sl 1 [[n 0],[n 0],[n 40],[n 1800],[n 3590]]] [.box [.sl 1 (we ej 0 0),wi ej 0 1]]) λia=>ctl (kS ia) (ctl (iW ((u.length+1)*32) 140737488355328) (lp E F 68 1 [] 6 ⟨[a,(wr (b+1))],[.box [.sl 1 (we ia 0 0),wi ia 0 1],.box (bd f g h i j k []),.box (pw l m o q []),.box (h4 4 5 6 7 []),a1 s,a4 (u++([[ri r 0,ri aV 0,ri ej 0,ri ia 0]]:LE)),a1 w,a2 y]⟩) none) none) none) none) none) (some (.exit 6,⟨[],[.box [.sl 1 d,e],.box (bd f g h i j k []),.box (pw l m o q []),.box (h4 4 5 6 7 []),a1 s,a4 u,a1 w,a2 y]⟩))):=lu (by kernel_rfl)
theorem abz (F a e h i j m o q s u w y z)(b d f g k l:Int):Eq (lp E F 68 1 [] 8 ⟨[.sl 5 a,b,d],[.box [.sl 1 e,f],.box (bd g h i j k l []),.box (pw m o q s []),.box (h4 4 5 6 7 []),a1 u,a4 w,a1 y,a2 z]⟩) (ctl (aT d b) (aG a d λc=>ctl (bL [.int .i64,.int .i64,.int .i64,.int .i64,.sl 1] c) (aj (F 27 [.t (.ptr 0 0),.sl 1 [[ci c 0],[ci c 0],[ci c 1],[.int .i64 (IntKind.i64.wrap ((ci c 0:Int).tdiv 3))]]] [.box [.sl 1 e,f]]) λr=>ctl (kS r) (ctl (iW ((y.length+1)*8) 140737488355328) (lp E F 68 1 [] 8 ⟨[.sl 5 a,b,(wr (d+1))],[.box [.sl 1 (we r 0 0),wi r 0 1],.box (bd g h i j k l []),.box (pw m o q s []),.box (h4 4 5 6 7 []),a1 u,a4 w,a1 (y++([[ri r 0]]:LE)),a2 z]⟩) none) none) none) (some (.exit 8,⟨[],[.box [.sl 1 e,f],.box (bd g h i j k l []),.box (pw m o q s []),.box (h4 4 5 6 7 []),a1 u,a4 w,a1 y,a2 z]⟩))):=lu (by kernel_rfl)
theorem SL (F b f g h k l m o q s u w)(a d e i j:Int):Eq (lp E F 68 1 [] 10 ⟨[a],[.box [.sl 1 b,d],.box (bd e f g h i j []),.box (pw k l m o []),.box (h4 4 5 6 7 []),a1 q,a4 s,a1 u,a2 w]⟩) (ctl (bJ a 4) (aj (F 7 [.t (.ptr 0 0),n 5] [.box [.sl 1 b,d]]) λr=>ctl (kS r) (ctl ((ri r 0:Int)==4) (aj (F 7 [.t (.ptr 0 0),n 4] [.box [.sl 1 (we r 0 0),wi r 0 1]]) λr=>ctl (kS r) (aj (F 122 [G e f g h i j,.agg [a,ri r 0]] []) λaV=>ctl (k0 [.one .bool] aV) (ctl (rb aV 0) (ctl (iW ((w.length+1)*16) 140737488355328) (lp E F 68 1 [] 10 ⟨[(wr (a+1))],[.box [.sl 1 (we r 0 0),wi r 0 1],.box (bd e f g h i j []),.box (pw k l m o []),.box (h4 4 5 6 7 []),a1 q,a4 s,a1 u,a2 (w++([[a,ri r 0]]:LE))]⟩) none) (lp E F 68 1 [] 10 ⟨[(wr (a+1))],[.box [.sl 1 (we r 0 0),wi r 0 1],.box (bd e f g h i j []),.box (pw k l m o []),.box (h4 4 5 6 7 []),a1 q,a4 s,a1 u,a2 w]⟩)) none) none) (lp E F 68 1 [] 10 ⟨[(wr (a+1))],[.box [.sl 1 (we r 0 0),wi r 0 1],.box (bd e f g h i j []),.box (pw k l m o []),.box (h4 4 5 6 7 []),a1 q,a4 s,a1 u,a2 w]⟩)) none) (some (.exit 10,⟨[],[.box [.sl 1 b,d],.box (pw k l m o []),.box (h4 3 4 5 6 []),a1 q,a4 s,a1 u,a2 w]⟩))):=lu (by kernel_rfl)
theorem r68 (F b d e h)(a f g i:Int):Eq (aI E F 68 [.t (.ptr 0 0),G a b d e f g] [.box [.sl 1 h,i]]) (aj (lp E F 68 1 [] 0 ⟨[(ln b),n 0],[.box [.sl 1 h,i],.box (bd a b d e f g []),.box (pw ([]) ([]) ([]) ([]) []),.box (h4 4 5 6 7 []),a1 [],a4 [],a1 [],a2 []]⟩) λp=>ctl (x 0 p) (ctl ((po [(sp 0 0),(sp 3 1),(sp 4 2),(sp 5 3)] [.inl [.inl (.sl 1),.inl (.int .i64)],.inl (bs []),.inl (ps []),.inl (g4 4 5 6 7 []),.inr 1,.inr 4,.inr 1,.inr 2] p)) (aj (lp E F 68 1 [] 2 ⟨[n (↑(ve p 1 3:LE).length:Int),n 0],[.box [.sl 1 (ve p 0 0),vi p 0 1],.box (kh p 1 []),.box (EP p 2 []),.box (h4 4 5 6 7 []),a1 (ae p 4),a4 (ae p 5),a1 (ae p 6),a2 (ae p 7)]⟩) λp=>ctl (x 2 p) (ctl ((po [(sp 0 0),(sp 3 1),(sp 4 2),(sp 5 3)] [.inl [.inl (.sl 1),.inl (.int .i64)],.inl (bs []),.inl (ps []),.inl (g4 4 5 6 7 []),.inr 1,.inr 4,.inr 1,.inr 2] p)) (aj (lp E F 68 1 [] 6 ⟨[n (↑(ve p 1 2:LE).length:Int),n 0],[.box [.sl 1 (ve p 0 0),vi p 0 1],.box (kh p 1 []),.box (EP p 2 []),.box (h4 4 5 6 7 []),a1 (ae p 4),a4 (ae p 5),a1 (ae p 6),a2 (ae p 7)]⟩) λp=>ctl (x 6 p) (ctl ((po [(sp 0 0),(sp 3 1),(sp 4 2),(sp 5 3)] [.inl [.inl (.sl 1),.inl (.int .i64)],.inl (bs []),.inl (ps []),.inl (g4 4 5 6 7 []),.inr 1,.inr 4,.inr 1,.inr 2] p)) (aj (lp E F 68 1 [] 8 ⟨[.sl 5 (ve p 1 3),n (↑(ve p 1 3:LE).length:Int),n 0],[.box [.sl 1 (ve p 0 0),vi p 0 1],.box (kh p 1 []),.box (EP p 2 []),.box (h4 4 5 6 7 []),a1 (ae p 4),a4 (ae p 5),a1 (ae p 6),a2 (ae p 7)]⟩) λp=>ctl (x 8 p) (ctl ((po [(sp 0 0),(sp 3 1),(sp 4 2),(sp 5 3)] [.inl [.inl (.sl 1),.inl (.int .i64)],.inl (bs []),.inl (ps []),.inl (g4 4 5 6 7 []),.inr 1,.inr 4,.inr 1,.inr 2] p)) (aj (lp E F 68 1 [] 10 ⟨[n 1],[.box [.sl 1 (ve p 0 0),vi p 0 1],.box (kh p 1 []),.box (EP p 2 []),.box (h4 4 5 6 7 []),a1 (ae p 4),a4 (ae p 5),a1 (ae p 6),a2 (ae p 7)]⟩) λp=>ctl (x 10 p) (ctl ((po [(sp 4 1),(sp 5 2)] [.inl [.inl (.sl 1),.inl (.int .i64)],.inl (ps []),.inl (g4 3 4 5 6 []),.inr 1,.inr 4,.inr 1,.inr 2] p)) (some ([.agg (rC (ae p 3) (ae p 4) (ae p 5) (ae p 6))],[.box [.sl 1 (ve p 0 0),vi p 0 1]])) none) none) none) none) none) none) none) none) none) none):=by kernel_rfl
theorem r67 (F b d e h i j k)(a f g:Int):Eq (aI E F 67 [G a b d e f g,W h i j k] []) (aj (F 120 [G a b d e f g,W h i j k] []) λr=>ctl (ki r) (ctl ((ri r 0:Int) !=0) (some ([.agg [PV.bN,PV.bN,PV.bN,PV.bN],.p (ri r 0)],[])) (aj (F 121 [G a b d e f g,W h i j k] []) λr=>ctl (k0 [.agg [.sl 1,.sl 4,.sl 1,.sl 2]] r) (some ([.agg (rC (se r 0 0) (se r 0 1) (se r 0 2) (se r 0 3)),.p (n 0)],[])) none)) none):=by kernel_rfl
theorem Ti (F a f g h k l m o)(b d e i j:Int):Eq (lp E F 120 0 [] 0 ⟨[.sl 4 a,b,d],[.box (bd e f g h i j []),.box (pw k l m o [])]⟩) (ctl (aT d b) (aG a d λc=>ctl (c4 c) (aj (F 151 [ci c 0,n 0,n 3] []) λr=>ctl (kb r) (aj (ctl (!!(rb r 0)) (aj (F 151 [ci c 1,n 0,n 2147483648] []) λr=>ctl (kb r) (some !(rb r 0)) none) (some true)) λv=>aj (ctl (!v) (aj (F 151 [ci c 2,n 0,n 6000] []) λr=>ctl (kb r) (some !(rb r 0)) none) (some true)) λv=>aj (ctl (!v) (aj (F 151 [ci c 3,n 0,n 3599] []) λr=>ctl (kb r) (some !(rb r 0)) none) (some true)) λv=>ctl v (some (.ret,⟨[n 11],[]⟩)) (lp E F 120 0 [] 0 ⟨[.sl 4 a,b,(wr (d+1))],[.box (bd e f g h i j []),.box (pw k l m o [])]⟩)) none) none) (some (.exit 0,⟨[],[.box (bd e f g h i j []),.box (pw k l m o [])]⟩))):=lu (by kernel_rfl)
theorem Th (F a f g h k l m o)(b d e i j:Int):Eq (lp E F 120 0 [] 2 ⟨[.sl 1 a,b,d],[.box (bd e f g h i j []),.box (pw k l m o [])]⟩) (ctl (aT d b) (aG a d λc=>ctl (c1 c) (aG h d λdP=>ctl (bL [.int .i64,.int .i64,.int .i64,.int .i64,.sl 1] dP) (aj (F 151 [ci c 0,n 0,ci dP 0] []) λr=>ctl (kb r) (ctl (!(rb r 0)) (some (.ret,⟨[n 11],[]⟩)) (lp E F 120 0 [] 2 ⟨[.sl 1 a,b,(wr (d+1))],[.box (bd e f g h i j []),.box (pw k l m o [])]⟩)) none) none) none) (some (.exit 2,⟨[],[.box (bd e f g h i j []),.box (pw k l m o [])]⟩))):=lu (by kernel_rfl)
theorem Tg (F a f g h k l m o)(b d e i j:Int):Eq (lp E F 120 0 [] 4 ⟨[.sl 2 a,b,d],[.box (bd e f g h i j []),.box (pw k l m o [])]⟩) (ctl (aT d b) (aG a d λc=>ctl (bL [.int .i64,.int .i64] c) (aj (F 122 [G e f g h i j,.agg [ci c 0,ci c 1]] []) λr=>ctl (kb r) (aj (ctl (!!(rb r 0)) (ctl (aT 0 d) (aG o (IntKind.i64.wrap (d-1)) λdP=>ctl (bL [.int .i64,.int .i64] dP) (aj (F 152 [.agg [ci dP 0,ci dP 1],.agg [ci c 0,ci c 1]] []) λr=>ctl (kb r) (some !(rb r 0)) none) none) (some false)) (some true)) λv=>ctl v (some (.ret,⟨[n 11],[]⟩)) (lp E F 120 0 [] 4 ⟨[.sl 2 a,b,(wr (d+1))],[.box (bd e f g h i j []),.box (pw k l m o [])]⟩)) none) none) (some (.exit 4,⟨[],[.box (bd e f g h i j []),.box (pw k l m o [])]⟩))):=lu (by kernel_rfl)
theorem Tf (F e f g j k l m)(a b d h i:Int):Eq (lp E F 120 0 [] 6 ⟨[a,b],[.box (bd d e f g h i []),.box (pw j k l m [])]⟩) (ctl (aT b a) (aj (F 153 [G d e f g h i,n 3,b] []) λr=>ctl (k0 [.one (.sl 1)] r) (aj (lp E F 120 0 [] 8 ⟨[n 0,a,b,.sl 1 (re r 0),n (↑(re r 0:LE).length:Int),n 0],[.box (bd d e f g h i []),.box (pw j k l m [])]⟩) λp=>ctl (x 8 p) (ctl ((po [(sp 2 0),(sp 3 1),(sj 13),(sj 128),(sj 129)] [.inl (bs []),.inl (ps [])] p)) (ctl (aT 1 (xi p 0)) (some (.ret,⟨[n 11],[]⟩)) (lp E F 120 0 [] 6 ⟨[xi p 1,(wr ((xi p 2:Int)+1))],[.box (kh p 0 []),.box (EP p 1 [])]⟩)) none) none) none) (some (.exit 6,⟨[],[]⟩))):=lu (by kernel_rfl)
theorem Te (F e i j k o q s u)(a b d f g h l m:Int):Eq (lp E F 120 0 [] 8 ⟨[a,b,d,.sl 1 e,f,g],[.box (bd h i j k l m []),.box (pw o q s u [])]⟩) (ctl (aT g f) (aG e g λc=>ctl (c1 c) (aG o (ci c 0) λc=>ctl (c0 c) (ctl (cb c 0) (lp E F 120 0 [] 8 ⟨[(wr (a+1)),b,d,.sl 1 e,f,(wr (g+1))],[.box (bd h i j k l m []),.box (pw o q s u [])]⟩) (lp E F 120 0 [] 8 ⟨[a,b,d,.sl 1 e,f,(wr (g+1))],[.box (bd h i j k l m []),.box (pw o q s u [])]⟩)) none) none) (some (.exit 8,⟨[a,b,d],[.box (bd h i j k l m []),.box (pw o q s u [])]⟩))):=lu (by kernel_rfl)
theorem ako (F b d e h i j k)(a f g:Int):Eq (aI E F 120 [G a b d e f g,W h i j k] []) (aj (F 150 [G a b d e f g] []) λr=>ctl (ki r) (ctl ((ri r 0:Int) !=0) (some ([.p (ri r 0)],[])) (aj (ctl (!(↑h.length:Int) !=(↑b.length:Int)) (some ((↑i.length:Int) !=(↑d.length:Int))) (some true)) λv=>aj (ctl (!v) (some ((↑j.length:Int) !=(↑e.length:Int))) (some true)) λv=>ctl v (some ([.p (n 8)],[])) (aj (lp E F 120 0 [] 0 ⟨[.sl 4 i,(ln i),n 0],[.box (bd a b d e f g []),.box (pw h i j k [])]⟩) λp=>ctl (x 0 p) (ctl ((po [(sp 2 0),(sp 3 1)] [.inl (bs []),.inl (ps [])] p)) (aj (lp E F 120 0 [] 2 ⟨[.sl 1 (ve p 1 2),n (↑(ve p 1 2:LE).length:Int),n 0],[.box (kh p 0 []),.box (EP p 1 [])]⟩) λp=>ctl (x 2 p) (ctl ((po [(sp 2 0),(sp 3 1)] [.inl (bs []),.inl (ps [])] p)) (ctl (aT 32 (↑(ve p 1 3:LE).length:Int)) (some ([.p (n 11)],[])) (aj (lp E F 120 0 [] 4 ⟨[.sl 2 (ve p 1 3),n (↑(ve p 1 3:LE).length:Int),n 0],[.box (kh p 0 []),.box (EP p 1 [])]⟩) λp=>ctl (x 4 p) (ctl ((po [(sp 2 0),(sp 3 1)] [.inl (bs []),.inl (ps [])] p)) (aj (lp E F 120 0 [] 6 ⟨[n (↑(ve p 0 3:LE).length:Int),n 0],[.box (kh p 0 []),.box (EP p 1 [])]⟩) λp=>ctl (x 6 p) (some ([.p (n 0)],[])) (e1 4 p)) none) (e1 4 p))) none) (e1 4 p)) none) (e1 4 p)))) none):=by kernel_rfl
theorem Td (F a e f g h i j k l m o q s)(b d:Int):Eq (lp E F 121 0 [] 0 ⟨[.sl 3 a,b,d],[.box (pw e f g h []),.box (pw i j k l []),.box [.sl 1 m,(t 3),.sl 1 o,.sl 2 q],a4 s]⟩) (ctl (aT d b) (aG a d λc=>ctl (bL [.sl 1,.sl 1,.sl 1] c) (aj (lp E F 121 0 [] 2 ⟨[.sl 3 a,b,d,.sl 1 (ce c 1),n (↑(ce c 1:LE).length:Int),n 0],[.box (pw e f g h []),.box (pw i j k l []),.box [.sl 1 m,(t 3),.sl 1 o,.sl 2 q],a4 s,.box [.sl 1 (ce c 0),.sl 1 (ce c 1),.sl 1 (ce c 2)]]⟩) λp=>ctl (x 2 p) (ctl ((po [(sp 3 0),(sp 4 1),(sp 5 2),(sl 14 3),(sj 15),(sj 16)] [.inl (ps []),.inl (ps []),.inl [.inl (.sl 1),.inr (.t (.ak 3)),.inl (.sl 1),.inl (.sl 2)],.inr 4] p)) (lp E F 121 0 [] 0 ⟨[.sl 3 (xe p 0),xi p 1,(wr ((xi p 2:Int)+1))],[.box (EP p 0 []),.box (EP p 1 []),.box [.sl 1 (ve p 2 0),(t 3),.sl 1 (ve p 2 2),.sl 2 (ve p 2 3)],a4 (ae p 3)]⟩) none) none) none) (some (.exit 0,⟨[],[.box (pw i j k l []),.box [.sl 1 m,(t 2),.sl 1 o,.sl 2 q],a4 s]⟩))):=lu (by kernel_rfl)
theorem LZ (F a e h i j k l m o q s u w y z A B)(b d f g:Int):Eq (lp E F 121 0 [] 2 ⟨[.sl 3 a,b,d,.sl 1 e,f,g],[.box (pw h i j k []),.box (pw l m o q []),.box [.sl 1 s,(t 3),.sl 1 u,.sl 2 w],a4 y,.box [.sl 1 z,.sl 1 A,.sl 1 B]]⟩) (ctl (aT g f) (aG e g λc=>ctl (c1 c) (aG A 0 λdP=>ctl (c1 dP) (aG i (ci dP 0) λNh=>ctl (c4 Nh) (aG A 0 λc_3=>ctl (c1 c_3) (aG i (ci c_3 0) λc_4=>ctl (c4 c_4) (ctl (bJ 0 (ci c 0)&&aT (ci c 0) (↑y.length:Int)) (ctl (bJ 0 (ci c 0)&&aT (ci c 0) (↑(bg y (ci c 0:Int).toNat 2 [ci Nh 2]).length:Int)) (lp E F 121 0 [] 2 ⟨[.sl 3 a,b,d,.sl 1 e,f,(wr (g+1))],[.box (pw h i j k []),.box (pw l m o q []),.box [.sl 1 s,(t 3),.sl 1 u,.sl 2 w],a4 (bg (bg y (ci c 0:Int).toNat 2 [ci Nh 2]) (ci c 0:Int).toNat 3 [ci c_4 3]),.box [.sl 1 z,.sl 1 A,.sl 1 B]]⟩) none) none) none) none) none) none) none) (some (.exit 2,⟨[.sl 3 a,b,d],[.box (pw h i j k []),.box (pw l m o q []),.box [.sl 1 s,(t 3),.sl 1 u,.sl 2 w],a4 y]⟩))):=lu (by kernel_rfl)
theorem akn (F b d e h i j k)(a f g:Int):Eq (aI E F 121 [G a b d e f g,W h i j k] []) (aj (F 154 [W h i j k] []) λr=>ctl (k0 [.bm [.ow 1,.ow 4,.ow 1,.ow 2]] r) (aj (F 155 [G a b d e f g,W h i j k] []) λaV=>ctl (k0 [.one (.sl 3)] aV) (aj (lp E F 121 0 [] 0 ⟨[.sl 3 (re aV 0),n (↑(re aV 0:LE).length:Int),n 0],[.box (pw h i j k []),.box (pw ([]) ([]) ([]) ([]) []),.box [.sl 1 (oe r 0 0),(t 3),.sl 1 (oe r 0 2),.sl 2 (oe r 0 3)],a4 (oe r 0 1)]⟩) λp=>ctl (x 0 p) (ctl ((po [(sp 4 0),(sp 5 1)] [.inl (ps []),.inl [.inl (.sl 1),.inr (.t (.ak 2)),.inl (.sl 1),.inl (.sl 2)],.inr 4] p)) (some ([.agg (rC (ve p 1 0) (ae p 2) (ve p 1 2) (ve p 1 3))],[])) none) none) none) none):=by kernel_rfl
theorem akm (F b d e)(a f g h i:Int):Eq (aI E F 122 [G a b d e f g,.agg [h,i]] []) (ctl (h==1) (aj (F 151 [i,n 0,(wr ((↑d.length:Int)-1))] []) λr=>ctl (kb r) (some ([.p (.bool (rb r 0))],[])) none) (ctl (h==2) (aj (F 151 [i,n 0,(wr ((↑b.length:Int)-1))] []) λr=>ctl (kb r) (some ([.p (.bool (rb r 0))],[])) none) (ctl (h==3) (aj (F 151 [i,n 0,(wr (a-1))] []) λr=>ctl (kb r) (some ([.p (.bool (rb r 0))],[])) none) (ctl (h==4) (aj (F 151 [i,n 0,(wr ((↑e.length:Int)-1))] []) λr=>ctl (kb r) (some ([.p (.bool (rb r 0))],[])) none) (some ([.p (.bool false)],[])))))):=by kernel_rfl
theorem aj8 (F b d e)(a f g:Int):Eq (aI E F 150 [G a b d e f g] []) (aj (ctl (!aT a 1) (some (aT 6 a)) (some true)) λv=>aj (ctl (!v) (some (aT 24 (↑b.length:Int))) (some true)) λv=>aj (ctl (!v) (some (aT 8 (↑d.length:Int))) (some true)) λv=>aj (ctl (!v) (some (aT 16 (↑e.length:Int))) (some true)) λv=>ctl v (some ([.p (n 2)],[])) (aj (F 176 [G a b d e f g] []) λr=>ctl (kb r) (aj (ctl (!!(rb r 0)) (aj (F 177 [G a b d e f g] []) λr=>ctl (kb r) (some !(rb r 0)) none) (some true)) λv=>aj (ctl (!v) (aj (F 178 [G a b d e f g] []) λr=>ctl (kb r) (some !(rb r 0)) none) (some true)) λv=>aj (ctl (!v) (some (aT f 0)) (some true)) λv=>aj (ctl (!v) (some (aT 1800 f)) (some true)) λv=>aj (ctl (!v) (some (aT g 0)) (some true)) λv=>aj (ctl (!v) (some (aT 6000 g)) (some true)) λv=>ctl v (some ([.p (n 14)],[])) (some ([.p (n 0)],[]))) none)):=by kernel_rfl
theorem aj7 (F)(a b d:Int):Eq (aI E F 151 [a,b,d] []) (aj (ctl (bJ b a) (some (bJ a d)) (some false)) λv=>some ([.p (.bool v)],[])):=by kernel_rfl
theorem aj6 (F)(a b d e:Int):Eq (aI E F 152 [.agg [a,b],.agg [d,e]] []) (aj (ctl (!aT a d) (ctl (a==d) (some (aT b e)) (some false)) (some true)) λv=>some ([.p (.bool v)],[])):=by kernel_rfl
theorem S' (F d g)(a b e f:Int):Eq (lp E F 153 0 [] 0 ⟨[a,b,.sl 3 d,e,f],[a1 g]⟩) (ctl (aT f e) (aG d f λc=>ctl (c3 c) (aj (ctl ((ci c 0:Int)==a) (ctl (!(ci c 2:Int)==b) (ctl (a==1) (some ((ci c 1:Int)==b)) (some false)) (some true)) (some false)) λv=>ctl v (ctl (iW ((g.length+1)*8) 140737488355328) (lp E F 153 0 [] 0 ⟨[a,b,.sl 3 d,e,(wr (f+1))],[a1 (g++([[f]]:LE))]⟩) none) (lp E F 153 0 [] 0 ⟨[a,b,.sl 3 d,e,(wr (f+1))],[a1 g]⟩)) none) (some (.exit 0,⟨[],[a1 g]⟩))):=lu (by kernel_rfl)
theorem aj5 (F b d e)(a f g h i:Int):Eq (aI E F 153 [G a b d e f g,h,i] []) (aj (lp E F 153 0 [] 0 ⟨[h,i,.sl 3 b,(ln b),n 0],[a1 []]⟩) λp=>ctl (x 0 p) (ctl ((po [(sh 7 0)] [.inr 1] p)) (some ([.p (.sl 1 (ae p 0))],[])) none) none):=by kernel_rfl
theorem aj4 (F a b d e):Eq (aI E F 154 [W a b d e] []) (ctl (iW (a.length*1) 140737488355328) (ctl (iW (b.length*32) 140737488355328) (ctl (iW (d.length*8) 140737488355328) (ctl (iW (e.length*16) 140737488355328) (some ([.bm [.own 1 a,.own 4 b,.own 1 d,.own 2 e]],[])) none) none) none) none):=by kernel_rfl
theorem S_ (F d e f i j k l m)(a b g h:Int):Eq (lp E F 155 0 [] 0 ⟨[a],[.box (bd b d e f g h []),.box (pw i j k l []),a3 m]⟩) (ctl (aT a b) (aj (F 179 [G b d e f g h,W i j k l,a] []) λr=>ctl (k0 [.agg [.sl 1,.sl 1,.sl 1],.one .bool] r) (aG (se r 0 0) 0 λc=>ctl (c1 c) (ctl ((ci c 0:Int)==a) (ctl (iW ((m.length+1)*72) 140737488355328) (lp E F 155 0 [] 0 ⟨[(wr (a+1))],[.box (bd b d e f g h []),.box (pw i j k l []),a3 (m++([[.sl 1 (se r 0 0),.sl 1 (se r 0 1),.sl 1 (se r 0 2)]]:LE))]⟩) none) (lp E F 155 0 [] 0 ⟨[(wr (a+1))],[.box (bd b d e f g h []),.box (pw i j k l []),a3 m]⟩)) none) none) (some (.exit 0,⟨[],[a3 m]⟩))):=lu (by kernel_rfl)
theorem aj3 (F b d e h i j k)(a f g:Int):Eq (aI E F 155 [G a b d e f g,W h i j k] []) (aj (F 120 [G a b d e f g,W h i j k] []) λr=>ctl (ki r) (ctl ((ri r 0:Int) !=0) (some ([.p (.sl 3 [])],[])) (aj (lp E F 155 0 [] 0 ⟨[n 0],[.box (bd a b d e f g []),.box (pw h i j k []),a3 []]⟩) λp=>ctl (x 0 p) (ctl ((po [(sh 5 0)] [.inr 3] p)) (some ([.p (.sl 3 (ae p 0))],[])) none) none)) none):=by kernel_rfl
theorem S7 (F a f g h)(b d e i j:Int):Eq (lp E F 176 0 [] 0 ⟨[.sl 3 a,b,d],[.box (bd e f g h i j [])]⟩) (ctl (aT d b) (aG a d λc=>ctl (c3 c) (aj (F 151 [ci c 1,n 0,(wr (e-1))] []) λr=>ctl (kb r) (ctl (!(rb r 0)) (some (.ret,⟨[.bool false],[]⟩)) (ctl ((ci c 0:Int)==1) (aj (F 151 [ci c 2,(wr ((ci c 1:Int)+1)),(wr (e-1))] []) λr=>ctl (kb r) (ctl (!(rb r 0)) (some (.ret,⟨[.bool false],[]⟩)) (lp E F 176 0 [] 0 ⟨[.sl 3 a,b,(wr (d+1))],[.box (bd e f g h i j [])]⟩)) none) (ctl ((ci c 0:Int)==2) (aj (F 151 [ci c 2,n 0,(wr ((↑g.length:Int)-1))] []) λr=>ctl (kb r) (ctl (!(rb r 0)) (some (.ret,⟨[.bool false],[]⟩)) (lp E F 176 0 [] 0 ⟨[.sl 3 a,b,(wr (d+1))],[.box (bd e f g h i j [])]⟩)) none) (ctl ((ci c 0:Int)==3) (aj (F 151 [ci c 2,n 0,(wr ((↑h.length:Int)-1))] []) λr=>ctl (kb r) (ctl (!(rb r 0)) (some (.ret,⟨[.bool false],[]⟩)) (ctl (true&&(bJ 0 d&&bJ d (↑f.length:Int))) (aj (lp E F 176 0 [] 3 ⟨[.sl 3 a,b,d,.sl 3 (tz f 0 d),n (↑(tz f 0 d).length:Int),n 0],[.box (bd e f g h i j []),.box [ci c 0,ci c 1,ci c 2]]⟩) λp=>ctl (x 3 p) (ctl ((po [(sp 1 0),(sl 10 3),(sj 11),(sj 12)] [.inl (bs [])] p)) (lp E F 176 0 [] 0 ⟨[.sl 3 (xe p 0),xi p 1,(wr ((xi p 2:Int)+1))],[.box (kh p 0 [])]⟩) none) (ctl (p.fst.iI .ret) (ctl ((po [(2,.inl .bool)] [] p)) (some (.ret,⟨[.bool (xb p 0)],[]⟩)) none) none)) none)) none) (some (.ret,⟨[.bool false],[]⟩)))))) none) none) (some (.exit 0,⟨[],[.box (bd e f g h i j [])]⟩))):=lu (by kernel_rfl)
theorem S6 (F a e i j k)(b d f g h l m o q s:Int):Eq (lp E F 176 0 [] 3 ⟨[.sl 3 a,b,d,.sl 3 e,f,g],[.box (bd h i j k l m []),.box [o,q,s]]⟩) (ctl (aT g f) (aG e g λc=>ctl (c3 c) (ctl ((ci c 0:Int)==o&&((ci c 1:Int)==q&&((ci c 2:Int)==s&&true))) (some (.ret,⟨[.bool false],[]⟩)) (lp E F 176 0 [] 3 ⟨[.sl 3 a,b,d,.sl 3 e,f,(wr (g+1))],[.box (bd h i j k l m []),.box [o,q,s]]⟩)) none) (some (.exit 3,⟨[.sl 3 a,b,d],[.box (bd h i j k l m [])]⟩))):=lu (by kernel_rfl)
theorem S5 (F e f g)(a b d h i:Int):Eq (lp E F 176 0 [] 5 ⟨[a,b],[.box (bd d e f g h i [])]⟩) (ctl (aT b a) (aj (F 153 [G d e f g h i,n 2,b] []) λr=>ctl (k0 [.one (.sl 1)] r) (ctl ((↑(re r 0:LE).length:Int) !=1) (some (.ret,⟨[.bool false],[]⟩)) (lp E F 176 0 [] 5 ⟨[a,(wr (b+1))],[.box (bd d e f g h i [])]⟩)) none) (some (.exit 5,⟨[],[.box (bd d e f g h i [])]⟩))):=lu (by kernel_rfl)
theorem S4 (F e f g)(a b d h i:Int):Eq (lp E F 176 0 [] 7 ⟨[a,b],[.box (bd d e f g h i [])]⟩) (ctl (aT b a) (aj (F 153 [G d e f g h i,n 3,b] []) λr=>ctl (k0 [.one (.sl 1)] r) (ctl (aT (↑(re r 0:LE).length:Int) 1) (some (.ret,⟨[.bool false],[]⟩)) (lp E F 176 0 [] 7 ⟨[a,(wr (b+1))],[.box (bd d e f g h i [])]⟩)) none) (some (.exit 7,⟨[],[]⟩))):=lu (by kernel_rfl)
theorem ajQ (F b d e)(a f g:Int):Eq (aI E F 176 [G a b d e f g] []) (aj (lp E F 176 0 [] 0 ⟨[.sl 3 b,(ln b),n 0],[.box (bd a b d e f g [])]⟩) λp=>ctl (x 0 p) (ctl ((po [(sp 1 0)] [.inl (bs [])] p)) (aj (lp E F 176 0 [] 5 ⟨[n (↑(ve p 0 2:LE).length:Int),n 0],[.box (kh p 0 [])]⟩) λp=>ctl (x 5 p) (ctl ((po [(sp 1 0)] [.inl (bs [])] p)) (aj (lp E F 176 0 [] 7 ⟨[n (↑(ve p 0 3:LE).length:Int),n 0],[.box (kh p 0 [])]⟩) λp=>ctl (x 7 p) (some ([.p (.bool true)],[])) (e2 2 p)) none) (e2 2 p)) none) (e2 2 p)):=by kernel_rfl
theorem S3 (F a)(b d:Int):Eq (lp E F 177 0 [] 0 ⟨[.sl 3 a,b,d],[]⟩) (ctl (aT d b) (aG a d λc=>ctl (c3 c) (aj (F 151 [ci c 0,n 1,n 50000] []) λr=>ctl (kb r) (aj (ctl (!!(rb r 0)) (aj (F 151 [ci c 1,n 0,ci c 0] []) λr=>ctl (kb r) (some !(rb r 0)) none) (some true)) λv=>aj (ctl (!v) (aj (F 151 [ci c 2,n 0,n 600] []) λr=>ctl (kb r) (some !(rb r 0)) none) (some true)) λv=>ctl v (some (.ret,⟨[.bool false],[]⟩)) (lp E F 177 0 [] 0 ⟨[.sl 3 a,b,(wr (d+1))],[]⟩)) none) none) (some (.exit 0,⟨[],[]⟩))):=lu (by kernel_rfl)
theorem ajP (F b d e)(a f g:Int):Eq (aI E F 177 [G a b d e f g] []) (aj (lp E F 177 0 [] 0 ⟨[.sl 3 d,(ln d),n 0],[]⟩) λp=>ctl (x 0 p) (some ([.p (.bool true)],[])) (e2 2 p)):=by kernel_rfl
theorem S2 (F a)(b d:Int):Eq (lp E F 178 0 [] 0 ⟨[.sl 5 a,b,d],[]⟩) (ctl (aT d b) (aG a d λc=>ctl (bL [.int .i64,.int .i64,.int .i64,.int .i64,.sl 1] c) (aj (F 151 [ci c 0,n 0,n 50000] []) λr=>ctl (kb r) (aj (ctl (!!(rb r 0)) (aj (F 151 [ci c 1,n 0,ci c 0] []) λr=>ctl (kb r) (some !(rb r 0)) none) (some true)) λv=>aj (ctl (!v) (aj (F 151 [ci c 2,n 0,n 15] []) λr=>ctl (kb r) (some !(rb r 0)) none) (some true)) λv=>aj (ctl (!v) (aj (F 151 [ci c 3,n (-1),n 7] []) λr=>ctl (kb r) (some !(rb r 0)) none) (some true)) λv=>aj (ctl (!v) (some (aT 4 (↑(ce c 4:LE).length:Int))) (some true)) λv=>ctl v (some (.ret,⟨[.bool false],[]⟩)) (aj (lp E F 178 0 [] 2 ⟨[d,.sl 5 a,b,d,.sl 1 (ce c 4),n (↑(ce c 4:LE).length:Int),n 0],[.box [ci c 0,ci c 1,ci c 2,ci c 3,.sl 1 (ce c 4)]]⟩) λp=>ctl (x 2 p) (ctl ((po [(sl 8 5),(sj 9),(sj 10)] [] p)) (lp E F 178 0 [] 0 ⟨[.sl 5 (xe p 0),xi p 1,(wr ((xi p 2:Int)+1))],[]⟩) none) (ctl (p.fst.iI .ret) (ctl ((po [(2,.inl .bool)] [] p)) (some (.ret,⟨[.bool (xb p 0)],[]⟩)) none) none))) none) none) (some (.exit 0,⟨[],[]⟩))):=lu (by kernel_rfl)
theorem S1 (F b f m)(a d e g h i j k l:Int):Eq (lp E F 178 0 [] 2 ⟨[a,.sl 5 b,d,e,.sl 1 f,g,h],[.box [i,j,k,l,.sl 1 m]]⟩) (ctl (aT h g) (aG f h λc=>ctl (c1 c) (aj (F 151 [ci c 0,n 0,(wr (a-1))] []) λr=>ctl (kb r) (aj (ctl (!!(rb r 0)) (ctl (aT 0 h) (aG m (IntKind.i64.wrap (h-1)) λdP=>ctl (c1 dP) (some (bJ (ci c 0) (ci dP 0:Int))) none) (some false)) (some true)) λv=>ctl v (some (.ret,⟨[.bool false],[]⟩)) (lp E F 178 0 [] 2 ⟨[a,.sl 5 b,d,e,.sl 1 f,g,(wr (h+1))],[.box [i,j,k,l,.sl 1 m]]⟩)) none) none) (some (.exit 2,⟨[.sl 5 b,d,e],[]⟩))):=lu (by kernel_rfl)
theorem ajO (F b d e)(a f g:Int):Eq (aI E F 178 [G a b d e f g] []) (aj (lp E F 178 0 [] 0 ⟨[.sl 5 e,(ln e),n 0],[]⟩) λp=>ctl (x 0 p) (some ([.p (.bool true)],[])) (e2 2 p)):=by kernel_rfl
theorem SZ (F e f g j k l m o q s u w y)(a b d h i:Int):Eq (lp E F 179 0 [] 0 ⟨[a,b],[.box (bd d e f g h i []),.box (pw j k l m []),.box [.sl 1 o,.sl 1 q,.sl 1 s],.box [.sl 1 u,(t 4),(t 5)],a1 w,a1 y]⟩) (ctl (aT b a) (aj (F 191 [G d e f g h i,W j k l m,b] []) λr=>ctl (k0 [.one (.int .i64),.one .bool] r) (aj (ctl (rb r 1) (aj (F 192 [.sl 1 u,ri r 0] []) λr=>ctl (kb r) (some (rb r 0:Bool)) none) (some false)) λv=>ctl v (ctl (iW ((w.length+1)*8) 140737488355328) (lp E F 179 0 [] 0 ⟨[a,(wr (b+1))],[.box (bd d e f g h i []),.box (pw j k l m []),.box [.sl 1 o,.sl 1 q,.sl 1 s],.box [.sl 1 u,(t 4),(t 5)],a1 (w++([[b]]:LE)),a1 y]⟩) none) (lp E F 179 0 [] 0 ⟨[a,(wr (b+1))],[.box (bd d e f g h i []),.box (pw j k l m []),.box [.sl 1 o,.sl 1 q,.sl 1 s],.box [.sl 1 u,(t 4),(t 5)],a1 w,a1 y]⟩)) none) (some (.exit 0,⟨[],[.box (bd d e f g h i []),.box (pw j k l m []),.box [.sl 1 o,.sl 1 q,.sl 1 s],.box [.sl 1 u,(t 4),(t 5)],a1 w,a1 y]⟩))):=lu (by kernel_rfl)
theorem SY (F e f g j k l m o q s u w y)(a b d h i:Int):Eq (lp E F 179 0 [] 2 ⟨[a,b],[.box (bd d e f g h i []),.box (pw j k l m []),.box [.sl 1 o,.sl 1 q,.sl 1 s],.box [.sl 1 u,(t 4),(t 5)],a1 w,a1 y]⟩) (ctl (aT b a) (aj (F 193 [G d e f g h i,W j k l m,b] []) λr=>ctl (k0 [.one (.int .i64),.one .bool] r) (aj (ctl (rb r 1) (aj (F 192 [.sl 1 u,ri r 0] []) λr=>ctl (kb r) (some (rb r 0:Bool)) none) (some false)) λv=>ctl v (ctl (iW ((y.length+1)*8) 140737488355328) (lp E F 179 0 [] 2 ⟨[a,(wr (b+1))],[.box (bd d e f g h i []),.box (pw j k l m []),.box [.sl 1 o,.sl 1 q,.sl 1 s],.box [.sl 1 u,(t 4),(t 5)],a1 w,a1 (y++([[b]]:LE))]⟩) none) (lp E F 179 0 [] 2 ⟨[a,(wr (b+1))],[.box (bd d e f g h i []),.box (pw j k l m []),.box [.sl 1 o,.sl 1 q,.sl 1 s],.box [.sl 1 u,(t 4),(t 5)],a1 w,a1 y]⟩)) none) (some (.exit 2,⟨[],[.box [.sl 1 o,.sl 1 q,.sl 1 s],.box [.sl 1 u,(t 2),(t 3)],a1 w,a1 y]⟩))):=lu (by kernel_rfl)
theorem ajN (F b d e h i j k)(a f g l:Int):Eq (aI E F 179 [G a b d e f g,W h i j k,l] []) (aj (F 120 [G a b d e f g,W h i j k] []) λr=>ctl (ki r) (aj (ctl (!(ri r 0:Int) !=0) (some (aT l 0)) (some true)) λv=>aj (ctl (!v) (some (bJ a l)) (some true)) λv=>ctl v (some ([.agg [PV.bN,PV.bN,PV.bN],.p (.bool false)],[])) (aj (F 190 [G a b d e f g,W h i j k,l] []) λr=>ctl (k0 [.one (.sl 1)] r) (aj (lp E F 179 0 [] 0 ⟨[(ln d),n 0],[.box (bd a b d e f g []),.box (pw h i j k []),.box [.sl 1 [],.sl 1 [],.sl 1 []],.box [.sl 1 (re r 0),(t 4),(t 5)],a1 [],a1 []]⟩) λp=>ctl (x 0 p) (ctl ((po [(sp 3 0),(sp 4 1),(sp 6 2),(sp 8 3)] [.inl (bs []),.inl (ps []),.inl [.inl (.sl 1),.inl (.sl 1),.inl (.sl 1)],.inl [.inl (.sl 1),.inr (.t (.ak 4)),.inr (.t (.ak 5))],.inr 1,.inr 1] p)) (aj (lp E F 179 0 [] 2 ⟨[n (↑(ve p 0 3:LE).length:Int),n 0],[.box (kh p 0 []),.box (EP p 1 []),.box [.sl 1 (ve p 2 0),.sl 1 (ve p 2 1),.sl 1 (ve p 2 2)],.box [.sl 1 (ve p 3 0),(t 4),(t 5)],a1 (ae p 4),a1 (ae p 5)]⟩) λp=>ctl (x 2 p) (ctl ((po [(sp 6 0),(sp 8 1)] [.inl [.inl (.sl 1),.inl (.sl 1),.inl (.sl 1)],.inl [.inl (.sl 1),.inr (.t (.ak 2)),.inr (.t (.ak 3))],.inr 1,.inr 1] p)) (some ([.agg [.sl 1 (ve p 1 0),.sl 1 (ae p 2),.sl 1 (ae p 3)],.p (.bool true)],[])) none) none) none) none) none)) none):=by kernel_rfl
theorem SU (F e f g j k l m o)(a b d h i:Int):Eq (lp E F 190 0 [] 0 ⟨[a,b],[.box (bd d e f g h i []),.box (pw j k l m []),a1 o]⟩) (ctl (aT b a) (aj (lp E F 190 0 [] 2 ⟨[a,b,.sl 3 e,(ln e),n 0],[.box (bd d e f g h i []),.box (pw j k l m []),a1 o]⟩) λp=>ctl (x 2 p) (ctl ((po [(sp 3 0),(sp 4 1),(sh 7 2),(sj 19),(sj 20)] [.inl (bs []),.inl (ps []),.inr 1] p)) (lp E F 190 0 [] 0 ⟨[xi p 0,(wr ((xi p 1:Int)+1))],[.box (kh p 0 []),.box (EP p 1 []),a1 (ae p 2)]⟩) none) none) (some (.exit 0,⟨[],[a1 o]⟩))):=lu (by kernel_rfl)
theorem SS (F d h i j m o q s u)(a b e f g k l:Int):Eq (lp E F 190 0 [] 2 ⟨[a,b,.sl 3 d,e,f],[.box (bd g h i j k l []),.box (pw m o q s []),a1 u]⟩) (ctl (aT f e) (aG d f λc=>ctl (c3 c) (aj (ctl ((ci c 0:Int)==1) (aG m f λc=>ctl (c0 c) (some (cb c 0:Bool)) none) (some false)) λv=>aj (ctl v (ctl (bJ 0 (ci c 1)&&aT (ci c 1) (↑u.length:Int)) (ctl (bL [.bool] (List.take 1 (List.drop 0 (nth [] u (ci c 1:Int).toNat)))) (ctl (!(nth .aM (nth [] u (ci c 1:Int).toNat) 0).toBool) (ctl (bJ 0 (ci c 2)&&aT (ci c 2) (↑u.length:Int)) (ctl (bL [.bool] (List.take 1 (List.drop 0 (nth [] u (ci c 2:Int).toNat)))) (some (nth .aM (nth [] u (ci c 2:Int).toNat) 0).toBool) none) none) (some true)) none) none) (some false)) λv=>ctl v (ctl (bJ 0 (ci c 1)&&aT (ci c 1) (↑u.length:Int)) (ctl (bJ 0 (ci c 2)&&aT (ci c 2) (↑(bg u (ci c 1:Int).toNat 0 [.bool true]).length:Int)) (lp E F 190 0 [] 2 ⟨[a,b,.sl 3 d,e,(wr (f+1))],[.box (bd g h i j k l []),.box (pw m o q s []),a1 (bg (bg u (ci c 1:Int).toNat 0 [.bool true]) (ci c 2:Int).toNat 0 [.bool true])]⟩) none) none) (lp E F 190 0 [] 2 ⟨[a,b,.sl 3 d,e,(wr (f+1))],[.box (bd g h i j k l []),.box (pw m o q s []),a1 u]⟩)) none) (some (.exit 2,⟨[a,b],[.box (bd g h i j k l []),.box (pw m o q s []),a1 u]⟩))):=lu (by kernel_rfl)
theorem SQ (F d e)(a b:Int):Eq (lp E F 190 0 [] 4 ⟨[a,b],[a1 d,a1 e]⟩) (ctl (aT b a) (ctl (bJ 0 b&&aT b (↑d.length:Int)) (ctl (bL [.bool] (List.take 1 (List.drop 0 (nth [] d b.toNat)))) (ctl (nth .aM (nth [] d b.toNat) 0).toBool (ctl (iW ((e.length+1)*8) 140737488355328) (lp E F 190 0 [] 4 ⟨[a,(wr (b+1))],[a1 d,a1 (e++([[b]]:LE))]⟩) none) (lp E F 190 0 [] 4 ⟨[a,(wr (b+1))],[a1 d,a1 e]⟩)) none) none) (some (.exit 4,⟨[],[a1 e]⟩))):=lu (by kernel_rfl)
theorem ajJ (F b d e h i j k)(a f g l:Int):Eq (aI E F 190 [G a b d e f g,W h i j k,l] []) (ctl (bJ 0 a&&(bJ a a&&(bJ a 9223372036854775807&&bJ (a*1) 140737488355328))) (ctl (bJ 0 l&&aT l (↑(dm ([.bool false]:List PV) a.toNat).length:Int)) (aj (lp E F 190 0 [] 0 ⟨[.int .i64 (↑(bg (dm ([.bool false]:List PV) a.toNat) l.toNat 0 [.bool true]).length:Int),n 0],[.box (bd a b d e f g []),.box (pw h i j k []),a1 (bg (dm ([.bool false]:List PV) a.toNat) l.toNat 0 [.bool true])]⟩) λp=>ctl (x 0 p) (ctl ((po [(sh 7 0)] [.inr 1] p)) (aj (lp E F 190 0 [] 4 ⟨[n (↑(ae p 0:LE).length:Int),n 0],[a1 (ae p 0),a1 []]⟩) λp=>ctl (x 4 p) (ctl ((po [(sh 10 0)] [.inr 1] p)) (some ([.p (.sl 1 (ae p 0))],[])) none) none) none) none) none) none):=by kernel_rfl
theorem ajI (F b d e h i j k)(a f g l:Int):Eq (aI E F 191 [G a b d e f g,W h i j k,l] []) (aj (F 120 [G a b d e f g,W h i j k] []) λr=>ctl (ki r) (aj (ctl (!(ri r 0:Int) !=0) (some (aT l 0)) (some true)) λv=>aj (ctl (!v) (some (bJ (↑d.length:Int) l)) (some true)) λv=>aj (ctl (!v) (aG i l λc=>ctl (c4 c) (some ((ci c 0:Int) !=2)) none) (some true)) λv=>ctl v (some ([.p (n 0),.p (.bool false)],[])) (aj (F 153 [G a b d e f g,n 2,l] []) λr=>ctl (k0 [.one (.sl 1)] r) (aG (re r 0) 0 λc=>ctl (c1 c) (aG h (ci c 0) λdP=>ctl (c0 dP) (ctl (!(cb dP 0)) (some ([.p (n 0),.p (.bool false)],[])) (aG b (ci c 0) λc=>ctl (c3 c) (some ([.p (ci c 1),.p (.bool true)],[])) none)) none) none) none)) none):=by kernel_rfl
theorem SP (F b)(a d e:Int):Eq (lp E F 192 0 [] 0 ⟨[a,.sl 1 b,d,e],[]⟩) (ctl (aT e d) (aG b e λc=>ctl (c1 c) (ctl ((ci c 0:Int)==a) (some (.ret,⟨[.bool true],[]⟩)) (lp E F 192 0 [] 0 ⟨[a,.sl 1 b,d,(wr (e+1))],[]⟩)) none) (some (.exit 0,⟨[],[]⟩))):=lu (by kernel_rfl)
theorem ajH (F a)(b:Int):Eq (aI E F 192 [.sl 1 a,b] []) (aj (lp E F 192 0 [] 0 ⟨[b,.sl 1 a,(ln a),n 0],[]⟩) λp=>ctl (x 0 p) (some ([.p (.bool false)],[])) (e2 4 p)):=by kernel_rfl
theorem SN (F a f g h k l m o)(b d e i j:Int):Eq (lp E F 193 0 [] 0 ⟨[.sl 1 a,b,d],[.box (bd e f g h i j []),.box (pw k l m o [])]⟩) (ctl (aT d b) (aG a d λc=>ctl (c1 c) (aG k (ci c 0) λdP=>ctl (c0 dP) (ctl (cb dP 0) (aG f (ci c 0) λc=>ctl (c3 c) (some (.ret,⟨[ci c 1,.bool true],[]⟩)) none) (lp E F 193 0 [] 0 ⟨[.sl 1 a,b,(wr (d+1))],[.box (bd e f g h i j []),.box (pw k l m o [])]⟩)) none) none) (some (.exit 0,⟨[],[]⟩))):=lu (by kernel_rfl)
theorem ajG (F b d e h i j k)(a f g l:Int):Eq (aI E F 193 [G a b d e f g,W h i j k,l] []) (aj (F 120 [G a b d e f g,W h i j k] []) λr=>ctl (ki r) (aj (ctl (!(ri r 0:Int) !=0) (some (aT l 0)) (some true)) λv=>aj (ctl (!v) (some (bJ (↑e.length:Int) l)) (some true)) λv=>ctl v (some ([.p (n 0),.p (.bool false)],[])) (aj (F 153 [G a b d e f g,n 3,l] []) λr=>ctl (k0 [.one (.sl 1)] r) (aj (lp E F 193 0 [] 0 ⟨[.sl 1 (re r 0),n (↑(re r 0:LE).length:Int),n 0],[.box (bd a b d e f g []),.box (pw h i j k [])]⟩) λp=>ctl (x 0 p) (some ([.p (n 0),.p (.bool false)],[])) (ctl (p.fst.iI .ret) (ctl ((po [(sj 6),(7,.inl .bool)] [] p)) (some ([.p (xi p 0),.p (.bool (xb p 1))],[])) none) none)) none)) none):=by kernel_rfl
end
section
open Go M
set_option maxRecDepth 100000
theorem r15 (F):Eq (aI E F 15 [] []) (aj (F 44 [.agg (Oe 1 ([[n 2,n 0,n 0]]) ([[n 10,n 0,n 1]]) ([]) 0 0),.agg [n 90,n 10,n 2]] []) λr=>ctl (k0 [.agg [.int .i64,.sl 1,.sl 4,.sl 1,.sl 2,.sl 2,.sl 5],.one (.int .i64)] r) (aj (F 20 [.agg (Oe 1 ([[n 2,n 0,n 0]]) ([[n 10,n 0,n 1]]) ([]) 0 0),.agg (rC (se r 0 1) (se r 0 2) (se r 0 3) (se r 0 4))] []) λaV=>ctl (k0 [.one (.sl 3),.one (.int .i64)] aV) (aj (F 45 [.agg (Oe 1 ([[n 2,n 0,n 0]]) ([[n 10,n 0,n 1]]) ([]) 0 0),.agg (rC (se r 0 1) (se r 0 2) (se r 0 3) (se r 0 4)),n 0,.sl 3 (re aV 0)] []) λej=>ctl (k0 [.agg [.sl 1,.sl 4,.sl 1,.sl 2],.one (.int .i64),.one (.int .i64),.one (.int .i64)] ej) (aj (ctl ((ri r 1:Int)==0) (some ((ri aV 1:Int)==0)) (some false)) λv=>aj (ctl v (some ((ri ej 3:Int)==0)) (some false)) λv=>aj (ctl v (aj (F 46 [.agg (Oe 1 ([[n 2,n 0,n 0]]) ([[n 10,n 0,n 1]]) ([]) 0 0),.agg (rC (se r 0 1) (se r 0 2) (se r 0 3) (se r 0 4))] []) λr=>ctl (kb r) (some (rb r 0:Bool)) none) (some false)) λv=>aj (ctl v (aj (F 46 [.agg (Oe 1 ([[n 2,n 0,n 0]]) ([[n 10,n 0,n 1]]) ([]) 0 0),.agg (rC (se ej 0 0) (se ej 0 1) (se ej 0 2) (se ej 0 3))] []) λr=>ctl (kb r) (some !(rb r 0)) none) (some false)) λv=>some ([.p (.bool v)],[])) none) none) none):=by kernel_rfl
theorem agp (F a f g h i j k m o q s u w)(b d e l:Int):Eq (lp E F 44 0 [] 1 ⟨[.sl 5 a,b,d],[.box (.int .i64 e::pw f g h i [.sl 2 j,.sl 5 k]),.box [l,.sl 1 m,.sl 4 o,(t 2),.sl 2 q,.sl 2 s,.sl 5 u],a1 w]⟩) (ctl (aT d b) (aG a d λc=>ctl (bL [.int .i64,.int .i64,.int .i64,.int .i64,.sl 1] c) (ctl (iW ((w.length+1)*8) 140737488355328) (lp E F 44 0 [] 1 ⟨[.sl 5 a,b,(wr (d+1))],[.box (.int .i64 e::pw f g h i [.sl 2 j,.sl 5 k]),.box [l,.sl 1 m,.sl 4 o,(t 2),.sl 2 q,.sl 2 s,.sl 5 u],a1 (w++([[ci c 0]]:LE))]⟩) none) none) (some (.exit 1,⟨[],[.box (.int .i64 e::pw f g h i [.sl 2 j,.sl 5 k]),.box [l,.sl 1 m,.sl 4 o,(t 2),.sl 2 q,.sl 2 s,.sl 5 u],a1 w]⟩))):=lu (by kernel_rfl)
theorem r44 (F b d e)(a f g h i j:Int):Eq (aI E F 44 [G a b d e f g,.agg [h,i,j]] []) (aj (F 47 [G a b d e f g] []) λr=>ctl (ki r) (ctl ((ri r 0:Int) !=0) (some ([.agg [n 0,PV.bN,PV.bN,PV.bN,PV.bN,PV.bN,PV.bN],.p (ri r 0)],[])) (aj (F 39 [.agg [h,i,j]] []) λr=>ctl (kb r) (ctl (!(rb r 0)) (some ([.agg [n 0,PV.bN,PV.bN,PV.bN,PV.bN,PV.bN,PV.bN],.p (n 1)],[])) (aj (F 87 [a] []) λr=>ctl (k0 [.own 2] r) (ctl (true&&(bJ (↑b.length:Int) (↑b.length:Int)&&(bJ (↑b.length:Int) 9223372036854775807&&bJ ((↑b.length:Int)*1) 140737488355328))) (aj (F 88 [.sl 4 [[n 0,n 0,n 5000,n 0]],(ln d)] []) λaV=>ctl (cC [.own 4] aV.fst&&okB [] aV.snd&&(bM aV.fst&&cr aV.snd)) (aj (lp E F 44 0 [] 1 ⟨[.sl 5 e,(ln e),n 0],[.box (.int .i64 0::pw ([]) ([]) ([]) ([]) [.sl 2 [],.sl 5 []]),.box [n 0,.sl 1 (dm ([.bool false]:List PV) (↑b.length:Int).toNat),.sl 4 (nth (.p .aM) aV.fst 0).di,(t 2),.sl 2 [],.sl 2 (nth (.p .aM) r.fst 0).di,.sl 5 []],a1 []]⟩) λp=>ctl (x 1 p) (ctl ((po [(sp 4 0),(sp 7 1)] [.inl (.inl (.int .i64)::ps [.inl (.sl 2),.inl (.sl 5)]),.inl [.inl (.int .i64),.inl (.sl 1),.inl (.sl 4),.inr (.t (.ak 2)),.inl (.sl 2),.inl (.sl 2),.inl (.sl 5)],.inr 1] p)) (some ([.agg [vi p 1 0,.sl 1 (ve p 1 1),.sl 4 (ve p 1 2),.sl 1 (ae p 2),.sl 2 (ve p 1 4),.sl 2 (ve p 1 5),.sl 5 (ve p 1 6)],.p (n 0)],[])) none) none) none) none) none)) none)) none):=by kernel_rfl
theorem NZ (F b d h i j m o q s u w y z)(a e f g k l:Int):Eq (lp E F 45 0 [] 0 ⟨[a,.sl 3 b,.sl 3 d,e,f],[.box (bd g h i j k l []),.box (pw m o q s []),.box (pw u w y z [])]⟩) (ctl (aT f e) (aG d f λc=>ctl (c3 c) (aj (F 72 [G g h i j k l,W m o q s,a,.agg [ci c 0,ci c 1,ci c 2]] []) λr=>ctl (k0 [.bm [.ow 1,.ow 4,.ow 1,.ow 2],.one (.int .i64)] r) (ctl ((ri r 1:Int) !=0) (some (.ret,⟨[a,f,ri r 1],[.box (pw m o q s [])]⟩)) (ctl ((ci c 0:Int)==7) (lp E F 45 0 [] 0 ⟨[(wr (a+1)),.sl 3 b,.sl 3 d,e,(wr (f+1))],[.box (bd g h i j k l []),.box (pw (oe r 0 0) (oe r 0 1) (oe r 0 2) (oe r 0 3) []),.box (pw u w y z [])]⟩) (lp E F 45 0 [] 0 ⟨[a,.sl 3 b,.sl 3 d,e,(wr (f+1))],[.box (bd g h i j k l []),.box (pw (oe r 0 0) (oe r 0 1) (oe r 0 2) (oe r 0 3) []),.box (pw u w y z [])]⟩))) none) none) (some (.exit 0,⟨[a,.sl 3 b],[.box (pw m o q s []),.box (pw u w y z [])]⟩))):=lu (by kernel_rfl)
theorem r45 (F b d e h i j k m)(a f g l:Int):Eq (aI E F 45 [G a b d e f g,W h i j k,l,.sl 3 m] []) (aj (F 31 [G a b d e f g,W h i j k] []) λr=>ctl (ki r) (ctl ((ri r 0:Int) !=0) (some ([.agg [PV.bN,PV.bN,PV.bN,PV.bN],.p (n 0),.p (n 0),.p (ri r 0)],[])) (aj (F 57 [W h i j k] []) λr=>ctl (k0 [.bm [.ow 1,.ow 4,.ow 1,.ow 2]] r) (aj (lp E F 45 0 [] 0 ⟨[l,.sl 3 m,.sl 3 m,(ln m),n 0],[.box (bd a b d e f g []),.box (pw (oe r 0 0) (oe r 0 1) (oe r 0 2) (oe r 0 3) []),.box (pw ([]) ([]) ([]) ([]) [])]⟩) λp=>ctl (x 0 p) (ctl ((po [(sj 2),(sl 3 3),(sp 5 0),(sp 8 1)] [.inl (ps []),.inl (ps [])] p)) (some ([.agg (YJ p 0),.p (xi p 0),.p (n (↑(xe p 1:LE).length:Int)),.p (n 0)],[])) none) (ctl (p.fst.iI .ret) (ctl ((po [(sp 8 0),(sj 9),(sj 10),(sj 11)] [.inl (ps [])] p)) (some ([.agg (YJ p 0),.p (xi p 0),.p (xi p 1),.p (xi p 2)],[])) none) none)) none)) none):=by kernel_rfl
theorem r46 (F b d e h i j k)(a f g:Int):Eq (aI E F 46 [G a b d e f g,W h i j k] []) (aj (F 31 [G a b d e f g,W h i j k] []) λr=>ctl (ki r) (ctl ((ri r 0:Int)==0) (aj (F 12 [G a b d e f g,W h i j k] []) λr=>ctl (k0 [.one (.sl 3)] r) (aj (F 89 [.sl 3 (re r 0),.fn 90 []] []) λr=>ctl (kb r) (some ([.p (.bool !(rb r 0))],[])) none) none) (some ([.p (.bool false)],[]))) none):=by kernel_rfl
theorem LX (F a)(b d:Int):Eq (lp E F 84 0 [AV.undef,.fn 90 []] 0 ⟨[.sl 3 a,b,d],[]⟩) (ctl (aT d b) (aG a d λc=>ctl (bL [.sl 1,.sl 1,.sl 1] c) (aj (F 90 [.agg [.sl 1 (ce c 0),.sl 1 (ce c 1),.sl 1 (ce c 2)]] []) λr=>ctl (kb r) (ctl (rb r 0) (some (.ret,⟨[d],[]⟩)) (lp E F 84 0 [AV.undef,.fn 90 []] 0 ⟨[.sl 3 a,b,(wr (d+1))],[]⟩)) none) none) (some (.exit 0,⟨[],[]⟩))):=lu (by kernel_rfl)
theorem ajA (F a):Eq (aI E F 84 [.sl 3 a,.fn 90 []] []) (aj (lp E F 84 0 [AV.undef,.fn 90 []] 0 ⟨[.sl 3 a,(ln a),n 0],[]⟩) λp=>ctl (x 0 p) (some ([.p (n (-1))],[])) (e1 4 p)):=by kernel_rfl
theorem ajz (F a):Eq (aI E F 89 [.sl 3 a,.fn 90 []] []) (aj (F 84 [.sl 3 a,.fn 90 []] []) λr=>ctl (ki r) (some ([.p (.bool (bJ 0 (ri r 0)))],[])) none):=by kernel_rfl
theorem r90 (F a b d):Eq (aI E F 90 [.agg [.sl 1 a,.sl 1 b,.sl 1 d]] []) (some ([.p (.bool (aT 0 (↑b.length:Int)))],[])):=by kernel_rfl
theorem aei (F a f g h q s u w y z B C D H J K L)(A b d e i j k l m o:Int):Eq (lp E F 22 0 [] 0 ⟨[.sl 3 a,b,d],[.box (bd e f g h i j []),.box [k,l,m],.box (.int .i64 o::pw q s u w [.sl 2 y,.sl 5 z]),.box (.int .i64 A::pw B C D H [.sl 2 J,.sl 5 K]),a3 L]⟩) (ctl (aT d b) (aG a d λc=>ctl (c3 c) (ctl ((ci c 0:Int) !=7) (ctl (iW ((L.length+1)*24) 140737488355328) (lp E F 22 0 [] 0 ⟨[.sl 3 a,b,(wr (d+1))],[.box (bd e f g h i j []),.box [k,l,m],.box (.int .i64 o::pw q s u w [.sl 2 y,.sl 5 z]),.box (.int .i64 A::pw B C D H [.sl 2 J,.sl 5 K]),a3 (L++([[ci c 0,ci c 1,ci c 2]]:LE))]⟩) none) (aj (F 10 [G e f g h i j,.agg [k,l,m],.agg [o,.sl 1 q,.sl 4 s,.sl 1 u,.sl 2 w,.sl 2 y,.sl 5 z],.sl 3 L] []) λr=>ctl (k0 [.agg [.int .i64,.sl 1,.sl 4,.sl 1,.sl 2,.sl 2,.sl 5],.one (.sl 5),.one (.int .i64)] r) (aj (ctl (!(ri r 2:Int) !=0) (some (aT (↑(re r 1:LE).length:Int) (↑L.length:Int))) (some true)) λv=>ctl v (some (.ret,⟨[.bool false],[.box (.int .i64 o::pw q s u w [.sl 2 y,.sl 5 z])]⟩)) (lp E F 22 0 [] 0 ⟨[.sl 3 a,b,(wr (d+1))],[.box (bd e f g h i j []),.box [k,l,m],.box (si r 0 0::pw (se r 0 1) (se r 0 2) (se r 0 3) (se r 0 4) [.sl 2 (se r 0 5),.sl 5 (se r 0 6)]),.box (.int .i64 A::pw B C D H [.sl 2 J,.sl 5 K]),a3 []]⟩)) none)) none) (some (.exit 0,⟨[],[.box (.int .i64 o::pw q s u w [.sl 2 y,.sl 5 z]),.box (.int .i64 A::pw B C D H [.sl 2 J,.sl 5 K])]⟩))):=lu (by kernel_rfl)
theorem r22 (F b d e l m o q s u w)(a f g h i j k:Int):Eq (aI E F 22 [G a b d e f g,.agg [h,i,j],.agg [k,.sl 1 l,.sl 4 m,.sl 1 o,.sl 2 q,.sl 2 s,.sl 5 u],.sl 3 w] []) (ctl (iW (w.length*24) 140737488355328) (ctl (iW ((w.length+1)*24) 140737488355328) (aj (lp E F 22 0 [] 0 ⟨[.sl 3 (w++([[n 7,n 0,n 0]]:LE)),.int .i64 (↑(w++([[n 7,n 0,n 0]]:LE)).length:Int),n 0],[.box (bd a b d e f g []),.box [h,i,j],.box (.int .i64 k::pw l m o q [.sl 2 s,.sl 5 u]),.box (.int .i64 0::pw ([]) ([]) ([]) ([]) [.sl 2 [],.sl 5 []]),a3 []]⟩) λp=>ctl (x 0 p) (ctl ((po [(sp 6 0),(sp 8 1)] [.inl (.inl (.int .i64)::ps [.inl (.sl 2),.inl (.sl 5)]),.inl (.inl (.int .i64)::ps [.inl (.sl 2),.inl (.sl 5)])] p)) (some ([.agg [vi p 0 0,.sl 1 (ve p 0 1),.sl 4 (ve p 0 2),.sl 1 (ve p 0 3),.sl 2 (ve p 0 4),.sl 2 (ve p 0 5),.sl 5 (ve p 0 6)],.p (.bool true)],[])) none) (ctl (p.fst.iI .ret) (ctl ((po [(sp 8 0),(9,.inl .bool)] [.inl (.inl (.int .i64)::ps [.inl (.sl 2),.inl (.sl 5)])] p)) (some ([.agg [vi p 0 0,.sl 1 (ve p 0 1),.sl 4 (ve p 0 2),.sl 1 (ve p 0 3),.sl 2 (ve p 0 4),.sl 2 (ve p 0 5),.sl 5 (ve p 0 6)],.p (.bool (xb p 0))],[])) none) none)) none) none):=by kernel_rfl
theorem r3 (F a):Eq (aI E F 3 [.sl 1 a] []) (aj (F 5 [.sl 1 a] []) λr=>ctl (k0 [.kI [.sl 1,.int .i64]] r) (aj (F 6 [.t (.ptr 0 0)] [.box [.sl 1 (se r 0 0),si r 0 1]]) λr=>ctl (kT [.agg [.int .i64,.sl 3,.sl 3,.sl 5,.int .i64,.int .i64]] r) (aj (F 7 [.t (.ptr 0 0),n 2] [.box [.sl 1 (we r 0 0),wi r 0 1]]) λaV=>ctl (kS aV) (aj (F 8 [.t (.ptr 0 0),.agg (Oe (si r 0 0) (se r 0 1) (se r 0 2) (se r 0 3) (si r 0 4) (si r 0 5))] [.box [.sl 1 (we aV 0 0),wi aV 0 1]]) λej=>ctl (kT [.agg [.int .i64,.sl 1,.sl 4,.sl 1,.sl 2,.sl 2,.sl 5]] ej) (aj (lp E F 3 0 [] 0 ⟨[n 0],[.box (bd (si r 0 0) (se r 0 1) (se r 0 2) (se r 0 3) (si r 0 4) (si r 0 5) []),.box [n 90,n 40,ri aV 0],.box (si ej 0 0::pw (se ej 0 1) (se ej 0 2) (se ej 0 3) (se ej 0 4) [.sl 2 (se ej 0 5),.sl 5 (se ej 0 6)])]⟩) λp=>ctl (x 0 p) (ctl ((po [(sp 4 0),(sp 5 1),(sp 6 2)] [.inl (bs []),.inl [.inl (.int .i64),.inl (.int .i64),.inl (.int .i64)],.inl (.inl (.int .i64)::ps [.inl (.sl 2),.inl (.sl 5)])] p)) (aj (F 12 [.agg (CQ p 0),.agg (rC (ve p 2 1) (ve p 2 2) (ve p 2 3) (ve p 2 4))] []) λr=>ctl (k0 [.one (.sl 3)] r) (aj (lp E F 3 0 [] 4 ⟨[.sl 3 (re r 0),n (↑(re r 0:LE).length:Int),n 0],[.box (kh p 0 []),.box [vi p 1 0,vi p 1 1,vi p 1 2],.box (vi p 2 0::pw (ve p 2 1) (ve p 2 2) (ve p 2 3) (ve p 2 4) [.sl 2 (ve p 2 5),.sl 5 (ve p 2 6)])]⟩) λp=>ctl (x 4 p) (aj (F 15 [] []) λr=>ctl (kb r) (some ([.p (.bool (rb r 0))],[])) none) (e2 2 p)) none) none) (e2 2 p)) none) none) none) none):=by kernel_rfl
theorem ajb (F e f g o q s u w y)(a b d h i j k l m:Int):Eq (lp E F 4 0 [] 0 ⟨[a,b],[.box (bd d e f g h i []),.box [j,k,l],.box (.int .i64 m::pw o q s u [.sl 2 w,.sl 5 y])]⟩) (ctl (aT b a) (aj (F 17 [G d e f g h i,n 2,b] []) λr=>ctl (k0 [.one (.sl 1)] r) (ctl ((↑(re r 0:LE).length:Int) !=1) (some (.ret,⟨[.bool false],[]⟩)) (aG (re r 0) 0 λc=>ctl (c1 c) (aj (F 18 [G d e f g h i,.agg [m,.sl 1 o,.sl 4 q,.sl 1 s,.sl 2 u,.sl 2 w,.sl 5 y],.agg [n 2,ci c 0,n 0]] []) λr=>ctl (k0 [.agg [.int .i64,.sl 1,.sl 4,.sl 1,.sl 2,.sl 2,.sl 5],.one (.sl 4),.one (.int .i64)] r) (ctl ((ri r 2:Int) !=0) (some (.ret,⟨[.bool false],[]⟩)) (lp E F 4 0 [] 0 ⟨[a,(wr (b+1))],[.box (bd d e f g h i []),.box [j,k,l],.box (si r 0 0::pw (se r 0 1) (se r 0 2) (se r 0 3) (se r 0 4) [.sl 2 (se r 0 5),.sl 5 (se r 0 6)])]⟩)) none) none)) none) (some (.exit 0,⟨[],[.box (bd d e f g h i []),.box [j,k,l],.box (.int .i64 m::pw o q s u [.sl 2 w,.sl 5 y])]⟩))):=lu (by kernel_rfl)
theorem aja (F a f g h l m o q s u)(b d e i j k:Int):Eq (lp E F 4 0 [] 2 ⟨[.sl 1 a,b,d],[.box (bd e f g h i j []),.box (.int .i64 k::pw l m o q [.sl 2 s,.sl 5 u])]⟩) (ctl (aT d b) (aG a d λc=>ctl (c0 c) (aj (ctl (cb c 0) (aj (F 24 [G e f g h i j,W l m o q,d] []) λr=>ctl (kb r) (some !(rb r 0)) none) (some false)) λv=>ctl v (some (.ret,⟨[.bool false],[]⟩)) (lp E F 4 0 [] 2 ⟨[.sl 1 a,b,(wr (d+1))],[.box (bd e f g h i j []),.box (.int .i64 k::pw l m o q [.sl 2 s,.sl 5 u])]⟩)) none) (some (.exit 2,⟨[],[.box (bd e f g h i j []),.box (.int .i64 k::pw l m o q [.sl 2 s,.sl 5 u])]⟩))):=lu (by kernel_rfl)
theorem r4 (F a):Eq (aI E F 4 [.sl 1 a] []) (aj (F 5 [.sl 1 a] []) λr=>ctl (k0 [.kI [.sl 1,.int .i64]] r) (aj (F 6 [.t (.ptr 0 0)] [.box [.sl 1 (se r 0 0),si r 0 1]]) λr=>ctl (kT [.agg [.int .i64,.sl 3,.sl 3,.sl 5,.int .i64,.int .i64]] r) (aj (F 16 [.t (.ptr 0 0)] [.box [.sl 1 (we r 0 0),wi r 0 1]]) λaV=>ctl (kT [.agg [.int .i64,.int .i64,.int .i64]] aV) (aj (F 8 [.t (.ptr 0 0),.agg (Oe (si r 0 0) (se r 0 1) (se r 0 2) (se r 0 3) (si r 0 4) (si r 0 5))] [.box [.sl 1 (we aV 0 0),wi aV 0 1]]) λej=>ctl (kT [.agg [.int .i64,.sl 1,.sl 4,.sl 1,.sl 2,.sl 2,.sl 5]] ej) (aj (lp E F 4 0 [] 0 ⟨[n (↑(se r 0 2:LE).length:Int),n 0],[.box (bd (si r 0 0) (se r 0 1) (se r 0 2) (se r 0 3) (si r 0 4) (si r 0 5) []),.box [si aV 0 0,si aV 0 1,n 600],.box (si ej 0 0::pw (se ej 0 1) (se ej 0 2) (se ej 0 3) (se ej 0 4) [.sl 2 (se ej 0 5),.sl 5 (se ej 0 6)])]⟩) λp=>ctl (x 0 p) (ctl ((po [(sp 4 0),(sp 5 1),(sp 6 2)] [.inl (bs []),.inl [.inl (.int .i64),.inl (.int .i64),.inl (.int .i64)],.inl (.inl (.int .i64)::ps [.inl (.sl 2),.inl (.sl 5)])] p)) (aj (F 19 [.agg (CQ p 0),.agg (rC (ve p 2 1) (ve p 2 2) (ve p 2 3) (ve p 2 4))] []) λr=>ctl (k0 [.bm [.ow 1,.ow 4,.ow 1,.ow 2],.own 3,.one (.int .i64)] r) (ctl ((ri r 2:Int) !=0) (some ([.p (.bool false)],[])) (aj (F 20 [.agg (CQ p 0),.agg (rC (oe r 0 0) (oe r 0 1) (oe r 0 2) (oe r 0 3))] []) λia=>ctl (k0 [.one (.sl 3),.one (.int .i64)] ia) (ctl ((ri ia 1:Int) !=0) (aj (ctl (!(ri ia 1:Int)==9) (some ((ri ia 1:Int)==11)) (some true)) λv=>aj (ctl v (aj (F 15 [] []) λr=>ctl (kb r) (some (rb r 0:Bool)) none) (some false)) λv=>some ([.p (.bool v)],[])) (aj (F 21 [.agg (CQ p 0),.agg (rC (oe r 0 0) (oe r 0 1) (oe r 0 2) (oe r 0 3))] []) λrY=>ctl (k0 [.one (.sl 1)] rY) (aj (F 22 [.agg (CQ p 0),.agg [vi p 1 0,vi p 1 1,vi p 1 2],.agg [vi p 2 0,.sl 1 (oe r 0 0),.sl 4 (oe r 0 1),.sl 1 (oe r 0 2),.sl 2 (oe r 0 3),.sl 2 (ve p 2 5),.sl 5 (ve p 2 6)],.sl 3 (re ia 0)] []) λr=>ctl (k0 [.agg [.int .i64,.sl 1,.sl 4,.sl 1,.sl 2,.sl 2,.sl 5],.one .bool] r) (aj (ctl (!!(rb r 1)) (aj (F 23 [.agg (CQ p 0)] []) λr=>ctl (ki r) (some (aT (ri r 0) (↑(re ia 0:LE).length:Int))) none) (some true)) λv=>aj (ctl (!v) (aj (F 23 [.agg (CQ p 0)] []) λvP=>ctl (k0 [.one (.int .i64)] vP) (some (aT (IntKind.i64.wrap (1+(ri vP 0:Int))) (IntKind.i64.wrap ((si r 0 0:Int)-(vi p 2 0:Int))))) none) (some true)) λv=>ctl v (some ([.p (.bool false)],[])) (aj (lp E F 4 0 [] 2 ⟨[.sl 1 (re rY 0),n (↑(re rY 0:LE).length:Int),n 0],[.box (kh p 0 []),.box (si r 0 0::pw (se r 0 1) (se r 0 2) (se r 0 3) (se r 0 4) [.sl 2 (se r 0 5),.sl 5 (se r 0 6)])]⟩) λp=>ctl (x 2 p) (ctl ((po [(sp 4 0),(sp 18 1)] [.inl (bs []),.inl (.inl (.int .i64)::ps [.inl (.sl 2),.inl (.sl 5)])] p)) (aj (F 25 [.agg (CQ p 0),.agg (rC (ve p 1 1) (ve p 1 2) (ve p 1 3) (ve p 1 4))] []) λr=>ctl (kb r) (aj (ctl (rb r 0) (aj (F 15 [] []) λr=>ctl (kb r) (some (rb r 0:Bool)) none) (some false)) λv=>some ([.p (.bool v)],[])) none) none) (e2 2 p))) none) none)) none)) none) none) (e2 2 p)) none) none) none) none):=by kernel_rfl
end
structure fX where
 k:Nat
 a:Nat
 b:Nat
 deriving DecidableEq,Inhabited
structure Gen where
 cd:Nat
 least:Nat
 start:Nat
 deriving DecidableEq,Inhabited
structure Con where
 load:Nat
 least:Nat
 vW:Nat
 RN:Int
 needs:List Nat
 deriving DecidableEq,Inhabited
structure Bd where
 n:Nat
 aO:List fX
 ar:List Gen
 cons:List Con
 phase:Nat
 eZ:Nat
 deriving DecidableEq,Inhabited
structure gL where
 st:Nat
 since:Nat
 fr:Nat
 ph:Nat
 deriving DecidableEq,Inhabited
structure Pw where
 closed:List Bool
 aA:List gL
 gJ:List Nat
 broken:List (Nat×Nat)
 deriving DecidableEq,Inhabited
def Br (l:List (fX×Bool))(i j:Nat):Prop:=∃x∈l,x.2=true/\x.1.k=1/\x.1.a=i/\x.1.b=j
inductive dG (l:List (fX×Bool)):Nat->Nat->Prop
 |refl (i:Nat):dG l i i
 |fwd {i j k:Nat}:dG l i j->Br l j k->dG l i k
 |bwd {i j k:Nat}:dG l i j->Br l k j->dG l i k
theorem dG.trans {l:List (fX×Bool)}{i j k:Nat}(h1:dG l i j)(h2:dG l j k):dG l i k:=by
 induction h2 with
 |refl=>exact h1
 |fwd _ t ih=>exact ih.fwd t
 |bwd _ t ih=>exact ih.bwd t
theorem dG.symm {l:List (fX×Bool)}{i j:Nat}(h:dG l i j):dG l j i:=by
 induction h with
 |refl=>exact .refl _
 |fwd _ t ih=>exact(dG.bwd (.refl _) t).trans ih
 |bwd _ t ih=>exact(dG.fwd (.refl _) t).trans ih
theorem dG.mono {l l':List (fX×Bool)}(h:∀i j,Br l i j->Br l' i j){i j:Nat}(hc:dG l i j):dG l' i j:=by
 induction hc with
 |refl=>exact .refl _
 |fwd _ t ih=>exact ih.fwd (h _ _ t)
 |bwd _ t ih=>exact ih.bwd (h _ _ t)
def cv (f:List Nat)(x:fX×Bool):List Nat:=
 if x.1.k=1/\x.2=true then(f.set x.1.a (min (f.getD x.1.a 0) (f.getD x.1.b 0))).set x.1.b (min (f.getD x.1.a 0) (f.getD x.1.b 0)) else f
def dF (l:List (fX×Bool))(f:List Nat):List Nat:=l.foldl cv f
def rounds (l:List (fX×Bool)):Nat->List Nat->List Nat
 |0,f=>f
 |n+1,f=>rounds l n (dF l f)
def F9 (n:Nat)(l:List (fX×Bool)):List Nat:=rounds l n (List.range n)
structure yz (n:Nat)(l:List (fX×Bool))(f:List Nat):Prop where
 len:f.length=n
 le:∀i,i<n->f.getD i 0<=i
 zL:∀i,i<n->dG l (f.getD i 0) i
theorem nA {f:List Nat}{i j v:Nat}(hi:i<f.length):(f.set i v).getD j 0=if j=i then v else f.getD j 0:=by
 simp only[dD,qy];by_cases h:j=i
 ·subst h;simp[hi]
 ·simp[h,vd h]
theorem Ga {n:Nat}{l:List (fX×Bool)}{f:List Nat}(h:yz n l f){x:fX×Bool}(hx:x∈l)(ht:∀x∈l,x.1.k=1->x.1.a<x.1.b/\x.1.b<n):yz n l (cv f x):=by
 unfold cv;split
 ·rename_i hc;obtain⟨h1,h2⟩:=ht x hx hc.1;have ha:x.1.a<n:=by omega
  have tie:Br l x.1.a x.1.b:=⟨x,hx,hc.2,hc.1,rfl,rfl⟩
  have g:∀j,((f.set x.1.a (min (f.getD x.1.a 0) (f.getD x.1.b 0))).set x.1.b (min (f.getD x.1.a 0) (f.getD x.1.b 0))).getD j 0=if j=x.1.b then min (f.getD x.1.a 0) (f.getD x.1.b 0) else if j=x.1.a then min (f.getD x.1.a 0) (f.getD x.1.b 0) else f.getD j 0:=λj=>by
   rw[nA (by rw[vn,h.len];exact h2),nA (by rw[h.len];exact ha)]
  refine⟨by simp[h.len],λi hi=> ?_,λi hi=> ?_⟩
  ·rw[g];have:=h.le i hi;have h3:=h.le x.1.a ha;have h4:=h.le x.1.b h2;split
   ·omega
   ·split
    ·omega
    ·exact this
  ·rw[g];have c1:=h.zL x.1.a ha;have c2:=h.zL x.1.b h2;have cm:dG l (min (f.getD x.1.a 0) (f.getD x.1.b 0)) x.1.a:=by
    rcases Nat.le_total (f.getD x.1.a 0) (f.getD x.1.b 0)with h5|h5
    ·rw[Nat.min_eq_left h5];exact c1
    ·rw[Nat.min_eq_right h5];exact c2.bwd tie
   split
   ·rename_i e;subst e;exact cm.fwd tie
   ·split
    ·rename_i e;subst e;exact cm
    ·exact h.zL i hi
 ·exact h
theorem GP {n:Nat}{l:List (fX×Bool)}{f:List Nat}(h:yz n l f){x:fX×Bool}(hx:x∈l)(ht:∀x∈l,x.1.k=1->x.1.a<x.1.b/\x.1.b<n)(j:Nat):(cv f x).getD j 0<=f.getD j 0:=by
 unfold cv;split
 ·rename_i hc;obtain⟨h1,h2⟩:=ht x hx hc.1;rw[nA (by rw[vn,h.len];exact h2),nA (by rw[h.len];omega)];split
  ·rename_i e;subst e;omega
  ·split
   ·rename_i e;subst e;omega
   ·exact dB _
 ·exact dB _
theorem th {n:Nat}{l:List (fX×Bool)}(ht:∀x∈l,x.1.k=1->x.1.a<x.1.b/\x.1.b<n):∀(m:List (fX×Bool)) (f:List Nat),(∀x∈m,x∈l)->yz n l f->yz n l (m.foldl cv f)/\∀j,(m.foldl cv f).getD j 0<=f.getD j 0
 |[],f,_,h=>⟨h,λj=>dB _⟩
 |x::m,f,hm,h=>by
  have h1:=Ga h (hm x (by simp)) ht;obtain⟨h2,h3⟩:=th ht m (cv f x) (λy hy=>hm y (by simp[hy])) h1;exact⟨h2,λj=>jS (h3 j) (GP h (hm x (by simp)) ht j)⟩
theorem DO {n:Nat}{l:List (fX×Bool)}(ht:∀x∈l,x.1.k=1->x.1.a<x.1.b/\x.1.b<n):∀(m:List (fX×Bool)) (f:List Nat),(∀x∈m,x∈l)->yz n l f->∀x∈m,x.1.k=1->x.2=true->
  (m.foldl cv f).getD x.1.a 0<=f.getD x.1.b 0/\(m.foldl cv f).getD x.1.b 0<=f.getD x.1.a 0
 |[],f,_,_,x,hx,_,_=>by cases hx
 |y::m,f,hm,h,x,hx,hk,hc=>by
  have h1:=Ga h (hm y (by simp)) ht;have MF:∀z∈m,z∈l:=λz hz=>hm z (by simp[hz]);simp only[je];rcases gI.1 hx with rfl|hx
  ·obtain⟨_,h3⟩:=th ht m (cv f x) MF h1;obtain⟨h4,h5⟩:=ht x (hm x (by simp)) hk;have ga:=h3 x.1.a;have gb:=h3 x.1.b;have e:cv f x=(f.set x.1.a (min (f.getD x.1.a 0) (f.getD x.1.b 0))).set x.1.b (min (f.getD x.1.a 0) (f.getD x.1.b 0)):=by unfold cv;rw[aK ⟨hk,hc⟩]
   have ea:(cv f x).getD x.1.a 0=min (f.getD x.1.a 0) (f.getD x.1.b 0):=by
    rw[e,nA (by rw[vn,h.len];exact h5),nA (by rw[h.len];omega),aK rfl];split<;>rfl
   have eb:(cv f x).getD x.1.b 0=min (f.getD x.1.a 0) (f.getD x.1.b 0):=by
    rw[e,nA (by rw[vn,h.len];exact h5),aK rfl]
   omega
  ·obtain⟨h3,h4⟩:=DO ht m (cv f y) MF h1 x hx hk hc;exact⟨jS h3 (GP h (hm y (by simp)) ht _),jS h4 (GP h (hm y (by simp)) ht _)⟩
theorem tT {n:Nat}{l:List (fX×Bool)}(ht:∀x∈l,x.1.k=1->x.1.a<x.1.b/\x.1.b<n){f:List Nat}(h:yz n l f):yz n l (dF l f):=(th ht l f (λ_ h=>h) h).1
theorem qq {n:Nat}{l:List (fX×Bool)}(ht:∀x∈l,x.1.k=1->x.1.a<x.1.b/\x.1.b<n):∀(k:Nat) {f:List Nat},yz n l f->yz n l (rounds l k f)
 |0,_,h=>h
 |k+1,_,h=>qq ht k (tT ht h)
theorem tV (n:Nat)(l:List (fX×Bool)):yz n l (List.range n):=by
 have g:∀i,i<n->(List.range n).getD i 0=i:=λi hi=>by simp[dD,hi]
 exact⟨by simp,λi hi=>by rw[g i hi];exact dB _,λi hi=>by rw[g i hi];exact .refl _⟩
def good (f:List Nat)(m n:Nat):Nat:=(List.range n).countP λi=>f.getD i 0==m
theorem HV {n:Nat}{l:List (fX×Bool)}(ht:∀x∈l,x.1.k=1->x.1.a<x.1.b/\x.1.b<n){i j:Nat}(h:dG l i j)(hi:i<n):j<n:=by
 induction h with
 |refl=>exact hi
 |fwd _ t _=>obtain⟨x,hx,_,hk,rfl,rfl⟩:=t;exact(ht x hx hk).2
 |bwd _ t _=>obtain⟨x,hx,_,hk,rfl,rfl⟩:=t;have:=ht x hx hk;omega
theorem amm {l:List (fX×Bool)}{P:Nat->Prop}{i j:Nat}(h:dG l i j)(hi:P i)(hj:¬P j):∃a b,(Br l a b\/Br l b a)/\dG l i a/\P a/\¬P b:=by
 induction h with
 |refl=>exact absurd hi hj
 |fwd h1 t ih=>
  rename_i j' k';by_cases hp:P j'
  ·exact⟨j',k',.inl t,h1,hp,hj⟩
  ·exact ih hp
 |bwd h1 t ih=>
  rename_i j' k';by_cases hp:P j'
  ·exact⟨j',k',.inr t,h1,hp,hj⟩
  ·exact ih hp
theorem Gi {p q:Nat->Bool}(n b:Nat)(Ig:∀i,i<n->p i=true->q i=true)(hb:b<n)(h1:p b=false)(h2:q b=true):(List.range n).countP p<(List.range n).countP q:=by
 induction n with
 |zero=>omega
 |succ n ih=>
  rw[Cz,Cy,Cy];simp only[iw,List.countP_nil,dy];by_cases OJ:b=n
  ·subst OJ;have:(List.range b).countP p<=(List.range b).countP q:=List.countP_mono_left λi hi hp=>Ig i (by have:=gR.1 hi;omega) hp;rw[h1,h2];simp only[oQ,yZ,vg];omega
  ·have:=ih (λi hi=>Ig i (by omega)) (by omega);have h3:=Ig n (by omega);split
   ·rename_i hp;rw[aK (h3 hp)];omega
   ·split<;>omega
theorem MN {n:Nat}{l:List (fX×Bool)}(ht:∀x∈l,x.1.k=1->x.1.a<x.1.b/\x.1.b<n){f:List Nat}(h:yz n l f){m:Nat}(hm:m<n)(JZ:∀i,dG l m i->m<=i):
  (∀i,dG l m i->f.getD i 0=m)\/good f m n<good (dF l f) m n:=by
 by_cases hall:∀i,dG l m i->f.getD i 0=m
 ·exact .inl hall
 right;have:∃i,dG l m i/\f.getD i 0≠m:=by
  refine acR λhne=>hall λi hi=>acR λh2=>hne ⟨i,hi,h2⟩
 obtain⟨i,hi,hne⟩:=this;have hmm:f.getD m 0=m:=by
  have h1:=h.le m hm;have h2:=JZ _ (h.zL m hm).symm;omega
 obtain⟨a,b,hab,hca,hfa,hfb⟩:=amm (P:=λj=>f.getD j 0=m) hi hmm hne;have hcb:dG l m b:=by
  rcases hab with t|t
  ·exact hca.fwd t
  ·exact hca.bwd t
 have OJ:b<n:=HV ht hcb hm;obtain⟨hI,hle⟩:=th ht l f (λ_ h=>h) h;have low:∀j,dG l m j->j<n->m<=(dF l f).getD j 0:=λj hj hjn=>JZ _ (hj.trans (hI.zL j hjn).symm);have key:(dF l f).getD b 0=m:=by
  have h1:=low b hcb OJ;have:(dF l f).getD b 0<=m:=by
   rcases hab with⟨x,hx,h2,h3,rfl,rfl⟩|⟨x,hx,h2,h3,rfl,rfl⟩
   ·have:=(DO ht l f (λ_ h=>h) h x hx h3 h2).2;unfold dF;omega
   ·have:=(DO ht l f (λ_ h=>h) h x hx h3 h2).1;unfold dF;omega
  omega
 refine Gi n b (λj hj hp=> ?_) OJ (by simpa using hfb) (by simpa using key);have hp:f.getD j 0=m:=by simpa using hp
 have hcj:dG l m j:=by have:=h.zL j hj;rwa [hp]at this
 have h1:=low j hcj hj;have h2:=hle j;have:(dF l f).getD j 0=m:=by unfold dF at h1|-;omega
 simpa using this
theorem AR {n:Nat}{l:List (fX×Bool)}(ht:∀x∈l,x.1.k=1->x.1.a<x.1.b/\x.1.b<n){m:Nat}(hm:m<n)(JZ:∀i,dG l m i->m<=i):∀(k:Nat) (f:List Nat),yz n l f->
  (∀i,dG l m i->(rounds l k f).getD i 0=m)\/good f m n+k<=good (rounds l k f) m n
 |0,f,_=>.inr (dB _)
 |k+1,f,h=>by
  have h1:=tT ht h;rcases AR ht hm JZ k (dF l f) h1 with h2|h2
  ·exact .inl h2
  ·rcases MN ht h hm JZ with h3|h3
   ·
    left;have stay:∀(k:Nat) (g:List Nat),yz n l g->(∀i,dG l m i->g.getD i 0=m)->∀i,dG l m i->(rounds l k g).getD i 0=m:=by
     intro k
     induction k with
     |zero=>intro g _ hg;exact hg
     |succ k ih=>
      intro g hg ha;refine ih (dF l g) (tT ht hg) λi hi=> ?_;have pT:=HV ht hi hm;have h4:=(th ht l g (λ_ h=>h) hg).2 i;have h5:=JZ _ (hi.trans ((tT ht hg).zL i pT).symm);rw[ha i hi]at h4;unfold dF at h5|-;omega
    exact stay (k+1) f h h3
   ·right;show good f m n+(k+1)<=good (rounds l k (dF l f)) m n;omega
theorem Um {l:List (fX×Bool)}(i:Nat):∃m,dG l i m/\∀j,dG l i j->m<=j:=by
 have:∀k,(∃m,dG l i m/\m<=k)->∃m,dG l i m/\∀j,dG l i j->m<=j:=by
  intro k
  induction k with
  |zero=>
   rintro⟨m,h1,h2⟩;exact⟨m,h1,λj _=>by omega⟩
  |succ k ih=>
   rintro⟨m,h1,h2⟩;by_cases h:∃m',dG l i m'/\m'<=k
   ·exact ih h
   ·exact⟨m,h1,λj hj=>acR λhlt=>h ⟨j,hj,by omega⟩⟩
 exact this i ⟨i,.refl i,dB _⟩
theorem uw {n:Nat}{l:List (fX×Bool)}(ht:∀x∈l,x.1.k=1->x.1.a<x.1.b/\x.1.b<n){i:Nat}(hi:i<n):dG l ((F9 n l).getD i 0) i/\∀j,dG l i j->(F9 n l).getD i 0<=j:=by
 obtain⟨m,h1,h2⟩:=Um (l:=l) i;have hm:m<n:=HV ht h1 hi;have hI:=qq ht n (tV n l);have JZ:∀j,dG l m j->m<=j:=λj hj=>h2 j (h1.trans hj);refine⟨hI.zL i hi,?_⟩;have:(F9 n l).getD i 0=m:=by
  rcases AR ht hm JZ n (List.range n) (tV n l)with h3|h3
  ·exact h3 i h1.symm
  ·have h4:good (rounds l n (List.range n)) m n<=n:=by
    unfold good;have:=List.countP_le_length (p:=λi=>(rounds l n (List.range n)).getD i 0==m) (l:=List.range n);simpa using this
   have h5:0<good (List.range n) m n:=by
    unfold good;refine List.countP_pos_iff.2 ⟨m,gR.2 hm,?_⟩;simp[dD,hm]
   omega
 rw[this];exact h2
theorem aah {n:Nat}{l:List (fX×Bool)}(ht:∀x∈l,x.1.k=1->x.1.a<x.1.b/\x.1.b<n){i j:Nat}(hi:i<n)(hj:j<n):(F9 n l).getD i 0=(F9 n l).getD j 0↔dG l i j:=by
 obtain⟨h1,h2⟩:=uw ht hi;obtain⟨h3,h4⟩:=uw ht hj;constructor
 ·intro h;rw[h]at h1;exact h1.symm.trans h3
 ·intro h;have h5:=h2 _ (h.trans h3.symm);have h6:=h4 _ (h.symm.trans h1.symm);omega
theorem DI {n:Nat}{l:List (fX×Bool)}(ht:∀x∈l,x.1.k=1->x.1.a<x.1.b/\x.1.b<n):(F9 n l).length=n:=(qq ht n (tV n l)).len
theorem VU {n:Nat}{l:List (fX×Bool)}(ht:∀x∈l,x.1.k=1->x.1.a<x.1.b/\x.1.b<n){i:Nat}(hi:i<n):(F9 n l).getD i 0<=i:=(qq ht n (tV n l)).le i hi
section
def br (b:Bd)(i:Nat):fX:=b.aO.getD i default
def gn (b:Bd)(i:Nat):Gen:=b.ar.getD i default
def cn (b:Bd)(i:Nat):Con:=b.cons.getD i default
def sr (p:Pw)(i:Nat):gL:=p.aA.getD i default
def cl (p:Pw)(i:Nat):Bool:=p.closed.getD i false
def lm (p:Pw)(i:Nat):Nat:=p.gJ.getD i 0
def lh (p:Pw)(k i:Nat):Bool:=p.broken.contains (k,i)
def gD (b:Bd)(c:List Bool):List (fX×Bool):=b.aO.zip c
def key (b:Bd)(p:Pw)(j:Nat):Nat:=(F9 b.n (gD b p.closed)).getD j 0
def Oq (b:Bd)(c:List Bool)(k u:Nat):Option Nat:=((gD b c).find? λx=>x.1.k==k&&x.1.b==u&&x.2).map λx=>x.1.a
def conn (b:Bd)(p:Pw)(i:Nat):Option Nat:=if (sr p i).st=2 then Oq b p.closed 2 i else none
def iF (b:Bd)(p:Pw)(i:Nat):Option Nat:=Oq b p.closed 3 i
def atKey (b:Bd)(p:Pw)(o:Option Nat)(f:Nat):Bool:=match o with|some u=>key b p u==f|none=>false
def av (b:Bd)(p:Pw)(f:Nat):List Nat:=(List.range b.ar.length).filter λi=>atKey b p (conn b p i) f
def dw (b:Bd)(p:Pw)(f:Nat):List Nat:=(List.range b.cons.length).filter λi=>atKey b p (iF b p i) f
def aZ (b:Bd)(p:Pw)(f:Nat):List Nat:=(List.range b.n).filter λj=>key b p j==f
def aH (b:Bd)(p:Pw):List Nat:=(List.range b.n).filter λf=> !(aZ b p f).isEmpty
def aY (b:Bd)(p:Pw)(j:Nat):Bool:= !(av b p (key b p j)).isEmpty
def dt (b:Bd)(p:Pw)(j:Nat):Nat:=bif aY b p j then((dw b p (key b p j)).map (lm p)).sum else 0
def bV (b:Bd)(p:Pw)(j:Nat):Nat:=((av b p (key b p j)).map λi=>(gn b i).cd).sum
def cL (b:Bd)(i:Nat):Nat:=b.aO.findIdx λx=>x.k==2&&x.b==i
def cnt (b:Bd)(c:List Bool)(u:Nat):Nat:=(gD b c).countP λx=>x.1.k==3&&x.1.b==u&&x.2
structure df (b:Bd):Prop where
 n1:1<=b.n
 n6:b.n<=6
 nb:b.aO.length<=24
 ng:b.ar.length<=8
 nc:b.cons.length<=16
 ph:b.phase<=1800
 fr:b.eZ<=6000
 tie:∀x∈b.aO,x.a<b.n/\(x.k=1->x.a<x.b/\x.b<b.n)/\(x.k=2->x.b<b.ar.length)/\(x.k=3->x.b<b.cons.length)/\1<=x.k/\x.k<=3
 one:∀i j,i<b.aO.length->j<b.aO.length->(br b i).k=2->(br b j).k=2->(br b i).b=(br b j).b->i=j
 has:∀i,i<b.ar.length->∃x∈b.aO,x.k=2/\x.b=i
 gen:∀x∈b.ar,1<=x.cd/\x.cd<=50000/\x.least<=x.cd/\x.start<=600
 zL:∀i,i<b.cons.length->(cn b i).load<=50000/\(cn b i).least<=(cn b i).load/\(cn b i).vW<=15/\-1<=(cn b i).RN/\(cn b i).RN<=7/\(cn b i).needs.length<=4/\(∀x∈(cn b i).needs,x<i)/\(cn b i).needs.Pairwise (· < ·)
def Pj (b:Bd)(k:Nat):Nat:=if k=1 then b.ar.length else if k=2 then b.aO.length else if k=3 then b.n else if k=4 then b.cons.length else 0
def Mn (x y:Nat×Nat):Prop:=x.1<y.1\/(x.1=y.1/\x.2<y.2)
structure aX (b:Bd)(p:Pw):Prop where
 c:p.closed.length=b.aO.length
 s:p.aA.length=b.ar.length
 l:p.gJ.length=b.cons.length
 run:∀x∈p.aA,x.st<=3/\x.since<=2147483648/\x.fr<=6000/\x.ph<3600
 Hd:∀i,i<b.cons.length->lm p i<=(cn b i).load
 bk:p.broken.length<=32
 ex:∀x∈p.broken,x.2<Pj b x.1
 asc:p.broken.Pairwise Mn
 one:∀u,u<b.cons.length->cnt b p.closed u<=1
section
variable {b:Bd} {p q:Pw}
theorem qW (hb:df b){i:Nat}(hi:i<b.aO.length):br b i∈b.aO:=by
 unfold br;rw[dD,dO hi];exact gH hi
theorem gC (hp:p.closed.length=b.aO.length){i:Nat}(hi:i<b.aO.length):(gD b p.closed)[i]? =some (br b i,cl p i):=by
 have hc:i<p.closed.length:=by omega
 simp only[gD,br,cl,dD,List.getElem?_zip_eq_some,dO hi,dO hc,y_];exact⟨trivial,trivial⟩
theorem BL (hp:p.closed.length=b.aO.length):(gD b p.closed).length=b.aO.length:=by simp[gD,hp]
theorem xC (hp:p.closed.length=b.aO.length){x:fX×Bool}(hx:x∈gD b p.closed):∃i,i<b.aO.length/\x=(br b i,cl p i):=by
 obtain⟨i,hi⟩:=eB.1 hx;have hlt:i<b.aO.length:=by rw[<-BL hp];exact(ko.1 hi).1
 rw[gC hp hlt]at hi;exact⟨i,hlt,(pG hi).symm⟩
theorem lF (hb:df b)(c:List Bool):∀x∈gD b c,x.1.k=1->x.1.a<x.1.b/\x.1.b<b.n:=by
 intro x hx hk;have:=List.of_mem_zip (show(x.1,x.2)∈b.aO.zip c from hx);exact(hb.tie x.1 this.1).2.1 hk
theorem BN (hb:df b){i j:Nat}(hi:i<b.n)(hj:j<b.n):key b p i=key b p j↔dG (gD b p.closed) i j:=aah (lF hb _) hi hj
theorem Hh (hb:df b){i:Nat}(hi:i<b.n):key b p i<b.n:=Nat.lt_of_le_of_lt (VU (lF hb _) hi) hi
theorem U6 (hb:df b){i:Nat}(hi:i<b.n):key b p i<=i:=VU (lF hb _) hi
theorem JN (hb:df b){i:Nat}(hi:i<b.n):dG (gD b p.closed) (key b p i) i:=(uw (lF hb _) hi).1
theorem Ou (hb:df b){i:Nat}(hi:i<b.n):key b p (key b p i)=key b p i:=(BN hb (Hh hb hi) hi).2 (JN hb hi)
theorem bu (hb:df b){i:Nat}(hi:i<b.ar.length):cL b i<b.aO.length/\(br b (cL b i)).k=2/\(br b (cL b i)).b=i:=by
 obtain⟨x,hx,hk,hxb⟩:=hb.has i hi;have hlt:cL b i<b.aO.length:=List.findIdx_lt_length.2 ⟨x,hx,by simp[hk,hxb]⟩;refine⟨hlt,?_⟩;have Qq:=hlt;unfold cL at Qq;have:=List.findIdx_getElem (xs:=b.aO) (p:=λx=>x.k==2&&x.b==i) (w:=Qq);have e:br b (cL b i)=b.aO[List.findIdx (λx=>x.k==2&&x.b==i) b.aO]:=by
  unfold br;rw[dD,dO hlt];rfl
 rw[e];simp only[bO,w8]at this;exact this
theorem yS (hb:df b){i j:Nat}(hj:j<b.aO.length)(hk:(br b j).k=2)(MK:(br b j).b=i):j=cL b i:=by
 have hi:i<b.ar.length:=by rw[<-MK];exact(hb.tie _ (qW hb hj)).2.2.1 hk
 obtain⟨h1,h2,h3⟩:=bu hb hi;exact hb.one j _ hj h1 hk h2 (by rw[MK,h3])
theorem iT (hb:df b){i:Nat}(hi:i<b.ar.length):(br b (cL b i)).a<b.n:=(hb.tie _ (qW hb (bu hb hi).1)).1
theorem YY (hb:df b)(hp:p.closed.length=b.aO.length){i:Nat}(hi:i<b.ar.length):Oq b p.closed 2 i=if cl p (cL b i)=true then some (br b (cL b i)).a else none:=by
 obtain⟨h1,h2,h3⟩:=bu hb hi;unfold Oq;split
 ·rename_i hc;cases hf:(gD b p.closed).find? λx=>x.1.k==2&&x.1.b==i&&x.2 with
  |none=>
   exfalso;have:=CG.1 hf (br b (cL b i),cl p (cL b i)) (eC (gC hp h1));simp[h2,h3,hc]at this
  |some x=>
   have hm:=Co hf;have hs:=Am hf;obtain⟨j,hj,rfl⟩:=xC hp hm;simp only[bO,w8]at hs;have:=yS hb hj hs.1.1 hs.1.2;subst this;rfl
 ·rename_i hc;have:((gD b p.closed).find? λx=>x.1.k==2&&x.1.b==i&&x.2)=none:=by
   rw[CG];intro x hx;obtain⟨j,hj,rfl⟩:=xC hp hx;intro hs;simp only[bO,w8]at hs;have:=yS hb hj hs.1.1 hs.1.2;subst this;exact hc hs.2
  rw[this];rfl
theorem iY (hb:df b)(hp:p.closed.length=b.aO.length){i:Nat}(hi:i<b.ar.length):conn b p i=if (sr p i).st=2/\cl p (cL b i)=true then some (br b (cL b i)).a else none:=by
 unfold conn;rw[YY hb hp hi];by_cases h1:(sr p i).st=2<;>by_cases h2:cl p (cL b i)=true<;>simp[h1,h2]
theorem jF (hb:df b)(hp:p.closed.length=b.aO.length){i u:Nat}(hi:i<b.ar.length):conn b p i=some u↔(sr p i).st=2/\cl p (cL b i)=true/\(br b (cL b i)).a=u:=by
 rw[iY hb hp hi];split
 ·rename_i h;simp[h]
 ·rename_i h;simp only[false_iff,reduceCtorEq];rintro⟨h1,h2,_⟩;exact h ⟨h1,h2⟩
theorem fE (hb:df b)(hp:p.closed.length=b.aO.length){i u:Nat}(hi:i<b.ar.length)(h:conn b p i=some u):u<b.n:=by
 obtain⟨_,_,rfl⟩:=(jF hb hp hi).1 h;exact iT hb hi
theorem bW {f i:Nat}:i∈av b p f↔i<b.ar.length/\∃u,conn b p i=some u/\key b p u=f:=by
 unfold av;rw[uO,gR];refine Ag λ_=> ?_;unfold atKey;split
 ·rename_i u h;simp[h]
 ·rename_i h;simp[h]
def wI (b:Bd)(p:Pw)(x y:Nat):Prop:=∃u v,conn b p x=some u/\conn b p y=some v/\key b p u=key b p v
theorem wI.symm {x y:Nat}(h:wI b p x y):wI b p y x:=by obtain⟨u,v,h1,h2,h3⟩:=h;exact⟨v,u,h2,h1,h3.symm⟩
theorem wI.trans {x y z:Nat}(h:wI b p x y)(k:wI b p y z):wI b p x z:=by
 obtain⟨u,v,h1,h2,h3⟩:=h;obtain⟨v',w,k1,k2,k3⟩:=k;rw[h2]at k1;cases k1;exact⟨u,w,h1,k2,h3.trans k3⟩
def j_ (b:Bd)(p:Pw):Prop:=∀x y,x<b.ar.length->y<b.ar.length->wI b p x y->(sr p x).fr=(sr p y).fr/\(sr p x).ph=(sr p y).ph
def jz (x l:gL):gL:=⟨x.st,x.since,l.fr,l.ph⟩
def follow (b:Bd)(p:Pw):Pw:={p with aA:=(List.range p.aA.length).map λi=>match conn b p i with|some u=>jz (sr p i) (sr p ((av b p (key b p u)).headD i))|none=>sr p i}
theorem yM {l:Nat}{f:Nat->gL}{i:Nat}(hi:i<l):((List.range l).map f).getD i default=f i:=by
 rw[dD,uP,Ar hi];rfl
theorem pE {i:Nat}(hi:i<p.aA.length):sr (follow b p) i=match conn b p i with|some u=>jz (sr p i) (sr p ((av b p (key b p u)).headD i))|none=>sr p i:=by
 show((List.range p.aA.length).map _).getD i default=_;rw[yM hi]
theorem tP {i:Nat}(hi:p.aA.length<=i):sr p i=default:=by simp[sr,hi]
theorem jr (i:Nat):(sr (follow b p) i).st=(sr p i).st/\(sr (follow b p) i).since=(sr p i).since:=by
 by_cases hi:i<p.aA.length
 ·rw[pE hi];split<;>exact⟨rfl,rfl⟩
 ·rw[tP (p:=p) (by omega),tP (p:=follow b p) (by simp[follow];omega)];exact⟨rfl,rfl⟩
structure yy (p q:Pw):Prop where
 c:p.closed=q.closed
 s:∀i,(sr p i).st=(sr q i).st
theorem yy.conn (h:yy p q)(i:Nat):conn b p i=conn b q i:=by unfold Vm.conn;rw[h.c,h.s]
theorem yy.key (h:yy p q)(i:Nat):key b p i=key b q i:=by unfold Vm.key;rw[h.c]
theorem yy.wI (h:yy p q){x y:Nat}:wI b p x y↔wI b q x y:=by unfold Vm.wI;simp only[h.conn,h.key]
theorem yy.aA (h:yy p q)(f:Nat):av b p f=av b q f:=by
 unfold av;congr 1;funext i;rw[h.conn];unfold atKey;split<;>simp[h.key]
theorem AW:yy (follow b p) p:=⟨rfl,λi=>(jr i).1⟩
theorem head_mem {l:List Nat}{i d:Nat}(h:i∈l):l.headD d∈l/\l.headD d=l.headD 0:=by
 cases l with
 |nil=>cases h
 |cons x l=>exact⟨pH ..,rfl⟩
theorem wC (hp:aX b p):j_ b (follow b p):=by
 intro x y hx hy h;rw[AW.wI]at h;obtain⟨u,v,h1,h2,h3⟩:=h;have hs:=hp.s;rw[pE (by omega),pE (by omega),h1,h2];show(sr p _).fr=(sr p _).fr/\(sr p _).ph=(sr p _).ph;have mx:x∈av b p (key b p u):=bW.2 ⟨hx,u,h1,rfl⟩;have my:y∈av b p (key b p v):=bW.2 ⟨hy,v,h2,rfl⟩;rw[(head_mem mx).2,(head_mem my).2,h3];exact⟨rfl,rfl⟩
theorem DU {l m:List gL}(hl:l.length=m.length)(h:∀i,i<l.length->l.getD i default=m.getD i default):l=m:=by
 apply Jf hl;intro i h1 h2;have:=h i h1;simpa[h1,h2]using this
theorem Ge (hp:aX b p)(h:j_ b p):follow b p=p:=by
 have:(follow b p).aA=p.aA:=by
  refine DU (by simp[follow]) λi hi=> ?_;have hi:i<p.aA.length:=by simpa[follow]using hi
  show sr (follow b p) i=sr p i;rw[pE hi];split
  ·rename_i u hu;have VG:i<b.ar.length:=by rw[<-hp.s];exact hi
   have mi:i∈av b p (key b p u):=bW.2 ⟨VG,u,hu,rfl⟩;obtain⟨h1,_⟩:=head_mem (d:=i) mi;obtain⟨h2,v,h3,h4⟩:=bW.1 h1;obtain⟨e1,e2⟩:=h _ i h2 VG ⟨v,u,h3,hu,h4⟩;unfold jz;rw[e1,e2]
  ·rfl
 cases p;simp only[follow]at this|-;rw[this]
end
end
section
def nC (x y:Nat):Int:=if ((y:Int)-x) %3600>1800 then((y:Int)-x) %3600-3600 else((y:Int)-x) %3600
def agree (b:Bd)(x y:gL):Bool:=decide (x.fr<=y.fr+b.eZ)&&(decide (y.fr<=x.fr+b.eZ)&&(decide (nC x.ph y.ph<=b.phase)&&decide (-(nC x.ph y.ph)<=b.phase)))
def cA (p:Pw)(i:Nat)(v:Bool):Pw:={p with closed:=p.closed.set i v}
def kf (p:Pw)(i:Nat)(r:gL):Pw:={p with aA:=p.aA.set i r}
def yP (p:Pw)(i:Nat)(v:Nat):Pw:={p with gJ:=p.gJ.set i v}
def eJ (p:Pw)(l:List Nat)(r:gL):Pw:={p with aA:=(List.range p.aA.length).map λi=>if l.contains i then jz (sr p i) r else sr p i}
def cY (b:Bd)(p:Pw)(j:Nat):Option Nat:=(av b p (key b p j)).head?
def lQ (b:Bd)(p:Pw)(i:Nat):Bool:=
 !cl p i&&(!lh p 2 i&&(!lh p 3 (br b i).a&&(if (br b i).k=1 then !lh p 3 (br b i).b else if (br b i).k=2 then !lh p 1 (br b i).b&&(sr p (br b i).b).st==2 else !lh p 4 (br b i).b&&(iF b p (br b i).b).isNone)))
def u6 (b:Bd)(p:Pw)(x:fX):Bool:=
 match cY b p x.a with
 |none=>true
 |some f=>if x.k=1 then(match cY b p x.b with|none=>true|some s=>agree b (sr p f) (sr p s)) else if x.k=2 then agree b (sr p f) (sr p x.b) else true
def wN (b:Bd)(p:Pw)(x:fX):Bool:=x.k==1&&key b p x.b==key b p x.a
def Dc (b:Bd)(p:Pw)(i:Nat):Bool:=lQ b p i&&(wN b p (br b i)||u6 b p (br b i))
structure Act where
 k:Nat
 u:Nat
 v:Nat
 deriving DecidableEq,Inhabited
def lW (b:Bd)(p:Pw)(i:Nat):Option Pw:=if Dc b p i=true then some (follow b (cA p i true)) else none
def rE (b:Bd)(p:Pw)(i:Nat):Option Pw:=if cl p i=true/\lh p 2 i=false then some (cA p i false) else none
def jc (b:Bd)(p:Pw)(t i:Nat):gL:=⟨if (gn b i).start=0/\cl p (cL b i)=false then 2 else 1,t,5000,0⟩
def jP (b:Bd)(p:Pw)(t i:Nat):Option Pw:=if (sr p i).st=0/\lh p 1 i=false then some (kf p i (jc b p t i)) else none
def Fz (r:gL):gL:=⟨0,r.since,r.fr,r.ph⟩
def sB (b:Bd)(p:Pw)(i:Nat):Option Pw:=if ((sr p i).st=1\/(sr p i).st=2)/\cl p (cL b i)=false then some (kf p i (Fz (sr p i))) else none
def zh (b:Bd)(p:Pw)(s:Nat):List Nat:=match conn b p s with|some v=>av b p (key b p v)|none=>[s]
def jX (b:Bd)(p:Pw)(s u:Nat):Option Pw:=match cY b p u with
 |some l=>if (sr p s).st=2 then some (eJ p (zh b p s) (sr p l)) else none
 |none=>none
def cg (r:gL):gL:=if r.st=2 then⟨r.st,r.since,r.fr,(((r.ph:Int)+36*((r.fr:Int)-5000)) %3600).toNat⟩ else r
def ID (p:Pw):Pw:={p with aA:=p.aA.map cg}
def nX (b:Bd)(p:Pw)(t i:Nat)(r:gL):gL:=if r.st=1/\cl p (cL b i)=false/\r.since+(gn b i).start<=t+1 then⟨2,r.since,r.fr,r.ph⟩ else r
def bt (b:Bd)(p:Pw)(t:Nat):Pw:={p with aA:=(List.range p.aA.length).map λi=>nX b p t i (cg (sr p i))}
def iH (b:Bd)(p:Pw)(t:Nat)(a:Act):Option Pw:=
 if a.k=1 then lW b p a.u else if a.k=2 then rE b p a.u else if a.k=3 then jP b p t a.u else if a.k=4 then sB b p a.u else jX b p a.u a.v
def tL (b:Bd)(a:Act):Prop:=((a.k=1\/a.k=2)/\a.u<b.aO.length)\/((a.k=3\/a.k=4)/\a.u<b.ar.length)\/(a.k=6/\a.u<b.ar.length/\a.v<b.n)
section
variable {b:Bd} {p q:Pw}
theorem mL {i j:Nat}{v:Bool}(hi:i<p.closed.length):cl (cA p i v) j=if j=i then v else cl p j:=by
 simp only[cl,cA,dD,qy];by_cases h:j=i
 ·subst h;simp[hi]
 ·simp[h,vd h]
theorem mr {i j:Nat}{r:gL}(hi:i<p.aA.length):sr (kf p i r) j=if j=i then r else sr p j:=by
 simp only[sr,kf,dD,qy];by_cases h:j=i
 ·subst h;simp[hi]
 ·simp[h,vd h]
theorem Hb {i j:Nat}{v:Nat}(hi:i<p.gJ.length):lm (yP p i v) j=if j=i then v else lm p j:=by
 simp only[lm,yP,dD,qy];by_cases h:j=i
 ·subst h;simp[hi]
 ·simp[h,vd h]
theorem gO {l:List Nat}{r:gL}{i:Nat}(hi:i<p.aA.length):sr (eJ p l r) i=if l.contains i then jz (sr p i) r else sr p i:=by
 show((List.range p.aA.length).map _).getD i default=_;rw[yM hi]
theorem GQ {t i:Nat}(hi:i<p.aA.length):sr (bt b p t) i=nX b p t i (cg (sr p i)):=by
 show((List.range p.aA.length).map _).getD i default=_;rw[yM hi]
theorem aX.runs (h:aX b p){i:Nat}(hi:i<b.ar.length):(sr p i).st<=3/\(sr p i).since<=2147483648/\(sr p i).fr<=6000/\(sr p i).ph<3600:=by
 have hl:i<p.aA.length:=by rw[h.s];exact hi
 refine h.run _ ?_;unfold sr;rw[dD,dO hl];exact gH hl
theorem Nt {x y:gL}(hx:x.ph<3600)(hy:y.ph<3600)(h:agree b x y=true):agree b y x=true:=by
 unfold agree nC at h|-;simp only[bO,lR]at h|-;obtain⟨h1,h2,h3,h4⟩:=h;refine⟨h2,h1,?_,?_⟩<;>(split at h3<;>split<;>omega)
theorem KY {x y x' y':gL}(hx:x.fr=x'.fr/\x.ph=x'.ph)(hy:y.fr=y'.fr/\y.ph=y'.ph):agree b x y=agree b x' y':=by
 unfold agree nC;rw[hx.1,hx.2,hy.1,hy.2]
theorem countP_set {α:Type}(P:α->Bool):∀(l:List α) (i:Nat) (x y:α),l[i]? =some x->(P y=true->P x=true)->(l.set i y).countP P<=l.countP P
 |[],i,x,y,h,_=>by simp at h
 |z::l,0,x,y,h,hp=>by
  simp at h;subst h;simp only[Cw,iw];by_cases h1:P y=true
  ·rw[aK h1,aK (hp h1)];exact dB _
  ·rw[aC h1];omega
 |z::l,i+1,x,y,h,hp=>by
  simp only[I',iw];have:=countP_set P l i x y (by simpa using h) hp;omega
theorem A4 {α:Type}(P:α->Bool):∀(l:List α) (i:Nat) (x y:α),l[i]? =some x->(l.set i y).countP P<=l.countP P+1
 |[],i,x,y,h=>by simp at h
 |z::l,0,x,y,h=>by
  simp only[Cw,iw];split<;>omega
 |z::l,i+1,x,y,h=>by
  simp only[I',iw];have:=A4 P l i x y (by simpa using h);omega
theorem Nz {α β:Type}:∀(l:List α) (m:List β) (i:Nat) (y:β),l.zip (m.set i y)=(match l[i]? with|some x=>(l.zip m).set i (x,y)|none=>l.zip m)
 |[],m,i,y=>by simp
 |x::l,[],i,y=>by cases i<;>simp<;>split<;>rfl
 |x::l,z::m,0,y=>by simp
 |x::l,z::m,i+1,y=>by
  simp only[I',List.zip_cons_cons,qA];rw[Nz l m i y];cases l[i]?<;>simp
theorem uh (hp:p.closed.length=b.aO.length){i:Nat}(hi:i<b.aO.length)(v:Bool):gD b (cA p i v).closed=(gD b p.closed).set i (br b i,v):=by
 show b.aO.zip (p.closed.set i v)=_;rw[Nz,dO hi];simp only[gD,br,dD,dO hi,y_]
theorem Wo (hp:p.closed.length=b.aO.length){i:Nat}(hi:i<b.aO.length)(u:Nat):cnt b (cA p i false).closed u<=cnt b p.closed u:=by
 unfold cnt;rw[uh hp hi];exact countP_set _ _ i _ _ (gC hp hi) (by simp)
theorem Gk (hp:p.closed.length=b.aO.length){i:Nat}(hi:i<b.aO.length)(u:Nat)(h:(br b i).k=3->(br b i).b=u->cnt b p.closed u=0)(h1:cnt b p.closed u<=1):cnt b (cA p i true).closed u<=1:=by
 by_cases hk:(br b i).k=3/\(br b i).b=u
 ·have h0:=h hk.1 hk.2;unfold cnt at h0|-;rw[uh hp hi];have:=A4 (λx:fX×Bool=>x.1.k==3&&x.1.b==u&&x.2) (gD b p.closed) i _ (br b i,true) (gC hp hi);omega
 ·refine jS ?_ h1;unfold cnt;rw[uh hp hi];refine countP_set _ _ i _ _ (gC hp hi) λhy=> ?_;simp only[bO,w8]at hy;exact absurd hy.1 hk
theorem Kb {u:Nat}(h:iF b p u=none):cnt b p.closed u=0:=by
 unfold iF Oq at h;rw[Option.map_eq_none_iff,CG]at h;unfold cnt;rw[List.countP_eq_zero];exact h
theorem aX.open_ (h:aX b p){i:Nat}(hi:i<b.aO.length):aX b (cA p i false):=
 {h with c:=by simp[cA,h.c],one:=λu hu=>jS (Wo h.c hi u) (h.one u hu),Hd:=h.Hd}
theorem aX.close_ (hb:df b)(h:aX b p){i:Nat}(hi:i<b.aO.length)(hs:lQ b p i=true):aX b (cA p i true):=
 {h with
  c:=by simp[cA,h.c]
  Hd:=h.Hd
  one:=λu hu=>Gk h.c hi u (λhk EG=>by
   unfold lQ at hs;rw[aC (by omega),aC (by omega)]at hs;simp only[bO,Option.isNone_iff_eq_none]at hs;rw[<-EG];exact Kb hs.2.2.2.2) (h.one u hu)}
theorem aX.NN (h:aX b p){l:List gL}(hl:l.length=p.aA.length)(hr:∀i,i<p.aA.length->(l.getD i default).st<=3/\(l.getD i default).since<=2147483648/\(l.getD i default).fr<=6000/\(l.getD i default).ph<3600):aX b {p with aA:=l}:=
 {h with
  s:=by rw[<-h.s];exact hl
  Hd:=h.Hd
  run:=λx hx=>by
   obtain⟨i,hi,rfl⟩:=List.getElem_of_mem hx;have:=hr i (by show i<_;rw[<-hl];exact hi);simpa[hi]using this}
theorem aX.R4 (h:aX b p){i:Nat}{r:gL}(hr:r.st<=3/\r.since<=2147483648/\r.fr<=6000/\r.ph<3600):aX b (kf p i r):=by
 refine h.NN (by simp) λj hj=> ?_;simp only[dD,qy];by_cases xS:i=j
 ·subst xS;rw[aK rfl,aK hj];exact hr
 ·rw[aC xS];have:=h.runs (i:=j) (by rw[<-h.s];exact hj);simpa[sr,dD]using this
theorem JC {x y:gL}(hx:x.st<=3/\x.since<=2147483648/\x.fr<=6000/\x.ph<3600)(hy:y.st<=3/\y.since<=2147483648/\y.fr<=6000/\y.ph<3600):(jz x y).st<=3/\(jz x y).since<=2147483648/\(jz x y).fr<=6000/\(jz x y).ph<3600:=⟨hx.1,hx.2.1,hy.2.2⟩
theorem aX.HF (h:aX b p):aX b (follow b p):=by
 refine h.NN (by simp) λi hi=> ?_;have hg:i<b.ar.length:=by rw[<-h.s];exact hi
 rw[yM hi];split
 ·rename_i u hu;have mi:i∈av b p (key b p u):=bW.2 ⟨hg,u,hu,rfl⟩;exact JC (h.runs hg) (h.runs (bW.1 (head_mem (d:=i) mi).1).1)
 ·exact h.runs hg
theorem aX.agR (h:aX b p){l:List Nat}{r:gL}(hr:r.st<=3/\r.since<=2147483648/\r.fr<=6000/\r.ph<3600):aX b (eJ p l r):=by
 refine h.NN (by simp) λi hi=> ?_;have hg:i<b.ar.length:=by rw[<-h.s];exact hi
 rw[yM hi];split
 ·exact JC (h.runs hg) hr
 ·exact h.runs hg
theorem IC {x:gL}(hx:x.st<=3/\x.since<=2147483648/\x.fr<=6000/\x.ph<3600):(cg x).st<=3/\(cg x).since<=2147483648/\(cg x).fr<=6000/\(cg x).ph<3600:=by
 unfold cg;split
 ·refine⟨hx.1,hx.2.1,hx.2.2.1,?_⟩;show(_:Int).toNat<3600;omega
 ·exact hx
theorem aX.B0 (h:aX b p)(t:Nat):aX b (bt b p t):=by
 refine h.NN (by simp) λi hi=> ?_;have hg:i<b.ar.length:=by rw[<-h.s];exact hi
 have:=IC (h.runs hg);rw[yM hi];unfold nX;split
 ·exact⟨by simp,this.2⟩
 ·exact this
end
end
section
section
variable {b:Bd} {p q:Pw}
structure nL (b:Bd)(q p:Pw):Prop where
 c:∀i,i<b.aO.length->(br b i).k≠3->cl q i=true->cl p i=true
 s:∀i,(sr q i).st=(sr p i).st
 lq:q.closed.length=b.aO.length
 lp:p.closed.length=b.aO.length
theorem nL.adt (h:nL b q p){i j:Nat}(ht:Br (gD b q.closed) i j):Br (gD b p.closed) i j:=by
 obtain⟨x,hx,h1,h2,h3,h4⟩:=ht;obtain⟨m,hm,rfl⟩:=xC h.lq hx;exact⟨_,eC (gC h.lp hm),h.c m hm (by simp only at h2;omega) h1,h2,h3,h4⟩
theorem nL.conn (hb:df b)(h:nL b q p){i u:Nat}(hi:i<b.ar.length)(hc:conn b q i=some u):conn b p i=some u:=by
 rw[jF hb h.lq hi]at hc;rw[jF hb h.lp hi];obtain⟨h1,h2,h3⟩:=bu hb hi;exact⟨(h.s i)▸hc.1,h.c _ h1 (by omega) hc.2.1,hc.2.2⟩
theorem nL.key (hb:df b)(h:nL b q p){i j:Nat}(hi:i<b.n)(hj:j<b.n)(hk:key b q i=key b q j):key b p i=key b p j:=by
 rw[BN hb hi hj]at hk|-;exact hk.mono λ_ _=>h.adt
theorem nL.wI (hb:df b)(h:nL b q p){x y:Nat}(hx:x<b.ar.length)(hy:y<b.ar.length)(ht:wI b q x y):wI b p x y:=by
 obtain⟨u,v,h1,h2,h3⟩:=ht;exact⟨u,v,h.conn hb hx h1,h.conn hb hy h2,h.key hb (fE hb h.lq hx h1) (fE hb h.lq hy h2) h3⟩
theorem nL.flw (hb:df b)(h:nL b q p)(hf:j_ b p)(hs:∀i,i<b.ar.length->(sr q i).fr=(sr p i).fr/\(sr q i).ph=(sr p i).ph):j_ b q:=by
 intro x y hx hy ht;obtain⟨h1,h2⟩:=hf x y hx hy (h.wI hb hx hy ht);rw[(hs x hx).1,(hs x hx).2,(hs y hy).1,(hs y hy).2];exact⟨h1,h2⟩
def wm (b:Bd)(p q:Pw):Prop:=∀x y,x<b.ar.length->y<x->wI b q x y->wI b p x y\/agree b (sr p x) (sr p y)=true
theorem nL.wm (hb:df b)(h:nL b q p):wm b p q:=λx y hx hy ht=>.inl (h.wI hb hx (by omega) ht)
theorem uo (hp:aX b p){i:Nat}(hi:i<b.aO.length):nL b (cA p i false) p:=by
 refine⟨λj hj _ hc=> ?_,λj=>rfl,by simp[cA,hp.c],hp.c⟩;rw[mL (by rw[hp.c];exact hi)]at hc;split at hc
 ·cases hc
 ·exact hc
theorem JD (hb:df b)(hp:aX b p){s:Nat}(hs:s<b.ar.length){r:gL}(hn:¬(r.st=2/\cl p (cL b s)=true)):∀x y,x<b.ar.length->y<b.ar.length->wI b (kf p s r) x y->x≠s/\y≠s/\wI b p x y:=by
 have hl:s<p.aA.length:=by rw[hp.s];exact hs
 have T5:conn b (kf p s r) s=none:=by
  rw[iY hb (show(kf p s r).closed.length=_ from hp.c) hs,mr hl,aK rfl];exact aC hn
 have same:∀x,x<b.ar.length->x≠s->conn b (kf p s r) x=conn b p x:=λx hx hne=>by
  rw[iY hb (show(kf p s r).closed.length=_ from hp.c) hx,iY hb hp.c hx,mr hl,aC hne];rfl
 rintro x y hx hy ⟨u,v,h1,h2,h3⟩;have nx:x≠s:=λe=>by subst e;rw[T5]at h1;cases h1
 have ny:y≠s:=λe=>by subst e;rw[T5]at h2;cases h2
 refine⟨nx,ny,u,v,?_,?_,h3⟩
 ·rw[<-same x hx nx];exact h1
 ·rw[<-same y hy ny];exact h2
theorem OP (hb:df b)(hp:aX b p){s:Nat}(hs:s<b.ar.length){r:gL}(hn:¬(r.st=2/\cl p (cL b s)=true))(hf:j_ b p):j_ b (kf p s r):=by
 intro x y hx hy ht;have hl:s<p.aA.length:=by rw[hp.s];exact hs
 obtain⟨nx,ny,ht⟩:=JD hb hp hs hn x y hx hy ht;rw[mr hl,mr hl,aC nx,aC ny];exact hf x y hx hy ht
theorem Jv (hb:df b)(hp:aX b p){s:Nat}(hs:s<b.ar.length){r:gL}(hn:¬(r.st=2/\cl p (cL b s)=true)):wm b p (kf p s r):=λx y hx hy ht=>
 .inl (JD hb hp hs hn x y hx (by omega) ht).2.2
theorem Jm (hb:df b)(hp:aX b p){s i:Nat}(hi:i<b.ar.length):i∈zh b p s↔(i=s/\conn b p s=none)\/wI b p s i:=by
 unfold zh;split
 ·rename_i v hv;rw[bW];constructor
  ·rintro⟨_,u,h1,h2⟩;exact .inr ⟨v,u,hv,h1,h2.symm⟩
  ·rintro(⟨_,h⟩|⟨u,w,h1,h2,h3⟩)
   ·rw[hv]at h;cases h
   ·rw[hv]at h1;cases h1;exact⟨hi,w,h2,h3.symm⟩
 ·rename_i hv;simp only[jL,hv,and_true];constructor
  ·intro h;exact .inl h
  ·rintro(h|⟨u,w,h1,_⟩)
   ·exact h
   ·rw[hv]at h1;cases h1
theorem um {l:List Nat}{r:gL}:yy (eJ p l r) p:=by
 refine⟨rfl,λi=> ?_⟩;by_cases hi:i<p.aA.length
 ·rw[gO hi];split<;>rfl
 ·rw[tP (p:=p) (by omega),tP (p:=eJ p l r) (by simp[eJ];omega)]
theorem QD (hb:df b)(hp:aX b p){s:Nat}{r:gL}(hs:s<b.ar.length)(hf:j_ b p):j_ b (eJ p (zh b p s) r):=by
 intro x y hx hy ht;rw[um.wI]at ht;have ak:=hp.s;rw[gO (by omega),gO (by omega)];have e:x∈zh b p s↔y∈zh b p s:=by
  rw[Jm hb hp hx,Jm hb hp hy];obtain⟨u,v,h1,h2,h3⟩:=ht;constructor
  ·rintro(⟨rfl,h⟩|h)
   ·rw[h]at h1;cases h1
   ·exact .inr (h.trans ⟨u,v,h1,h2,h3⟩)
  ·rintro(⟨rfl,h⟩|h)
   ·rw[h]at h2;cases h2
   ·exact .inr (h.trans (wI.symm ⟨u,v,h1,h2,h3⟩))
 by_cases hm:x∈zh b p s
 ·rw[aK (by simpa using hm),aK (by simpa using e.1 hm)];exact⟨rfl,rfl⟩
 ·rw[aC (by simpa using hm),aC (by simpa using λh=>hm (e.2 h))];exact hf x y hx hy ht
theorem yy.less (hp:aX b p)(h:yy q p):nL b q p:=by
 refine⟨λi _ _ hc=> ?_,h.s,by rw[h.c];exact hp.c,hp.c⟩;have e:cl q i=cl p i:=by unfold cl;rw[h.c]
 rw[<-e];exact hc
theorem Bu (r:gL):(cg r).fr=r.fr/\(cg r).st=r.st/\(cg r).since=r.since:=by unfold cg;split<;>exact⟨rfl,rfl,rfl⟩
theorem yF (hb:df b)(hp:aX b p)(t:Nat){i:Nat}(hi:i<b.ar.length):conn b (bt b p t) i=conn b p i:=by
 have hl:i<p.aA.length:=by rw[hp.s];exact hi
 rw[iY hb (show(bt b p t).closed.length=_ from hp.c) hi,iY hb hp.c hi,GQ hl];unfold nX;show(if _/\cl p (cL b i)=true then _ else _)=_;split
 ·rename_i h;rw[(Bu _).2.1]at h;rw[aC (by rw[h.2.1];simp),aC (by rw[h.1];omega)]
 ·rw[(Bu _).2.1]
theorem Iq (hb:df b)(hp:aX b p)(t:Nat){x y:Nat}(hx:x<b.ar.length)(hy:y<b.ar.length):wI b (bt b p t) x y↔wI b p x y:=by
 unfold wI;rw[yF hb hp t hx,yF hb hp t hy];rfl
theorem tj (hb:df b)(hp:aX b p)(t:Nat)(hf:j_ b p):j_ b (bt b p t):=by
 intro x y hx hy ht;rw[Iq hb hp t hx hy]at ht;obtain⟨e1,e2⟩:=hf x y hx hy ht;obtain⟨u,v,h1,h2,_⟩:=ht;rw[jF hb hp.c hx]at h1;rw[jF hb hp.c hy]at h2;have hs:=hp.s;have w:∀z,z<b.ar.length->(sr p z).st=2->sr (bt b p t) z=cg (sr p z):=λz hz h=>by
  rw[GQ (by omega)];unfold nX;rw[aC (by rw[(Bu _).2.1];omega)]
 rw[w x hx h1.1,w y hy h2.1];unfold cg;rw[aK h1.1,aK h2.1];exact⟨e1,by rw[e1,e2]⟩
theorem Gl {i:Nat}(hb:df b)(hp:aX b p)(hi:i<b.aO.length)(hk:(br b i).k≠1){v:Bool}{j:Nat}:key b (cA p i v) j=key b p j:=by
 have:∀(l:List (fX×Bool)) (f:List Nat) (i:Nat) (x:fX) (v:Bool),x.k≠1->(∃w,l[i]? =some (x,w))->dF (l.set i (x,v)) f=dF l f:=by
  intro l
  induction l with
  |nil=>intro f i x v hx ⟨w,h⟩;simp at h
  |cons z l ih=>
   intro f i x v hx ⟨w,h⟩;cases i with
   |zero=>
    simp at h;subst h;simp only[Cw,dF,je];have:cv f (x,v)=cv f (x,w):=by unfold cv;rw[aC (by simp[hx]),aC (by simp[hx])]
    rw[this]
   |succ i=>
    simp only[I',dF,je];exact ih (cv f z) i x v hx ⟨w,by simpa using h⟩
 have rs:∀(n:Nat) (f:List Nat),rounds (gD b (cA p i v).closed) n f=rounds (gD b p.closed) n f:=by
  intro n
  induction n with
  |zero=>intro f;rfl
  |succ n ih=>
   intro f;simp only[rounds];rw[uh hp.c hi,this _ _ _ _ _ hk ⟨cl p i,gC hp.c hi⟩,<-uh hp.c hi];exact ih _
 unfold key F9;rw[rs]
theorem M3 (hb:df b)(hp:aX b p){i x:Nat}(hi:i<b.aO.length)(hx:x<b.ar.length){v:Bool}(hne:i≠cL b x):conn b (cA p i v) x=conn b p x:=by
 rw[iY hb (by simp[cA,hp.c]) hx,iY hb hp.c hx,mL (by rw[hp.c];exact hi),aC (vd hne)];rfl
theorem Mk (hb:df b)(hp:aX b p)(hf:j_ b p){s:Nat}(hs:s<b.ar.length)(hm:Dc b p (cL b s)=true):wm b p (follow b (cA p (cL b s) true)):=by
 obtain⟨k1,k2,k3⟩:=bu hb hs;intro x y hx hy ht;have hyg:y<b.ar.length:=by omega
 rw[AW.wI]at ht;obtain⟨u,v,h1,h2,h3⟩:=ht;rw[Gl hb hp k1 (by omega),Gl hb hp k1 (by omega)]at h3;have ne:∀z,z<b.ar.length->z≠s->cL b s≠cL b z:=λz hz hne e=>by
  have:=(bu hb hz).2.2;rw[<-e,k3]at this;exact hne this.symm
 have new:∀w,conn b (cA p (cL b s) true) s=some w->∀z v',z<b.ar.length->conn b p z=some v'->key b p w=key b p v'->agree b (sr p z) (sr p s)=true:=λw hw z v' hz hv' hk=>by
  obtain⟨_,_,e1⟩:=(jF hb (by simp[cA,hp.c]) hs).1 hw;unfold Dc at hm;simp only[bO,rR]at hm;have hsy:u6 b p (br b (cL b s))=true:=by
   rcases hm.2 with h|h
   ·unfold wN at h;simp[k2]at h
   ·exact h
  have mz:z∈av b p (key b p (br b (cL b s)).a):=bW.2 ⟨hz,v',hv',by rw[<-hk,e1]⟩;unfold u6 cY at hsy;split at hsy
  ·rename_i hh;rw[List.head?_eq_none_iff]at hh;rw[hh]at mz;cases mz
  ·rename_i f hh;rw[aC (by omega),aK k2,k3]at hsy;have mf:f∈av b p (key b p (br b (cL b s)).a):=List.mem_of_mem_head? hh;obtain⟨hfg,u',Qo,oV⟩:=bW.1 mf;have Vw:=hf f z hfg hz ⟨u',v',Qo,hv',by rw[oV,<-hk,e1]⟩;rw[KY Vw ⟨rfl,rfl⟩]at hsy;exact hsy
 have e2:∀z w,z<b.ar.length->z≠s->conn b (cA p (cL b s) true) z=some w->conn b p z=some w:=λz w hz hne hw=>by
  rw[M3 hb hp k1 hz (ne z hz hne)]at hw;exact hw
 by_cases hxs:x=s
 ·subst hxs;have hys:y≠x:=by omega
  right;exact Nt (hp.runs hyg).2.2.2 (hp.runs hx).2.2.2 (new u h1 y v hyg (e2 y v hyg hys h2) h3)
 ·by_cases hys:y=s
  ·subst hys;right;exact new v h2 x u hx (e2 x u hx hxs h1) h3.symm
  ·left;exact⟨u,v,e2 x u hx hxs h1,e2 y v hyg hys h2,h3⟩
theorem Nv (hb:df b)(hp:aX b p)(hf:j_ b p){t:Nat}(ht:t<=2147483648){a:Act}(ha:tL b a)(h:iH b p t a=some q):aX b q/\j_ b q:=by
 unfold iH at h;rcases ha with⟨hk,hu⟩|⟨hk,hu⟩|⟨hk,hu,hv⟩
 ·rcases hk with hk|hk
  ·rw[aK hk]at h;unfold lW at h;split at h
   ·rename_i hm;cases h;have hs:lQ b p a.u=true:=by unfold Dc at hm;simp only[bO]at hm;exact hm.1
    have h1:=hp.close_ hb hu hs;exact⟨h1.HF,wC h1⟩
   ·cases h
  ·rw[aC (by omega),aK hk]at h;unfold rE at h;split at h
   ·cases h;exact⟨hp.open_ hu,(uo hp hu).flw hb hf λi hi=>⟨rfl,rfl⟩⟩
   ·cases h
 ·rcases hk with hk|hk
  ·rw[aC (by omega),aC (by omega),aK hk]at h;unfold jP at h;split at h
   ·cases h;have hn:¬((jc b p t a.u).st=2/\cl p (cL b a.u)=true):=by
     unfold jc;rintro⟨h1,h2⟩;rw[h2]at h1;simp at h1
    refine⟨hp.R4 ⟨?_,ht,by simp[jc],by simp[jc]⟩,OP hb hp hu hn hf⟩;unfold jc;simp only;split<;>omega
   ·cases h
  ·rw[aC (by omega),aC (by omega),aC (by omega),aK hk]at h;unfold sB at h;split at h
   ·cases h;exact⟨hp.R4 ⟨by simp[Fz],(hp.runs hu).2⟩,OP hb hp hu (by simp[Fz]) hf⟩
   ·cases h
 ·rw[aC (by omega),aC (by omega),aC (by omega),aC (by omega)]at h;unfold jX at h;split at h
  ·rename_i l hl;split at h
   ·cases h;have ml:l∈av b p (key b p a.v):=List.mem_of_mem_head? hl;exact⟨hp.agR (hp.runs (bW.1 ml).1),QD hb hp hu hf⟩
   ·cases h
  ·cases h
def Gz (b:Bd)(a:Act):Prop:=tL b a/\(a.k=1->∃s,s<b.ar.length/\a.u=cL b s)
theorem Xl (hb:df b)(hp:aX b p)(hf:j_ b p){t:Nat}{a:Act}(ha:Gz b a)(h:iH b p t a=some q):wm b p q:=by
 unfold iH at h;obtain⟨ha,hc⟩:=ha;rcases ha with⟨hk,hu⟩|⟨hk,hu⟩|⟨hk,hu,hv⟩
 ·rcases hk with hk|hk
  ·rw[aK hk]at h;unfold lW at h;split at h
   ·rename_i hm;cases h;obtain⟨s,hs,e⟩:=hc hk;rw[e]at hm|-;exact Mk hb hp hf hs hm
   ·cases h
  ·rw[aC (by omega),aK hk]at h;unfold rE at h;split at h
   ·cases h;exact(uo hp hu).wm hb
   ·cases h
 ·rcases hk with hk|hk
  ·rw[aC (by omega),aC (by omega),aK hk]at h;unfold jP at h;split at h
   ·cases h;refine Jv hb hp hu ?_;unfold jc;rintro⟨h1,h2⟩;rw[h2]at h1;simp at h1
   ·cases h
  ·rw[aC (by omega),aC (by omega),aC (by omega),aK hk]at h;unfold sB at h;split at h
   ·cases h;exact Jv hb hp hu (by simp[Fz])
   ·cases h
 ·rw[aC (by omega),aC (by omega),aC (by omega),aC (by omega)]at h;unfold jX at h;split at h
  ·split at h
   ·cases h;exact(yy.less hp um).wm hb
   ·cases h
  ·cases h
end
end
section
structure p_ where
 start:Nat
 stop:Nat
 p6:Nat
structure Ri (t:p_):Prop where
 s1:1<=t.stop
 s2:t.stop<=99
 s3:t.stop<t.start
 s4:t.start<=100
 s5:t.p6<=600
def cj (b:Bd)(t:p_)(p:Pw)(j:Nat):Bool:=aY b p j&&decide (t.start*bV b p j<100*dt b p j)
def sY (b:Bd)(t:p_)(p:Pw)(j i:Nat):Bool:= !lh p 2 (cL b i)&&decide (100*dt b p j<=t.stop*(bV b p j-(gn b i).cd))
def fo (b:Bd)(t:p_)(p:Pw)(j:Nat):Option Nat:=if (av b p (key b p j)).length<2 then none else(av b p (key b p j)).reverse.find? (sY b t p j)
def cu (b:Bd)(p:Pw)(j i:Nat):Bool:=
 !(lh p 1 i||(lh p 2 (cL b i)||lh p 3 (br b (cL b i)).a))&&(key b p (br b (cL b i)).a==key b p j&&(!(av b p (key b p j)).contains i&& !((sr p i).st==3)))
def kr (b:Bd)(p:Pw)(j s:Nat):Option Nat:=(List.range b.ar.length).find? λi=>(sr p i).st==s&&cu b p j i
def fg (b:Bd)(p:Pw)(j:Nat):Option Nat:=match kr b p j 2 with
 |some i=>some i
 |none=>match kr b p j 1 with
  |some i=>some i
  |none=>kr b p j 0
def cp (old:Int)(holds:Bool)(time:Int):Int:=if holds=true then(if old=-1 then time else old) else-1
def oH (b:Bd)(p:Pw)(j:Nat):Nat:=match cY b p j with|some l=>(conn b p l).getD 0|none=>0
def ed (b:Bd)(p:Pw)(j s:Nat):List Act:=if (sr p s).st=0 then[⟨3,s,0⟩] else if (sr p s).st=2 then[⟨6,s,oH b p j⟩,⟨1,cL b s,0⟩] else[]
def fq (t:p_)(time h:Int):Bool:=h !=-1&&decide ((t.p6:Int)<=time-h)
def dQ (b:Bd)(t:p_)(p:Pw)(j:Nat)(time:Int)(r:Int×Int):(Int×Int)×List Act:=
 let h:=cp r.1 (cj b t p j) time;let l:=cp r.2 (fo b t p j).isSome time
 match (bif fq t time h then fg b p j else none)with
 |some n=>((if (sr p n).st=2 then-1 else h,l),ed b p j n)
 |none=>match (bif fq t time l then fo b t p j else none)with
  |some i=>((h,-1),[⟨2,cL b i,0⟩,⟨4,i,0⟩])
  |none=>((h,l),[])
section
variable {b:Bd} {p:Pw}
theorem adB {l:List Nat}{f:Nat->Nat}{i:Nat}(h:i∈l):f i<=(l.map f).sum:=by
 induction l with
 |nil=>cases h
 |cons x l ih=>
  simp only[qx,CE];rcases gI.1 h with rfl|h
  ·omega
  ·have:=ih h;omega
theorem Yt {j i:Nat}(h:i∈av b p (key b p j)):(gn b i).cd<=bV b p j:=adB (f:=λi=>(gn b i).cd) h
theorem wk {j s i:Nat}(h:kr b p j s=some i):i<b.ar.length/\(sr p i).st=s/\cu b p j i=true:=by
 unfold kr at h;have h1:=Am h;have h2:=Co h;simp only[bO,w8]at h1;exact⟨gR.1 h2,h1.1,h1.2⟩
theorem fS {j i:Nat}(h:fg b p j=some i):i<b.ar.length/\(sr p i).st<=2/\cu b p j i=true:=by
 unfold fg at h;cases h2:kr b p j 2 with
 |some x=>rw[h2]at h;cases h;obtain⟨a,c,d⟩:=wk h2;exact⟨a,by omega,d⟩
 |none=>
  rw[h2]at h;cases h1:kr b p j 1 with
  |some x=>rw[h1]at h;cases h;obtain⟨a,c,d⟩:=wk h1;exact⟨a,by omega,d⟩
  |none=>rw[h1]at h;obtain⟨a,c,d⟩:=wk h;exact⟨a,by omega,d⟩
theorem jx {t:p_}{j i:Nat}(h:fo b t p j=some i):i∈av b p (key b p j)/\2<=(av b p (key b p j)).length/\sY b t p j i=true:=by
 unfold fo at h;split at h
 ·cases h
 ·have h1:=Am h;have h2:=Co h;exact⟨List.mem_reverse.1 h2,by omega,h1⟩
end
end
section
def kQ (b:Bd)(p:Pw)(x:fX):Bool:=lh p 3 x.a||(if x.k=1 then lh p 3 x.b else if x.k=2 then(lh p 1 x.b||(sr p x.b).st !=2) else lh p 4 x.b)
def opens (p:Pw)(l:List Nat):Pw:=l.foldl (λq i=>cA q i false) p
def pL (l:List Nat):List Act:=l.map λi=>⟨2,i,0⟩
def nR (p:Pw)(a:Act):Pw:=if a.k=2 then cA p a.u false else yP p a.u a.v
def aa2 (b:Bd)(a:Act):Prop:=(a.k=2/\a.u<b.aO.length)\/(a.k=5/\a.u<b.cons.length/\a.v<=(cn b a.u).load)
section
variable {b:Bd} {p q r:Pw} {acts:List Act}
structure Rl (b:Bd)(p q:Pw)(acts:List Act):Prop where
 ok:aX b q
 bk:q.broken=p.broken
 sr:∀i,(sr q i).st=(sr p i).st/\(sr q i).since=(sr p i).since
 cs:∀i,cl q i=true->cl p i=true
 lm:∀u,lm q u<=lm p u
 ap:acts.foldl nR p={q with aA:=p.aA}
 ac:∀a∈acts,aa2 b a
 fl:j_ b p->q.aA=p.aA/\j_ b q
theorem Rl.refl (hp:aX b p):Rl b p p []:=⟨hp,rfl,λ_=>⟨rfl,rfl⟩,λ_ h=>h,λ_=>dB _,rfl,λ_ h=>(by cases h),λh=>⟨rfl,h⟩⟩
theorem Rl.less (hp:aX b p)(h:Rl b p q acts):nL b q p:=⟨λi _ _ hc=>h.cs i hc,λi=>(h.sr i).1,h.ok.c,hp.c⟩
theorem aX.agf (h:aX b p){u v:Nat}(hv:v<=lm p u):aX b (yP p u v):=by
 refine⟨h.c,h.s,by simp[yP,h.l],h.run,λi hi=> ?_,h.bk,h.ex,h.asc,h.one⟩;by_cases hu:u<p.gJ.length
 ·rw[Hb hu];split
  ·rename_i e;subst e;exact jS hv (h.Hd i hi)
  ·exact h.Hd i hi
 ·have:yP p u v=p:=by
   have e:p.gJ.set u v=p.gJ:=List.set_eq_of_length_le (by omega);show{p with gJ:=p.gJ.set u v}=p;rw[e]
  rw[this];exact h.Hd i hi
theorem QM {i j:Nat}(h:cl (cA p i false) j=true):cl p j=true:=by
 by_cases hi:i<p.closed.length
 ·rw[mL hi]at h;split at h
  ·cases h
  ·exact h
 ·have:cA p i false=p:=by
   have e:p.closed.set i false=p.closed:=List.set_eq_of_length_le (by omega);show{p with closed:=p.closed.set i false}=p;rw[e]
  rw[this]at h;exact h
theorem Rl.open_ (hb:df b)(h:Rl b p q acts){i:Nat}(hi:i<b.aO.length):Rl b p (cA q i false) (acts++[⟨2,i,0⟩]) where
 ok:=h.ok.open_ hi
 bk:=h.bk
 sr:=h.sr
 cs j hj:=h.cs j (QM hj)
 lm:=h.lm
 ap:=by rw[List.foldl_append,h.ap];rfl
 ac a ha:=by
  rcases eO.1 ha with ha|ha
  ·exact h.ac a ha
  ·rw[jL.1 ha];exact .inl ⟨rfl,hi⟩
 fl hf:=⟨(h.fl hf).1,(uo h.ok hi).flw hb (h.fl hf).2 λ_ _=>⟨rfl,rfl⟩⟩
theorem Rl.lower (h:Rl b p q acts){u v:Nat}(hu:u<b.cons.length)(hv:v<=Vm.lm q u):Rl b p (yP q u v) (acts++[⟨5,u,v⟩]) where
 ok:=h.ok.agf hv
 bk:=h.bk
 sr:=h.sr
 cs:=h.cs
 lm i:=by
  rw[Hb (by rw[h.ok.l];exact hu)];split
  ·rename_i e;subst e;exact jS hv (h.lm i)
  ·exact h.lm i
 ap:=by rw[List.foldl_append,h.ap];rfl
 ac a ha:=by
  rcases eO.1 ha with ha|ha
  ·exact h.ac a ha
  ·rw[jL.1 ha];exact .inr ⟨rfl,hu,jS hv (h.ok.Hd u hu)⟩
 fl hf:=⟨(h.fl hf).1,λx y hx hy ht=>(h.fl hf).2 x y hx hy ht⟩
theorem Rl.follow (h:Rl b p q acts):Rl b p (Vm.follow b q) acts where
 ok:=h.ok.HF
 bk:=h.bk
 sr i:=⟨(jr i).1.trans (h.sr i).1,(jr i).2.trans (h.sr i).2⟩
 cs:=h.cs
 lm:=h.lm
 ap:=h.ap
 ac:=h.ac
 fl hf:=by rw[Ge h.ok (h.fl hf).2];exact h.fl hf
theorem Rl.opens (hb:df b):∀{l:List Nat} {q:Pw} {acts:List Act},(∀i∈l,i<b.aO.length)->Rl b p q acts->Rl b p (Vm.opens q l) (acts++pL l)
 |[],q,acts,_,h=>by rw[show pL []=[] from rfl,uN];exact h
 |i::l,q,acts,hl,h=>by
  have:=Rl.opens hb (l:=l) (λj hj=>hl j (gp _ hj)) (h.open_ hb (hl i (by simp)));rw[lz]at this;exact this
def Kp (b:Bd)(q q':Pw):Prop:=∀i,i<b.aO.length->(br b i).k≠3->cl q' i=cl q i
theorem Kp.refl (q:Pw):Kp b q q:=λ_ _ _=>rfl
theorem Kp.trans (h:Kp b p q)(k:Kp b q r):Kp b p r:=λi hi hk=>(k i hi hk).trans (h i hi hk)
def pC (b:Bd)(q:Pw)(h:Nat->Bool):List Nat:=(List.range b.aO.length).filter λi=>cl q i&&h i
theorem aag:∀(l:List Nat) (q:Pw),(opens q l).closed.length=q.closed.length
 |[],q=>rfl
 |i::l,q=>by show(opens (cA q i false) l).closed.length=_;rw[aag l];simp[cA]
theorem Kr:∀{l:List Nat} {q:Pw} {i:Nat},(∀j∈l,j<q.closed.length)->cl (opens q l) i=(cl q i&& !l.contains i)
 |[],q,i,_=>by simp[opens]
 |j::l,q,i,h=>by
  have hj:=h j (by simp);show cl (opens (cA q j false) l) i=_;rw[Kr (λx hx=>by simp only[cA,vn];exact h x (by simp[hx])),mL hj,I_];by_cases e:i=j
  ·subst e;simp
  ·rw[aC e,show(i==j)=false by simpa using e,vR]
theorem qj {h:Nat->Bool}{i:Nat}(hi:i∈pC b q h):i<b.aO.length:=gR.1 (uO.1 hi).1
theorem Kq (hc:q.closed.length=b.aO.length){h:Nat->Bool}{i:Nat}(hi:i<b.aO.length):cl (opens q (pC b q h)) i=(cl q i&& !h i):=by
 rw[Kr λj hj=>by rw[hc];exact qj hj];have:(pC b q h).contains i=(cl q i&&h i):=by
  rw[uQ,na,pC,uO,gR];exact⟨λh=>h.2,λh=>⟨hi,h⟩⟩
 rw[this];cases cl q i<;>cases h i<;>rfl
theorem n5 (h:Nat->Bool):(pC b q h).length<=b.aO.length:=by
 have:=oO (λi=>cl q i&&h i) (List.range b.aO.length);simpa[pC]using this
theorem IL (hc:q.closed.length=b.aO.length){h:Nat->Bool}(hh:∀i,i<b.aO.length->(br b i).k≠3->h i=false):Kp b q (opens q (pC b q h)):=λi hi hk=>by
 rw[Kq hc hi,hh i hi hk];simp
structure K1 (b:Bd)(p q:Pw)(acts:List Act):Prop extends Rl b p q acts where
 Lh:j_ b q
 ex:∀i,i<b.aO.length->(br b i).k≠3->cl q i=(cl p i&& !kQ b p (br b i))
 len:acts.length<=5000
theorem aeX (hb:df b)(hc:q.closed.length=b.aO.length)(hc':r.closed.length=b.aO.length)(h:Kp b q r)(hs:r.aA=q.aA)(hf:j_ b q):j_ b r:=by
 have hl:nL b r q:=⟨λi hi hk jO=>by rw[<-h i hi hk];exact jO,λi=>by show(r.aA.getD i default).st=_;rw[hs];rfl,hc',hc⟩
 exact hl.flw hb hf λi _=>by unfold sr;rw[hs];exact⟨rfl,rfl⟩
end
end
section
def jd (b:Bd)(p:Pw)(i:Nat):Bool:= !lh p 2 i&& !lh p 3 (br b i).a&&(!((br b i).k==1)|| !lh p 3 (br b i).b)
def ft (b:Bd)(p:Pw)(s:Nat):Bool:=jd b p (cL b s)&& !lh p 1 s&&(sr p s).st !=3
def EL (b:Bd)(p:Pw):Pw:={p with closed:=(List.range b.aO.length).map (jd b p)}
def fG (f:List Bool)(x:fX×Bool):List Bool:=if x.1.k=1/\x.2=true then(f.set x.1.a (f.getD x.1.a false||f.getD x.1.b false)).set x.1.b (f.getD x.1.a false||f.getD x.1.b false) else f
def eL (l:List (fX×Bool)):Nat->List Bool->List Bool
 |0,f=>f
 |k+1,f=>eL l k (l.foldl fG f)
def mj (b:Bd)(p:Pw)(f:List Bool)(i:Nat):List Bool:=if ft b p i=true then f.set (br b (cL b i)).a true else f
def J6 (b:Bd)(p:Pw):List Bool:=(List.range b.ar.length).foldl (mj b p) (List.replicate b.n false)
def gF (b:Bd)(p:Pw):List Bool:=eL (gD b (EL b p).closed) b.n (J6 b p)
def Cg (b:Bd)(p:Pw):Bool:=(List.range b.n).all λj=> !((gF b p).getD j false&& !aY b p j)
section
variable {b:Bd} {p q:Pw}
theorem NO:(EL b p).closed.length=b.aO.length:=by simp[EL]
theorem ae7 {i:Nat}(hi:i<b.aO.length):cl (EL b p) i=jd b p i:=by
 unfold cl EL;simp only;rw[dD,uP,Ar hi];rfl
theorem H6 {f:List Bool}{i j:Nat}{v:Bool}(hi:i<f.length):(f.set i v).getD j false=if j=i then v else f.getD j false:=by
 simp only[dD,qy];by_cases h:i=j
 ·subst h;simp[hi]
 ·rw[aC h,aC (vd h)]
def K3 (f g:List Bool):Prop:=g.length=f.length/\∀j,f.getD j false=true->g.getD j false=true
theorem K3.refl (f:List Bool):K3 f f:=⟨rfl,λ_ h=>h⟩
theorem K3.trans {f g h:List Bool}(x:K3 f g)(y:K3 g h):K3 f h:=⟨y.1.trans x.1,λj hj=>y.2 j (x.2 j hj)⟩
theorem K3.ais {f g:List Bool}(x:K3 f g)(y:K3 g f):f=g:=by
 refine Jf x.1.symm λi h1 h2=> ?_;have a:=x.2 i;have c:=y.2 i;simp only[dD,dO h1,dO h2,y_]at a c;cases hf:f[i]<;>cases hg:g[i]<;>simp_all
def K0 (n:Nat)(l:List (fX×Bool)):Prop:=∀x∈l,x.1.k=1->x.1.a<x.1.b/\x.1.b<n
theorem HN {n:Nat}{f:List Bool}(hf:f.length=n){x:fX×Bool}(ht:x.1.k=1->x.1.a<x.1.b/\x.1.b<n):K3 f (fG f x):=by
 unfold fG;split
 ·rename_i h;obtain⟨h1,h2⟩:=ht h.1;refine⟨by simp,λj hj=> ?_⟩;rw[H6 (by simp;omega),H6 (by omega)];split
  ·rename_i e;subst e;rw[hj];simp
  ·split
   ·rename_i e;subst e;rw[hj];simp
   ·exact hj
 ·exact K3.refl f
theorem uB {n:Nat}:∀{l:List (fX×Bool)} {f:List Bool},f.length=n->K0 n l->K3 f (l.foldl fG f)
 |[],f,_,_=>K3.refl f
 |x::l,f,hf,ht=>by
  have h1:=HN hf (ht x (by simp));exact h1.trans (uB (h1.1.trans hf) λy hy=>ht y (by simp[hy]))
theorem J_ {n:Nat}:∀{l:List (fX×Bool)} {f:List Bool},f.length=n->K0 n l->l.foldl fG f=f->∀x∈l,x.1.k=1->x.2=true->f.getD x.1.a false=f.getD x.1.b false
 |[],f,_,_,_,x,hx=>by cases hx
 |y::l,f,hf,ht,he,x,hx=>by
  intro hk hc;have h1:=HN hf (ht y (by simp));have h2:=uB (l:=l) (h1.1.trans hf) λz hz=>ht z (by simp[hz]);have he:l.foldl fG (fG f y)=f:=he;rw[he]at h2;have e:fG f y=f:=h2.ais h1;rcases gI.1 hx with rfl|hx
  ·obtain⟨t1,t2⟩:=ht x (by simp) hk;unfold fG at e;rw[aK ⟨hk,hc⟩]at e;have ea:=congrArg (λg=>g.getD x.1.a false) e;have eb:=congrArg (λg=>g.getD x.1.b false) e;rw[H6 (by simp;omega),H6 (by omega),aC (by omega),aK rfl]at ea;rw[H6 (by simp;omega),aK rfl]at eb;exact ea.symm.trans eb
  ·rw[e]at he;exact J_ hf (λz hz=>ht z (by simp[hz])) he x hx hk hc
def Fj (n:Nat)(f:List Bool):Nat:=(List.range n).countP λi=>f.getD i false
theorem aao {n:Nat}{f g:List Bool}(hf:f.length=n)(h:K3 f g)(hne:g≠f):Fj n f<Fj n g:=by
 have:∃j,j<n/\f.getD j false=false/\g.getD j false=true:=by
  refine acR λhn=>hne (K3.ais ⟨h.1.symm,λj hj=> ?_⟩ h);by_cases hjn:j<n
  ·cases hfj:f.getD j false with
   |true=>rfl
   |false=>exact absurd ⟨j,hjn,hfj,hj⟩ hn
  ·rw[dD,y8 (by rw[h.1];omega)]at hj;cases hj
 obtain⟨j,hj,h1,h2⟩:=this;exact Gi n j (λi _ hi=>h.2 i hi) hj h1 h2
theorem aap (n:Nat)(f:List Bool):Fj n f<=n:=by
 have:=List.countP_le_length (p:=λi=>f.getD i false) (l:=List.range n);simpa[Fj]using this
theorem mY {n:Nat}{l:List (fX×Bool)}(ht:K0 n l):∀(k:Nat) (f:List Bool),f.length=n->(eL l k f).length=n/\K3 f (eL l k f)/\(l.foldl fG (eL l k f)=eL l k f\/Fj n f+k<=Fj n (eL l k f))
 |0,f,hf=>⟨hf,K3.refl f,.inr (dB _)⟩
 |k+1,f,hf=>by
  have h1:=uB hf ht;obtain⟨a1,a2,a3⟩:=mY ht k (l.foldl fG f) (h1.1.trans hf);refine⟨a1,h1.trans a2,?_⟩;by_cases he:l.foldl fG f=f
  ·have:∀k,eL l k f=f:=λk=>by
    induction k with
    |zero=>rfl
    |succ k ih=>show eL l k (l.foldl fG f)=f;rw[he];exact ih
   left;rw[this (k+1)];exact he
  ·rcases a3 with a3|a3
   ·exact .inl a3
   ·have:=aao hf h1 he;exact .inr (by show Fj n f+(k+1)<=Fj n (eL l k (l.foldl fG f));omega)
theorem Ep {n:Nat}{f:List Bool}(h:n<=Fj n f){i:Nat}(hi:i<n):f.getD i false=true:=by
 have h2:(List.range n).countP (λi=>f.getD i false)=(List.range n).length:=by
  have:=aap n f;simp only[FR];unfold Fj at h this;omega
 exact List.countP_eq_length.1 h2 i (gR.2 hi)
theorem LO {n:Nat}{l:List (fX×Bool)}(ht:K0 n l){f:List Bool}(hf:f.length=n):∀x∈l,x.1.k=1->x.2=true->(eL l n f).getD x.1.a false=(eL l n f).getD x.1.b false:=by
 intro x hx hk hc;obtain⟨a1,a2,a3⟩:=mY ht n f hf;rcases a3 with a3|a3
 ·exact J_ a1 ht a3 x hx hk hc
 ·obtain⟨t1,t2⟩:=ht x hx hk;rw[Ep (by omega) (show x.1.a<n by omega),Ep (by omega) t2]
theorem QH {n:Nat}{l:List (fX×Bool)}{P:Nat->Prop}(ht:K0 n l){f:List Bool}(hf:f.length=n)(h:∀j,f.getD j false=true->∃s,P s/\dG l s j){x:fX×Bool}(hx:x∈l):∀j,(fG f x).getD j false=true->∃s,P s/\dG l s j:=by
 intro j hj;unfold fG at hj;split at hj
 ·rename_i hc;obtain⟨t1,t2⟩:=ht x hx hc.1;have tie:dG l x.1.a x.1.b:=dG.fwd (.refl _) ⟨x,hx,hc.2,hc.1,rfl,rfl⟩;have hor:(f.getD x.1.a false||f.getD x.1.b false)=true->(∃s,P s/\dG l s x.1.a)/\∃s,P s/\dG l s x.1.b:=λho=>by
   simp only[rR]at ho;rcases ho with ho|ho
   ·obtain⟨s,h1,h2⟩:=h _ ho;exact⟨⟨s,h1,h2⟩,s,h1,h2.trans tie⟩
   ·obtain⟨s,h1,h2⟩:=h _ ho;exact⟨⟨s,h1,h2.trans tie.symm⟩,s,h1,h2⟩
  rw[H6 (by simp;omega),H6 (by omega)]at hj;split at hj
  ·rename_i e;subst e;exact(hor hj).2
  ·split at hj
   ·rename_i e;subst e;exact(hor hj).1
   ·exact h j hj
 ·exact h j hj
theorem Gf {n:Nat}{l:List (fX×Bool)}{P:Nat->Prop}(ht:K0 n l):∀(m:List (fX×Bool)) (f:List Bool),(∀x∈m,x∈l)->f.length=n->(∀j,f.getD j false=true->∃s,P s/\dG l s j)->∀j,(m.foldl fG f).getD j false=true->∃s,P s/\dG l s j
 |[],f,_,_,h=>h
 |x::m,f,hm,hf,h=>Gf ht m (fG f x) (λy hy=>hm y (by simp[hy])) ((HN hf (ht x (hm x (by simp)))).1.trans hf) (QH ht hf h (hm x (by simp)))
theorem Ad {n:Nat}{l:List (fX×Bool)}{P:Nat->Prop}(ht:K0 n l):∀(k:Nat) (f:List Bool),f.length=n->(∀j,f.getD j false=true->∃s,P s/\dG l s j)->∀j,(eL l k f).getD j false=true->∃s,P s/\dG l s j
 |0,f,_,h=>h
 |k+1,f,hf,h=>Ad ht k _ ((uB hf ht).1.trans hf) (Gf ht l f (λ_ h=>h) hf h)
theorem acW {n:Nat}:∀(l:List Nat) (f:List Bool),f.length=n->(∀i∈l,(br b (cL b i)).a<n)->(l.foldl (mj b p) f).length=n/\∀j,(l.foldl (mj b p) f).getD j false=true↔f.getD j false=true\/∃i∈l,ft b p i=true/\(br b (cL b i)).a=j
 |[],f,hf,_=>⟨hf,λj=>by simp⟩
 |i::l,f,hf,hl=>by
  have hi:=hl i (by simp);have hlen:(mj b p f i).length=n:=by unfold mj;split<;>simp[hf]
  obtain⟨a1,a2⟩:=acW l (mj b p f i) hlen λx hx=>hl x (by simp[hx]);refine⟨a1,λj=> ?_⟩;show(l.foldl (mj b p) (mj b p f i)).getD j false=true↔_;rw[a2 j];have e:(mj b p f i).getD j false=true↔f.getD j false=true\/(ft b p i=true/\(br b (cL b i)).a=j):=by
   unfold mj;split
   ·rename_i hu;rw[H6 (by omega)];split
    ·rename_i e;simp[hu,e]
    ·rename_i e;simp[hu,vd e]
   ·rename_i hu;simp[hu]
  rw[e];constructor
  ·rintro((h|h)|⟨x,hx,h⟩)
   ·exact .inl h
   ·exact .inr ⟨i,by simp,h⟩
   ·exact .inr ⟨x,by simp[hx],h⟩
  ·rintro(h|⟨x,hx,h⟩)
   ·exact .inl (.inl h)
   ·rcases gI.1 hx with rfl|hx
    ·exact .inl (.inr h)
    ·exact .inr ⟨x,hx,h⟩
theorem DK (hb:df b):(J6 b p).length=b.n/\∀j,(J6 b p).getD j false=true↔∃i,i<b.ar.length/\ft b p i=true/\(br b (cL b i)).a=j:=by
 obtain⟨a1,a2⟩:=acW (b:=b) (p:=p) (List.range b.ar.length) (List.replicate b.n false) (by simp) λi hi=>iT hb (gR.1 hi);refine⟨a1,λj=>(a2 j).trans ?_⟩;have:(List.replicate b.n false).getD j false=false:=by
  simp only[dD,pI];split<;>rfl
 rw[this];simp
theorem pX (hb:df b)(c:List Bool):K0 b.n (gD b c):=lF hb c
theorem DJ (hb:df b):(gF b p).length=b.n:=(mY (pX hb _) b.n _ (DK hb).1).1
theorem aeu (hb:df b){i:Nat}(hi:i<b.ar.length)(hu:ft b p i=true):(gF b p).getD (br b (cL b i)).a false=true:=
 (mY (pX hb _) b.n _ (DK hb).1).2.1.2 _ (((DK hb).2 _).2 ⟨i,hi,hu,rfl⟩)
theorem aet (hb:df b){i:Nat}(hi:i<b.aO.length)(hk:(br b i).k=1)(hs:jd b p i=true):(gF b p).getD (br b i).a false=(gF b p).getD (br b i).b false:=
 LO (pX hb _) (DK hb).1 _ (eC (gC NO hi)) hk (by rw[ae7 hi];exact hs)
theorem adz (hb:df b){j:Nat}(h:(gF b p).getD j false=true):∃i,i<b.ar.length/\ft b p i=true/\dG (gD b (EL b p).closed) (br b (cL b i)).a j:=by
 obtain⟨s,⟨i,h1,h2,rfl⟩,h4⟩:=Ad (P:=λs=>∃i,i<b.ar.length/\ft b p i=true/\(br b (cL b i)).a=s) (pX hb _) b.n _ (DK hb).1 (λj hj=>⟨j,((DK hb).2 j).1 hj,.refl _⟩) j h;exact⟨i,h1,h2,h4⟩
theorem acN (h1:q.broken=p.broken)(h2:∀i,(sr q i).st=3↔(sr p i).st=3):gF b q=gF b p:=by
 have e1:∀k i,lh q k i=lh p k i:=λk i=>by unfold lh;rw[h1]
 have e2:∀i,jd b q i=jd b p i:=λi=>by unfold jd;simp only[e1]
 have e3:∀i,ft b q i=ft b p i:=λi=>by
  unfold ft;rw[e2,e1];congr 1;have:=h2 i;unfold bne;congr 1;rw[uQ];simp only[w8];exact this
 have e4:jd b q=jd b p:=funext e2;unfold gF J6 EL mj;simp only[e4,e3]
end
end
section
section
variable {b:Bd} {p:Pw}
theorem Eh (hb:df b)(hp:aX b p)(j:Nat):oH b p j<b.n:=by
 have h1:=hb.n1;unfold oH;cases hl:cY b p j with
 |none=>exact h1
 |some l=>
  show(conn b p l).getD 0<b.n;have hm:l∈av b p (key b p j):=List.mem_of_mem_head? hl;obtain⟨hg,u,hu,_⟩:=bW.1 hm;rw[hu];exact fE hb hp.c hg hu
theorem Pn (hb:df b)(hp:aX b p){j s:Nat}(hs:s<b.ar.length):∀a∈ed b p j s,Gz b a:=by
 intro a ha;have h1:=(bu hb hs).1;unfold ed at ha;split at ha
 ·rw[jL.1 ha];exact⟨.inr (.inl ⟨.inl rfl,hs⟩),λh=>by cases h⟩
 ·split at ha
  ·rcases gI.1 ha with rfl|ha
   ·exact⟨.inr (.inr ⟨rfl,hs,Eh hb hp j⟩),λh=>by cases h⟩
   ·rw[jL.1 ha];exact⟨.inl ⟨.inl rfl,h1⟩,λ_=>⟨s,hs,rfl⟩⟩
  ·cases ha
theorem IP (hb:df b)(hp:aX b p){t:p_}{j:Nat}{time:Int}{r:Int×Int}:∀a∈(dQ b t p j time r).2,Gz b a:=by
 intro a ha;unfold dQ at ha;simp only at ha;split at ha
 ·rename_i n hn;have:fg b p j=some n:=by
   cases hd:fq t time (cp r.1 (cj b t p j) time)with
   |true=>rw[hd]at hn;exact hn
   |false=>rw[hd]at hn;cases hn
  exact Pn hb hp (fS this).1 a ha
 ·split at ha
  ·rename_i i hi;have:fo b t p j=some i:=by
    cases hd:fq t time (cp r.2 (fo b t p j).isSome time)with
    |true=>rw[hd]at hi;exact hi
    |false=>rw[hd]at hi;cases hi
   have hg:=(bW.1 (jx this).1).1;have h1:=(bu hb hg).1;rcases gI.1 ha with rfl|ha
   ·exact⟨.inl ⟨.inr rfl,h1⟩,λh=>by cases h⟩
   ·rw[jL.1 ha];exact⟨.inr (.inl ⟨.inr rfl,hg⟩),λh=>by cases h⟩
  ·cases ha
theorem Pk {t:p_}{j:Nat}{time:Int}{r:Int×Int}:(dQ b t p j time r).2.length<=2:=by
 unfold dQ;simp only;split
 ·show(ed b p j _).length<=2;unfold ed;split
  ·simp
  ·split<;>simp
 ·split<;>simp
end
def Be (p:Pw):List Act->List Pw
 |[]=>[]
 |a::l=>nR p a::Be (nR p a) l
def BS (b:Bd)(t:Nat)(p:Pw)(a:Act)(p':Pw)(qm:List Pw):Prop:=
 (iH b p t a=none/\p'=p/\qm=[])\/∃q acts,iH b p t a=some q/\K1 b q p' acts/\qm=q::Be q acts
theorem I5:∀(l:List Act) (p:Pw),(Be p l).length=l.length
 |[],p=>rfl
 |a::l,p=>by show(Be (nR p a) l).length+1=_;rw[I5 l];rfl
inductive BT (b:Bd)(t:Nat):Pw->List Act->Pw->List Pw->Prop
 |nil (p:Pw):BT b t p [] p []
 |cons {p q r:Pw} {a:Act} {l:List Act} {s s':List Pw}:BS b t p a q s->BT b t q l r s'->BT b t p (a::l) r (s++s')
theorem BS.ok {b:Bd}{t:Nat}{p p':Pw}{a:Act}{s:List Pw}(h:BS b t p a p' s)(hp:aX b p)(hf:j_ b p):aX b p'/\j_ b p':=by
 rcases h with⟨_,rfl,_⟩|⟨q,acts,_,hr,_⟩
 ·exact⟨hp,hf⟩
 ·exact⟨hr.ok,hr.Lh⟩
inductive rW (b:Bd)(tb:p_)(t:Nat)(p0:Pw)(l0:List (Int×Int)):List Nat->Pw->List (Int×Int)->Pw->List (Int×Int)->List Pw->Prop
 |nil (p:Pw) (iB:List (Int×Int)):rW b tb t p0 l0 [] p iB p iB []
 |skip {f j:Nat} {bl l:List Nat} {p p':Pw} {iB eQ:List (Int×Int)} {s:List Pw}:aZ b p0 f=j::bl->(av b p0 f=[]\/aY b p j=false)->rW b tb t p0 l0 l p iB p' eQ s->rW b tb t p0 l0 (f::l) p iB p' eQ s
 |step {f j:Nat} {bl l:List Nat} {p q p':Pw} {iB eQ:List (Int×Int)} {s s':List Pw}:aZ b p0 f=j::bl->av b p0 f≠[]->aY b p j=true->BT b t p (dQ b tb p j t (l0.getD j (0,0))).2 q s->
  rW b tb t p0 l0 l q (iB.set j (dQ b tb p j t (l0.getD j (0,0))).1) p' eQ s'->rW b tb t p0 l0 (f::l) p iB p' eQ (s++s')
def Ez (t:Nat)(r:Int×Int):Prop:=-1<=r.1/\r.1<=t/\-1<=r.2/\r.2<=t
end
section
section
variable {b:Bd} {p q r:Pw}
def fF (b:Bd)(p q:Pw):Prop:=∀i,i<b.aO.length->(br b i).k=1->cl q i=cl p i
theorem fF.refl (p:Pw):fF b p p:=λ_ _ _=>rfl
theorem fF.trans (h:fF b p q)(k:fF b q r):fF b p r:=λi hi hk=>(k i hi hk).trans (h i hi hk)
theorem fF.adt (hp:p.closed.length=b.aO.length)(hq:q.closed.length=b.aO.length)(h:fF b p q){i j:Nat}(ht:Br (gD b q.closed) i j):Br (gD b p.closed) i j:=by
 obtain⟨x,hx,h1,h2,h3,h4⟩:=ht;obtain⟨m,hm,rfl⟩:=xC hq hx;exact⟨_,eC (gC hp hm),by show cl p m=true;rw[<-h m hm h2];exact h1,h2,h3,h4⟩
theorem fF.symm (h:fF b p q):fF b q p:=λi hi hk=>(h i hi hk).symm
theorem F4 (hb:df b)(hp:p.closed.length=b.aO.length)(hq:q.closed.length=b.aO.length)(h:fF b p q){j:Nat}(hj:j<b.n):key b p j<=key b q j:=
 (uw (lF hb p.closed) hj).2 _ ((JN (p:=q) hb hj).symm.mono λ_ _=>h.adt hp hq)
theorem jB (hb:df b)(hp:p.closed.length=b.aO.length)(hq:q.closed.length=b.aO.length)(h:fF b p q){j:Nat}(hj:j<b.n):key b q j=key b p j:=
 Nat.le_antisymm (F4 hb hq hp h.symm hj) (F4 hb hp hq h hj)
theorem M0 {α:Type}(P:α->Bool){l:List α}{i j:Nat}{x y:α}(hi:l[i]? =some x)(hj:l[j]? =some y)(xS:i<j)(hx:P x=true)(hy:P y=true):2<=l.countP P:=by
 have e:l.countP P=(l.take j).countP P+(l.drop j).countP P:=by rw[<-Cy,List.take_append_drop]
 have a:0<(l.take j).countP P:=List.countP_pos_iff.2 ⟨x,eC (i:=i) (by rw[kG];simp[xS,hi]),hx⟩;have c:0<(l.drop j).countP P:=List.countP_pos_iff.2 ⟨y,eC (i:=0) (by rw[sL];simpa using hj),hy⟩;omega
theorem xX (hp:p.closed.length=b.aO.length){u v:Nat}(h:iF b p u=some v):∃i,i<b.aO.length/\(br b i).k=3/\(br b i).b=u/\cl p i=true/\(br b i).a=v:=by
 unfold iF Oq at h;rw[EO]at h;obtain⟨x,h1,h2⟩:=h;have hs:=Am h1;obtain⟨i,hi,rfl⟩:=xC hp (Co h1);simp only[bO,w8]at hs;exact⟨i,hi,hs.1.1,hs.1.2,hs.2,h2⟩
theorem V2 (hp:aX b p){i:Nat}(hi:i<b.aO.length)(hk:(br b i).k=3)(hc:cl p i=true)(hu:(br b i).b<b.cons.length):iF b p (br b i).b=some (br b i).a:=by
 cases hf:iF b p (br b i).b with
 |none=>
  exfalso;unfold iF Oq at hf;rw[Option.map_eq_none_iff,CG]at hf;have:=hf _ (eC (gC hp.c hi));simp[hk,hc]at this
 |some v=>
  obtain⟨j,hj,j1,j2,j3,j4⟩:=xX hp.c hf;have:i=j:=by
   have ji:=hp.one _ hu;unfold cnt at ji;have w:∀m n:Nat,m<n->m<b.aO.length->n<b.aO.length->(br b m).k=3->(br b n).k=3->(br b m).b=(br b i).b->(br b n).b=(br b i).b->cl p m=true->cl p n=true->False:=λm n hmn hm hn k1 k2 b1 b2 c1 c2=>by
    have:=M0 (λx:fX×Bool=>x.1.k==3&&x.1.b==(br b i).b&&x.2) (gC hp.c hm) (gC hp.c hn) hmn (by simp[k1,b1,c1]) (by simp[k2,b2,c2]);omega
   rcases Nat.lt_trichotomy i j with h|h|h
   ·exact(w i j h hi hj hk j1 rfl j2 hc j3).elim
   ·exact h
   ·exact(w j i h hj hi j1 hk j2 rfl j3 hc).elim
  subst this;rw[j4]
theorem V3 (hb:df b)(hp:aX b p)(hq:q.closed.length=b.aO.length)(h:∀i,cl q i=true->cl p i=true){u v:Nat}(hf:iF b q u=some v):iF b p u=some v:=by
 obtain⟨i,hi,h1,h2,h3,h4⟩:=xX hq hf;have hu:=(hb.tie _ (qW hb hi)).2.2.2.1 h1;have:=V2 hp hi h1 (h i h3) hu;rw[h2,h4]at this;exact this
theorem HJ (hb:df b)(hp:p.closed.length=b.aO.length){u v:Nat}(hf:iF b p u=some v):v<b.n:=by
 obtain⟨i,hi,h1,h2,h3,h4⟩:=xX hp hf;rw[<-h4];exact(hb.tie _ (qW hb hi)).1
theorem iL {P Q:Nat->Bool}{g h:Nat->Nat}:∀(l:List Nat),(∀x∈l,P x=true->Q x=true)->(∀x,g x<=h x)->((l.filter P).map g).sum<=((l.filter Q).map h).sum
 |[],_,_=>dB _
 |x::l,Ig,hgh=>by
  have ih:=iL l (λy hy=>Ig y (gp _ hy)) hgh;have hx:=hgh x;have h1:=Ig x (by simp);cases hp:P x with
  |true=>
   rw[vT hp,vT (h1 hp),qx,qx,CE,CE];omega
  |false=>
   rw[Bh (by simp[hp])];cases hq:Q x with
   |true=>rw[vT hq,qx,CE];omega
   |false=>rw[Bh (by simp[hq])];exact ih
def kt (b:Bd)(p:Pw)(f:Nat):Nat:=((dw b p f).map (lm p)).sum
theorem Qd (hb:df b)(hp:aX b p)(hq:q.closed.length=b.aO.length)(ht:fF b p q)(h:∀i,cl q i=true->cl p i=true)(hl:∀u,lm q u<=lm p u)(f:Nat):kt b q f<=kt b p f:=by
 unfold kt dw;refine iL _ (λx _ hx=> ?_) hl;unfold atKey at hx|-;cases hf:iF b q x with
 |none=>rw[hf]at hx;cases hx
 |some v=>
  rw[hf]at hx;rw[V3 hb hp hq h hf];simp only[w8]at hx|-;rw[<-jB hb hp.c hq ht (HJ hb hq hf)];exact hx
theorem Qc (hb:df b)(hp:aX b p)(hq:q.closed.length=b.aO.length)(ht:fF b p q)(h:∀i,i<b.aO.length->(br b i).k=3->cl q i=cl p i)(hl:q.gJ=p.gJ)(f:Nat):kt b q f<=kt b p f:=by
 unfold kt dw;refine iL _ (λx _ hx=> ?_) (λu=>by unfold lm;rw[hl];exact dB _);unfold atKey at hx|-;cases hf:iF b q x with
 |none=>rw[hf]at hx;cases hx
 |some v=>
  rw[hf]at hx;obtain⟨i,hi,h1,h2,h3,h4⟩:=xX hq hf;have hu:=(hb.tie _ (qW hb hi)).2.2.2.1 h1;have:=V2 hp hi h1 (by rw[<-h i hi h1];exact h3) hu;rw[h2,h4]at this;rw[this];simp only[w8]at hx|-;rw[<-jB hb hp.c hq ht (HJ hb hq hf)];exact hx
def ND (b:Bd)(p:Pw):Prop:=∀i,i<b.aO.length->(br b i).k≠3->cl p i=true->kQ b p (br b i)=false
abbrev home (b:Bd)(i:Nat):Nat:=(br b (cL b i)).a
structure jq (b:Bd)(f:Nat)(p q:Pw):Prop where
 tie:fF b p q
 lp:p.closed.length=b.aO.length
 lq:q.closed.length=b.aO.length
 src:∀i,i<b.ar.length->key b p (home b i)=f->(sr q i).st=(sr p i).st/\(sr q i).since=(sr p i).since/\cl q (cL b i)=cl p (cL b i)
 bk:q.broken=p.broken
 ld:kt b q f<=kt b p f
theorem jq.key (hb:df b){f:Nat}(h:jq b f p q){j:Nat}(hj:j<b.n):key b q j=Vm.key b p j:=jB hb h.lp h.lq h.tie hj
theorem jq.refl (hp:aX b p)(f:Nat):jq b f p p:=⟨fF.refl p,hp.c,hp.c,λ_ _ _=>⟨rfl,rfl,rfl⟩,rfl,dB _⟩
theorem jq.trans (hb:df b){f:Nat}(h:jq b f p q)(k:jq b f q r):jq b f p r:=by
 refine⟨h.tie.trans k.tie,h.lp,k.lq,λi hi hk=> ?_,k.bk.trans h.bk,jS k.ld h.ld⟩;have h1:=h.src i hi hk;have h2:=k.src i hi (by rw[h.key hb (iT hb hi)];exact hk);exact⟨h2.1.trans h1.1,h2.2.1.trans h1.2.1,h2.2.2.trans h1.2.2⟩
theorem find_congr {α:Type}{P Q:α->Bool}:∀(l:List α),(∀x∈l,P x=Q x)->l.find? P=l.find? Q
 |[],_=>rfl
 |x::l,h=>by
  rw[Al,Al,h x (by simp),find_congr l λy hy=>h y (gp _ hy)]
theorem dh (hb:df b)(hp:p.closed.length=b.aO.length){f i:Nat}(hi:i<b.ar.length):i∈av b p f↔(sr p i).st=2/\cl p (cL b i)=true/\key b p (home b i)=f:=by
 rw[bW];constructor
 ·rintro⟨_,u,h1,h2⟩;obtain⟨a,c,d⟩:=(jF hb hp hi).1 h1;exact⟨a,c,by rw[show home b i=u from d];exact h2⟩
 ·rintro⟨a,c,d⟩;exact⟨hi,_,(jF hb hp hi).2 ⟨a,c,rfl⟩,d⟩
theorem qN {α:Type}{P Q:α->Bool}{l:List α}(h:∀x∈l,(P x=true↔Q x=true)):l.filter P=l.filter Q:=xg λx hx=>by
 rw[uQ];exact h x hx
theorem jt (f:Nat):av b p f=(List.range b.ar.length).filter λi=>decide (i∈av b p f):=by
 conv=>lhs;unfold av
 refine qN λx hx=> ?_;rw[decide_eq_true_iff];unfold av;rw[uO];exact⟨λh=>⟨hx,h⟩,λh=>h.2⟩
theorem vO {f g:Nat}(h:∀i,i<b.ar.length->(i∈av b p f↔i∈av b q g)):av b p f=av b q g:=by
 rw[jt (p:=p),jt (p:=q)];refine qN λx hx=> ?_;rw[decide_eq_true_iff,decide_eq_true_iff];exact h x (gR.1 hx)
theorem jq.aA (hb:df b){f:Nat}(h:jq b f p q):av b q f=av b p f:=by
 refine vO λi hi=> ?_;rw[dh hb h.lq hi,dh hb h.lp hi,h.key hb (iT hb hi)];constructor
 ·rintro⟨a,c,d⟩;obtain⟨e1,e2,e3⟩:=h.src i hi d;exact⟨by rw[<-e1];exact a,by rw[<-e3];exact c,d⟩
 ·rintro⟨a,c,d⟩;obtain⟨e1,e2,e3⟩:=h.src i hi d;exact⟨by rw[e1];exact a,by rw[e3];exact c,d⟩
theorem eT (hb:df b)(hp:p.closed.length=b.aO.length){f i:Nat}(hi:i<b.ar.length)(hk:key b p f=f):
  cu b p f i=true↔(lh p 1 i=false/\lh p 2 (cL b i)=false/\lh p 3 (home b i)=false)/\key b p (home b i)=f/\¬((sr p i).st=2/\cl p (cL b i)=true)/\(sr p i).st≠3:=by
 unfold cu;simp only[bO,fQ,CD,w8,beq_eq_false_iff_ne,hk];refine Ag λ_=>Ag λh=>and_congr_left λ_=> ?_;have:(av b p f).contains i=false↔¬i∈av b p f:=by
  rw[<-Cm,na]
 rw[this,dh hb hp hi];constructor
 ·intro hn ⟨a,c⟩;exact hn ⟨a,c,h⟩
 ·intro hn ⟨a,c,_⟩;exact hn ⟨a,c⟩
theorem p9 (h:q.broken=p.broken)(k i:Nat):lh q k i=lh p k i:=by unfold lh;rw[h]
theorem jq.AK (hb:df b){f i:Nat}(h:jq b f p q)(hf:f<b.n)(hk:Vm.key b p f=f)(hi:i<b.ar.length):cu b q f i=cu b p f i:=by
 rw[uQ,eT hb h.lq hi (by rw[h.key hb hf];exact hk),eT hb h.lp hi hk,h.key hb (iT hb hi)];simp only[p9 h.bk];refine Ag λ_=>Ag λhh=> ?_;obtain⟨e1,e2,e3⟩:=h.src i hi hh;rw[e1,e3]
theorem jq.live (hb:df b){f:Nat}(h:jq b f p q)(hf:f<b.n)(hk:Vm.key b p f=f):aY b q f=aY b p f:=by
 unfold aY;rw[h.key hb hf,hk,h.aA hb]
theorem ug {f:Nat}(hk:key b p f=f):dt b p f=bif aY b p f then kt b p f else 0:=by unfold dt kt;rw[hk]
theorem jq.high (hb:df b){f:Nat}{tb:p_}(h:jq b f p q)(hf:f<b.n)(hk:Vm.key b p f=f)(hh:cj b tb q f=true):cj b tb p f=true:=by
 have wK:Vm.key b q f=f:=by rw[h.key hb hf];exact hk
 unfold cj at hh|-;simp only[bO,lR]at hh|-;have e1:=h.live hb hf hk;rw[ug wK]at hh;rw[ug hk,<-e1,hh.1];rw[hh.1]at hh;have e2:bV b q f=bV b p f:=by unfold bV;rw[wK,hk,h.aA hb]
 have:=h.ld;rw[e2]at hh;refine⟨rfl,?_⟩;simp only[sG]at hh|-;omega
end
end
section
section
variable {b:Bd} {p q r:Pw}
structure Xs (b:Bd)(s:Nat)(p q:Pw):Prop where
 cl:∀i,i<b.aO.length->i≠cL b s->Vm.cl q i=Vm.cl p i
 len:q.closed.length=b.aO.length
 sr:∀i,i≠s->(Vm.sr q i).st=(Vm.sr p i).st/\(Vm.sr q i).since=(Vm.sr p i).since
 lm:q.gJ=p.gJ
 bk:q.broken=p.broken
def uU (b:Bd)(a:Act)(s:Nat):Prop:=(a.k=3/\a.u=s)\/(a.k=6/\a.u=s/\a.v<b.n)\/(a.k=4/\a.u=s)\/((a.k=1\/a.k=2)/\a.u=cL b s)
theorem uU.ok (hb:df b){a:Act}{s:Nat}(hs:s<b.ar.length)(h:uU b a s):Gz b a:=by
 have h1:=(bu hb hs).1;rcases h with⟨h,e⟩|⟨h,e,hv⟩|⟨h,e⟩|⟨h,e⟩
 ·exact⟨.inr (.inl ⟨.inl h,by omega⟩),λh2=>by omega⟩
 ·exact⟨.inr (.inr ⟨h,by omega,hv⟩),λh2=>by omega⟩
 ·exact⟨.inr (.inl ⟨.inr h,by omega⟩),λh2=>by omega⟩
 ·exact⟨.inl ⟨h,by omega⟩,λ_=>⟨s,hs,e⟩⟩
theorem Ia (hb:df b)(hp:aX b p){s t:Nat}(hs:s<b.ar.length){a:Act}(ha:uU b a s)(h:iH b p t a=some q):Xs b s p q:=by
 have ak:s<p.aA.length:=by rw[hp.s];exact hs
 have hbl:cL b s<p.closed.length:=by rw[hp.c];exact(bu hb hs).1
 unfold iH at h;rcases ha with⟨hk,rfl⟩|⟨hk,rfl,hv⟩|⟨hk,rfl⟩|⟨hk,e⟩
 ·rw[aC (by omega),aC (by omega),aK hk]at h;unfold jP at h;split at h
  ·cases h;exact⟨λ_ _ _=>rfl,hp.c,λi hi=>by rw[mr ak,aC hi];exact⟨rfl,rfl⟩,rfl,rfl⟩
  ·cases h
 ·rw[aC (by omega),aC (by omega),aC (by omega),aC (by omega)]at h;unfold jX at h;split at h
  ·split at h
   ·cases h;refine⟨λ_ _ _=>rfl,hp.c,λi _=> ?_,rfl,rfl⟩;refine⟨um.s i,?_⟩;by_cases hi:i<p.aA.length
    ·rw[gO hi];split<;>rfl
    ·have e1:sr p i=default:=tP (by omega);rename_i l _ _ _;have e2:sr (eJ p (zh b p a.u) (sr p l)) i=default:=tP (by simp[eJ];omega);rw[e1,e2]
   ·cases h
  ·cases h
 ·rw[aC (by omega),aC (by omega),aC (by omega),aK hk]at h;unfold sB at h;split at h
  ·cases h;exact⟨λ_ _ _=>rfl,hp.c,λi hi=>by rw[mr ak,aC hi];exact⟨rfl,rfl⟩,rfl,rfl⟩
  ·cases h
 ·rcases hk with hk|hk
  ·rw[aK hk]at h;unfold lW at h;split at h
   ·cases h;refine⟨λi hi hne=> ?_,by simp[follow,cA,hp.c],λi _=>jr i,rfl,rfl⟩;show Vm.cl (cA p a.u true) i=_;rw[mL (by rw[e];exact hbl),aC (by rw[e];exact hne)]
   ·cases h
  ·rw[aC (by omega),aK hk]at h;unfold rE at h;split at h
   ·cases h;refine⟨λi hi hne=> ?_,by simp[cA,hp.c],λi _=>⟨rfl,rfl⟩,rfl,rfl⟩;rw[mL (by rw[e];exact hbl),aC (by rw[e];exact hne)]
   ·cases h
theorem kP {x:fX}(hbk:q.broken=p.broken)(hs:x.k=2->(sr q x.b).st=(sr p x.b).st):kQ b q x=kQ b p x:=by
 unfold kQ;simp only[p9 hbk];by_cases hk:x.k=2
 ·rw[hs hk]
 ·simp only[hk,yZ]
theorem ND.run (hb:df b)(h:ND b p){s:Nat}(hs:s<b.ar.length)(hc:cl p (cL b s)=true):(sr p s).st=2:=by
 obtain⟨h1,h2,h3⟩:=bu hb hs;have:=h _ h1 (by omega) hc;unfold kQ at this;rw[aC (by omega),aK h2,h3]at this;simp only[CD,bne_eq_false_iff_eq]at this;exact this.2.2
theorem ad3 (hb:df b){s:Nat}(hs:s<b.ar.length)(hn:ND b p)(hf:Xs b s p q)(hc:cl q (cL b s)=true->kQ b q (br b (cL b s))=false):ND b q:=by
 intro i hi hk jO;by_cases he:i=cL b s
 ·subst he;exact hc jO
 ·rw[kP (p:=p) hf.bk λh2=> ?_]
  ·exact hn i hi hk (by rw[<-hf.cl i hi he];exact jO)
  ·refine(hf.sr _ λe=>he ?_).1;exact yS hb hi h2 e
theorem afm (hb:df b)(hp:aX b p)(hn:ND b p){s t:Nat}(hs:s<b.ar.length){a:Act}(ha:uU b a s)(h:iH b p t a=some q):ND b q:=by
 have hf:=Ia hb hp hs ha h;refine ad3 hb hs hn hf λhc=> ?_;have ak:s<p.aA.length:=by rw[hp.s];exact hs
 obtain⟨k1,k2,k3⟩:=bu hb hs;have hbl:cL b s<p.closed.length:=by rw[hp.c];exact k1
 unfold iH at h;rcases ha with⟨hk,rfl⟩|⟨hk,rfl,hv⟩|⟨hk,rfl⟩|⟨hk,e⟩
 ·rw[aC (by omega),aC (by omega),aK hk]at h;unfold jP at h;split at h
  ·rename_i hst;cases h;have:=hn.run hb hs hc;omega
  ·cases h
 ·rw[aC (by omega),aC (by omega),aC (by omega),aC (by omega)]at h;unfold jX at h;split at h
  ·split at h
   ·cases h;rw[kP (p:=p) (q:=eJ p _ _) rfl λ_=>um.s _];exact hn _ k1 (by omega) hc
   ·cases h
  ·cases h
 ·rw[aC (by omega),aC (by omega),aC (by omega),aK hk]at h;unfold sB at h;split at h
  ·rename_i hst;cases h;have hc:cl p (cL b a.u)=true:=hc;rw[hst.2]at hc;cases hc
  ·cases h
 ·rcases hk with hk|hk
  ·rw[aK hk]at h;unfold lW at h;split at h
   ·rename_i hm;cases h;rw[kP (p:=p) (q:=follow b (cA p a.u true)) rfl λ_=>(jr (p:=cA p a.u true) _).1];unfold Dc lQ at hm;rw[e,aC (by omega),aK k2]at hm;simp only[bO,fQ,w8]at hm;unfold kQ;rw[aC (by omega),aK k2,hm.1.2.2.1,hm.1.2.2.2.1,hm.1.2.2.2.2];rfl
   ·cases h
  ·rw[aC (by omega),aK hk]at h;unfold rE at h;split at h
   ·cases h;rw[e,mL hbl,aK rfl]at hc;cases hc
   ·cases h
structure Rj (b:Bd)(p q:Pw):Prop where
 ok:aX b q
 Lh:j_ b q
 kp:Kp b p q
 aA:q.aA=p.aA
 bk:q.broken=p.broken
 cs:∀i,cl q i=true->cl p i=true
 lm:∀u,lm q u<=lm p u
theorem K1.Xv {acts:List Act}(hf:j_ b p)(hn:ND b p)(h:K1 b p q acts):Rj b p q where
 ok:=h.ok
 Lh:=h.Lh
 kp i hi hk:=by
  rw[h.ex i hi hk];cases hc:cl p i with
  |false=>rfl
  |true=>rw[hn i hi hk hc];rfl
 aA:=(h.fl hf).1
 bk:=h.bk
 cs:=h.cs
 lm:=h.lm
theorem Rj.sr (h:Rj b p q)(i:Nat):Vm.sr q i=Vm.sr p i:=by unfold Vm.sr;rw[h.aA]
theorem Rj.nd (h:Rj b p q)(hn:ND b p):ND b q:=λi hi hk hc=>by
 rw[kP (p:=p) h.bk λ_=>by rw[h.sr]];exact hn i hi hk (by rw[<-h.kp i hi hk];exact hc)
theorem K1.nd {acts:List Act}(h:K1 b p q acts):ND b q:=λi hi hk hc=>by
 rw[kP (p:=p) h.bk λ_=>(h.sr _).1];rw[h.ex i hi hk]at hc;simp only[bO,fQ]at hc;exact hc.2
theorem Kp.tie (h:Kp b p q):fF b p q:=λi hi hk=>h i hi (by omega)
theorem Rj.ext (hb:df b)(hp:aX b p)(h:Rj b p q)(f:Nat):jq b f p q where
 tie:=h.kp.tie
 lp:=hp.c
 lq:=h.ok.c
 src i hi _:=by
  obtain⟨h1,h2,h3⟩:=bu hb hi;exact⟨by rw[h.sr],by rw[h.sr],h.kp _ h1 (by omega)⟩
 bk:=h.bk
 ld:=Qd hb hp h.ok.c h.kp.tie h.cs h.lm f
theorem Xs.tie (hb:df b){s:Nat}(hs:s<b.ar.length)(h:Xs b s p q):fF b p q:=λi hi hk=>h.cl i hi λe=>by
 have:=(bu hb hs).2.1;subst e;omega
theorem Xs.load (hb:df b)(hp:aX b p){s:Nat}(hs:s<b.ar.length)(h:Xs b s p q)(f:Nat):kt b q f<=kt b p f:=
 Qc hb hp h.len (h.tie hb hs) (λi hi hk=>h.cl i hi λe=>by
  have:=(bu hb hs).2.1;subst e;omega) h.lm f
theorem Xs.ext (hb:df b)(hp:aX b p){s f:Nat}(hs:s<b.ar.length)(h:Xs b s p q)(hf:key b p (home b s)≠f):jq b f p q where
 tie:=h.tie hb hs
 lp:=hp.c
 lq:=h.len
 src i hi hk:=by
  have hne:i≠s:=λe=>by subst e;exact hf hk
  obtain⟨h1,h2,h3⟩:=bu hb hi;refine⟨(h.sr i hne).1,(h.sr i hne).2,h.cl _ h1 λe=>hne ?_⟩;rw[<-h3,e];exact(bu hb hs).2.2
 bk:=h.bk
 ld:=h.load hb hp hs f
theorem BS.nd (hb:df b)(hp:aX b p)(hf:j_ b p)(hn:ND b p){s t:Nat}(ht:t<=2147483648)(hs:s<b.ar.length){a:Act}(ha:uU b a s){st:List Pw}(h:BS b t p a q st):
  (iH b p t a=none/\q=p)\/∃m,iH b p t a=some m/\Xs b s p m/\aX b m/\j_ b m/\ND b m/\Rj b m q:=by
 rcases h with⟨h1,h2,_⟩|⟨m,acts,h1,h2,_⟩
 ·exact .inl ⟨h1,h2⟩
 ·obtain⟨a1,a2⟩:=Nv hb hp hf ht (ha.ok hb hs).1 h1;have a3:=afm hb hp hn hs ha h1;exact .inr ⟨m,h1,Ia hb hp hs ha h1,a1,a2,a3,h2.Xv a2 a3⟩
structure Gd (b:Bd)(t:Nat)(p:Pw):Prop where
 ok:aX b p
 Lh:j_ b p
 nd:ND b p
 si:∀i,i<b.ar.length->(sr p i).since<=t
theorem Gw (hb:df b)(hp:aX b p){s t:Nat}(hs:s<b.ar.length){a:Act}(ha:uU b a s)(h:iH b p t a=some q):(sr q s).since=(sr p s).since\/(sr q s).since=t:=by
 have ak:s<p.aA.length:=by rw[hp.s];exact hs
 unfold iH at h;rcases ha with⟨hk,rfl⟩|⟨hk,rfl,hv⟩|⟨hk,rfl⟩|⟨hk,e⟩
 ·rw[aC (by omega),aC (by omega),aK hk]at h;unfold jP at h;split at h
  ·cases h;right;rw[mr ak,aK rfl];rfl
  ·cases h
 ·rw[aC (by omega),aC (by omega),aC (by omega),aC (by omega)]at h;unfold jX at h;split at h
  ·split at h
   ·cases h;left;rw[gO ak];split<;>rfl
   ·cases h
  ·cases h
 ·rw[aC (by omega),aC (by omega),aC (by omega),aK hk]at h;unfold sB at h;split at h
  ·cases h;left;rw[mr ak,aK rfl];rfl
  ·cases h
 ·rcases hk with hk|hk
  ·rw[aK hk]at h;unfold lW at h;split at h
   ·cases h;left;exact(jr _).2
   ·cases h
  ·rw[aC (by omega),aK hk]at h;unfold rE at h;split at h
   ·cases h;left;rfl
   ·cases h
theorem BS.gd (hb:df b){t:Nat}(hg:Gd b t p){s:Nat}(ht:t<=2147483648)(hs:s<b.ar.length){a:Act}(ha:uU b a s){st:List Pw}(h:BS b t p a q st):Gd b t q:=by
 rcases h.nd hb hg.ok hg.Lh hg.nd ht hs ha with⟨_,rfl⟩|⟨m,h1,h2,h3,h4,h5,h6⟩
 ·exact hg
 ·refine⟨h6.ok,h6.Lh,h6.nd h5,λi hi=> ?_⟩;rw[h6.sr];by_cases he:i=s
  ·subst he;have:=hg.si i hi;rcases Gw hb hg.ok hi ha h1 with e|e<;>omega
  ·rw[(h2.sr i he).2];exact hg.si i hi
theorem BS.ext (hb:df b){t:Nat}(hg:Gd b t p){s f:Nat}(ht:t<=2147483648)(hs:s<b.ar.length){a:Act}(ha:uU b a s){st:List Pw}(h:BS b t p a q st)(hf:key b p (home b s)≠f):jq b f p q:=by
 rcases h.nd hb hg.ok hg.Lh hg.nd ht hs ha with⟨_,rfl⟩|⟨m,h1,h2,h3,h4,h5,h6⟩
 ·exact jq.refl hg.ok f
 ·exact(h2.ext hb hg.ok hs hf).trans hb (h6.ext hb h3 f)
end
end
section
section
variable {b:Bd} {p q r:Pw} {tb:p_}
theorem GI {g h:Nat->Nat}:∀(l:List Nat),(∀x∈l,g x<=h x)->(l.map g).sum<=(l.map h).sum
 |[],_=>dB _
 |x::l,hl=>by
  have:=GI l λy hy=>hl y (gp _ hy);have:=hl x (by simp);simp only[qx,CE];omega
theorem NM {g h:Nat->Nat}{n d:Nat}:∀(l:List Nat),n∈l->(∀x∈l,g x<=h x)->g n+d<=h n->(l.map g).sum+d<=(l.map h).sum
 |[],hn,_,_=>by cases hn
 |x::l,hn,hl,hd=>by
  have hx:=hl x (by simp);simp only[qx,CE];rcases gI.1 hn with rfl|hn
  ·have:=GI l λy hy=>hl y (gp _ hy);omega
  ·have:=NM l hn (λy hy=>hl y (gp _ hy)) hd;omega
structure EA (b:Bd)(s:Nat)(p q:Pw):Prop where
 tie:fF b p q
 lp:p.closed.length=b.aO.length
 lq:q.closed.length=b.aO.length
 src:∀i,i<b.ar.length->i≠s->(sr q i).st=(sr p i).st/\(sr q i).since=(sr p i).since/\cl q (cL b i)=cl p (cL b i)
 bk:q.broken=p.broken
 ld:∀f,kt b q f<=kt b p f
theorem EA.refl (hp:aX b p)(s:Nat):EA b s p p:=⟨fF.refl p,hp.c,hp.c,λ_ _ _=>⟨rfl,rfl,rfl⟩,rfl,λ_=>dB _⟩
theorem EA.trans {s:Nat}(h:EA b s p q)(k:EA b s q r):EA b s p r:=by
 refine⟨h.tie.trans k.tie,h.lp,k.lq,λi hi hne=> ?_,k.bk.trans h.bk,λf=>jS (k.ld f) (h.ld f)⟩;have h1:=h.src i hi hne;have h2:=k.src i hi hne;exact⟨h2.1.trans h1.1,h2.2.1.trans h1.2.1,h2.2.2.trans h1.2.2⟩
theorem Xs.Q5 (hb:df b)(hp:aX b p){s:Nat}(hs:s<b.ar.length)(h:Xs b s p q):EA b s p q where
 tie:=h.tie hb hs
 lp:=hp.c
 lq:=h.len
 src i hi hne:=by
  obtain⟨h1,h2,h3⟩:=bu hb hi;refine⟨(h.sr i hne).1,(h.sr i hne).2,h.cl _ h1 λe=>hne ?_⟩;rw[<-h3,e];exact(bu hb hs).2.2
 bk:=h.bk
 ld:=h.load hb hp hs
theorem Rj.Q5 (hb:df b)(hp:aX b p)(h:Rj b p q)(s:Nat):EA b s p q:=by
 have e:=h.ext hb hp;refine⟨(e 0).tie,(e 0).lp,(e 0).lq,λi hi _=>(e (key b p (home b i))).src i hi rfl,h.bk,λf=>(e f).ld⟩
theorem EA.key (hb:df b){s:Nat}(h:EA b s p q){j:Nat}(hj:j<b.n):key b q j=Vm.key b p j:=jB hb h.lp h.lq h.tie hj
theorem EA.AK (hb:df b){s f i:Nat}(h:EA b s p q)(hf:f<b.n)(hk:Vm.key b p f=f)(hi:i<b.ar.length)(hne:i≠s):cu b q f i=cu b p f i:=by
 obtain⟨e1,e2,e3⟩:=h.src i hi hne;rw[uQ,eT hb h.lq hi (by rw[h.key hb hf];exact hk),eT hb h.lp hi hk,h.key hb (iT hb hi)];simp only[p9 h.bk,e1,e3]
def wt (b:Bd)(p:Pw)(f t i:Nat):Nat:=if cu b p f i=true then(if (sr p i).st=0 then 6 else if (sr p i).st=2 then 2 else 2+max 1 ((sr p i).since+(gn b i).start-t)) else 0
def Fu (b:Bd)(p:Pw)(f t i:Nat):Nat:=if cu b p f i=true then(if (sr p i).st=0 then 6 else if (sr p i).st=2 then 2 else if (sr p i).since+(gn b i).start<=t+1 then 2 else 2+((sr p i).since+(gn b i).start-(t+1))) else 0
def ro (h:Int):Nat:=if h=-1 then 1 else 0
def WW (b:Bd)(p:Pw)(f t:Nat):Nat:=((List.range b.ar.length).map (wt b p f t)).sum
def WW2 (b:Bd)(p:Pw)(f t:Nat):Nat:=((List.range b.ar.length).map (Fu b p f t)).sum
theorem RE (f t i:Nat):Fu b p f t i<=wt b p f t i:=by
 unfold Fu wt;split
 ·split
  ·exact dB _
  ·split
   ·exact dB _
   ·split<;>omega
 ·exact dB _
theorem EA.Fu (hb:df b){s f i t:Nat}(h:EA b s p q)(hf:f<b.n)(hk:Vm.key b p f=f)(hi:i<b.ar.length)(hne:i≠s):Fu b q f t i=Vm.Fu b p f t i:=by
 obtain⟨e1,e2,e3⟩:=h.src i hi hne;unfold Vm.Fu;rw[h.AK hb hf hk hi hne,e1,e2]
theorem EA.WW (hb:df b){s f t d:Nat}(h:EA b s p q)(hf:f<b.n)(hk:Vm.key b p f=f)(hs:s<b.ar.length)(hd:Vm.Fu b q f t s+d<=wt b p f t s):WW2 b q f t+d<=Vm.WW b p f t:=by
 refine NM _ (gR.2 hs) (λx hx=> ?_) hd;by_cases he:x=s
 ·subst he;omega
 ·rw[h.Fu hb hf hk (gR.1 hx) he];exact RE f t x
theorem BT.Mh {t:Nat}{s:List Pw}(h:BT b t p [] q s):q=p/\s=[]:=by cases h;exact⟨rfl,rfl⟩
theorem BT.cons' {t:Nat}{a:Act}{l:List Act}{s:List Pw}(h:BT b t p (a::l) q s):∃m s1 s2,BS b t p a m s1/\BT b t m l q s2/\s=s1++s2:=by
 cases h with
 |cons h1 h2=>exact⟨_,_,_,h1,h2,rfl⟩
theorem BT.one {t:Nat}{a:Act}{s:List Pw}(h:BT b t p [a] q s):BS b t p a q s:=by
 obtain⟨m,s1,s2,h1,h2,rfl⟩:=h.cons';obtain⟨rfl,rfl⟩:=h2.Mh;rw[uN];exact h1
theorem BT.two {t:Nat}{a c:Act}{s:List Pw}(h:BT b t p [a,c] q s):∃m s1 s2,BS b t p a m s1/\BS b t m c q s2:=by
 obtain⟨m,s1,s2,h1,h2,rfl⟩:=h.cons';exact⟨m,s1,s2,h1,h2.one⟩
theorem BS.some {t:Nat}{a:Act}{m:Pw}{s:List Pw}(h:BS b t p a q s)(ha:iH b p t a=some m):∃acts,K1 b m q acts:=by
 rcases h with⟨h1,_⟩|⟨m',acts,h1,h2,_⟩
 ·rw[ha]at h1;cases h1
 ·rw[ha]at h1;cases h1;exact⟨acts,h2⟩
theorem BS.go (hb:df b){t:Nat}(hg:Gd b t p)(ht:t<=2147483648){s:Nat}(hs:s<b.ar.length){a:Act}(ha:uU b a s){m:Pw}(hm:iH b p t a=Option.some m){st:List Pw}(h:BS b t p a q st):Gd b t q/\EA b s p q/\Rj b m q:=by
 have h1:=h.gd hb hg ht hs ha;rcases h.nd hb hg.ok hg.Lh hg.nd ht hs ha with⟨h2,_⟩|⟨m',h2,h3,h4,h5,h6,h7⟩
 ·rw[hm]at h2;cases h2
 ·rw[hm]at h2;cases h2;exact⟨h1,(h3.Q5 hb hg.ok hs).trans (h7.Q5 hb h4 s),h7⟩
theorem BT.ext (hb:df b){t:Nat}(ht:t<=2147483648){f:Nat}{l:List Act}{s:List Pw}(h:BT b t p l q s):Gd b t p->(∀a∈l,∃s,s<b.ar.length/\uU b a s/\key b p (home b s)≠f)->jq b f p q/\Gd b t q:=by
 induction h with
 |nil p=>intro hg _;exact⟨jq.refl hg.ok f,hg⟩
 |cons h1 h2 ih=>
  rename_i p1 q1 r1 a1 l1 s1 s1';intro hg ha;obtain⟨x,hx,zC,hkx⟩:=ha _ (pH ..);have g1:=h1.gd hb hg ht hx zC;have e1:=h1.ext hb hg ht hx zC hkx;obtain⟨e2,g2⟩:=ih g1 λc hc=>by
   obtain⟨y,hy,k1,k2⟩:=ha c (gp _ hc);exact⟨y,hy,k1,by rw[e1.key hb (iT hb hy)];exact k2⟩
  exact⟨e1.trans hb e2,g2⟩
theorem BT.gd (hb:df b){t:Nat}(ht:t<=2147483648){l:List Act}{s:List Pw}(h:BT b t p l q s):Gd b t p->(∀a∈l,∃s,s<b.ar.length/\uU b a s)->Gd b t q:=by
 induction h with
 |nil p=>intro hg _;exact hg
 |cons h1 h2 ih=>
  intro hg ha;obtain⟨x,hx,zC⟩:=ha _ (pH ..);exact ih (h1.gd hb hg ht hx zC) λc hc=>ha c (gp _ hc)
end
end
section
section
variable {b:Bd} {p q r:Pw} {tb:p_}
structure Own (b:Bd)(tb:p_)(f t:Nat)(p:Pw)(x:Int)(q:Pw)(y:Int):Prop where
 gd:Gd b t q
 tie:fF b p q
 back:cj b tb q f=true->cj b tb p f=true/\(∀i,i<b.ar.length->cu b q f i=true->cu b p f i=true)/\((∃i,i<b.ar.length/\cu b q f i=true)->WW2 b q f t+ro y+1<=WW b p f t+ro x)
end
end
section
section
variable {b:Bd} {p q r:Pw} {tb:p_}
theorem lD {f j:Nat}:j∈aZ b p f↔j<b.n/\key b p j=f:=by simp[aZ]
theorem dW (hb:df b){f:Nat}:f∈aH b p↔f<b.n/\key b p f=f:=by
 unfold aH;rw[uO,gR,fQ,<-Cm,List.isEmpty_iff];constructor
 ·rintro⟨h1,h2⟩;obtain⟨j,hj⟩:=List.exists_mem_of_ne_nil _ h2;obtain⟨h3,h4⟩:=lD.1 hj;exact⟨h1,by rw[<-h4];exact Ou hb h3⟩
 ·rintro⟨h1,h2⟩;refine⟨h1,λh=> ?_⟩;have:f∈aZ b p f:=lD.2 ⟨h1,h2⟩;rw[h]at this;cases this
theorem fJ (hb:df b){f j:Nat}{l:List Nat}(hf:f<b.n)(hk:key b p f=f)(h:aZ b p f=j::l):j=f:=by
 have hm:f∈aZ b p f:=lD.2 ⟨hf,hk⟩;have hj:j∈aZ b p f:=by rw[h];simp
 obtain⟨h1,h2⟩:=lD.1 hj;have h3:f<=j:=by rw[<-h2];exact U6 hb h1
 have hs:(aZ b p f).Pairwise (· < ·):=Jc _ List.pairwise_lt_range;rw[h]at hs hm;rcases gI.1 hm with e|e
 ·exact e.symm
 ·have:=(CL.1 hs).1 f e;omega
theorem jq.wt (hb:df b){f t i:Nat}(h:jq b f p q)(hf:f<b.n)(hk:Vm.key b p f=f)(hi:i<b.ar.length):wt b q f t i=Vm.wt b p f t i/\Fu b q f t i=Vm.Fu b p f t i:=by
 have e:=h.AK hb hf hk hi;unfold Vm.wt Vm.Fu;rw[e];cases hh:cu b p f i with
 |false=>simp
 |true=>
  have ahE:=((eT hb h.lp hi hk).1 hh).2.1;obtain⟨e1,e2,e3⟩:=h.src i hi ahE;rw[e1,e2];exact⟨rfl,rfl⟩
theorem jq.WW (hb:df b){f t:Nat}(h:jq b f p q)(hf:f<b.n)(hk:Vm.key b p f=f):WW b q f t=Vm.WW b p f t/\WW2 b q f t=Vm.WW2 b p f t:=by
 unfold Vm.WW Vm.WW2;constructor<;>
 ·congr 1;refine rj λi hi=> ?_;have:=h.wt (t:=t) hb hf hk (gR.1 hi)
  first|exact this.1|exact this.2
theorem mn {t i:Nat}(hi:i<p.aA.length):(sr (bt b p t) i).since=(sr p i).since/\(sr (bt b p t) i).st=if (sr p i).st=1/\cl p (cL b i)=false/\(sr p i).since+(gn b i).start<=t+1 then 2 else(sr p i).st:=by
 rw[GQ hi];unfold nX;obtain⟨e1,e2,e3⟩:=Bu (sr p i);rw[e2,e3];split
 ·exact⟨rfl,rfl⟩
 ·exact⟨e3,e2⟩
theorem XQ (hb:df b)(hp:aX b p)(t:Nat)(h:ND b p):ND b (bt b p t):=λi hi hk hc=>by
 have hc:cl p i=true:=hc;rw[kP (p:=p) (q:=bt b p t) rfl λh2=> ?_]
 ·exact h i hi hk hc
 ·have hg:=(hb.tie _ (qW hb hi)).2.2.1 h2;rw[(mn (by rw[hp.s];exact hg)).2,aC];rintro⟨_,h3,_⟩;have:=yS hb hi h2 rfl;rw[<-this,hc]at h3;cases h3
theorem Gd.wait (hb:df b){t:Nat}(h:Gd b t p):Gd b (t+1) (bt b p t) where
 ok:=h.ok.B0 t
 Lh:=tj hb h.ok t h.Lh
 nd:=XQ hb h.ok t h.nd
 si i hi:=by
  rw[(mn (by rw[h.ok.s];exact hi)).1];exact Nat.le_succ_of_le (h.si i hi)
theorem yD (hb:df b)(hp:aX b p)(t f:Nat):av b (bt b p t) f=av b p f:=vO λi hi=>by
 rw[bW,bW,yF hb hp t hi];rfl
theorem yE (hb:df b)(hp:aX b p)(t f:Nat):cj b tb (bt b p t) f=cj b tb p f:=by
 have e1:=yD hb hp t;have e2:aY b (bt b p t) f=aY b p f:=by unfold aY;rw[e1];rfl
 have e3:bV b (bt b p t) f=bV b p f:=by unfold bV;rw[e1];rfl
 have e4:dt b (bt b p t) f=dt b p f:=by unfold dt;rw[e2];rfl
 unfold cj;rw[e2,e3,e4]
end
end
section
def aiA (b:Bd)(tb:p_)(t:Nat)(p:Pw)(R:List (Int×Int))(p':Pw)(R':List (Int×Int)):Prop:=
 ∃q s,rW b tb t p R (aH b p) p (List.replicate b.n (-1,-1)) q R' s/\p'=bt b q t/\aX b q/\j_ b q/\R'.length=b.n/\∀r∈R',Ez t r
inductive yu (b:Bd)(tb:p_):Nat->Nat->Pw->List (Int×Int)->Pw->List (Int×Int)->Prop
 |zero (t:Nat) (p:Pw) (R:List (Int×Int)):yu b tb 0 t p R p R
 |succ {n t:Nat} {p q r:Pw} {R S U:List (Int×Int)}:aiA b tb t p R q S->yu b tb n (t+1) q S r U->yu b tb (n+1) t p R r U
section
variable {b:Bd} {p q r:Pw} {tb:p_}
theorem ae0 {t h:Int}(hd:fq tb t h=true):h≠-1:=by
 unfold fq at hd;simp only[bO,bne_iff_ne]at hd;exact hd.1
theorem LK {old t:Int}{h:Bool}(hs:cp old h t≠-1):h=true:=by
 cases h with
 |true=>rfl
 |false=>exact absurd rfl hs
structure Calm (b:Bd)(tb:p_)(p:Pw):Prop where
 ok:aX b p
 Lh:j_ b p
 high:∀f,f<b.n->key b p f=f->cj b tb p f=true->∀n,fg b p f=some n->(sr p n).st=1
 low:∀f,f<b.n->key b p f=f->fo b tb p f=none
 mat:∀i,i<b.ar.length->(sr p i).st=1->cl p (cL b i)=true
theorem Calm.step (h:Calm b tb p){f t:Nat}(hf:f<b.n)(hk:key b p f=f)(x:Int×Int):(dQ b tb p f t x).2=[]:=by
 unfold dQ;simp only;cases hn:(bif fq tb t (cp x.1 (cj b tb p f) t) then fg b p f else none)with
 |some n=>
  cases hd:fq tb t (cp x.1 (cj b tb p f) t)with
  |false=>rw[hd]at hn;cases hn
  |true=>
   rw[hd]at hn;have:=h.high f hf hk (LK (ae0 hd)) n hn;show ed b p f n=[]
   unfold ed;rw[aC (by omega),aC (by omega)]
 |none=>
  simp only;rw[h.low f hf hk];cases fq tb t (cp x.2 (none:Option Nat).isSome t)<;>rfl
theorem Ir (hb:df b)(hp:aX b p)(t f:Nat):fo b tb (bt b p t) f=fo b tb p f:=by
 have e1:=yD hb hp t;have e2:aY b (bt b p t) f=aY b p f:=by unfold aY;rw[e1];rfl
 have e3:bV b (bt b p t) f=bV b p f:=by unfold bV;rw[e1];rfl
 have e4:dt b (bt b p t) f=dt b p f:=by unfold dt;rw[e2];rfl
 unfold fo;rw[show key b (bt b p t) f=key b p f from rfl,e1];have:sY b tb (bt b p t) f=sY b tb p f:=by funext i;unfold sY;rw[e3,e4];rfl
 rw[this]
theorem Pb (hb:df b)(hp:aX b p){t:Nat}(hm:∀i,i<b.ar.length->(sr (bt b p t) i).st=(sr p i).st)(f:Nat):fg b (bt b p t) f=fg b p f:=by
 have e1:=yD hb hp t;have e:∀s,kr b (bt b p t) f s=kr b p f s:=λs=>by
  unfold kr;refine find_congr _ λi hi=> ?_;rw[hm i (gR.1 hi)];congr 1;unfold cu;rw[hm i (gR.1 hi),show key b (bt b p t) f=key b p f from rfl,e1];rfl
 unfold fg;rw[e,e,e]
theorem Calm.wait (hb:df b)(h:Calm b tb p)(t:Nat):Calm b tb (bt b p t):=by
 have hst:∀i,i<b.ar.length->(sr (bt b p t) i).st=(sr p i).st:=λi hi=>by
  rw[(mn (by rw[h.ok.s];exact hi)).2,aC];rintro⟨a1,a2,_⟩;rw[h.mat i hi a1]at a2;cases a2
 refine⟨h.ok.B0 t,tj hb h.ok t h.Lh,λf hf hk hh n hn=> ?_,λf hf hk=> ?_,λi hi hs=> ?_⟩
 ·rw[yE hb h.ok]at hh;rw[Pb hb h.ok hst]at hn;rw[hst n (fS hn).1];exact h.high f hf hk hh n hn
 ·rw[Ir hb h.ok];exact h.low f hf hk
 ·rw[hst i hi]at hs;exact h.mat i hi hs
end
end
section
def Nb (b:Bd):Pw->List Pw->Prop
 |_,[]=>True
 |p,q::l=>aX b q/\wm b p q/\Nb b q l
section
variable {b:Bd} {p q r:Pw} {tb:p_}
theorem Nb.app:∀{l m:List Pw} {p:Pw},Nb b p l->Nb b (l.getLastD p) m->Nb b p (l++m)
 |[],m,p,_,h=>h
 |q::l,m,p,h,k=>⟨h.1,h.2.1,Nb.app h.2.2 (by rw[I9]at k;exact k)⟩
theorem JF {l m:List Pw}{p:Pw}:(l++m).getLastD p=m.getLastD (l.getLastD p):=by
 induction l generalizing p with
 |nil=>rfl
 |cons q l ih=>rw[rS,I9,I9];exact ih
theorem adL (hb:df b)(hp:aX b p){a:Act}(ha:aa2 b a):aX b (nR p a)/\nL b (nR p a) p:=by
 unfold nR;rcases ha with⟨hk,hu⟩|⟨hk,hu,hv⟩
 ·rw[aK hk];exact⟨hp.open_ hu,uo hp hu⟩
 ·rw[aC (by omega)];refine⟨⟨hp.c,hp.s,by simp[yP,hp.l],hp.run,λi hi=> ?_,hp.bk,hp.ex,hp.asc,hp.one⟩,yy.less hp ⟨rfl,λ_=>rfl⟩⟩;rw[Hb (by rw[hp.l];exact hu)];split
  ·rename_i e;subst e;exact hv
  ·exact hp.Hd i hi
theorem NY (hb:df b):∀{l:List Act} {p:Pw},aX b p->(∀a∈l,aa2 b a)->Nb b p (Be p l)/\(Be p l).getLastD p=l.foldl nR p
 |[],p,_,_=>⟨trivial,rfl⟩
 |a::l,p,hp,ha=>by
  obtain⟨h1,h2⟩:=adL hb hp (ha a (pH ..));obtain⟨h3,h4⟩:=NY hb h1 λc hc=>ha c (gp _ hc);refine⟨⟨h1,h2.wm hb,h3⟩,?_⟩;show(nR p a::Be (nR p a) l).getLastD p=_;rw[I9,h4];rfl
theorem BS.nb (hb:df b)(hp:aX b p)(hf:j_ b p){t:Nat}(ht:t<=2147483648){a:Act}(ha:Gz b a){s:List Pw}(h:BS b t p a q s):Nb b p s/\s.getLastD p=q:=by
 rcases h with⟨_,rfl,rfl⟩|⟨m,acts,h1,h2,rfl⟩
 ·exact⟨trivial,rfl⟩
 ·obtain⟨a1,a2⟩:=Nv hb hp hf ht ha.1 h1;obtain⟨c1,c2⟩:=NY hb a1 h2.ac;refine⟨⟨a1,Xl hb hp hf ha h1,c1⟩,?_⟩;rw[I9,c2,h2.ap,<-(h2.fl a2).1]
theorem BT.nb (hb:df b){t:Nat}(ht:t<=2147483648){l:List Act}{s:List Pw}(h:BT b t p l q s):aX b p->j_ b p->(∀a∈l,Gz b a)->Nb b p s/\s.getLastD p=q/\aX b q/\j_ b q:=by
 induction h with
 |nil p=>intro hp hf _;exact⟨trivial,rfl,hp,hf⟩
 |cons h1 h2 ih=>
  intro hp hf ha;obtain⟨a1,a2⟩:=h1.nb hb hp hf ht (ha _ (pH ..));obtain⟨a3,a4⟩:=h1.ok hp hf;obtain⟨b1,b2,b3,b4⟩:=ih a3 a4 λc hc=>ha c (gp _ hc);refine⟨a1.app (by rw[a2];exact b1),by rw[JF,a2];exact b2,b3,b4⟩
theorem rW.nb (hb:df b){t:Nat}(ht:t<=2147483648){p0:Pw}{l0:List (Int×Int)}{l:List Nat}{iB eQ:List (Int×Int)}{s:List Pw}(h:rW b tb t p0 l0 l p iB q eQ s):aX b p->j_ b p->Nb b p s/\s.getLastD p=q/\aX b q/\j_ b q:=by
 induction h with
 |nil p iB=>intro hp hf;exact⟨trivial,rfl,hp,hf⟩
 |skip _ _ _ ih=>exact ih
 |step h1 h2 h3 h4 h5 ih=>
  intro hp hf;obtain⟨a1,a2,a3,a4⟩:=h4.nb hb ht hp hf (IP hb hp);obtain⟨b1,b2,b3,b4⟩:=ih a3 a4;refine⟨a1.app (by rw[a2];exact b1),by rw[JF,a2];exact b2,b3,b4⟩
end
end
section
def cW (l:List Nat):List Act:=l.map λi=>⟨1,i,0⟩
def oN (r:gL):gL:=⟨2,r.since,r.fr,r.ph⟩
def IZ (b:Bd)(p:Pw)(i:Nat):Bool:= !((br b i).k==2)&&(!lh p 2 i&& !aY b p (br b i).a)
def gm (b:Bd)(p:Pw):List Nat:=pC b p (IZ b p)
def mg (b:Bd)(x:Pw×List Act×Nat)(i:Nat):Pw×List Act×Nat:=
 if ft b x.1 i=true/\aY b x.1 (home b i)=false then
  (kf x.1 i (oN (sr x.1 i)),if (sr x.1 i).st=0 then x.2.1++[⟨3,i,0⟩] else x.2.1,if (sr x.1 i).st=0 then max (gn b i).start x.2.2 else if (sr x.1 i).st=1 then max 1 (max (gn b i).start x.2.2) else x.2.2)
 else x
def OZ (b:Bd)(j:Nat)(x:Pw×List Nat)(i:Nat):Pw×List Nat:=if (home b i=j/\ft b x.1 i=true)/\aY b x.1 j=false then(cA x.1 (cL b i) true,x.2++[cL b i]) else x
def Wr (b:Bd)(x:Pw×List Nat)(j:Nat):Pw×List Nat:=(List.range b.ar.length).foldl (OZ b j) x
def XG (b:Bd)(p:Pw):Pw×List Nat:=(List.range b.n).foldl (Wr b) (p,[])
def Pg (b:Bd)(g:List Bool)(p:Pw)(i:Nat):Bool:=(br b i).k==1&&(!cl p i&&(jd b p i&&(g.getD (br b i).a false&&aY b p (br b i).a !=aY b p (br b i).b)))
def Lr (b:Bd)(g:List Bool)(p:Pw):Option Nat:=(List.range b.aO.length).find? (Pg b g p)
def X7 (b:Bd)(p:Pw)(c i:Nat):Bool:=(br b i).k==3&&((br b i).b==c&&(jd b p i&&aY b p (br b i).a))
def svF (b:Bd)(p:Pw)(c:Nat):Option Nat:=(List.range b.aO.length).find? (X7 b p c)
def wJ (b:Bd)(x:Pw×List Nat)(c:Nat):Pw×List Nat:=
 if iF b x.1 c=none/\lh x.1 4 c=false then
  match svF b x.1 c with
  |some i=>if dt b x.1 (br b i).a+lm x.1 c<=bV b x.1 (br b i).a then(cA x.1 i true,x.2++[i]) else x
  |none=>x
 else x
inductive GB (b:Bd)(P:Pw->Nat->Prop):Pw->List Nat->Pw->Prop
 |nil (p:Pw):GB b P p [] p
 |cons {p q:Pw} {i:Nat} {l:List Nat}:P p i->i<b.aO.length->cl p i=false->GB b P (cA p i true) l q->GB b P p (i::l) q
section
variable {b:Bd} {p q r:Pw} {tb:p_}
theorem GB.app {P:Pw->Nat->Prop}{l m:List Nat}(h:GB b P p l q)(k:GB b P q m r):GB b P p (l++m) r:=by
 induction h with
 |nil=>exact k
 |cons h1 h2 h3 h4 ih=>exact .cons h1 h2 h3 (ih k)
theorem GB.imp {P Q:Pw->Nat->Prop}{l:List Nat}(Ig:∀p i,P p i->Q p i)(h:GB b P p l q):GB b Q p l q:=by
 induction h with
 |nil=>exact .nil _
 |cons h1 h2 h3 h4 ih=>exact .cons (Ig _ _ h1) h2 h3 ih
theorem abl (j:Nat):aY b p j=true↔∃i u,i<b.ar.length/\conn b p i=some u/\key b p u=key b p j:=by
 unfold aY;rw[fQ,<-Cm,List.isEmpty_iff];constructor
 ·intro h;obtain⟨i,hi⟩:=List.exists_mem_of_ne_nil _ h;obtain⟨h1,u,h2,h3⟩:=bW.1 hi;exact⟨i,u,h1,h2,h3⟩
 ·rintro⟨i,u,h1,h2,h3⟩ he;have:i∈av b p (key b p j):=bW.2 ⟨h1,u,h2,h3⟩;rw[he]at this;cases this
theorem ll (hb:df b)(h:nL b p q){j:Nat}(hj:j<b.n)(hl:aY b p j=true):aY b q j=true:=by
 rw[abl]at hl|-;obtain⟨i,u,h1,h2,h3⟩:=hl;exact⟨i,u,h1,h.conn hb h1 h2,h.key hb (fE hb h.lq h1 h2) hj h3⟩
theorem aes {i j:Nat}(h:key b p i=key b p j):aY b p i=aY b p j:=by unfold aY;rw[h]
theorem Mq (hc:p.closed.length=b.aO.length){i:Nat}(hi:i<b.aO.length):nL b p (cA p i true):=by
 refine⟨λj hj _ h=> ?_,λ_=>rfl,hc,by simp[cA,hc]⟩;rw[mL (by rw[hc];exact hi)];split
 ·rfl
 ·exact h
theorem nL.trans (h:nL b p q)(k:nL b q r):nL b p r:=⟨λi hi hk hc=>k.c i hi hk (h.c i hi hk hc),λi=>(h.s i).trans (k.s i),h.lq,k.lp⟩
theorem GB.less {P:Pw->Nat->Prop}{l:List Nat}(h:GB b P p l q):p.closed.length=b.aO.length->nL b p q/\q.aA=p.aA/\q.broken=p.broken/\q.gJ=p.gJ:=by
 induction h with
 |nil p=>intro hc;exact⟨⟨λ_ _ _ h=>h,λ_=>rfl,hc,hc⟩,rfl,rfl,rfl⟩
 |cons h1 h2 h3 h4 ih=>
  intro hc;have h5:=Mq hc h2;obtain⟨a1,a2,a3,a4⟩:=ih h5.lp;exact⟨h5.trans a1,a2,a3,a4⟩
theorem acC (hb:df b)(hc:p.closed.length=b.aO.length){i:Nat}(hi:i<b.aO.length)(hk:(br b i).k=1)(h:cl p i=true):key b p (br b i).a=key b p (br b i).b:=by
 obtain⟨t1,t2⟩:=(hb.tie _ (qW hb hi)).2.1 hk;rw[BN hb (by omega) t2];exact .fwd (.refl _) ⟨_,eC (gC hc hi),h,hk,rfl,rfl⟩
theorem aaj (hb:df b)(hc:p.closed.length=b.aO.length){s:Nat}(hs:s<b.ar.length)(h1:(sr p s).st=2)(h2:cl p (cL b s)=true):aY b p (home b s)=true:=
 (abl _).2 ⟨s,home b s,hs,(jF hb hc hs).2 ⟨h1,h2,rfl⟩,rfl⟩
def nCl (p:Pw):Nat:=p.closed.countP id
theorem zr {i:Nat}(hi:i<p.closed.length)(h:cl p i=false):nCl (cA p i true)=nCl p+1:=by
 unfold nCl cA;unfold cl at h;generalize p.closed=l at hi h
 induction l generalizing i with
 |nil=>simp at hi
 |cons x l ih=>
  cases i with
  |zero=>
   simp at h;subst h;simp
  |succ i=>
   simp only[I',iw];rw[ih (by simpa using hi) (by simpa using h)];omega
theorem T9 (p:Pw):nCl p<=p.closed.length:=List.countP_le_length
theorem GB.count {P:Pw->Nat->Prop}{l:List Nat}(h:GB b P p l q):p.closed.length=b.aO.length->nCl q=nCl p+l.length:=by
 induction h with
 |nil=>intro _;rfl
 |cons h1 h2 h3 h4 ih=>
  intro hc;rw[ih (by simpa[cA]using hc),zr (by rw[hc];exact h2) h3,cM];omega
theorem GB.len {P:Pw->Nat->Prop}{l:List Nat}(h:GB b P p l q)(hc:p.closed.length=b.aO.length):l.length<=b.aO.length:=by
 have h1:=h.count hc;have h2:=T9 q;have h3:=(h.less hc).1.lp;omega
theorem GB.lt {P:Pw->Nat->Prop}{l:List Nat}(h:GB b P p l q):∀i∈l,i<b.aO.length:=by
 induction h with
 |nil=>intro i hi;cases hi
 |cons h1 h2 h3 h4 ih=>
  intro i hi;rcases gI.1 hi with rfl|hi
  ·exact h2
  ·exact ih i hi
def CnP (b:Bd)(p:Pw)(i:Nat):Prop:=∃s,s<b.ar.length/\i=cL b s/\ft b p s=true/\aY b p (home b s)=false/\(sr p s).st=2
theorem r9 (hbk:q.broken=p.broken)(hs:q.aA=p.aA)(s:Nat):ft b q s=ft b p s:=by
 unfold ft jd sr;rw[hs];simp only[p9 hbk]
def Rdy (b:Bd)(p:Pw):Prop:=∀s,s<b.ar.length->ft b p s=true->aY b p (home b s)=false->(sr p s).st=2
theorem acw (hb:df b){j:Nat}:∀(l:List Nat) (p:Pw) (C:List Nat),(∀s∈l,s<b.ar.length)->p.closed.length=b.aO.length->Rdy b p->
  ∃D,(l.foldl (OZ b j) (p,C)).2=C++D/\GB b (CnP b) p D (l.foldl (OZ b j) (p,C)).1/\Rdy b (l.foldl (OZ b j) (p,C)).1/\∀s∈l,home b s=j->ft b p s=true->aY b (l.foldl (OZ b j) (p,C)).1 j=true
 |[],p,C,_,hc,hr=>⟨[],by simp,.nil p,hr,λs hs=>by cases hs⟩
 |s::l,p,C,hl,hc,hr=>by
  have hs:=hl s (pH ..);have hl':∀s∈l,s<b.ar.length:=λx hx=>hl x (gp _ hx);obtain⟨k1,k2,k3⟩:=bu hb hs;rw[je];by_cases cz:(home b s=j/\ft b p s=true)/\aY b p j=false
  ·have e:OZ b j (p,C) s=(cA p (cL b s) true,C++[cL b s]):=by unfold OZ;rw[aK cz]
   rw[e];obtain⟨⟨h1,h2⟩,h3⟩:=cz;subst h1;have hst:=hr s hs h2 h3;have hop:cl p (cL b s)=false:=by
    cases jO:cl p (cL b s)with
    |false=>rfl
    |true=>rw[aaj hb hc hs hst jO]at h3;cases h3
   have aae:=Mq hc k1;have Fa:Rdy b (cA p (cL b s) true):=λx hx hu hd=>by
    refine hr x hx hu ?_;cases hlv:aY b p (home b x)with
    |false=>rfl
    |true=>rw[ll hb aae (iT hb hx) hlv]at hd;cases hd
   obtain⟨D,d1,d2,d3,d4⟩:=acw hb (j:=home b s) l (cA p (cL b s) true) (C++[cL b s]) hl' aae.lp Fa;have jZ:aY b (cA p (cL b s) true) (home b s)=true:=aaj hb aae.lp hs hst (by rw[mL (by rw[hc];exact k1),aK rfl]);refine⟨cL b s::D,by rw[d1];simp,.cons ⟨s,hs,rfl,h2,h3,hst⟩ k1 hop d2,d3,λx hx _ _=>ll hb (d2.less aae.lp).1 (iT hb hs) jZ⟩
  ·have e:OZ b j (p,C) s=(p,C):=by unfold OZ;rw[aC cz]
   rw[e];obtain⟨D,d1,d2,d3,d4⟩:=acw hb (j:=j) l p C hl' hc hr;refine⟨D,d1,d2,d3,λx hx hxj hu=> ?_⟩;rcases gI.1 hx with rfl|hx
   ·have hlv:aY b p j=true:=by
     cases hlv:aY b p j with
     |true=>rfl
     |false=>exact absurd ⟨⟨hxj,hu⟩,hlv⟩ cz
    exact ll hb (d2.less hc).1 (by rw[<-hxj];exact iT hb hs) hlv
   ·exact d4 x hx hxj hu
theorem acJ (hb:df b):∀(l:List Nat) (p:Pw) (C:List Nat),(∀j∈l,j<b.n)->p.closed.length=b.aO.length->Rdy b p->
  ∃D,(l.foldl (Wr b) (p,C)).2=C++D/\GB b (CnP b) p D (l.foldl (Wr b) (p,C)).1/\Rdy b (l.foldl (Wr b) (p,C)).1/\∀s,s<b.ar.length->home b s∈l->ft b p s=true->aY b (l.foldl (Wr b) (p,C)).1 (home b s)=true
 |[],p,C,_,hc,hr=>⟨[],by simp,.nil p,hr,λs _ hs=>by cases hs⟩
 |j::l,p,C,hl,hc,hr=>by
  have hj:=hl j (pH ..);rw[je];obtain⟨D,d1,d2,d3,d4⟩:=acw hb (j:=j) (List.range b.ar.length) p C (λs hs=>gR.1 hs) hc hr;obtain⟨q,hq⟩:∃q,(Wr b (p,C) j).1=q:=⟨_,rfl⟩
  have e:Wr b (p,C) j=(q,C++D):=by rw[<-hq,<-d1];rfl
  have hq':((List.range b.ar.length).foldl (OZ b j) (p,C)).1=q:=hq;rw[hq']at d2 d3 d4;have aae:=(d2.less hc)
  obtain⟨F,f1,f2,f3,f4⟩:=acJ hb l q (C++D) (λx hx=>hl x (gp _ hx)) aae.1.lp d3;rw[e];refine⟨D++F,by rw[f1,lz],d2.app f2,f3,λs hs hx hu=> ?_⟩;by_cases hh:home b s=j
  ·refine ll hb (f2.less aae.1.lp).1 (iT hb hs) ?_;rw[hh];exact d4 s (gR.2 hs) hh hu
  ·rcases gI.1 hx with hx|hx
   ·exact absurd hx hh
   ·exact f4 s hs hx (by rw[r9 aae.2.2.1 aae.2.1];exact hu)
theorem acM (hb:df b)(hc:p.closed.length=b.aO.length)(hr:Rdy b p):GB b (CnP b) p (XG b p).2 (XG b p).1/\∀s,s<b.ar.length->ft b p s=true->aY b (XG b p).1 (home b s)=true:=by
 obtain⟨D,d1,d2,d3,d4⟩:=acJ hb (List.range b.n) p [] (λj hj=>gR.1 hj) hc hr;refine⟨?_,λs hs hu=>d4 s hs (gR.2 (iT hb hs)) hu⟩;have:(XG b p).2=D:=by unfold XG;rw[d1,gq]
 rw[this];exact d2
def TiP (b:Bd)(g:List Bool)(p:Pw)(i:Nat):Prop:=(br b i).k=1/\jd b p i=true/\g.getD (br b i).a false=true/\aY b p (br b i).a≠aY b p (br b i).b
theorem IJ {g:List Bool}{i:Nat}:Pg b g p i=true↔TiP b g p i/\cl p i=false:=by
 unfold Pg TiP;simp only[bO,w8,fQ,bne_iff_ne];constructor
 ·rintro⟨a1,a2,a3,a4,a5⟩;exact⟨⟨a1,a3,a4,a5⟩,a2⟩
 ·rintro⟨⟨a1,a3,a4,a5⟩,a2⟩;exact⟨a1,a2,a3,a4,a5⟩
def SvP (b:Bd)(p:Pw)(i:Nat):Prop:=(br b i).k=3
theorem aab (hb:df b):∀(l:List Nat) (p:Pw) (C:List Nat),p.closed.length=b.aO.length->
  ∃D,(l.foldl (wJ b) (p,C)).2=C++D/\GB b (SvP b) p D (l.foldl (wJ b) (p,C)).1
 |[],p,C,hc=>⟨[],by simp,.nil p⟩
 |c::l,p,C,hc=>by
  rw[je];have same:wJ b (p,C) c=(p,C)->∃D,(l.foldl (wJ b) (wJ b (p,C) c)).2=C++D/\GB b (SvP b) p D (l.foldl (wJ b) (wJ b (p,C) c)).1:=λe=>by
   rw[e];exact aab hb l p C hc
  by_cases h1:iF b p c=none/\lh p 4 c=false
  ·cases hf:svF b p c with
   |none=>exact same (by unfold wJ;rw[aK h1];simp only;rw[hf])
   |some i=>
    by_cases h2:dt b p (br b i).a+lm p c<=bV b p (br b i).a
    ·have e:wJ b (p,C) c=(cA p i true,C++[i]):=by unfold wJ;rw[aK h1];simp only;rw[hf];simp only;rw[aK h2]
     rw[e];have hi:i<b.aO.length:=gR.1 (Co hf);have hs:=Am hf;unfold X7 at hs;simp only[bO,w8]at hs;have hop:cl p i=false:=by
      cases jO:cl p i with
      |false=>rfl
      |true=>
       exfalso;have h3:=h1.1;unfold iF Oq at h3;rw[Option.map_eq_none_iff,CG]at h3;have:=h3 _ (eC (gC hc hi));simp[hs.1,hs.2.1,jO]at this
     obtain⟨D,d1,d2⟩:=aab hb l (cA p i true) (C++[i]) (by simpa[cA]using hc);exact⟨i::D,by rw[d1];simp,.cons hs.1 hi hop d2⟩
    ·exact same (by unfold wJ;rw[aK h1];simp only;rw[hf];simp only;rw[aC h2])
  ·exact same (by unfold wJ;rw[aC h1])
end
end
section
inductive Q0 (b:Bd):Nat->Pw->List Act->Nat->Pw->Prop
 |nil (t:Nat) (p:Pw):Q0 b t p [] t p
 |act {t t':Nat} {p q r:Pw} {a:Act} {l:List Act} {s:List Pw}:a.k≠7->BS b t p a q s->Q0 b t q l t' r->Q0 b t p (a::l) t' r
 |wait {t t':Nat} {p r:Pw} {a:Act} {l:List Act}:a.k=7->Q0 b (t+1) (bt b p t) l t' r->Q0 b t p (a::l) t' r
section
variable {b:Bd} {p q r:Pw} {tb:p_}
theorem Q0.split {t':Nat}:∀{l m:List Act} {t:Nat} {p:Pw},Q0 b t p (l++m) t' r->∃t1 q,Q0 b t p l t1 q/\Q0 b t1 q m t' r
 |[],m,t,p,h=>⟨t,p,.nil t p,h⟩
 |a::l,m,t,p,h=>by
  cases h with
  |act h1 h2 h3=>
   obtain⟨t1,q,g1,g2⟩:=Q0.split h3;exact⟨t1,q,.act h1 h2 g1,g2⟩
  |wait h1 h2=>
   obtain⟨t1,q,g1,g2⟩:=Q0.split h2;exact⟨t1,q,.wait h1 g1,g2⟩
theorem Q0.Mh {t t':Nat}(h:Q0 b t p [] t' r):t'=t/\r=p:=by cases h;exact⟨rfl,rfl⟩
theorem Q0.act' {t t':Nat}{a:Act}{l:List Act}(ha:a.k≠7)(h:Q0 b t p (a::l) t' r):∃q s,BS b t p a q s/\Q0 b t q l t' r:=by
 cases h with
 |act h1 h2 h3=>exact⟨_,_,h2,h3⟩
 |wait h1 h2=>exact absurd h1 ha
theorem Q0.afz {t t':Nat}{a:Act}{l:List Act}(ha:a.k=7)(h:Q0 b t p (a::l) t' r):Q0 b (t+1) (bt b p t) l t' r:=by
 cases h with
 |act h1 h2 h3=>exact absurd ha h1
 |wait h1 h2=>exact h2
theorem BS.Xv {t:Nat}{a:Act}{m:Pw}{s:List Pw}(hm:iH b p t a=Option.some m)(hf:j_ b m)(hn:ND b m)(h:BS b t p a q s):Rj b m q:=by
 obtain⟨acts,h1⟩:=h.some hm;exact h1.Xv hf hn
theorem adP {t i:Nat}(h:Dc b p i=true):iH b p t ⟨1,i,0⟩=some (follow b (cA p i true)):=by
 show lW b p i=_;unfold lW;rw[aK h]
theorem aeG (hb:df b)(hp:aX b p)(hn:ND b p){i:Nat}(hi:i<b.aO.length)(hs:lQ b p i=true):ND b (follow b (cA p i true)):=by
 intro j hj hk hc;have hc:cl (cA p i true) j=true:=hc;rw[kP (p:=p) (q:=follow b (cA p i true)) rfl λ_=>(jr (p:=cA p i true) _).1];rw[mL (by rw[hp.c];exact hi)]at hc;split at hc
 ·rename_i e;subst e;unfold lQ at hs;simp only[bO,fQ]at hs;obtain⟨s1,s2,s3,s4⟩:=hs;unfold kQ;rw[s3];by_cases h1:(br b j).k=1
  ·rw[aK h1]at s4|-;simpa using s4
  ·rw[aC h1]at s4|-;by_cases h2:(br b j).k=2
   ·rw[aK h2]at s4|-;simp only[bO,fQ,w8]at s4;rw[s4.1,s4.2];rfl
   ·have:=(hb.tie _ (qW hb hj)).2.2.2.2;omega
 ·exact hn j hj hk hc
theorem aeH (hb:df b){t i:Nat}(hg:Gd b t p)(ht:t<=2147483648)(hi:i<b.aO.length){s:List Pw}(h:BS b t p ⟨1,i,0⟩ q s):(Dc b p i=false/\q=p)\/(Dc b p i=true/\Gd b t q/\Rj b (follow b (cA p i true)) q):=by
 cases hm:Dc b p i with
 |false=>
  left;rcases h with⟨_,h2,_⟩|⟨m,acts,h1,_⟩
  ·exact⟨rfl,h2⟩
  ·have h1:lW b p i=some m:=h1;unfold lW at h1;rw[hm,aC (by simp)]at h1;cases h1
 |true=>
  right;have h1:=adP (t:=t) hm;obtain⟨a1,a2⟩:=Nv hb hg.ok hg.Lh ht (.inl ⟨.inl rfl,hi⟩) h1;have hs:lQ b p i=true:=by unfold Dc at hm;simp only[bO]at hm;exact hm.1
  have a3:=aeG hb hg.ok hg.nd hi hs;have a4:=h.Xv h1 a2 a3;exact⟨rfl,⟨a4.ok,a4.Lh,a4.nd a3,λx hx=>by rw[a4.sr,(jr x).2];exact hg.si x hx⟩,a4⟩
structure Sim (b:Bd)(p r:Pw):Prop where
 kp:Kp b p r
 bk:r.broken=p.broken
 lp:p.closed.length=b.aO.length
 run:∀s,s<b.ar.length->cl p (cL b s)=true->(sr p s).st=2
 rdy:∀s,s<b.ar.length->(sr p s).st=2->(sr r s).st=2
theorem Sim.conn (hb:df b)(h:Sim b p r)(hr:aX b r){s:Nat}(hs:s<b.ar.length):conn b r s=Vm.conn b p s:=by
 obtain⟨k1,k2,k3⟩:=bu hb hs;rw[iY hb hr.c hs,iY hb h.lp hs,h.kp _ k1 (by omega)];cases hc:cl p (cL b s)with
 |false=>simp
 |true=>
  have:=h.run s hs hc;rw[this,h.rdy s hs this]
theorem Sim.key (hb:df b)(h:Sim b p r)(hr:aX b r){j:Nat}(hj:j<b.n):key b r j=Vm.key b p j:=jB hb h.lp hr.c h.kp.tie hj
theorem Sim.aA (hb:df b)(h:Sim b p r)(hr:aX b r)(f:Nat):av b r f=av b p f:=vO λi hi=>by
 rw[bW,bW,h.conn hb hr hi];refine Ag λ_=> ?_;constructor
 ·rintro⟨u,h1,h2⟩;exact⟨u,h1,by rw[<-h.key hb hr (fE hb h.lp hi h1)];exact h2⟩
 ·rintro⟨u,h1,h2⟩;exact⟨u,h1,by rw[h.key hb hr (fE hb h.lp hi h1)];exact h2⟩
theorem Sim.live (hb:df b)(h:Sim b p r)(hr:aX b r){j:Nat}(hj:j<b.n):aY b r j=aY b p j:=by
 unfold aY;rw[h.key hb hr hj,h.aA hb hr]
theorem Sim.close (hb:df b)(h:Sim b p r){t i:Nat}(hg:Gd b t r)(hi:i<b.aO.length)(hrun:(br b i).k=2->(sr p (br b i).b).st=2)(hq:Rj b (follow b (cA r i true)) q):Sim b (cA p i true) q where
 kp j hj hk:=by
  rw[hq.kp j hj hk];show cl (cA r i true) j=_;rw[mL (by rw[hg.ok.c];exact hi),mL (by rw[h.lp];exact hi)];split
  ·rfl
  ·exact h.kp j hj hk
 bk:=hq.bk.trans h.bk
 lp:=by simpa[cA]using h.lp
 run s hs hc:=by
  show(sr p s).st=2;rw[mL (by rw[h.lp];exact hi)]at hc;split at hc
  ·rename_i e;have k:=bu hb hs;have:=hrun (by rw[<-e];exact k.2.1);rw[<-e,k.2.2]at this;exact this
  ·exact h.run s hs hc
 rdy s hs h2:=by
  rw[hq.sr];exact(jr (p:=cA r i true) s).1.trans (h.rdy s hs h2)
theorem Sim.aeI (hb:df b)(h:Sim b p r){t i:Nat}(hg:Gd b t r)(hi:i<b.aO.length)(hk3:(br b i).k=3)(hq:q=r\/Rj b (follow b (cA r i true)) q):Sim b (cA p i true) q:=by
 rcases hq with rfl|hq
 ·refine⟨λj hj hk=> ?_,h.bk,by simpa[cA]using h.lp,λs hs hc=> ?_,h.rdy⟩
  ·rw[mL (by rw[h.lp];exact hi),aC λe=>by subst e;exact hk hk3];exact h.kp j hj hk
  ·have k:=bu hb hs;rw[mL (by rw[h.lp];exact hi),aC λe=>by rw[e,hk3]at k;exact absurd k.2.1 (by decide)]at hc;exact h.run s hs hc
 ·exact h.close hb hg hi (λh2=>by omega) hq
theorem R1 (hb:df b){j:Nat}(h:aY b p j=false):cY b p j=none:=by
 unfold aY at h;unfold cY;rw[Bool.not_eq_false',List.isEmpty_iff]at h;rw[h];rfl
theorem R3 {i:Nat}:jd b p i=true↔lh p 2 i=false/\lh p 3 (br b i).a=false/\((br b i).k=1->lh p 3 (br b i).b=false):=by
 unfold jd;simp only[bO,fQ,rR,beq_eq_false_iff_ne,ne_eq];constructor
 ·rintro⟨⟨a1,a2⟩,a3⟩;refine⟨a1,a2,λh=> ?_⟩;rcases a3 with a3|a3
  ·exact absurd h a3
  ·exact a3
 ·rintro⟨a1,a2,a3⟩;refine⟨⟨a1,a2⟩,?_⟩;by_cases h:(br b i).k=1
  ·exact .inr (a3 h)
  ·exact .inl h
theorem aip (hb:df b)(h:Sim b p r){t i:Nat}(hg:Gd b t r)(hc:cl p i=false)(hP:CnP b p i):Dc b r i=true:=by
 obtain⟨s,hs,rfl,hu,hd,hst⟩:=hP;obtain⟨k1,k2,k3⟩:=bu hb hs;unfold ft at hu;simp only[bO,fQ]at hu;obtain⟨s1,s2,_⟩:=R3.1 hu.1.1;unfold Dc;simp only[bO,rR];constructor
 ·unfold lQ;simp only[p9 h.bk];rw[aC (by omega),aK k2,k3,h.kp _ k1 (by omega),hc,s1,s2,hu.1.2,h.rdy s hs hst];rfl
 ·right;unfold u6;rw[R1 hb (by rw[h.live hb hg.ok (iT hb hs)];exact hd)]
theorem ag2 (hb:df b)(h:Sim b p r){t i:Nat}{g:List Bool}(hg:Gd b t r)(hi:i<b.aO.length)(hc:cl p i=false)(hP:TiP b g p i):Dc b r i=true:=by
 obtain⟨hk,hs,_,hne⟩:=hP;obtain⟨s1,s2,s3⟩:=R3.1 hs;obtain⟨t1,t2⟩:=(hb.tie _ (qW hb hi)).2.1 hk;unfold Dc;simp only[bO,rR];constructor
 ·unfold lQ;simp only[p9 h.bk];rw[aK hk,h.kp _ hi (by omega),hc,s1,s2,s3 hk];rfl
 ·right;unfold u6;cases ha:aY b p (br b i).a with
  |false=>rw[R1 hb (by rw[h.live hb hg.ok (by omega)];exact ha)]
  |true=>
   rw[ha]at hne;have hb2:aY b p (br b i).b=false:=by
    cases hx:aY b p (br b i).b with
    |false=>rfl
    |true=>rw[hx]at hne;exact absurd rfl hne
   have:=R1 hb (show aY b r (br b i).b=false by rw[h.live hb hg.ok t2];exact hb2);rw[this];cases cY b r (br b i).a with
   |none=>rfl
   |some f=>simp only;rw[aK hk]
theorem acF (hb:df b){P:Pw->Nat->Prop}(hP:∀{p r:Pw} {t i:Nat},Sim b p r->Gd b t r->i<b.aO.length->cl p i=false->P p i->(Dc b r i=true/\((br b i).k=2->(sr p (br b i).b).st=2))\/(br b i).k=3){C:List Nat}{p p':Pw}(h:GB b P p C p'):
  ∀{t t':Nat} {r r':Pw},t<=2147483648->Sim b p r->Gd b t r->Q0 b t r (cW C) t' r'->t'=t/\Sim b p' r'/\Gd b t r'/\(∀s,(sr r' s).st=(sr r s).st)/\r'.broken=r.broken:=by
 induction h with
 |nil p=>
  intro t t' r r' ht hs hg he;obtain⟨rfl,rfl⟩:=he.Mh;exact⟨rfl,hs,hg,λ_=>rfl,rfl⟩
 |cons h1 h2 h3 h4 ih=>
  rename_i p q i l;intro t t' r r' ht hs hg he;obtain⟨m,s,e1,e2⟩:=Q0.act' (a:=⟨1,i,0⟩) (show¬(1:Nat)=7 by decide) he;have hstep:Sim b (cA p i true) m/\Gd b t m/\(∀s,(sr m s).st=(sr r s).st)/\m.broken=r.broken:=by
   have c:=aeH hb hg ht h2 e1;have w:Rj b (follow b (cA r i true)) m->(∀s,(sr m s).st=(sr r s).st)/\m.broken=r.broken:=λc3=>⟨λs=>by rw[c3.sr];exact(jr (p:=cA r i true) s).1,c3.bk⟩
   rcases hP hs hg h2 h3 h1 with⟨hm,hrun⟩|hk
   ·rcases c with⟨c1,_⟩|⟨_,c2,c3⟩
    ·rw[hm]at c1;cases c1
    ·exact⟨hs.close hb hg h2 hrun c3,c2,w c3⟩
   ·rcases c with⟨_,rfl⟩|⟨_,c2,c3⟩
    ·exact⟨hs.aeI hb hg h2 hk (.inl rfl),hg,λ_=>rfl,rfl⟩
    ·exact⟨hs.aeI hb hg h2 hk (.inr c3),c2,w c3⟩
  obtain⟨a1,a2,a3,a4,a5⟩:=ih ht hstep.1 hstep.2.1 e2;exact⟨a1,a2,a3,λs=>(a4 s).trans (hstep.2.2.1 s),a5.trans hstep.2.2.2⟩
end
end
section
section
variable {b:Bd} {p q r:Pw} {tb:p_}
theorem aeV (hb:df b){t i:Nat}(hg:Gd b t p)(ht:t<=2147483648)(hi:i<b.aO.length){s:List Pw}(h:BS b t p ⟨2,i,0⟩ q s):(rE b p i=none/\q=p)\/(Gd b t q/\Rj b (cA p i false) q):=by
 cases hm:rE b p i with
 |none=>
  left;rcases h with⟨_,h2,_⟩|⟨m,acts,h1,_⟩
  ·exact⟨rfl,h2⟩
  ·have h1:rE b p i=some m:=h1;rw[hm]at h1;cases h1
 |some m=>
  right;have hm2:m=cA p i false:=by
   unfold rE at hm;split at hm
   ·cases hm;rfl
   ·cases hm
  subst hm2;have h1:iH b p t ⟨2,i,0⟩=some (cA p i false):=hm;obtain⟨a1,a2⟩:=Nv hb hg.ok hg.Lh ht (.inl ⟨.inr rfl,hi⟩) h1;have a3:ND b (cA p i false):=λj hj hk hc=>hg.nd j hj hk (QM hc);have a4:=h.Xv h1 a2 a3;exact⟨⟨a4.ok,a4.Lh,a4.nd a3,λx hx=>by rw[a4.sr];exact hg.si x hx⟩,a4⟩
theorem abq (hb:df b){t t':Nat}(ht:t<=2147483648):∀{l:List Nat} {p r r':Pw},l.Nodup->(∀i∈l,i<b.aO.length/\lh p 2 i=false/\cl p i=true)->p.closed.length=b.aO.length->Kp b p r->r.broken=p.broken->Gd b t r->Q0 b t r (pL l) t' r'->
  t'=t/\Kp b (opens p l) r'/\r'.broken=r.broken/\Gd b t r'/\∀s,(sr r' s).st=(sr r s).st/\(sr r' s).since=(sr r s).since
 |[],p,r,r',_,_,_,hk,_,hg,he=>by
  obtain⟨rfl,rfl⟩:=he.Mh;exact⟨rfl,hk,rfl,hg,λ_=>⟨rfl,rfl⟩⟩
 |i::l,p,r,r',hd,hl,hc,hk,hbk,hg,he=>by
  obtain⟨d1,d2⟩:=vS.1 hd;obtain⟨l1,l2,l3⟩:=hl i (pH ..);obtain⟨m,s,e1,e2⟩:=Q0.act' (a:=⟨2,i,0⟩) (show¬(2:Nat)=7 by decide) he;have hil:i<p.closed.length:=by rw[hc];exact l1
  have step:Kp b (cA p i false) m/\m.broken=r.broken/\Gd b t m/\∀s,(sr m s).st=(sr r s).st/\(sr m s).since=(sr r s).since:=by
   rcases aeV hb hg ht l1 e1 with⟨h1,rfl⟩|⟨h1,h2⟩
   ·refine⟨λj hj hkj=> ?_,rfl,hg,λ_=>⟨rfl,rfl⟩⟩;rw[mL hil];split
    ·rename_i e;subst e;exfalso;unfold rE at h1;rw[aK ⟨by rw[hk j hj hkj];exact l3,by rw[p9 hbk];exact l2⟩]at h1;cases h1
    ·exact hk j hj hkj
   ·refine⟨λj hj hkj=> ?_,h2.bk,h1,λs=>by rw[h2.sr];exact⟨rfl,rfl⟩⟩;rw[h2.kp j hj hkj,mL hil,mL (by rw[hg.ok.c];exact l1)];split
    ·rfl
    ·exact hk j hj hkj
  obtain⟨s1,s2,s3,s4⟩:=step;obtain⟨a1,a2,a3,a4,a5⟩:=abq hb ht (p:=cA p i false) d2 (λj hj=>by
   obtain⟨h1,h2,h3⟩:=hl j (gp _ hj);refine⟨h1,h2,?_⟩;rw[mL hil,aC λe=>d1 (by rw[<-e];exact hj)];exact h3) (by simpa[cA]using hc) s1 (s2.trans hbk) s3 e2
  exact⟨a1,a2,a3.trans s2,a4,λs=>⟨(a5 s).1.trans (s4 s).1,(a5 s).2.trans (s4 s).2⟩⟩
def R2 (l:List Nat):List Act:=l.map λi=>⟨3,i,0⟩
theorem abn (hb:df b){t t':Nat}(ht:t<=2147483648):∀{l:List Nat} {r r':Pw},l.Nodup->(∀s∈l,s<b.ar.length/\(sr r s).st=0/\lh r 1 s=false)->Gd b t r->Q0 b t r (R2 l) t' r'->
  t'=t/\Kp b r r'/\r'.broken=r.broken/\Gd b t r'/\∀s,(s∈l->(sr r' s).since=t/\(sr r' s).st=if (gn b s).start=0 then 2 else 1)/\(¬s∈l->(sr r' s).st=(sr r s).st/\(sr r' s).since=(sr r s).since)
 |[],r,r',_,_,hg,he=>by
  obtain⟨rfl,rfl⟩:=he.Mh;exact⟨rfl,Kp.refl _,rfl,hg,λs=>⟨λh=>(by cases h),λ_=>⟨rfl,rfl⟩⟩⟩
 |i::l,r,r',hd,hl,hg,he=>by
  obtain⟨d1,d2⟩:=vS.1 hd;obtain⟨l1,l2,l3⟩:=hl i (pH ..);obtain⟨m,s,e1,e2⟩:=Q0.act' (a:=⟨3,i,0⟩) (show¬(3:Nat)=7 by decide) he;obtain⟨k1,k2,k3⟩:=bu hb l1;have ak:i<r.aA.length:=by rw[hg.ok.s];exact l1
  have hop:cl r (cL b i)=false:=by
   cases hc:cl r (cL b i)with
   |false=>rfl
   |true=>have:=hg.nd.run hb l1 hc;omega
  have pV:iH b r t ⟨3,i,0⟩=some (kf r i (jc b r t i)):=by
   show jP b r t i=_;unfold jP;rw[aK ⟨l2,l3⟩]
  obtain⟨g1,g2,g3⟩:=e1.go hb hg ht l1 (.inl ⟨rfl,rfl⟩) pV;have J1:Kp b r m:=λj hj hk=>g3.kp j hj hk;have akD:∀x,x≠i->(sr m x).st=(sr r x).st/\(sr m x).since=(sr r x).since:=λx hx=>by
   rw[g3.sr,mr ak,aC hx];exact⟨rfl,rfl⟩
  obtain⟨a1,a2,a3,a4,a5⟩:=abn hb ht d2 (λx hx=>by
   obtain⟨h1,h2,h3⟩:=hl x (gp _ hx);have hne:x≠i:=λe=>d1 (by rw[<-e];exact hx);exact⟨h1,by rw[(akD x hne).1];exact h2,by rw[p9 g3.bk];exact h3⟩) g1 e2
  refine⟨a1,J1.trans a2,a3.trans g3.bk,a4,λx=>⟨λhx=> ?_,λhx=> ?_⟩⟩
  ·by_cases he:x=i
   ·subst he;obtain⟨b1,b2⟩:=(a5 x).2 d1;rw[b1,b2,g3.sr,mr ak,aK rfl];unfold jc;simp only[hop,and_true]
   ·rcases gI.1 hx with h|h
    ·exact absurd h he
    ·exact(a5 x).1 h
  ·have hne:x≠i:=λe=>hx (by rw[e];exact pH ..);obtain⟨b1,b2⟩:=(a5 x).2 λh=>hx (gp _ h);obtain⟨c1,c2⟩:=akD x hne;exact⟨b1.trans c1,b2.trans c2⟩
theorem abm (hb:df b){t':Nat}:∀{w t:Nat} {r r':Pw},Gd b t r->Q0 b t r (List.replicate w ⟨7,0,0⟩) t' r'->
  t'=t+w/\r'.closed=r.closed/\r'.broken=r.broken/\Gd b t' r'/\∀s,s<b.ar.length->((sr r s).st=2->(sr r' s).st=2)/\((sr r s).st=1->1<=w->(sr r s).since+(gn b s).start<=t+w->(sr r' s).st=2)/\((sr r' s).st=3↔(sr r s).st=3)
 |0,t,r,r',hg,he=>by
  obtain⟨rfl,rfl⟩:=he.Mh;exact⟨rfl,rfl,rfl,hg,λs hs=>⟨id,λ_ h=>by omega,CA⟩⟩
 |w+1,t,r,r',hg,he=>by
  have e1:=Q0.afz (a:=⟨7,0,0⟩) rfl (show Q0 b t r (⟨7,0,0⟩::List.replicate w ⟨7,0,0⟩) t' r' from he);obtain⟨a1,a2,a3,a4,a5⟩:=abm hb (hg.wait hb) e1;refine⟨by omega,a2,a3,a4,λs hs=> ?_⟩;obtain⟨b1,b2,b3⟩:=a5 s hs;obtain⟨c1,c2⟩:=mn (b:=b) (p:=r) (t:=t) (i:=s) (by rw[hg.ok.s];exact hs);rw[c1,c2]at b2;rw[c2]at b1 b3;refine⟨λh=>b1 (by rw[h];split<;>rfl),λh hw hle=> ?_,?_⟩
  ·have hop:cl r (cL b s)=false:=by
    cases hc:cl r (cL b s)with
    |false=>rfl
    |true=>have:=hg.nd.run hb hs hc;omega
   by_cases aex:(sr r s).since+(gn b s).start<=t+1
   ·exact b1 (by rw[aK ⟨h,hop,aex⟩])
   ·refine b2 (by rw[aC λhh=>aex hh.2.2];exact h) (by omega) (by omega)
  ·rw[b3];split
   ·rename_i h;rw[h.1];simp
   ·exact CA
def stD (b:Bd)(p:Pw)(s:Nat):Bool:=ft b p s&& !aY b p (home b s)
structure StI (b:Bd)(p1:Pw)(l:List Nat)(x:Pw):Prop where
 cl:x.closed=p1.closed
 bk:x.broken=p1.broken
 len:x.aA.length=b.ar.length
 zL:∀s,s<b.ar.length->conn b x s=conn b p1 s
 sr:∀s∈l,Vm.sr x s=Vm.sr p1 s
theorem aa0 {p q:Pw}(hc:∀s,s<b.ar.length->conn b q s=conn b p s)(hk:q.closed=p.closed)(j:Nat):aY b q j=aY b p j:=by
 have hk2:∀j,key b q j=key b p j:=λj=>by unfold key;rw[hk]
 rw[uQ,abl,abl];simp only[hk2];constructor<;>rintro⟨i,u,h1,h2,h3⟩
 ·exact⟨i,u,h1,by rw[<-hc i h1];exact h2,h3⟩
 ·exact⟨i,u,h1,by rw[hc i h1];exact h2,h3⟩
theorem abk (hb:df b){p1:Pw}(h1:p1.closed.length=b.aO.length)(hn:ND b p1):∀(l:List Nat) (x:Pw×List Act×Nat),l.Nodup->(∀s∈l,s<b.ar.length)->StI b p1 l x.1->
  (l.foldl (mg b) x).1.closed=p1.closed/\(l.foldl (mg b) x).1.broken=p1.broken/\(l.foldl (mg b) x).1.gJ=x.1.gJ/\(l.foldl (mg b) x).1.aA.length=b.ar.length/\(∀s,s<b.ar.length->conn b (l.foldl (mg b) x).1 s=conn b p1 s)/\
  (∀s,¬s∈l->sr (l.foldl (mg b) x).1 s=sr x.1 s)/\(∀s∈l,sr (l.foldl (mg b) x).1 s=if stD b p1 s=true then oN (sr p1 s) else sr p1 s)/\
  (l.foldl (mg b) x).2.1=x.2.1++R2 (l.filter λs=>stD b p1 s&&(sr p1 s).st==0)/\x.2.2<=(l.foldl (mg b) x).2.2/\
  (∀s∈l,stD b p1 s=true->((sr p1 s).st=0->(gn b s).start<=(l.foldl (mg b) x).2.2)/\((sr p1 s).st=1->1<=(l.foldl (mg b) x).2.2/\(gn b s).start<=(l.foldl (mg b) x).2.2))/\
  (∀M,x.2.2<=M+1->(∀s∈l,(gn b s).start<=M)->(l.foldl (mg b) x).2.2<=M+1)
 |[],x,_,_,hi=>⟨hi.cl,hi.bk,rfl,hi.len,hi.zL,λ_ _=>rfl,λs hs=>(by cases hs),(by simp[R2]),dB _,λs hs=>(by cases hs),λM h _=>h⟩
 |s::l,x,hd,hl,hi=>by
  obtain⟨d1,d2⟩:=vS.1 hd;have hs:=hl s (pH ..);have ak:s<x.1.aA.length:=by rw[hi.len];exact hs
  have esr:=hi.sr s (pH ..);have hl':∀s∈l,s<b.ar.length:=λy hy=>hl y (gp _ hy);have agN:aY b x.1 (home b s)=aY b p1 (home b s):=aa0 hi.zL hi.cl _;have eus:ft b x.1 s=ft b p1 s:=by
   unfold ft jd;rw[esr];simp only[p9 hi.bk]
  obtain⟨k1,k2,k3⟩:=bu hb hs;cases hD:stD b p1 s with
  |false=>
   have e:mg b x s=x:=by
    unfold mg;rw[eus,agN,aC];rintro⟨c1,c2⟩;unfold stD at hD;rw[c1,c2]at hD;cases hD
   rw[je,e];obtain⟨a1,a2,a3,a4,a5,a6,a7,a8,a9,Ik,Lj⟩:=abk hb h1 hn l x d2 hl' ⟨hi.cl,hi.bk,hi.len,hi.zL,λy hy=>hi.sr y (gp _ hy)⟩;refine⟨a1,a2,a3,a4,a5,λy hy=>a6 y λh=>hy (gp _ h),λy hy=> ?_,?_,a9,λy hy=> ?_,λM hM hy=>Lj M hM λy h=>hy y (gp _ h)⟩
   ·rcases gI.1 hy with rfl|hy
    ·rw[a6 y d1,hD,esr];rfl
    ·exact a7 y hy
   ·rw[a8,Bh (by simp[hD])]
   ·rcases gI.1 hy with rfl|hy
    ·intro h;rw[hD]at h;cases h
    ·exact Ik y hy
  |true=>
   have hD2:=hD;unfold stD at hD2;simp only[bO,fQ]at hD2;obtain⟨x1,e⟩:∃x1,mg b x s=x1:=⟨_,rfl⟩
   have e':x1=(kf x.1 s (oN (sr p1 s)),if (sr p1 s).st=0 then x.2.1++[⟨3,s,0⟩] else x.2.1,if (sr p1 s).st=0 then max (gn b s).start x.2.2 else if (sr p1 s).st=1 then max 1 (max (gn b s).start x.2.2) else x.2.2):=by
    rw[<-e];unfold mg;rw[eus,agN,aK ⟨hD2.1,hD2.2⟩,esr]
   have hop:Vm.cl p1 (cL b s)=false:=by
    cases hc:Vm.cl p1 (cL b s)with
    |false=>rfl
    |true=>
     have:=aaj hb h1 hs (hn.run hb hs hc) hc;rw[this]at hD2;cases hD2.2
   have hx1:∀y,Vm.sr x1.1 y=if y=s then oN (Vm.sr p1 s) else Vm.sr x.1 y:=λy=>by rw[e'];exact mr ak
   have hi1:StI b p1 l x1.1:=by
    refine⟨by rw[e'];exact hi.cl,by rw[e'];exact hi.bk,by rw[e'];simp[kf,hi.len],λy hy=> ?_,λy hy=> ?_⟩
    ·have jO:x1.1.closed=p1.closed:=by rw[e'];exact hi.cl
     have Qn:x.1.closed.length=b.aO.length:=by rw[hi.cl];exact h1
     by_cases he:y=s
     ·subst he;rw[iY hb (by rw[jO];exact h1) hy,iY hb h1 hy,show Vm.cl x1.1 (cL b y)=Vm.cl p1 (cL b y) by unfold Vm.cl;rw[jO],hop];simp
     ·rw[<-hi.zL y hy,iY hb (by rw[jO];exact h1) hy,iY hb Qn hy,hx1,aC he,show Vm.cl x1.1 (cL b y)=Vm.cl x.1 (cL b y) by unfold Vm.cl;rw[jO,hi.cl]]
    ·rw[hx1,aC λh=>d1 (by rw[<-h];exact hy)];exact hi.sr y (gp _ hy)
   rw[je,e];obtain⟨a1,a2,a3,a4,a5,a6,a7,a8,a9,Ik,Lj⟩:=abk hb h1 hn l x1 d2 hl' hi1;have w0:x.2.2<=x1.2.2/\((sr p1 s).st=0->(gn b s).start<=x1.2.2)/\((sr p1 s).st=1->1<=x1.2.2/\(gn b s).start<=x1.2.2)/\∀M,x.2.2<=M+1->(gn b s).start<=M->x1.2.2<=M+1:=by
    rw[e'];simp only;split
    ·rename_i h0;exact⟨by omega,λ_=>by omega,λh=>by omega,λM _ _=>by omega⟩
    ·split
     ·exact⟨by omega,λh=>by omega,λ_=>⟨by omega,by omega⟩,λM _ _=>by omega⟩
     ·exact⟨dB _,λh=>by omega,λh=>by omega,λM h _=>h⟩
   obtain⟨w1,w2,w3,w4⟩:=w0;refine⟨a1,a2,by rw[a3,e'];rfl,a4,a5,λy hy=> ?_,λy hy=> ?_,?_,jS w1 a9,λy hy=> ?_,λM hM hy=>Lj M (w4 M hM (hy s (pH ..))) λy h=>hy y (gp _ h)⟩
   ·rw[a6 y λh=>hy (gp _ h),hx1,aC λh=>hy (by rw[h];exact pH ..)]
   ·rcases gI.1 hy with rfl|hy
    ·rw[a6 y d1,hD,hx1,aK rfl,aK rfl]
    ·exact a7 y hy
   ·rw[a8,e'];simp only;by_cases h0:(sr p1 s).st=0
    ·rw[aK h0,vT (by simp[hD,h0])];simp[R2]
    ·rw[aC h0,Bh (by simp[h0])]
   ·rcases gI.1 hy with rfl|hy
    ·intro _;exact⟨λh=>jS (w2 h) a9,λh=>⟨jS (w3 h).1 a9,jS (w3 h).2 a9⟩⟩
    ·exact Ik y hy
end
end
section
structure aiB (b:Bd)(p0:Pw)(L:List Nat)(C:List Nat)(p4:Pw)(acts:List Act):Prop where
 tie:GB b (TiP b (gF b p0)) (XG b ((List.range b.ar.length).foldl (mg b) (opens p0 (gm b p0),[],0)).1).1 C p4
 fin:Lr b (gF b p0) p4=none
 ac:acts=pL (gm b p0)++((List.range b.ar.length).foldl (mg b) (opens p0 (gm b p0),[],0)).2.1++List.replicate ((List.range b.ar.length).foldl (mg b) (opens p0 (gm b p0),[],0)).2.2 ⟨7,0,0⟩++
  cW ((XG b ((List.range b.ar.length).foldl (mg b) (opens p0 (gm b p0),[],0)).1).2++C++(L.foldl (wJ b) (p4,[])).2)
section
variable {b:Bd} {p q r:Pw} {tb:p_}
theorem acz (hb:df b){x y:Nat}(h:dG (gD b (EL b p).closed) x y):(gF b p).getD x false=(gF b p).getD y false:=by
 have w:∀i j,Br (gD b (EL b p).closed) i j->(gF b p).getD i false=(gF b p).getD j false:=λi j ⟨x,hx,h1,h2,h3,h4⟩=>by
  obtain⟨m,hm,rfl⟩:=xC NO hx;simp only at h1 h2 h3 h4;rw[ae7 hm]at h1;rw[<-h3,<-h4];exact aet hb hm h2 h1
 induction h with
 |refl=>rfl
 |fwd _ t ih=>exact ih.trans (w _ _ t)
 |bwd _ t ih=>exact ih.trans (w _ _ t).symm
theorem adj (hb:df b){p0:Pw}(hc:p.closed.length=b.aO.length)(hbk:p.broken=p0.broken)(hu:∀s,s<b.ar.length->ft b p0 s=true->aY b p (home b s)=true)(hf:Lr b (gF b p0) p=none){j:Nat}(hg:(gF b p0).getD j false=true):aY b p j=true:=by
 obtain⟨i,h1,h2,h3⟩:=adz hb hg;cases hl:aY b p j with
 |true=>rfl
 |false=>
  exfalso;obtain⟨x,y,ht,hcx,hx,hy⟩:=amm (P:=λj=>aY b p j=true) h3 (hu i h1 h2) (by simp[hl]);have gx:(gF b p0).getD x false=true:=by rw[<-acz hb hcx];exact aeu hb h1 h2
  have gy:(gF b p0).getD y false=true:=by
   have:dG (gD b (EL b p0).closed) x y:=by
    rcases ht with ht|ht
    ·exact .fwd (.refl _) ht
    ·exact .bwd (.refl _) ht
   rw[<-acz hb this];exact gx
  have key:∀m,m<b.aO.length->(br b m).k=1->jd b p0 m=true->(gF b p0).getD (br b m).a false=true->aY b p (br b m).a≠aY b p (br b m).b->False:=λm hm hk hs hga hne=>by
   cases jO:cl p m with
   |true=>exact hne (aes (acC hb hc hm hk jO))
   |false=>
    unfold Lr at hf;have:=CG.1 hf m (gR.2 hm);refine this (IJ.2 ⟨⟨hk,?_,hga,hne⟩,jO⟩);rw[R3]at hs|-;simpa only[p9 hbk]using hs
  have hy:aY b p y=false:=by simpa using hy
  rcases ht with⟨z,hz,z1,z2,z3,z4⟩|⟨z,hz,z1,z2,z3,z4⟩
  ·obtain⟨m,hm,rfl⟩:=xC NO hz;simp only at z1 z2 z3 z4;rw[ae7 hm]at z1;exact key m hm z2 z1 (by rw[z3];exact gx) (by rw[z3,z4,hx,hy];decide)
  ·obtain⟨m,hm,rfl⟩:=xC NO hz;simp only at z1 z2 z3 z4;rw[ae7 hm]at z1;exact key m hm z2 z1 (by rw[z3];exact gy) (by rw[z3,z4,hx,hy];decide)
theorem w6:∀(l:List Nat) (p:Pw),(opens p l).aA=p.aA/\(opens p l).broken=p.broken/\(opens p l).gJ=p.gJ
 |[],p=>⟨rfl,rfl,rfl⟩
 |i::l,p=>w6 l (cA p i false)
theorem aca:∀{l:List Nat} {p:Pw} {i:Nat},cl (opens p l) i=true->cl p i=true
 |[],p,i,h=>h
 |j::l,p,i,h=>QM (aca (l:=l) (p:=cA p j false) h)
theorem acQ {i:Nat}(h:i∈gm b p):i<b.aO.length/\cl p i=true/\(br b i).k≠2/\lh p 2 i=false/\aY b p (br b i).a=false:=by
 unfold gm pC at h;rw[uO,gR]at h;unfold IZ at h;simp only[bO,fQ,beq_eq_false_iff_ne]at h;exact⟨h.1,h.2.1,h.2.2.1,h.2.2.2.1,h.2.2.2.2⟩
theorem ac3:(gm b p).Nodup:=Jc _ FP
theorem acu (P:Nat->Bool)(n:Nat):((List.range n).filter P).length<=n:=by
 have:=oO P (List.range n);simpa using this
theorem GB.aer {P:Pw->Nat->Prop}{C:List Nat}(h:GB b P p C q):∀i∈C,i<b.aO.length:=by
 induction h with
 |nil=>intro i hi;cases hi
 |cons _ h1 _ _ ih=>
  intro i hi;rcases gI.1 hi with rfl|hi
  ·exact h1
  ·exact ih i hi
theorem ael (hb:df b){p0:Pw}(hp:aX b p0)(hn:ND b p0){L C:List Nat}{p4:Pw}{acts:List Act}(h:aiB b p0 L C p4 acts):
  (∀M,(∀s,s<b.ar.length->(gn b s).start<=M)->acts.length<=2*b.aO.length+b.ar.length+M+1)/\∀a∈acts,a.k=7\/tL b a:=by
 obtain⟨h1,h2,h3⟩:=h;obtain⟨p1,ep1⟩:∃p1,opens p0 (gm b p0)=p1:=⟨_,rfl⟩
 rw[ep1]at h1 h3;obtain⟨x,ex⟩:∃x,(List.range b.ar.length).foldl (mg b) (p1,[],0)=x:=⟨_,rfl⟩
 rw[ex]at h1 h3;obtain⟨y,ey⟩:∃y,XG b x.1=y:=⟨_,rfl⟩
 rw[ey]at h1 h3;obtain⟨z,ez⟩:∃z,L.foldl (wJ b) (p4,[])=z:=⟨_,rfl⟩
 rw[ez]at h3;obtain⟨o1,o2,o3⟩:=w6 (gm b p0) p0;rw[ep1]at o1 o2 o3;have oc:p1.closed.length=b.aO.length:=by rw[<-ep1,aag];exact hp.c
 have osr:∀s,sr p1 s=sr p0 s:=λs=>by unfold sr;rw[o1]
 have on:ND b p1:=λi hi hk hc=>by
  rw[kP (p:=p0) o2 λ_=>by rw[osr]];refine hn i hi hk ?_;rw[<-ep1]at hc;exact aca hc
 obtain⟨a1,a2,a3,a4,a5,a6,a7,a8,a9,Ik,Lj⟩:=abk hb oc on (List.range b.ar.length) (p1,[],0) FP (λs hs=>gR.1 hs) ⟨rfl,rfl,by rw[o1];exact hp.s,λ_ _=>rfl,λ_ _=>rfl⟩;rw[ex]at a1 a2 a3 a4 a5 a6 a7 a8 a9 Ik Lj;rw[gq]at a8;have xc:x.1.closed.length=b.aO.length:=by rw[a1];exact oc
 have aef:∀j,aY b x.1 j=aY b p1 j:=λj=>aa0 a5 a1 j;have xsr:∀s,s<b.ar.length->sr x.1 s=if stD b p1 s=true then oN (sr p0 s) else sr p0 s:=λs hs=>by
  rw[a7 s (gR.2 hs),osr]
 have xus:∀s,s<b.ar.length->ft b x.1 s=ft b p0 s:=λs hs=>by
  unfold ft jd;simp only[p9 (a2.trans o2)];rw[xsr s hs];split
  ·rename_i hd;unfold stD ft at hd;simp only[bO]at hd;have:=hd.1.2;rw[osr]at this;rw[this];rfl
  ·rfl
 have ag0:Rdy b x.1:=λs hs hu hd=>by
  rw[xsr s hs,aK]
  ·rfl
  ·rw[xus s hs]at hu;rw[aef]at hd;unfold stD;rw[hd];have:ft b p1 s=ft b p0 s:=r9 o2 o1 s;rw[this,hu];rfl
 obtain⟨c1,c2⟩:=acM hb xc ag0;rw[ey]at c1 c2;obtain⟨yl,ys,yb,_⟩:=c1.less xc;obtain⟨ql,qs,qb,_⟩:=h1.less yl.lp;obtain⟨D,z1,z2⟩:=aab hb L p4 [] ql.lp;rw[ez,gq]at z1;rw[ez]at z2;subst z1;obtain⟨zl,zs,zb,_⟩:=z2.less ql.lp;have acG:acts=pL (gm b p0)++(x.2.1++(List.replicate x.2.2 ⟨7,0,0⟩++(cW y.2++(cW C++cW z.2)))):=by
  rw[h3];simp[cW]
 refine⟨λM hM=> ?_,λa ha=> ?_⟩
 ·have hw:=Lj M (by simp) λs hs=>hM s (gR.1 hs);have n1:=c1.count xc;have n2:=h1.count yl.lp;have n3:=z2.count ql.lp;have n4:=T9 z.1;have n0:=zl.lp;have n6:(gm b p0).length<=b.aO.length:=n5 _;have n7:=acu (λs=>stD b p1 s&&(sr p1 s).st==0) b.ar.length;rw[acG,a8];simp only[jf,pL,R2,cW,nS,za];omega
 ·rw[acG,a8]at ha;simp only[eO,pL,R2,cW,kE,Ja,uO,gR]at ha;rcases ha with⟨i,hi,rfl⟩|⟨s,hs,rfl⟩|⟨_,rfl⟩|⟨i,hi,rfl⟩|⟨i,hi,rfl⟩|⟨i,hi,rfl⟩
  ·exact .inr (.inl ⟨.inr rfl,(acQ hi).1⟩)
  ·exact .inr (.inr (.inl ⟨.inl rfl,hs.1⟩))
  ·exact .inl rfl
  ·exact .inr (.inl ⟨.inl rfl,c1.aer i hi⟩)
  ·exact .inr (.inl ⟨.inl rfl,h1.aer i hi⟩)
  ·exact .inr (.inl ⟨.inl rfl,z2.aer i hi⟩)
theorem aem (hb:df b){p0:Pw}{t t':Nat}(hg:Gd b t p0)(ht:5<=t)(ht2:t<=1000000)(anK:∀s,s<b.ar.length->(gn b s).start<=600)(hs4:∀s,s<b.ar.length->(sr p0 s).since<=4){L C:List Nat}{p4 p':Pw}{acts:List Act}(h:aiB b p0 L C p4 acts)(he:Q0 b t p0 (acts++[⟨7,0,0⟩]) t' p'):
  (∃w,t'=t+w+1/\∀M,(∀s,s<b.ar.length->(gn b s).start<=M)->w<=M+1/\acts.length<=2*b.aO.length+b.ar.length+M+1)/\aX b p'/\gF b p'=gF b p0/\∀j,j<b.n->(gF b p0).getD j false=true->aY b p' j=true:=by
 obtain⟨h1,h2,h3⟩:=h;obtain⟨p1,ep1⟩:∃p1,opens p0 (gm b p0)=p1:=⟨_,rfl⟩
 rw[ep1]at h1 h3;obtain⟨x,ex⟩:∃x,(List.range b.ar.length).foldl (mg b) (p1,[],0)=x:=⟨_,rfl⟩
 rw[ex]at h1 h3;obtain⟨y,ey⟩:∃y,XG b x.1=y:=⟨_,rfl⟩
 rw[ey]at h1 h3;obtain⟨z,ez⟩:∃z,L.foldl (wJ b) (p4,[])=z:=⟨_,rfl⟩
 rw[ez]at h3;obtain⟨o1,o2,o3⟩:=w6 (gm b p0) p0;rw[ep1]at o1 o2 o3;have oc:p1.closed.length=b.aO.length:=by rw[<-ep1,aag];exact hg.ok.c
 have osr:∀s,sr p1 s=sr p0 s:=λs=>by unfold sr;rw[o1]
 have on:ND b p1:=λi hi hk hc=>by
  rw[kP (p:=p0) o2 λ_=>by rw[osr]];refine hg.nd i hi hk ?_;rw[<-ep1]at hc;exact aca hc
 obtain⟨a1,a2,a3,a4,a5,a6,a7,a8,a9,Ik,Lj⟩:=abk hb oc on (List.range b.ar.length) (p1,[],0) FP (λs hs=>gR.1 hs) ⟨rfl,rfl,by rw[o1];exact hg.ok.s,λ_ _=>rfl,λ_ _=>rfl⟩;rw[ex]at a1 a2 a3 a4 a5 a6 a7 a8 a9 Ik Lj;rw[gq]at a8;have xc:x.1.closed.length=b.aO.length:=by rw[a1];exact oc
 have aef:∀j,aY b x.1 j=aY b p1 j:=λj=>aa0 a5 a1 j;have xsr:∀s,s<b.ar.length->sr x.1 s=if stD b p1 s=true then oN (sr p0 s) else sr p0 s:=λs hs=>by
  rw[a7 s (gR.2 hs),osr]
 have xus:∀s,s<b.ar.length->ft b x.1 s=ft b p0 s:=λs hs=>by
  unfold ft jd;simp only[p9 (a2.trans o2)];rw[xsr s hs];split
  ·rename_i hd;unfold stD ft at hd;simp only[bO]at hd;have:=hd.1.2;rw[osr]at this;rw[this];rfl
  ·rfl
 have ag0:Rdy b x.1:=λs hs hu hd=>by
  rw[xsr s hs,aK]
  ·rfl
  ·rw[xus s hs]at hu;rw[aef]at hd;unfold stD;rw[hd];have:ft b p1 s=ft b p0 s:=r9 o2 o1 s;rw[this,hu];rfl
 obtain⟨c1,c2⟩:=acM hb xc ag0;rw[ey]at c1 c2;obtain⟨yl,ys,yb,_⟩:=c1.less xc;obtain⟨ql,qs,qb,_⟩:=h1.less yl.lp;obtain⟨D,z1,z2⟩:=aab hb L p4 [] ql.lp;rw[ez,gq]at z1;rw[ez]at z2;subst z1;obtain⟨zl,zs,zb,_⟩:=z2.less ql.lp;have acG:acts=pL (gm b p0)++(x.2.1++(List.replicate x.2.2 ⟨7,0,0⟩++(cW y.2++(cW C++cW z.2)))):=by
  rw[h3];simp[cW]
 rw[acG]at he;simp only[lz]at he;have htx:x.2.2<=601:=Lj 600 (by simp) λs hs=>anK s (gR.1 hs);obtain⟨t1,r1,e1,he1⟩:=he.split;obtain⟨rfl,u1,u2,u3,u4⟩:=abq hb (by omega) ac3 (λi hi=>by
  obtain⟨m1,m2,m3,m4,m5⟩:=acQ hi;exact⟨m1,m4,m2⟩) hg.ok.c (Kp.refl p0) rfl hg e1
 rw[ep1]at u1;obtain⟨t2,r2,e2,he2⟩:=he1.split;rw[a8]at e2;obtain⟨rfl,v1,v2,v3,v4⟩:=abn hb (by omega) (Jc _ FP) (λs hs=>by
  rw[uO,gR]at hs;simp only[bO,w8]at hs;obtain⟨s1,s2,s3⟩:=hs;refine⟨s1,by rw[(u4 s).1,<-osr];exact s3,?_⟩;unfold stD ft at s2;simp only[bO,fQ]at s2;rw[p9 u2,<-p9 o2];exact s2.1.1.2) u3 e2
 obtain⟨t3,r3,e3,he3⟩:=he2.split;obtain⟨w1,w2,w3,w4,w5⟩:=abm hb v3 e3;have sim:Sim b x.1 r3:=by
  refine⟨λi hi hk=> ?_,by rw[w3,v2,u2,a2,o2],xc,λs hs hc=> ?_,λs hs h2=> ?_⟩
  ·have e1:cl r3 i=cl r2 i:=by unfold cl;rw[w2]
   have e2:cl x.1 i=cl p1 i:=by unfold cl;rw[a1]
   rw[e1,v1 i hi hk,u1 i hi hk,e2]
  ·have e2:cl x.1 (cL b s)=cl p1 (cL b s):=by unfold cl;rw[a1]
   rw[e2]at hc;have:=on.run hb hs hc;rw[osr]at this;rw[xsr s hs];split
   ·rfl
   ·exact this
  ·obtain⟨g1,g2,g3⟩:=w5 s hs;obtain⟨k1,k2⟩:=v4 s;obtain⟨l1,l2⟩:=u4 s;have aju:=(hg.ok.runs hs).1;rw[xsr s hs]at h2;by_cases Fc:s∈(List.range b.ar.length).filter λs=>stD b p1 s&&(sr p1 s).st==0
   ·obtain⟨m1,m2⟩:=k1 Fc;rw[uO]at Fc;simp only[bO,w8]at Fc;have hw:=(Ik s Fc.1 Fc.2.1).1 Fc.2.2;by_cases h0:(gn b s).start=0
    ·rw[aK h0]at m2;exact g1 m2
    ·rw[aC h0]at m2;exact g2 m2 (by omega) (by omega)
   ·obtain⟨m1,m2⟩:=k2 Fc;by_cases hD:stD b p1 s=true
    ·have hs0:(sr p0 s).st≠0:=λh0=>Fc (by
      rw[uO,gR];refine⟨hs,?_⟩;rw[hD,osr,h0];rfl)
     have hus:=hD;unfold stD ft at hus;simp only[bO,bne_iff_ne,osr]at hus;have hs3:=hus.1.2;have:(sr p0 s).st=1\/(sr p0 s).st=2:=by omega
     rcases this with h1|h1
     ·obtain⟨n1,n2⟩:=(Ik s (gR.2 hs) hD).2 (by rw[osr];exact h1);have:=hs4 s hs;exact g2 (by rw[m1,l1];exact h1) n1 (by rw[m2,l2];omega)
     ·exact g1 (by rw[m1,l1];exact h1)
    ·rw[aC hD]at h2;exact g1 (by rw[m1,l1];exact h2)
 obtain⟨t4,r4,e4,he4⟩:=he3.split;obtain⟨rfl,amR,gd4,st4,bk4⟩:=acF hb (P:=CnP b) (λhs hg hi hc hP=>.inl ⟨aip hb hs hg hc hP,λhk=>by
  obtain⟨s,q1,q2,q3,q4,q5⟩:=hP;rw[q2,(bu hb q1).2.2];exact q5⟩) c1 (by omega) sim w4 e4
 obtain⟨t5,r5,e5,he5⟩:=he4.split;obtain⟨rfl,amQ,gd5,st5,bk5⟩:=acF hb (P:=TiP b (gF b p0)) (λhs hg hi hc hP=>.inl ⟨ag2 hb hs hg hi hc hP,λhk=>by have:=hP.1;omega⟩) h1 (by omega) amR gd4 e5;obtain⟨t6,r6,e6,he6⟩:=he5.split;obtain⟨rfl,amP,gd6,st6,bk6⟩:=acF hb (P:=SvP b) (λhs hg hi hc hP=>.inr hP) z2 (by omega) amQ gd5 e6;have he7:=Q0.afz rfl he6;obtain⟨rfl,rfl⟩:=he7.Mh;have jZ:∀j,(gF b p0).getD j false=true->aY b p4 j=true:=λj hj=>by
  refine adj hb ql.lp (by rw[qb,yb,a2,o2]) (λs hs hu=> ?_) h2 hj;exact ll hb ql (iT hb hs) (c2 s hs (by rw[xus s hs];exact hu))
 have aju:∀s,s<b.ar.length->((sr (bt b r6 t6) s).st=3↔(sr p0 s).st=3):=λs hs=>by
  have ak:s<r6.aA.length:=by rw[gd6.ok.s];exact hs
  have e1:(sr (bt b r6 t6) s).st=3↔(sr r6 s).st=3:=by
   rw[(mn ak).2];split
   ·rename_i h;rw[h.1];simp
   ·exact CA
  rw[e1,st6,st5,st4,(w5 s hs).2.2];obtain⟨k1,k2⟩:=v4 s;by_cases Fc:s∈(List.range b.ar.length).filter λs=>stD b p1 s&&(sr p1 s).st==0
  ·have m2:=(k1 Fc).2;rw[uO]at Fc;simp only[bO,w8,osr]at Fc;rw[m2,Fc.2.2];split<;>simp
  ·rw[(k2 Fc).1,(u4 s).1]
 refine⟨⟨x.2.2,by omega,λM hM=> ?_⟩,gd6.ok.B0 _,?_,λj hj hgj=> ?_⟩
 ·have hw:=Lj M (by simp) λs hs=>hM s (gR.1 hs);refine⟨hw,?_⟩;have n1:=c1.count xc;have n2:=h1.count yl.lp;have n3:=z2.count ql.lp;have n4:=T9 z.1;have n0:=zl.lp;have n6:(gm b p0).length<=b.aO.length:=n5 _;have n7:=acu (λs=>stD b p1 s&&(sr p1 s).st==0) b.ar.length;rw[acG,a8];simp only[jf,pL,R2,cW,nS,za];omega
 ·refine acN ?_ λs=> ?_
  ·show r6.broken=p0.broken;rw[bk6,bk5,bk4,w3,v2,u2]
  ·by_cases hs:s<b.ar.length
   ·exact aju s hs
   ·rw[tP (p:=p0) (by rw[hg.ok.s];omega),tP (p:=bt b r6 t6) (by rw[(gd6.ok.B0 t6).s];omega)]
 ·have e1:aY b (bt b r6 t6) j=aY b r6 j:=by
   unfold aY;rw[yD hb gd6.ok];rfl
  rw[e1,amP.live hb gd6.ok hj];exact ll hb zl hj (jZ j hgj)
end
end
section
abbrev iv (n:Nat):PV:=.int .i64 (n:Int)
def Xc (x:fX):List PV:=[.int .i64 (x.k:Int),.int .i64 (x.a:Int),.int .i64 (x.b:Int)]
def gnK (x:Gen):List PV:=[.int .i64 (x.cd:Int),.int .i64 (x.least:Int),.int .i64 (x.start:Int)]
def bF (l:List Nat):List (List PV):=l.map λ(x:Nat)=>[.int .i64 (x:Int)]
def cnK (x:Con):List PV:=[.int .i64 (x.load:Int),.int .i64 (x.least:Int),.int .i64 (x.vW:Int),.int .i64 x.RN,.sl 1 (bF x.needs)]
def kC (x:gL):List PV:=[.int .i64 (x.st:Int),.int .i64 (x.since:Int),.int .i64 (x.fr:Int),.int .i64 (x.ph:Int)]
def Ob (x:Nat×Nat):List PV:=[.int .i64 (x.1:Int),.int .i64 (x.2:Int)]
def vG (x:Bool):List PV:=[.bool x]
def fW (b:Bd):List (List PV):=b.aO.map Xc
def oW (b:Bd):List (List PV):=b.ar.map gnK
def nQ (b:Bd):List (List PV):=b.cons.map cnK
def bC (p:Pw):List (List PV):=p.closed.map vG
def bp (p:Pw):List (List PV):=p.aA.map kC
def bE (p:Pw):List (List PV):=bF p.gJ
def bA (p:Pw):List (List PV):=p.broken.map Ob
abbrev eH (b:Bd):AV:=.agg [.int .i64 (b.n:Int),.sl 3 (fW b),.sl 3 (oW b),.sl 5 (nQ b),.int .i64 (b.phase:Int),.int .i64 (b.eZ:Int)]
abbrev eG (b:Bd):au:=.box [.int .i64 (b.n:Int),.sl 3 (fW b),.sl 3 (oW b),.sl 5 (nQ b),.int .i64 (b.phase:Int),.int .i64 (b.eZ:Int)]
abbrev iQ (p:Pw):AV:=.agg [.sl 1 (bC p),.sl 4 (bp p),.sl 1 (bE p),.sl 2 (bA p)]
abbrev kq (p:Pw):au:=.box [.sl 1 (bC p),.sl 4 (bp p),.sl 1 (bE p),.sl 2 (bA p)]
theorem fC:((0:Nat):Int)=0:=rfl
theorem aw (i:Nat):(i:Int)+1=((i+1:Nat):Int):=by omega
theorem bI {α β:Type}(f:β->List PV)(d:β){L:List β}{i:Nat}(hi:i<L.length)(K:List PV->Option α):aG (L.map f) (i:Int) K=K (f (L.getD i d)):=by
 unfold aG;have h1:bJ 0 (i:Int)=true:=by simp
 have h2:aT (i:Int) ((L.map f).length:Int)=true:=by simp;omega
 rw[h1,h2,GZ,ay,dp,bo];congr 1;simp[List.getD,hi]
theorem bS (b:Bd):(fW b).length=b.aO.length:=by simp[fW]
theorem dM (b:Bd):(oW b).length=b.ar.length:=by simp[oW]
theorem dE (b:Bd):(nQ b).length=b.cons.length:=by simp[nQ]
theorem dU (p:Pw):(bC p).length=p.closed.length:=by simp[bC]
theorem fP (p:Pw):(bp p).length=p.aA.length:=by simp[bp]
theorem aU (l:List Nat):(bF l).length=l.length:=by simp[bF]
theorem mH (p:Pw):(bE p).length=p.gJ.length:=by simp[bE,bF]
theorem uF (p:Pw):(bA p).length=p.broken.length:=by simp[bA]
section
variable {α:Type} {b:Bd} {p:Pw} {i:Nat} (K:List PV->Option α)
theorem cF (h:i<b.aO.length):aG (fW b) (i:Int) K=K [.int .i64 ((br b i).k:Int),.int .i64 ((br b i).a:Int),.int .i64 ((br b i).b:Int)]:=bI Xc default h K
theorem oz (h:i<b.ar.length):aG (oW b) (i:Int) K=K [.int .i64 ((gn b i).cd:Int),.int .i64 ((gn b i).least:Int),.int .i64 ((gn b i).start:Int)]:=bI gnK default h K
theorem oA (h:i<b.cons.length):aG (nQ b) (i:Int) K=K [.int .i64 ((cn b i).load:Int),.int .i64 ((cn b i).least:Int),.int .i64 ((cn b i).vW:Int),.int .i64 (cn b i).RN,.sl 1 (bF (cn b i).needs)]:=bI cnK default h K
theorem k_ (h:i<p.closed.length):aG (bC p) (i:Int) K=K [.bool (cl p i)]:=bI vG false h K
theorem dv (h:i<p.aA.length):aG (bp p) (i:Int) K=K [.int .i64 ((sr p i).st:Int),.int .i64 ((sr p i).since:Int),.int .i64 ((sr p i).fr:Int),.int .i64 ((sr p i).ph:Int)]:=bI kC default h K
theorem HC (h:i<p.gJ.length):aG (bE p) (i:Int) K=K [.int .i64 (lm p i:Int)]:=bI (λ(x:Nat)=>[PV.int .i64 (x:Int)]) 0 h K
theorem cE {l:List Nat}(h:i<l.length):aG (bF l) (i:Int) K=K [.int .i64 (l.getD i 0:Nat)]:=bI (λ(x:Nat)=>[PV.int .i64 (x:Int)]) 0 h K
theorem uz (h:i<p.broken.length):aG (bA p) (i:Int) K=K [.int .i64 ((p.broken.getD i (0,0)).1:Nat),.int .i64 ((p.broken.getD i (0,0)).2:Nat)]:=bI Ob (0,0) h K
end
theorem aL {a c:Int}(h:a<=c):bJ a c=true:=by simpa using h
theorem rG {a c:Int}(h:¬a<=c):bJ a c=false:=by simpa using h
theorem iz {a c:Int}(h:a<c):aT a c=true:=by simpa using h
theorem b_ {a c:Int}(h:¬a<c):aT a c=false:=by simpa using h
theorem gi (a c:Nat):((a:Int)==(c:Int))=(a==c):=by
 rw[uQ];simp;omega
theorem rL (a:Nat):((a:Int)==1)=(a==1):=gi a 1
theorem rK (a:Nat):((a:Int)==2)=(a==2):=gi a 2
theorem Ej (a:Nat):((a:Int)==3)=(a==3):=gi a 3
theorem Xf (a:Nat):((a:Int)==0)=(a==0):=gi a 0
structure BV (b:Bd):Prop extends bT:df b where
 brk:KO (b.n:Int) (b.aO.map λx=>((x.k:Int),(x.a:Int),(x.b:Int))) b.ar.length b.cons.length=true
theorem KF (a lo hi:Int):denC E 78 [AV.int .i64 a,AV.int .i64 lo,AV.int .i64 hi] []=some ([RV.p (PV.bool (bJ lo a&&bJ a hi))],[]):=by
 rw[ai,r78];cases bJ lo a<;>simp[ctl,aj]
theorem KN:∀l:List fX,A8 (l.map Xc)=some (l.map λx=>((x.k:Int),(x.a:Int),(x.b:Int)))
 |[]=>rfl
 |x::l=>by simp[A8,KN l,Xc,afk]
theorem Na {b:Bd}(hb:BV b):denC E 91 [eH b] []=some ([RV.p (PV.bool true)],[]):=by
 have h1:L5 [eH b]=some [RV.p (PV.bool true)]:=by
  unfold L5;simp only;rw[show A8 (fW b)=_ from KN b.aO];simp only;rw[bS,dM,dE];have h2:=hb.n6;have h3:=hb.nb;have h4:=hb.ng;have h5:=hb.nc;exact aK ⟨by omega,by omega,by omega,by omega,by omega,hb.brk⟩
 rw[ai];show(match L5 [eH b]with|some rs=>some (rs,[])|none=>none)=_;rw[h1]
theorem WC {b:Bd}(hb:BV b){i:Nat}(hi:i<b.ar.length):denC E 92 [AV.agg [PV.int .i64 ((gn b i).cd:Int),PV.int .i64 ((gn b i).least:Int),PV.int .i64 ((gn b i).start:Int)]] []=some ([RV.p (PV.bool true)],[]):=by
 have hm:gn b i∈b.ar:=by unfold gn;rw[dD,dO hi];exact gH hi
 obtain⟨h1,h2,h3,h4⟩:=hb.gen _ hm;rw[ai,r92];simp only[KF,SB];rw[aL (by omega),aL (by omega),aL (by omega),aL (by omega),aL (by omega),aL (by omega)];rfl
theorem BQ {l:List Nat}{k:Nat}(h:∀x∈l,x<k){i:Nat}(hi:i<l.length):l.getD i 0<k:=by
 rw[dD,dO hi];exact h _ (gH hi)
theorem Jk {l:List Nat}(h:l.Pairwise (· < ·)){i:Nat}(hi:i+1<l.length):l.getD i 0<l.getD (i+1) 0:=by
 rw[dD,dD,dO hi,dO (show i<l.length by omega)];exact Ao.1 h i (i+1) (by omega) hi (by omega)
theorem Fh {number:Nat}{w0 w1 w2 w3:AV}{x0 x1 x2 x3:Int}{l:List Nat}(h4:l.length<=4)(hl:∀x∈l,x<number)(hp:l.Pairwise (· < ·))(hn:number<=16):∀(m k:Nat),k+m=l.length->
  lp E (denC E) 93 0 [] 0 {vals:=[AV.int .i64 (number:Int),AV.sl 1 (bF l),AV.int .i64 l.length,AV.int .i64 k],aq:=[au.box [AV.int .i64 x0,AV.int .i64 x1,AV.int .i64 x2,AV.int .i64 x3,AV.sl 1 (bF l)]]}=
   some (Ex.exit 0,{vals:=[],aq:=[au.box [AV.int .i64 x0,AV.int .i64 x1,AV.int .i64 x2,AV.int .i64 x3,AV.sl 1 (bF l)]]}):=by
 intro m
 induction m with
 |zero=>intro k hk;rw[abt,ah,aC (by omega)]
 |succ m ih=>
  intro k hk;have ir:k<l.length:=by omega
  have h1:=BQ hl ir;rw[abt,ah,aK (by omega),cE _ ir];simp only[KF,SB];rw[ck (n:=(number:Int)-1) (by omega),aL (by omega),aL (by omega)];simp only[SB];rw[ck (n:=(k:Int)+1) (by omega),aw,ih (k+1) (by omega)];cases k with
  |zero=>rw[b_ (by omega)];rfl
  |succ k=>
   have h2:=Jk hp (i:=k) (by omega);rw[iz (by omega),ck (n:=((k+1:Nat):Int)-1) (by omega),show((k+1:Nat):Int)-1=(k:Int) by omega,ay,cE _ (by omega)];simp only[SB];rw[rG (by omega)];rfl
theorem M_ {b:Bd}(hb:BV b){i:Nat}(hi:i<b.cons.length):denC E 93 [AV.agg [PV.int .i64 ((cn b i).load:Int),PV.int .i64 ((cn b i).least:Int),PV.int .i64 ((cn b i).vW:Int),PV.int .i64 (cn b i).RN,PV.sl 1 (bF (cn b i).needs)],AV.int .i64 (i:Int)] []=some ([RV.p (PV.bool true)],[]):=by
 obtain⟨h1,h2,h3,h4,h5,h6,h7,h8⟩:=hb.zL i hi;have hnc:=hb.nc;have hlp:=Fh (x0:=(cn b i).load) (x1:=(cn b i).least) (x2:=(cn b i).vW) (x3:=(cn b i).RN) h6 h7 h8 (by omega) (w0:=.no) (w1:=.no) (w2:=.no) (w3:=.no) _ 0 (dy _);rw[fC]at hlp;rw[ai,r93,aU,hlp];simp only[KF,SB,Nat.reduceAdd];rw[aU,aL (by omega),aL (by omega),aL (by omega),aL (by omega),aL (by omega),aL (by omega),aL (by omega),aL (by omega),aL (by omega)];rfl
theorem Kv {b:Bd}(hb:BV b):∀(m k:Nat),k+m=b.ar.length->
  lp E (denC E) 47 0 [] 0 {vals:=[AV.bool true,AV.sl 3 (oW b),AV.int .i64 b.ar.length,AV.int .i64 k],aq:=[eG b]}=some (Ex.exit 0,{vals:=[AV.bool true],aq:=[eG b]}):=by
 have h8:=hb.ng;intro m
 induction m with
 |zero=>intro k hk;rw[abP,ah,aC (by omega)]
 |succ m ih=>
  intro k hk;rw[abP,ah,aK (by omega),oz _ (by omega)];simp only[WC hb (show k<b.ar.length by omega),SB];rw[ck (n:=(k:Int)+1) (by omega),aw,ih (k+1) (by omega)]
theorem Ku {b:Bd}(hb:BV b):∀(m k:Nat),k+m=b.cons.length->
  lp E (denC E) 47 0 [] 2 {vals:=[AV.bool true,AV.sl 5 (nQ b),AV.int .i64 b.cons.length,AV.int .i64 k],aq:=[]}=some (Ex.exit 2,{vals:=[AV.bool true],aq:=[]}):=by
 have h8:=hb.nc;intro m
 induction m with
 |zero=>intro k hk;rw[abO,ah,aC (by omega)]
 |succ m ih=>
  intro k hk;rw[abO,ah,aK (by omega),oA _ (by omega)];simp only[M_ hb (show k<b.cons.length by omega),SB];rw[ck (n:=(k:Int)+1) (by omega),aw,ih (k+1) (by omega)]
theorem H3 {b:Bd}(hb:BV b):denC E 47 [eH b] []=some ([RV.p (PV.int .i64 0)],[]):=by
 have h1:=hb.n1;have h2:=hb.n6;have h3:=hb.nb;have h4:=hb.ng;have h5:=hb.nc;have h6:=hb.ph;have h7:=hb.fr;have l0:=Kv hb _ 0 (dy _);have l2:=Ku hb _ 0 (dy _);rw[fC]at l0 l2;rw[ai,r47,Na hb,bS,dM,dE];simp only[KF,SB,Nat.reduceAdd];rw[aL (by omega),aL (by omega),b_ (by omega),b_ (by omega),b_ (by omega),aL (by omega),aL (by omega),aL (by omega),aL (by omega)];simp only[SB];rw[l0];simp only[SB];rw[dE,l2];simp only[SB]
end
def Kl (a c:Int):Int:=if a<c then-1 else if c<a then 1 else 0
theorem O0 {a c:Int}(h:a<c):Kl a c=-1:=aK h
theorem aaq (a:Int):Kl a a=0:=by unfold Kl;rw[aC (by omega),aC (by omega)]
theorem aaH (a:Int):denC E 170 [AV.int .i64 a] []=some ([RV.p (PV.bool false)],[]):=by
 rw[ai,ajS];simp
theorem zP (a c:Int):denC E 131 [AV.int .i64 a,AV.int .i64 c] []=some ([RV.p (PV.int .i64 (Kl a c))],[]):=by
 rw[ai,akg];simp only[aaH,SB];unfold Kl;rw[ah,ah];by_cases h1:a<c
 ·rw[aK h1,aK h1]
 ·rw[aC h1,aC h1];by_cases h2:c<a
  ·rw[aK h2,aK h2]
  ·rw[aC h2,aC h2]
theorem amr (a c:Int):denC E 130 [AV.sl 1 [[PV.int .i64 a],[PV.int .i64 c]]] []=some ([RV.p (PV.int .i64 (if a=0 then c else a))],[]):=by
 have e0:aG (α:=Ex×Pack) [[PV.int .i64 a],[PV.int .i64 c]] 0=λK=>K [PV.int .i64 a]:=rfl;have e1:aG (α:=Ex×Pack) [[PV.int .i64 a],[PV.int .i64 c]] 1=λK=>K [PV.int .i64 c]:=rfl;rw[ai,akh];show aj (lp E (denC E) 130 0 [] 0 {vals:=[AV.int .i64 0,AV.sl 1 [[PV.int .i64 a],[PV.int .i64 c]],AV.int .i64 2,AV.int .i64 0],aq:=[]}) _=_;rw[LY,show aT 0 2=true from rfl,ay,e0];simp only[SB];by_cases h:a=0
 ·subst h;rw[aK rfl,show((0:Int) !=0)=false from rfl,aF,show IntKind.i64.wrap (0+1)=1 from rfl,LY,show aT 1 2=true from rfl,ay,e1];simp only[SB];by_cases hc:c=0
  ·subst hc;rw[show((0:Int) !=0)=false from rfl,aF,show IntKind.i64.wrap (1+1)=2 from rfl,LY,show aT 2 2=false from rfl,aF];simp only[SB]
  ·rw[show(c !=0)=true by simp[hc],ay];simp only[SB]
 ·rw[aC h,show(a !=0)=true by simp[h],ay];simp only[SB]
theorem ae_ {b:Bd}(k:Nat):denC E 129 [eH b,AV.int .i64 (k:Int)] []=some ([RV.p (PV.int .i64 (Pj b k:Int))],[]):=by
 rw[ai,aki,dM,bS,dE];unfold Pj;rw[show((k:Int)==1)=decide (k=1) by rw[uQ];simp;omega,show((k:Int)==2)=decide (k=2) by rw[uQ];simp;omega,show((k:Int)==3)=decide (k=3) by rw[uQ];simp;omega,show((k:Int)==4)=decide (k=4) by rw[uQ];simp;omega];simp only[ah]
 repeat' split
 all_goals rfl
theorem TI {l:List (Nat×Nat)}(h:l.Pairwise Mn){i:Nat}(hi:i+1<l.length):Mn (l.getD i (0,0)) (l.getD (i+1) (0,0)):=by
 rw[dD,dD,dO hi,dO (show i<l.length by omega)];exact Ao.1 h i (i+1) (by omega) hi (by omega)
theorem ady {b:Bd}(hb:BV b)(k:Nat):Pj b k<=24:=by
 have h2:=hb.n6;have h3:=hb.nb;have h4:=hb.ng;have h5:=hb.nc;unfold Pj
 repeat' split
 all_goals omega
theorem KM {b:Bd}{p:Pw}(hb:BV b)(hp:aX b p):∀(m k:Nat),k+m=p.broken.length->
  lp E (denC E) 74 0 [] 0 {vals:=[AV.sl 2 (bA p),AV.sl 2 (bA p),AV.int .i64 p.broken.length,AV.int .i64 k],aq:=[eG b]}=some (Ex.exit 0,{vals:=[AV.sl 2 (bA p)],aq:=[]}):=by
 have h32:=hp.bk;intro m
 induction m with
 |zero=>intro k hk;rw[abw,ah,aC (by omega)]
 |succ m ih=>
  intro k hk;have ir:k<p.broken.length:=by omega
  have hex:(p.broken.getD k (0,0)).2<Pj b (p.broken.getD k (0,0)).1:=by
   refine hp.ex _ ?_;rw[dD,dO ir];exact gH ir
  have hsz:=ady hb (p.broken.getD k (0,0)).1;rw[abw,ah,aK (by omega),uz _ ir];simp only[ae_,KF,SB];rw[ck (n:=(Pj b (p.broken.getD k (0,0)).1:Int)-1) (by omega),aL (by omega),aL (by omega)];simp only[SB];rw[ck (n:=(k:Int)+1) (by omega),aw k,ih (k+1) (by omega)];cases k with
  |zero=>rw[b_ (by omega)];rfl
  |succ k=>
   have h2:=TI hp.asc (i:=k) (by omega);rw[iz (by omega),ck (n:=((k+1:Nat):Int)-1) (by omega),show((k+1:Nat):Int)-1=(k:Int) by omega,ay,uz _ (by omega)];simp only[zP,SB];rw[uz _ (by omega)];simp only[amr,SB];rcases h2 with h|⟨h,h'⟩
   ·rw[O0 (show((p.broken.getD k (0,0)).1:Int)<((p.broken.getD (k+1) (0,0)).1:Int) by omega)];rfl
   ·rw[h,aaq,O0 (show((p.broken.getD k (0,0)).2:Int)<((p.broken.getD (k+1) (0,0)).2:Int) by omega)];rfl
theorem WK {b:Bd}{p:Pw}(hb:BV b)(hp:aX b p):denC E 74 [eH b,AV.sl 2 (bA p)] []=some ([RV.p (PV.bool true)],[]):=by
 have l0:=KM hb hp _ 0 (dy _);have h32:=hp.bk;rw[fC]at l0;rw[ai,r74,uF,l0];simp only[SB];rw[uF,aL (by omega)]
theorem QQ {x:gL}(h:x.st<=3/\x.since<=2147483648/\x.fr<=6000/\x.ph<3600):denC E 76 [AV.agg [PV.int .i64 (x.st:Int),PV.int .i64 (x.since:Int),PV.int .i64 (x.fr:Int),PV.int .i64 (x.ph:Int)]] []=some ([RV.p (PV.bool false)],[]):=by
 have h1:denC E 77 [AV.agg [PV.int .i64 (x.st:Int),PV.int .i64 (x.since:Int),PV.int .i64 (x.fr:Int),PV.int .i64 (x.ph:Int)]] []=some ([RV.p (PV.bool true)],[]):=by
  rw[ai,r77];simp only[KF,SB];rw[aL (by omega),aL (by omega),aL (by omega),aL (by omega),aL (by omega),aL (by omega),aL (by omega),aL (by omega)];rfl
 rw[ai,r76,h1];rfl
theorem PC {b:Bd}{p:Pw}(hb:BV b)(hp:aX b p):∀(m k:Nat),k+m=p.aA.length->
  lp E (denC E) 132 0 [AV.undef,AV.fn 76 []] 0 {vals:=[AV.sl 4 (bp p),AV.int .i64 p.aA.length,AV.int .i64 k],aq:=[]}=some (Ex.exit 0,{vals:=[],aq:=[]}):=by
 have h8:=hb.ng;have hs:=hp.s;intro m
 induction m with
 |zero=>intro k hk;rw[N4,ah,aC (by omega)]
 |succ m ih=>
  intro k hk;rw[N4,ah,aK (by omega),dv _ (by omega)];simp only[QQ (hp.runs (i:=k) (by omega)),SB];rw[ck (n:=(k:Int)+1) (by omega),aw k,ih (k+1) (by omega)]
theorem afa {b:Bd}{p:Pw}(hb:BV b)(hp:aX b p):denC E 75 [AV.sl 4 (bp p),AV.fn 76 []] []=some ([RV.p (PV.bool false)],[]):=by
 have l0:=PC hb hp _ 0 (dy _);rw[fC]at l0;have h1:denC E 132 [AV.sl 4 (bp p),AV.fn 76 []] []=some ([RV.p (PV.int .i64 (-1))],[]):=by
  rw[ai,agx,fP,l0];simp only[SB]
 rw[ai,ajB,h1];rfl
theorem drop_cons {α:Type}[Inhabited α]{l:List α}{k:Nat}(h:k<l.length):l.drop k=l.getD k default::l.drop (k+1):=by
 rw[wZ h];simp[dD,h]
theorem sZ {b:Bd}{p:Pw}(hp:p.closed.length=b.aO.length){k:Nat}(hk:k<b.aO.length):(gD b p.closed).drop k=(br b k,cl p k)::(gD b p.closed).drop (k+1):=by
 have h:=gC hp hk;have hl:k<(gD b p.closed).length:=by rw[BL hp];exact hk
 rw[wZ hl];rw[dO hl]at h;rw[pG h]
theorem xD {b:Bd}{p:Pw}(hp:p.closed.length=b.aO.length){k:Nat}(hk:b.aO.length<=k):(gD b p.closed).drop k=[]:=Bi (by rw[BL hp];exact hk)
theorem Kn {b:Bd}{p:Pw}(hb:BV b)(hp:p.closed.length=b.aO.length)(u:Nat):∀(m k n:Nat),k+m=b.aO.length->n<=1000+k->
  lp E (denC E) 79 0 [] 0 {vals:=[AV.int .i64 (u:Int),AV.int .i64 (n:Int),AV.sl 3 (fW b),AV.int .i64 b.aO.length,AV.int .i64 k],aq:=[kq p]}=
   some (Ex.exit 0,{vals:=[AV.int .i64 ((n+((gD b p.closed).drop k).countP λx=>x.1.k==3&&x.1.b==u&&x.2:Nat):Int)],aq:=[]}):=by
 have sg:=hb.nb;intro m
 induction m with
 |zero=>
  intro k n hk hn;rw[abv,ah,aC (by omega),xD hp (by omega)];rfl
 |succ m ih=>
  intro k n hk hn;rw[abv,ah,aK (by omega),cF _ (by omega)];simp only[SB];rw[k_ _ (by omega),sZ hp (by omega)];simp only[SB,iw];rw[ck (n:=(k:Int)+1) (by omega),aw k,ck (n:=(n:Int)+1) (by omega),aw n,ih (k+1) n (by omega) (by omega),ih (k+1) (n+1) (by omega) (by omega),Ej,gi];cases h1:((br b k).k==3)<;>cases h2:((br b k).b==u)<;>cases h3:cl p k<;>simp[ctl]<;>omega
theorem WI {b:Bd}{p:Pw}(hb:BV b)(hp:p.closed.length=b.aO.length)(u:Nat):denC E 79 [eH b,iQ p,AV.int .i64 (u:Int)] []=some ([RV.p (PV.int .i64 (cnt b p.closed u:Int))],[]):=by
 have l0:=Kn hb hp u _ 0 0 (dy _) (by omega);rw[fC]at l0;rw[ai,r79,bS,l0];simp only[SB,eN];rfl
theorem LD {b:Bd}{p:Pw}(hb:BV b)(hp:aX b p):∀(m k:Nat),k+m=p.gJ.length->
  lp E (denC E) 31 0 [] 0 {vals:=[AV.bool true,AV.sl 1 (bE p),AV.int .i64 p.gJ.length,AV.int .i64 k],aq:=[eG b,kq p]}=some (Ex.exit 0,{vals:=[AV.bool true],aq:=[]}):=by
 have Fg:=hb.nc;have hl:=hp.l;intro m
 induction m with
 |zero=>intro k hk;rw[abU,ah,aC (by omega)]
 |succ m ih=>
  intro k hk;have h1:=hp.Hd k (by omega);have h2:=hp.one k (by omega);rw[abU,ah,aK (by omega),HC _ (by omega)];simp only[SB];rw[oA _ (by omega)];simp only[KF,WI hb hp.c,SB];rw[aL (by omega),aL (by omega),aL (by omega),ck (n:=(k:Int)+1) (by omega),aw k];exact ih (k+1) (by omega)
theorem eM {b:Bd}{p:Pw}(hb:BV b)(hp:aX b p):denC E 31 [eH b,iQ p] []=some ([RV.p (PV.int .i64 0)],[]):=by
 have l0:=LD hb hp _ 0 (dy _);rw[fC]at l0;rw[ai,r31,H3 hb,dU,fP,mH,bS,dM,dE,hp.c,hp.s,hp.l,WK hb hp,afa hb hp];rw[hp.l]at l0;simp only[SB];rw[show((0:Int) !=0)=false from rfl];simp only[bne_self_eq_false,SB];rw[l0];simp only[SB]
theorem Mw {p:Pw}(h32:p.broken.length<=32)(k u:Nat):∀(m i:Nat),i+m=p.broken.length->
  ∃r,lp E (denC E) 171 0 [] 0 {vals:=[AV.sl 2 (bA p),AV.int .i64 p.broken.length,AV.int .i64 i],aq:=[au.box [AV.int .i64 (k:Int),AV.int .i64 (u:Int)]]}=some r/\
   if (p.broken.drop i).contains (k,u)=true then∃j:Nat,r=(Ex.ret,{vals:=[AV.int .i64 (j:Int)],aq:=[]}) else r=(Ex.exit 0,{vals:=[],aq:=[]}):=by
 intro m
 induction m with
 |zero=>
  intro i hi;rw[S8,ah,aC (by omega),Bi (by omega)];exact⟨_,rfl,by simp⟩
 |succ m ih=>
  intro i hi;obtain⟨r,h1,h2⟩:=ih (i+1) (by omega);rw[S8,ah,aK (by omega),uz _ (by omega)];simp only[SB];rw[ck (n:=(i:Int)+1) (by omega),aw,h1,gi,gi,drop_cons (show i<p.broken.length by omega)];show∃r',_/\if ((p.broken.getD i (0,0))::p.broken.drop (i+1)).contains (k,u)=true then _ else _
  rw[I_];cases hk:(k==(p.broken.getD i (0,0)).1&&u==(p.broken.getD i (0,0)).2)with
  |true=>
   have e:((k,u)==p.broken.getD i (0,0))=true:=hk;rw[e,Ct,ay];exact⟨_,rfl,by rw[aK rfl];exact⟨i,rfl⟩⟩
  |false=>
   have e:((k,u)==p.broken.getD i (0,0))=false:=hk;rw[e,vR,aF];exact⟨r,rfl,h2⟩
theorem h_ {b:Bd}{p:Pw}(hp:aX b p)(k u:Nat):denC E 86 [iQ p,AV.int .i64 (k:Int),AV.int .i64 (u:Int)] []=some ([RV.p (PV.bool (lh p k u))],[]):=by
 obtain⟨r,h1,h2⟩:=Mw hp.bk k u _ 0 (dy _);rw[fC]at h1;rw[eN]at h2;have h3:∃z:Int,denC E 171 [AV.sl 2 (bA p),AV.agg [PV.int .i64 (k:Int),PV.int .i64 (u:Int)]] []=some ([RV.p (PV.int .i64 z)],[])/\bJ 0 z=lh p k u:=by
  rw[ai,ajR,uF,h1];split at h2
  ·rename_i hc;obtain⟨j,rfl⟩:=h2;simp only[SB];exact⟨j,rfl,by rw[aL (by omega)];exact hc.symm⟩
  ·rename_i hc;subst h2;simp only[SB];exact⟨-1,rfl,by unfold lh;rw[Cm]at hc;rw[hc];rfl⟩
 obtain⟨z,h3,h4⟩:=h3;have h5:denC E 136 [AV.sl 2 (bA p),AV.agg [PV.int .i64 (k:Int),PV.int .i64 (u:Int)]] []=some ([RV.p (PV.bool (lh p k u))],[]):=by
  rw[ai,akc,h3];simp only[SB];rw[h4]
 rw[ai,r86,h5];rfl
def dz:Option Nat->List RV
 |some u=>[RV.p (PV.int .i64 (u:Int)),RV.p (PV.bool true)]
 |none=>[RV.p (PV.int .i64 0),RV.p (PV.bool false)]
def YO (o:Option Nat):Ex×Pack:=match o with
 |some u=>(Ex.ret,{vals:=[AV.int .i64 (u:Int),AV.bool true],aq:=[]})
 |none=>(Ex.exit 0,{vals:=[],aq:=[]})
theorem Ul {b:Bd}{p:Pw}(hb:BV b)(hp:p.closed.length=b.aO.length)(kd u:Nat):∀(m k:Nat),k+m=b.aO.length->
  lp E (denC E) 83 0 [] 0 {vals:=[AV.int .i64 (kd:Int),AV.int .i64 (u:Int),AV.sl 3 (fW b),AV.int .i64 b.aO.length,AV.int .i64 k],aq:=[kq p]}=
   some (YO ((((gD b p.closed).drop k).find? λx=>x.1.k==kd&&x.1.b==u&&x.2).map λx=>x.1.a)):=by
 have sg:=hb.nb;intro m
 induction m with
 |zero=>
  intro k hk;rw[abu,ah,aC (by omega),xD hp (by omega)];rfl
 |succ m ih=>
  intro k hk;rw[abu,ah,aK (by omega),cF _ (by omega)];simp only[SB];rw[k_ _ (by omega),sZ hp (by omega)];simp only[SB,Al];rw[ck (n:=(k:Int)+1) (by omega),aw k,ih (k+1) (by omega),gi,gi];cases h1:((br b k).k==kd)<;>cases h2:((br b k).b==u)<;>cases h3:cl p k<;>simp[ctl,YO]
theorem ac7 {b:Bd}{p:Pw}(hb:BV b)(hp:p.closed.length=b.aO.length)(kd u:Nat):denC E 83 [eH b,iQ p,AV.int .i64 (kd:Int),AV.int .i64 (u:Int)] []=some (dz (Oq b p.closed kd u),[]):=by
 have l0:=Ul hb hp kd u _ 0 (dy _);rw[fC,eN]at l0;rw[ai,r83,bS,l0];show aj (some (YO (Oq b p.closed kd u))) _=_;cases Oq b p.closed kd u<;>simp only[YO,dz,SB,Nat.reduceAdd]
theorem A7 {b:Bd}{p:Pw}(hb:BV b)(hp:aX b p){i:Nat}(hi:i<b.ar.length):denC E 35 [eH b,iQ p,AV.int .i64 (i:Int)] []=some (dz (conn b p i),[]):=by
 have h8:=hb.ng;have hs:=hp.s;rw[ai,r35,fP];simp only[KF,SB];rw[ck (n:=(p.aA.length:Int)-1) (by omega),aL (by omega),aL (by omega)];simp only[SB];rw[dv _ (by omega)];simp only[SB];rw[show((2:Int))=((2:Nat):Int) from rfl,ac7 hb hp.c];unfold conn;by_cases h:(sr p i).st=2
 ·rw[aK h,h,show(((2:Nat):Int) !=((2:Nat):Int))=false from rfl,aF];cases Oq b p.closed 2 i<;>simp only[dz,SB]
 ·rw[aC h,show((((sr p i).st:Nat):Int) !=((2:Nat):Int))=true by simp;omega,ay];rfl
theorem ac8 {b:Bd}{p:Pw}(hb:BV b)(hp:p.closed.length=b.aO.length)(i:Nat):denC E 36 [eH b,iQ p,AV.int .i64 (i:Int)] []=some (dz (iF b p i),[]):=by
 rw[ai,r36,show((3:Int))=((3:Nat):Int) from rfl,ac7 hb hp];unfold iF;cases Oq b p.closed 3 i<;>simp only[dz,SB]
theorem tG {b:Bd}{p:Pw}(hb:BV b)(hp:aX b p){i:Nat}(hi:i<b.ar.length):denC E 80 [eH b,iQ p,AV.int .i64 (i:Int)] []=some (dz (conn b p i),[]):=by
 rw[ai,r80,eM hb hp];simp only[SB];rw[show((0:Int) !=0)=false from rfl,aF,A7 hb hp hi];cases conn b p i<;>simp only[dz,SB]
theorem ac' {b:Bd}{p:Pw}(hb:BV b)(hp:aX b p)(i:Nat):denC E 117 [eH b,iQ p,AV.int .i64 (i:Int)] []=some (dz (iF b p i),[]):=by
 rw[ai,akq,eM hb hp];simp only[SB];rw[show((0:Int) !=0)=false from rfl,aF,ac8 hb hp.c];cases iF b p i<;>simp only[dz,SB]
end Go.Proofs.YtoocplpcbdemhaaGreat.Vm
