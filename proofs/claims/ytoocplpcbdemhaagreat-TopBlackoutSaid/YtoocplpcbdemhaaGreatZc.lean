import Derived.Deep.Slices
import Derived.ChangeArms
import Derived.OpenShut
import Derived.ChangeOld
import Derived.Below
import Derived.Carry
import Derived.IntWalk
import Derived.Lib.Bytealg
import Derived.Lib.Strings
import Derived.Lib.Join
import Derived.Lib.ItoaNum
import Derived.Lib.AtoiAll
import Derived.Sort.Defs
import Derived.Lib.SlicesCompact
import Derived.Lib.BitFns
import Derived.Test.YtoocplpcbdemhaaGreatProg
import Derived.Maps.AppendAt
import Derived.Deep.AppendLies
import Derived.Lib.BufferWrite
import Derived.Laws.MakeOwn
import Derived.WalkKit
import Derived.RangeFuncBox
import Derived.Shelf.Abstract
import Derived.OwnWalkIn
import Derived.TacticsInMore
import Derived.LoopNIn
import Derived.LoopIn
import Derived.Lib.SliceRun
import Derived.Maps.Range
import Derived.Stop.RegionWithIn
import Derived.RegionCalls
import Derived.BigRegion
import Derived.NoCompiler
import Derived.OwnWalk
import Derived.WalkMore
import Derived.Tactics
import Derived.Tactics2
import Derived.Deep.RegionLaw
import Derived.Laws.CopyRow
import Derived.Shelf.Bits.Mul64
import Derived.Test.YtoocplpcbdemhaaGreatShelf
import Derived.Shelf.SlicesE.DeleteFunc
import Derived.Shelf.SlicesE.Index
import Derived.RangeFuncNested
import Derived.RangeFuncBound
import Derived.RangeFuncCalls
import Derived.RangeFuncLeaves
import Derived.Deep.QuietTactic
import Derived.BigQuiet
import Derived.Deep.DeepCutAuto
import Derived.Deep.RegionWith
import Derived.Deep.RegionHeld
import Derived.Laws.Unary
import Derived.KernelRfl
import Derived.Test.YtoocplpcbdemhaaGreatZb
set_option linter.unusedVariables false
set_option linter.unusedSimpArgs false
set_option linter.unusedSectionVars false
namespace Go.Proofs.YtoocplpcbdemhaaGreat
theorem rz:type_of% @Nat.zero_le:=@Nat.zero_le
theorem GZ:type_of% @Bool.and_self:=@Bool.and_self
theorem Jd:type_of% @Bool.or_false:=@Bool.or_false
theorem CK:type_of% @List.filter_append:=@List.filter_append
theorem vT:type_of% @List.filter_cons_of_pos:=@List.filter_cons_of_pos
theorem Bh:type_of% @List.filter_cons_of_neg:=@List.filter_cons_of_neg
theorem Cz:type_of% @List.range_succ:=@List.range_succ
theorem Jf:type_of% @List.ext_getElem:=@List.ext_getElem
theorem CF:type_of% @Go.Lib.grownBy_setCell:=@Go.Lib.grownBy_setCell
theorem Cn:type_of% @Go.heap_alloc_new:=@Go.heap_alloc_new
theorem Cs:type_of% @Go.callsIn_of_wp:=@Go.callsIn_of_wp
theorem oa:type_of% @List.size_toArray:=@List.size_toArray
theorem iO:type_of% @Array.replicate_succ:=@Array.replicate_succ
theorem CJ:type_of% @Array.replicate_zero:=@Array.replicate_zero
theorem Aj:type_of% @List.push_toArray:=@List.push_toArray
theorem FT:type_of% @List.append_toArray:=@List.append_toArray
theorem uQ:type_of% @Bool.eq_iff_iff:=@Bool.eq_iff_iff
theorem pJ:type_of% @Go.World.frozen?_of_block:=@Go.World.frozen?_of_block
theorem w_:type_of% @Go.World.cell?_setCells_out:=@Go.World.cell?_setCells_out
theorem FR:type_of% @List.length_range:=@List.length_range
theorem vQ:type_of% @Go.heap_alloc_old:=@Go.heap_alloc_old
theorem Cu:type_of% @Int.le_refl:=@Int.le_refl
theorem bo:type_of% @Int.toNat_natCast:=@Int.toNat_natCast
theorem oO:type_of% @List.length_filter_le:=@List.length_filter_le
theorem uO:type_of% @List.mem_filter:=@List.mem_filter
theorem FI:type_of% @Go.IntKind.wrap_i64:=@Go.IntKind.wrap_i64
theorem I8:type_of% @Nat.min_le_right:=@Nat.min_le_right
theorem iN:type_of% @List.take_zero:=@List.take_zero
theorem za:type_of% @List.length_replicate:=@List.length_replicate
theorem Ja:type_of% @List.mem_replicate:=@List.mem_replicate
theorem xg:type_of% @List.filter_congr:=@List.filter_congr
theorem w8:type_of% @beq_iff_eq:=@beq_iff_eq
theorem Ai:type_of% @List.not_mem_nil:=@List.not_mem_nil
theorem m_:type_of% @List.take_succ_cons:=@List.take_succ_cons
end Go.Proofs.YtoocplpcbdemhaaGreat
namespace Go.Proofs.YtoocplpcbdemhaaGreat.Vm
section
open Go.RowKit Go.Deep
def HR (P:Program):List Field->Nat->Nat->Bool
 |[],i,n=>Nat.beq i n
 |f::fs,i,n=>Nat.beq f.offset i&&HR P fs (i+P.cellsOf f.type) n
def okTy (P:Program):Nat->TypeId->Bool
 |0,_=>false
 |k+1,t=>
  match P.underlying t with
  |some .bool=>true
  |some (.int _)=>true
  |some .string=>true
  |some (.slice e)=>Nat.ble 1 (P.cellsOf e)&&okTy P k e
  |some (.struct fs)=>fs.toList.all (λf=>okTy P k f.type)&&HR P fs.toList 0 (P.cellsOf t)
  |some (.array n e)=>Nat.beq (P.cellsOf t) (n*P.cellsOf e)&&okTy P k e
  |_=>false
def Il (P:Program):Nat->TypeId->List PV->Prop
 |0,_,_=>False
 |k+1,t,cs=>
  match P.underlying t with
  |some .bool=>∃b,cs=[.bool b]
  |some (.int kd)=>∃n,cs=[.int kd n]/\(Lit.int kd n).wf=true
  |some .string=>∃s,cs=[.str s]/\s.length<=maxLen
  |some (.slice e)=>∃es,cs=[.sl (P.cellsOf e) es]/\es.length<=maxLen/\∀x∈es,Il P k e x
  |some (.struct fs)=>∃xs,All2 (λ(f:Field) x=>Il P k f.type x) fs.toList xs/\cs=xs.flatten
  |some (.array n e)=>∃xs:List (List PV),xs.length=n/\cs=xs.flatten/\∀x∈xs,Il P k e x
  |_=>False
section
variable {H:Type} {enc:TypeId×Value->H} {P:Program} {w:World} {base:Nat} {spare:Nat->Bool} {held:Bool} {O:Nat->Prop}
theorem Jj {us:List Value}{n k:Nat}(hlen:us.length=n):∀{fs:List Field} {i:Nat},HR P fs i n=true->
  (∀f∈fs,∃x,All2 (VP w O) x ((us.drop f.offset).take (P.cellsOf f.type))/\Il P k f.type x)->
  ∃xs,All2 (λ(f:Field) x=>Il P k f.type x) fs xs/\All2 (VP w O) xs.flatten (us.drop i)
 |[],i,h,_=>by
  have:=gK h;subst this;rw[List.drop_of_length_le (by omega)];exact⟨[],trivial,trivial⟩
 |f::fs,i,h,hx=>by
  simp only[HR,bO]at h;obtain⟨xs,h1,h2⟩:=Jj hlen h.2 λg hg=>hx g (by simp[hg]);obtain⟨x,h3,h4⟩:=hx f (by simp);rw[gK h.1]at h3;refine⟨x::xs,⟨h4,h1⟩,?_⟩;rw[List.flatten_cons];have:=h3.append h2
  rwa [<-List.drop_drop,List.take_append_drop]at this
theorem Gm {us:List Value}{sz:Nat}{Q:List PV->Prop}:∀(n:Nat) (i:Nat),us.length=(i+n)*sz->(∀j,j<i+n->∃x,All2 (VP w O) x ((us.drop (j*sz)).take sz)/\Q x)->
  ∃xs:List (List PV),xs.length=n/\(∀x∈xs,Q x)/\All2 (VP w O) xs.flatten (us.drop (i*sz))
 |0,i,hl,_=>by
  rw[List.drop_of_length_le (by rw[hl];simp)];exact⟨[],rfl,(λx hx=>by cases hx),trivial⟩
 |n+1,i,hl,hx=>by
  obtain⟨xs,h1,h2,h3⟩:=Gm n (i+1) (by rw[hl];congr 1;omega) λj hj=>hx j (by omega);obtain⟨x,h4,h5⟩:=hx i (by omega);refine⟨x::xs,by simp[h1],λy hy=> ?_,?_⟩
  ·rcases gI.1 hy with rfl|hy
   ·exact h5
   ·exact h2 y hy
  ·rw[List.flatten_cons];have:=h4.append h3
   rwa [show(i+1)*sz=i*sz+sz by rw[sJ],<-List.drop_drop,List.take_append_drop]at this
theorem D8 {a:Addr}{n:Nat}{l:List Value}(h:w.cells? base a n=some l):l.length=n/\∀j,j<n->w.cell? (a.add j)=l[j]?:=by
 unfold World.cells? at h;split at h
 ·have hm:=h;refine⟨by simpa using mapM_some_length hm,λj hj=> ?_⟩;have:=mapM_some_get hm j j (by simp[hj]);exact this
 ·cases h
theorem XV:∀(k:Nat) (t:TypeId) (us:List Value) (fuel:Nat) (x:DataW H×List MemPlace),okTy P k t=true->(∀b,¬O b)->DataW.trod enc P w base spare held fuel t us=some x->
  ∃cs,All2 (VP w O) cs us/\Il P k t cs:=by
 intro k
 induction k with
 |zero=>intro t us fuel x h;cases h
 |succ k ih=>
  intro t us fuel x h hO hd;simp only[okTy]at h;simp only[Il];split at h
  ·rename_i ht;obtain⟨b,rfl,_⟩:=DataW.trod_bool ht hd;exact⟨[.bool b],⟨.bool b,trivial⟩,b,rfl⟩
  ·rename_i kd ht;obtain⟨n,rfl,_,hw⟩:=DataW.trod_int ht hd;exact⟨[.int kd n],⟨.int kd n,trivial⟩,n,rfl,hw⟩
  ·rename_i ht;obtain⟨s,rfl,_,hs⟩:=DataW.trod_string ht hd;have ak:s.data.toList.length=s.size:=y9;refine⟨[.str s.data.toList],⟨?_,trivial⟩,s.data.toList,rfl,by rw[ak];exact hs⟩;have:=VP.str (w:=w) (O:=O) s.data.toList;simpa using this
  ·rename_i e ht;simp only[bO]at h;have hsz:=mD h.1;rcases open_slice ht hd with⟨rfl,_⟩|⟨a,len,cap,m,n,D,Pl,rfl,_,hlc,hcm,hm,_,AL⟩
   ·exact⟨[.sl (P.cellsOf e) []],⟨.yA _ none 0,trivial⟩,[],rfl,rz _,λx hx=>by cases hx⟩
   ·have hlm:len<=m:=by rw[hm];split<;>omega
    have each:∀i,i<len->∃y l,w.cells? base (a.add (i*P.cellsOf e)) (P.cellsOf e)=some l/\All2 (VP w O) y l/\Il P k e y:=λi hi=>by
     obtain⟨l,h1,h2⟩:=AL i (by omega);obtain⟨y,h3,h4⟩:=ih e l n _ h.2 hO h2;exact⟨y,l,h1,h3,h4⟩
    by_cases h0:len=0
    ·subst h0;exact⟨[.sl (P.cellsOf e) []],⟨.yA _ (some a) cap,trivial⟩,[],rfl,rz _,λx hx=>by cases hx⟩
    ·have aeF:=each 0 (by omega);obtain⟨y0,l0,g1,g2,_⟩:=aeF;obtain⟨g3,g4⟩:=D8 g1;have hc0:w.cell? a=l0[0]?:=by
      have:=g4 0 (by omega);simpa[Addr.add]using this
     have hl0:l0[0]? =some (l0[0]'(by omega)):=dO (by omega);have hspot:a.spot=none:=by
      unfold World.cell? at hc0;rw[hl0]at hc0;split at hc0
      ·split at hc0
       ·cases hc0
       ·rename_i hs;simpa using hs
      ·cases hc0
     have hblk:a.block<w.heap.size:=by
      unfold World.cell? at hc0;rw[hl0]at hc0;split at hc0
      ·rename_i c _ _ hr;exact(c_.1 hr).1
      ·cases hc0
     obtain⟨b,off,sp⟩:=a;simp only at hspot hblk;subst hspot;have:∀n,n<=len->∃es:List (List PV),es.length=n/\(∀x∈es,Il P k e x)/\∀(i:Nat) y,es[i]? =some y->∃l,w.cells? base ((⟨b,off,none⟩:Addr).add (i*P.cellsOf e)) (P.cellsOf e)=some l/\All2 (VP w O) y l:=by
      intro n
      induction n with
      |zero=>intro _;exact⟨[],rfl,(λx hx=>by cases hx),(λi y hy=>by simp at hy)⟩
      |succ n ihn=>
       intro hn;obtain⟨es,h1,h2,h3⟩:=ihn (by omega);obtain⟨y,l,h4,h5,h6⟩:=each n (by omega);refine⟨es++[y],by simp[h1],λx hx=> ?_,λi z hz=> ?_⟩
       ·rcases eO.1 hx with hx|hx
        ·exact h2 x hx
        ·simp at hx;subst hx;exact h6
       ·rw[w7]at hz;split at hz
        ·exact h3 i z hz
        ·have hi:i=n:=by
          have:=(ko.1 hz).1;simp at this;omega
         subst hi;rw[h1,FO]at hz;simp at hz;subst hz;exact⟨l,h4,h5⟩
     obtain⟨es,h1,h2,h3⟩:=this len (dB _);refine⟨[.sl (P.cellsOf e) es],⟨?_,trivial⟩,es,rfl,by omega,h2⟩;have hcell:∀i j y c,es[i]? =some y->y[j]? =some c->∃u,w.cell? ⟨b,off+i*P.cellsOf e+j,none⟩=some u/\VP w O c u:=λi j y c hy hc=>by
      obtain⟨l,h4,h5⟩:=h3 i y hy;obtain⟨h6,h7⟩:=D8 h4;obtain⟨u,h8,h9⟩:=h5.get j c hc;have hj:j<P.cellsOf e:=by rw[<-h6];exact(ko.1 h8).1
      have:=h7 j hj;rw[addr_add,addr_add,h8]at this;exact⟨u,this,h9⟩
     rw[<-h1];refine .sl (P.cellsOf e) es b off cap (λi j=>(w.cell? ⟨b,off+i*P.cellsOf e+j,none⟩).getD Go.undef) hblk (hO b) (by omega) (λy hy=> ?_) (λi j y c hy hc=> ?_) (λi j y c hy hc=> ?_)
     ·obtain⟨i,hi⟩:=eB.1 hy;obtain⟨l,h4,h5⟩:=h3 i y hi;rw[h5.length,(D8 h4).1]
     ·obtain⟨u,h4,_⟩:=hcell i j y c hy hc;rw[h4];rfl
     ·obtain⟨u,h4,h5⟩:=hcell i j y c hy hc;rw[h4];exact h5
  ·rename_i fs ht;simp only[bO]at h;obtain⟨xs,n,_,_,hlen,_,AL⟩:=DataW.trod_struct ht hd;obtain⟨ys,h1,h2⟩:=Jj (us:=us) (k:=k) (w:=w) (O:=O) hlen h.2 λf hf=>by
    obtain⟨i,hi⟩:=eB.1 hf;have nW:fs[i]? =some f:=by simpa using hi
    have h3:=AL i f nW;have hlt:i<xs.length:=by rename_i BO;rw[BO];exact(c_.1 nW).1
    rw[dO hlt]at h3;exact ih f.type _ n _ (fk.1 h.1 f hf) hO h3
   exact⟨ys.flatten,by simpa using h2,ys,h1,rfl⟩
  ·rename_i n e ht;simp only[bO]at h;obtain⟨xs,m,_,_,hlen,BO,AL⟩:=DataW.trod_array ht hd;have hn:=gK h.1;obtain⟨ys,h1,h2,h3⟩:=Gm (us:=us) (w:=w) (O:=O) (Q:=Il P k e) n 0 (by rw[hlen,hn,dy]) λj hj=>by
    rw[dy]at hj;have h3:=AL j hj;rw[dO (by omega)]at h3;exact ih e _ m _ h.2 hO h3
   exact⟨ys.flatten,by simpa using h3,ys,h1,rfl,h2⟩
  ·cases h
def WFA (P:Program)(t:TypeId)(a:AV):Prop:=∃cs,Il P 12 t cs/\((dc P t=true/\a=.t (.agg cs))\/(dc P t=false/\∃c,cs=[c]/\a=.t (.p c)))
theorem L9 {k:Nat}{t:TypeId}(ha:dc P t=false)(h:okTy P k t=true):P.underlying t=some .bool\/(∃kd,P.underlying t=some (.int kd))\/P.underlying t=some .string\/∃e,P.underlying t=some (.slice e):=by
 cases k with
 |zero=>cases h
 |succ k=>
  simp only[okTy]at h;unfold dc at ha;split at h
  ·rename_i hu;exact .inl hu
  ·rename_i kd hu;exact .inr (.inl ⟨kd,hu⟩)
  ·rename_i hu;exact .inr (.inr (.inl hu))
  ·rename_i e hu;exact .inr (.inr (.inr ⟨e,hu⟩))
  ·rename_i fs hu;rw[hu]at ha;cases ha
  ·rename_i n e hu;rw[hu]at ha;cases ha
  ·cases h
theorem P3 {r:Reach}{k:Nat}{t:TypeId}{v:Value}(ha:dc P t=false)(h:okTy P k t=true)(hv:Value.okWide P w r base t v):v.cells= #[v]:=by
 cases v with
 |agg cs=>
  exfalso;rcases L9 ha h with hu|⟨kd,hu⟩|hu|⟨e,hu⟩<;>simp[Value.okWide,Cell.okWide,Cell.ok,hu]at hv
 |_=>rfl
theorem args_in {r:Reach}{b0:Nat}(hO:∀b,¬O b):∀{ts:List TypeId} {vs:List Value} {ds:List (DataW H)} {ps:List MemPlace},ts.all (okTy P 12)=true->DataW.TrodAll enc P w base spare held ts vs ds ps->
  (∀(j:Nat) t v,ts[j]? =some t->vs[j]? =some v->Value.okWide P w r b0 t v)->∃af,All2 (VA ⟨w,λ_=>none,[],O,λ_ _=>False⟩) af vs/\All2 (WFA P) ts af
 |[],[],_,_,_,_,_=>⟨[],trivial,trivial⟩
 |[],_::_,_,_,_,h,_=>h.elim
 |_::_,[],_,_,_,h,_=>h.elim
 |_::_,_::_,[],_,_,h,_=>h.elim
 |t::ts,v::vs,d::ds,ps,hk,h,hv=>by
  simp only[jR,bO]at hk;obtain⟨p,q,⟨fuel,h1⟩,h2,_⟩:=h;obtain⟨af,h3,h4⟩:=args_in hO hk.2 h2 λj t' v' ht hv'=>hv (j+1) t' v' (by simpa using ht) (by simpa using hv');have az:=hv 0 t v rfl rfl;obtain⟨cs,h5,h6⟩:=XV (O:=λb=>O b) 12 t _ _ _ hk.1 hO h1;have hP:∀c u,VP w O c u->Ctx.P ⟨w,λ_=>none,[],O,λ_ _=>False⟩ c u:=λc u hc=>hc.sub λb _ hb=>by
   rcases hb with hb|⟨id,blk,_,hb⟩
   ·exact hb
   ·rcases hb with hb|hb<;>cases hb
  cases pq:dc P t with
  |true=>
   obtain⟨us,rfl⟩:∃us,v=.agg us:=by
    unfold Value.okWide at az;unfold dc at pq;split at az
    ·obtain⟨us,rfl,_⟩:=az;exact⟨us,rfl⟩
    ·obtain⟨us,rfl,_⟩:=az;exact⟨us,rfl⟩
    ·exfalso;rename_i hn1 hn2;split at pq
     ·rename_i he;exact hn1 _ he
     ·rename_i he;exact hn2 _ _ he
     ·cases pq
   exact⟨.t (.agg cs)::af,⟨⟨us,rfl,h5.mono hP⟩,h3⟩,⟨cs,h6,.inl ⟨pq,rfl⟩⟩,h4⟩
  |false=>
   have hc:=P3 pq hk.1 az;rw[hc]at h5;cases cs with
   |nil=>exact h5.elim
   |cons c cs=>
    have:cs=[]:=by cases cs with|nil=>rfl|cons=>exact h5.2.elim
    subst this;exact⟨.t (.p c)::af,⟨hP _ _ h5.1,h3⟩,⟨[c],h6,.inr ⟨pq,c,rfl,rfl⟩⟩,h4⟩
end
theorem args_stay {H:Type}{enc:TypeId×Value->H}{P:Program}(hl:laidOutB P=true){W W':World}(hb:Below W.heap.size W W'):∀{ts:List TypeId} {vs:List Value} {ds:List (DataW H)} {ps:List MemPlace},
  ts.all (λt=>P.readableRec t&&decide (t<P.types.size))=true->DataW.TrodAll enc P W 0 (λ_=>true) true ts vs ds ps->DataW.TrodAll enc P W' 0 (λb=>decide (b<W.heap.size)) true ts vs ds ps
 |[],[],[],_,_,h=>h
 |[],[],_::_,_,_,h=>h.elim
 |[],_::_,_,_,_,h=>h.elim
 |_::_,[],_,_,_,h=>h.elim
 |_::_,_::_,[],_,_,h=>h.elim
 |t::ts,v::vs,d::ds,ps,hk,h=>by
  simp only[jR,bO,lR]at hk;obtain⟨p,q,h1,h2,rfl⟩:=h;have Lg:=h1;obtain⟨fuel,hf⟩:=Lg;exact⟨p,q,Below.trod hl hk.1.1 hk.1.2 h1 hb (DataW.trod_lt fuel _ _ _ hf),args_stay hl hb hk.2 h2,rfl⟩
theorem law_calls {E:Env}(hP:yx E)(hE:okFns E=true)(hm:E.P.follows .mixedOrders=true){f:Nat}(hf:bH f E.v_=true){af:List AV}{us:Array Value}{W:World}(hg:nG<=W.heap.size/\acX (VW W))(hv:All2 (VA ⟨W,λ_=>none,[],λ_=>False,λ_ _=>False⟩) af us.toList)
  (h:denC E f af []=some ([.p (.bool true)],[])):Calls E.P f us W λe W'=>e=.returned (.bool true)/\Below W.heap.size W W':=by
 have az:Ok ⟨W,λ_=>none,[],λ_=>False,λ_ _=>False⟩:=⟨⟨(λb hb=>⟨jK hb hg.1,λ⟨id,blk,hl,_⟩=>by simp[live,nth]at hl⟩),hg.2⟩,(λid b hb=>by simp[live,nth]at hb),(λid cT n b b' h _=>by simp[live,nth]at h),(λ_ _ _ _ h=>h.elim),(λn hn=>hn.elim)⟩
 refine((MY hP hE hm).fn f af [] [.p (.bool true)] [] h hf ⟨W,λ_=>none,[],λ_=>False,λ_ _=>False⟩ az rfl us hv).mono λe W' he=> ?_;cases e with
 |returned u=>
  obtain⟨D,rfl,hx,_,_,_,hu⟩:=he;have:u=.bool true:=by cases(show D.P (.bool true) u from hu);rfl
  refine⟨by rw[this],hx.os,hx.tape,hx.out,hx.size,λb hb=>hx.keep b hb λ⟨id,blk,hl,_⟩=> ?_⟩;simp[live,nth]at hl
 |panicked _=>exact he.elim
 |outgrown=>exact he.elim
theorem trod_len {H:Type}{enc:TypeId×Value->H}{P:Program}{w:World}{base:Nat}{spare:Nat->Bool}{held:Bool}:∀{ts:List TypeId} {vs:List Value} {ds:List (DataW H)} {ps:List MemPlace},DataW.TrodAll enc P w base spare held ts vs ds ps->ds.length=ts.length
 |[],[],[],_,_=>rfl
 |[],[],_::_,_,h=>h.elim
 |[],_::_,_,_,h=>h.elim
 |_::_,[],_,_,h=>h.elim
 |_::_,_::_,[],_,h=>h.elim
 |t::ts,v::vs,d::ds,ps,h=>by
  obtain⟨p,q,_,h2,_⟩:=h;simp[trod_len h2]
theorem list_cons {α:Type}{l:List α}{n:Nat}(h:l.length=n+1):∃a t,l=a::t/\t.length=n:=by
 cases l with
 |nil=>simp at h
 |cons a t=>exact⟨a,t,rfl,by simpa using h⟩
theorem list_nil {α:Type}{l:List α}(h:l.length=0):l=[]:=qw.1 h
theorem all2_cons {α β:Type}{R:α->β->Prop}{a:α}{l:List α}{m:List β}(h:All2 R (a::l) m):∃b t,m=b::t/\R a b/\All2 R l t:=by
 cases m with
 |nil=>exact h.elim
 |cons b t=>exact⟨b,t,rfl,h.1,h.2⟩
theorem all2_nil {α β:Type}{R:α->β->Prop}{m:List β}(h:All2 R ([]:List α) m):m=[]:=by
 cases m with
 |nil=>rfl
 |cons=>exact h.elim
section
variable {P:Program} {t:TypeId} {k:Nat} {cs:List PV} {a:AV}
theorem XN {kd:IntKind}(hu:P.underlying t=some (.int kd))(h:Il P (k+1) t cs):∃n,cs=[.int kd n]/\(Lit.int kd n).wf=true:=by
 simp only[Il,hu]at h;exact h
theorem adn {e:TypeId}(hu:P.underlying t=some (.slice e))(h:Il P (k+1) t cs):∃es,cs=[.sl (P.cellsOf e) es]/\es.length<=maxLen/\∀x∈es,Il P k e x:=by
 simp only[Il,hu]at h;exact h
theorem XO (pq:dc P t=false)(h:WFA P t a):∃c,Il P 12 t [c]/\a=.t (.p c):=by
 obtain⟨cs,h1,h2⟩:=h;rcases h2 with⟨h2,_⟩|⟨_,c,rfl,rfl⟩
 ·rw[pq]at h2;cases h2
 ·exact⟨c,h1,rfl⟩
theorem ado {e:TypeId}(hu:P.underlying t=some (.slice e))(h:WFA P t a):∃es,a=.sl (P.cellsOf e) es/\es.length<=maxLen/\∀x∈es,Il P 11 e x:=by
 obtain⟨c,h1,rfl⟩:=XO (by simp only[dc,hu]) h;obtain⟨n,h2,h3⟩:=adn hu h1;cases h2;exact⟨n,rfl,h3⟩
end
def kv (k:IntKind)(l:List Int):List (List PV):=l.map λn=>[PV.int k n]
theorem Oy {k:IntKind}{Q:Int->Prop}:∀{es:List (List PV)},(∀x∈es,∃n,x=[PV.int k n]/\Q n)->∃l,es=kv k l/\∀n∈l,Q n
 |[],_=>⟨[],rfl,λn hn=>by cases hn⟩
 |x::es,h=>by
  obtain⟨l,rfl,h2⟩:=Oy (es:=es) λy hy=>h y (by simp[hy]);obtain⟨n,rfl,h3⟩:=h x (by simp);exact⟨n::l,rfl,λm hm=>by
   rcases gI.1 hm with rfl|hm
   ·exact h3
   ·exact h2 m hm⟩
theorem wf_i64 {n:Int}(h:(Lit.int .i64 n).wf=true):-9223372036854775808<=n/\n<=9223372036854775807:=by
 simp only[Lit.wf,bO,lR]at h;exact h
theorem wfa_ints {P:Program}{t e:TypeId}{kd:IntKind}{a:AV}(hu:P.underlying t=some (.slice e))(he:P.underlying e=some (.int kd))(h:WFA P t a):
  ∃l,a=.sl (P.cellsOf e) (kv kd l)/\l.length<=maxLen/\∀n∈l,(Lit.int kd n).wf=true:=by
 obtain⟨es,rfl,h2,h3⟩:=ado hu h;obtain⟨l,rfl,h4⟩:=Oy λx hx=>XN he (h3 x hx);exact⟨l,rfl,by simpa[kv]using h2,h4⟩
end
section
theorem OY (b x:Bool):ctl b (some x) (some false)=some (b&&x):=by cases b<;>rfl
theorem OX (b x:Bool):ctl (!b) (some x) (some true)=some (b||x):=by cases b<;>rfl
theorem OW (b x:Bool):ctl b (some true) (some x)=some (b||x):=by cases b<;>rfl
theorem ah {α:Type}{p:Prop}{i:Decidable p}(x y:Option α):ctl (decide p) x y=if p then x else y:=by
 by_cases h:p<;>simp[h,ctl]
theorem s7 (k:IntKind):lT k k=true:=by cases k<;>rfl
theorem ck {n:Int}(h:-9223372036854775808<=n/\n<=9223372036854775807):IntKind.i64.wrap n=n:=IntWalk.i64_in n h
theorem Rx (v:PV):(RV.p v).dC=v:=rfl
theorem Rz (v:List PV):(RV.agg v).gl=v:=rfl
theorem NB (v:List PV):(RV.kI v).gl=v:=rfl
theorem Ry (sz:Nat)(v:List (List PV)):(RV.own sz v).di=v:=rfl
theorem abe (sz:Nat)(v:List (List PV)):(au.arr sz v).di=v:=rfl
theorem abf (v:List AV):(au.box v).gl=v:=rfl
theorem abg (v:PV):AV.dC (.t (.p v))=v:=rfl
theorem abh (v:List PV):AV.gl (.t (.agg v))=v:=rfl
theorem abc (k:IntKind)(n:Int):(PV.int k n).toInt=n:=rfl
theorem RD (b:Bool):(PV.bool b).toBool=b:=rfl
theorem abb (s:List UInt8):(PV.str s).toStr=s:=rfl
theorem af2 (sz:Nat)(v:List (List PV)):(PV.sl sz v).di=v:=rfl
theorem abd:PV.bN.di=[]:=rfl
section
variable {α:Type} (d x0 x1 x2 x3 x4 x5 x6 x7 x8 x9:α) (l:List α)
theorem acn:nth d (x0::l) 0=x0:=rfl
theorem acm:nth d (x0::x1::l) 1=x1:=rfl
theorem ack:nth d (x0::x1::x2::l) 2=x2:=rfl
theorem acj:nth d (x0::x1::x2::x3::l) 3=x3:=rfl
theorem aci:nth d (x0::x1::x2::x3::x4::l) 4=x4:=rfl
theorem ach:nth d (x0::x1::x2::x3::x4::x5::l) 5=x5:=rfl
theorem acg:nth d (x0::x1::x2::x3::x4::x5::x6::l) 6=x6:=rfl
theorem acf:nth d (x0::x1::x2::x3::x4::x5::x6::x7::l) 7=x7:=rfl
theorem ace:nth d (x0::x1::x2::x3::x4::x5::x6::x7::x8::l) 8=x8:=rfl
theorem acd:nth d (x0::x1::x2::x3::x4::x5::x6::x7::x8::x9::l) 9=x9:=rfl
end
theorem aa_:cC [] []=true:=rfl
theorem aa' (k:IntKind)(n:Int)(l:List uI)(r:List RV):cC (.one (.int k)::l) (.p (.int k n)::r)=cC l r:=by simp[cC,xp,s7]
theorem Rs (b:Bool)(l:List uI)(r:List RV):cC (.one .bool::l) (.p (.bool b)::r)=cC l r:=rfl
theorem aa8 (b:List UInt8)(l:List uI)(r:List RV):cC (.one .str::l) (.p (.str b)::r)=cC l r:=rfl
theorem af1 (sz:Nat)(b:List (List PV))(l:List uI)(r:List RV):cC (.one (.sl sz)::l) (.p (.sl sz b)::r)=cC l r:=by simp[cC,xp]
theorem Rq (sz:Nat)(l:List uI)(r:List RV):cC (.one (.sl sz)::l) (.p .bN::r)=cC l r:=rfl
theorem aba (ss:List Sh)(cs:List PV)(l:List uI)(r:List RV):cC (.agg ss::l) (.agg cs::r)=(bL ss cs&&cC l r):=rfl
theorem Ro (ss:List Sh)(cs:List PV)(l:List uI)(r:List RV):cC (.kI ss::l) (.kI cs::r)=(bL ss cs&&cC l r):=rfl
theorem aa9 (sz:Nat)(b:List (List PV))(l:List uI)(r:List RV):cC (.own sz::l) (.own sz b::r)=cC l r:=by simp[cC]
theorem aa6:bL [] []=true:=rfl
theorem aa7 (k:IntKind)(n:Int)(l:List Sh)(r:List PV):bL (.int k::l) (.int k n::r)=bL l r:=by simp[bL,xp,s7]
theorem Rn (b:Bool)(l:List Sh)(r:List PV):bL (.bool::l) (.bool b::r)=bL l r:=rfl
theorem aa5 (b:List UInt8)(l:List Sh)(r:List PV):bL (.str::l) (.str b::r)=bL l r:=rfl
theorem af0 (sz:Nat)(b:List (List PV))(l:List Sh)(r:List PV):bL (.sl sz::l) (.sl sz b::r)=bL l r:=by simp[bL,xp]
theorem Rm (sz:Nat)(l:List Sh)(r:List PV):bL (.sl sz::l) (.bN::r)=bL l r:=rfl
theorem ada:okB [] []=true:=rfl
theorem ade (sz:Nat)(b:List (List PV))(l:List (List wH⊕Nat))(r:List au):okB (.inr sz::l) (.arr sz b::r)=okB l r:=by simp[okB]
theorem adb (ss:List wH)(cs:List AV)(l:List (List wH⊕Nat))(r:List au):okB (.inl ss::l) (.box cs::r)=(aW ss cs&&okB l r):=rfl
theorem acT:aW [] []=true:=rfl
theorem h_p (s:Sh)(v:PV)(l:List wH)(r:List AV):aW (.inl s::l) (.t (.p v)::r)=(xp s v&&aW l r):=rfl
theorem acU (j:Nat)(l:List wH)(r:List AV):aW (.inr (.t (.ak j))::l) (.t (.ak j)::r)=aW l r:=by simp[aW,aD,bb]
theorem acS (j o:Nat)(l:List wH)(r:List AV):aW (.inr (.t (.ptr j o))::l) (.t (.ptr j o)::r)=aW l r:=by simp[aW,aD,bb]
theorem Rt (ss:List Im)(cs:List RC)(l:List uI)(r:List RV):cC (.bm ss::l) (.bm cs::r)=(rU ss cs&&cC l r):=rfl
theorem Rp (ss:List Im)(cs:List RC)(l:List uI)(r:List RV):cC (.nU ss::l) (.nU cs::r)=(rU ss cs&&cC l r):=rfl
theorem ac6:rU [] []=true:=rfl
theorem aic (s:Sh)(v:PV)(l:List Im)(r:List RC):rU (.pl s::l) (.p v::r)=(xp s v&&rU l r):=rfl
theorem aid (sz:Nat)(es:List (List PV))(l:List Im)(r:List RC):rU (.ow sz::l) (.own sz es::r)=rU l r:=by simp[rU]
theorem Rv (v:List RC):(RV.bm v).sw=v:=rfl
theorem NA (v:List RC):(RV.nU v).sw=v:=rfl
theorem RA (v:PV):(RC.p v).dC=v:=rfl
theorem RB (sz:Nat)(v:List (List PV)):(RC.own sz v).di=v:=rfl
theorem ab5 (v:PV):isP (.t (.p v))=true:=rfl
theorem Tt (v:List PV):agU (.t (.agg v))=true:=rfl
theorem N9 (v:List AV):acr (.box v)=true:=rfl
theorem N_ (sz:Nat)(v:List (List PV)):Ox sz (.arr sz v)=true:=by simp[Ox]
theorem Tu {sz:Nat}(h:Nat.blt sz 1000000=true)(v:List (List PV)):nw sz (.arr sz v)=true:=by
 unfold nw;rw[h];simp[Ox]
theorem ab' (v:List (List PV)):nw 1 (.arr 1 v)=true:=Tu rfl v
theorem ab_ (v:List (List PV)):nw 2 (.arr 2 v)=true:=Tu rfl v
theorem ab9 (v:List (List PV)):nw 3 (.arr 3 v)=true:=Tu rfl v
theorem ab8 (v:List (List PV)):nw 4 (.arr 4 v)=true:=Tu rfl v
theorem ab7 (v:List (List PV)):nw 5 (.arr 5 v)=true:=Tu rfl v
theorem ab6 (k:IntKind)(n:Int):xp (.int k) (.int k n)=true:=by simp[xp,s7]
theorem Tv (b:Bool):xp .bool (.bool b)=true:=rfl
theorem ab4 (b:List UInt8):xp .str (.str b)=true:=rfl
theorem agF (sz:Nat)(v:List (List PV)):xp (.sl sz) (.sl sz v)=true:=by simp[xp]
theorem Ts (sz:Nat):xp (.sl sz) .bN=true:=rfl
theorem We (i:Nat):(Ex.exit i).iI (Ex.exit i)=true:=by simp[Ex.iI]
theorem ac1:Ex.ret.iI Ex.ret=true:=rfl
theorem ac2:Ex.eF.iI Ex.eF=true:=rfl
theorem DW (i:Nat):Ex.ret.iI (Ex.exit i)=false:=rfl
theorem DY (i:Nat):(Ex.exit i).iI Ex.ret=false:=rfl
theorem DX (i:Nat):Ex.eF.iI (Ex.exit i)=false:=rfl
theorem Gh:Ex.eF.iI Ex.ret=false:=rfl
theorem DZ (i:Nat):(Ex.exit i).iI Ex.eF=false:=rfl
theorem Gg:Ex.ret.iI Ex.eF=false:=rfl
theorem QE {n d:Int}(hd:0<d):(if n.tmod d<0 then n.tdiv d-1 else n.tdiv d)=n/d:=by
 have h1:=Int.mul_tdiv_add_tmod n d;have h2:=Int.mul_ediv_add_emod n d;have h3:=Int.emod_nonneg n (Int.ne_of_gt hd);have h4:=Int.emod_lt_of_pos n hd;have h5:=Int.tmod_lt_of_pos n hd;have h6:-d<n.tmod d:=Int.lt_tmod_of_pos n hd;have key:∀q r q' r':Int,d*q+r=n->d*q'+r'=n->0<=r->r<d->0<=r'->r'<d->q=q':=by
  intro q r q' r' e e' a b a' b';have:d*(q-q')=r'-r:=by rw[Int.mul_sub];omega
  rcases Int.lt_trichotomy q q' with h|h|h
  ·have:d*(q-q')<=d*(-1):=Int.mul_le_mul_of_nonneg_left (by omega) (by omega);omega
  ·exact h
  ·have:d*1<=d*(q-q'):=Int.mul_le_mul_of_nonneg_left (by omega) (by omega);omega
 split
 ·exact key _ (n.tmod d+d) _ (n %d) (by rw[Int.mul_sub];omega) h2 (by omega) (by omega) h3 h4
 ·exact key _ (n.tmod d) _ (n %d) h1 h2 (by omega) h5 h3 h4
theorem II {a d:Int}(hd:0<d):(if a.tmod d<0 then a.tmod d+d else a.tmod d)=a %d:=by
 have h1:=Int.mul_tdiv_add_tmod a d;have h2:=Int.mul_ediv_add_emod a d;have h3:=QE (n:=a) hd;split at h3
 ·rename_i h;rw[aK h];have:d*(a.tdiv d-1)=d*(a/d):=by rw[h3]
  rw[Int.mul_sub]at this;omega
 ·rename_i h;rw[aC h];have:d*a.tdiv d=d*(a/d):=by rw[h3]
  omega
theorem Aa {a d:Int}(hd:0<d):-d<a.tmod d/\a.tmod d<d:=⟨Int.lt_tmod_of_pos a hd,Int.tmod_lt_of_pos a hd⟩
theorem AI {a b:Prop}(x:a)(y:b):a/\b:=⟨x,y⟩
theorem SB:type_of% (AI @nJ<|AI @ay<|AI @aF<|AI @OY<|AI @OW<|AI @Rx<|AI @Rz<|AI @NB<|AI @Ry<|AI @abe<|AI @abf<|AI @abg<|AI @abh<|AI @abc<|AI @RD<|AI @abb<|AI @af2<|AI @abd<|AI @acn<|AI @acm<|AI @ack<|AI @acj<|AI @aci<|AI @ach<|AI @acg<|AI @acf<|AI @ace<|AI @acd<|AI @aa_<|AI @aa'<|AI @Rs<|AI @aa8<|AI @af1<|AI @Rq<|AI @aba<|AI @Ro<|AI @aa9<|AI @aa6<|AI @aa7<|AI @Rn<|AI @aa5<|AI @af0<|AI @Rm<|AI @ada<|AI @ade<|AI @qx.{0,0}<|AI @List.map_nil.{0,0}<|AI @GZ<|AI @Je<|AI @xc<|AI @Aq<|AI @FM<|AI @Jd<|AI @vR<|AI @ab5<|AI @Tt<|AI @N9<|AI @N_<|AI @ab6<|AI @Tv<|AI @ab4<|AI @agF<|AI @Ts<|AI @We<|AI @ac1<|AI @ac2<|AI @DW<|AI @DY<|AI @DX<|AI @Gh<|AI @DZ<|AI @Gg<|AI @dy<|AI @jR.{0}<|AI @List.all_nil.{0}<|AI @adb<|AI @acT<|AI @h_p<|AI @acU<|AI @acS<|AI @Rt<|AI @Rp<|AI @ac6<|AI @aic<|AI @aid<|AI @Rv<|AI @NA<|AI @RA<|AI @RB<|AI @OX<|AI @cond_true.{1}<|AI @cond_false.{1}<|AI @ab'<|AI @ab_<|AI @ab9<|AI @ab8<|AI @ab7<|AI @ni.eq_1<|AI @nh.eq_1<|AI @nh.eq_2<|AI @nh.eq_3<|AI @nh.eq_4<|AI @dI.eq_1<|AI @dI.eq_2<|AI @dI.eq_3<|AI @dH.eq_1<|AI @dH.eq_2<|AI @dH.eq_3<|AI @bM.eq_1<|AI @bM.eq_2<|AI @bM.eq_3<|AI @bM.eq_4<|AI @bM.eq_5<|AI @bM.eq_6<|AI @bM.eq_7<|AI @fA.eq_1<|AI @fA.eq_2<|AI @cr.eq_1<|AI @cr.eq_2<|AI @cr.eq_3<|AI @cr.eq_4<|AI @om.eq_1<|AI @om.eq_2<|AI @om.eq_3<|AI @om.eq_4<| @om.eq_5):=⟨@nJ,@ay,@aF,@OY,@OW,@Rx,@Rz,@NB,@Ry,@abe,@abf,@abg,@abh,@abc,@RD,@abb,@af2,@abd,@acn,@acm,@ack,@acj,@aci,@ach,@acg,@acf,@ace,@acd,@aa_,@aa',@Rs,@aa8,@af1,@Rq,@aba,@Ro,@aa9,@aa6,@aa7,@Rn,@aa5,@af0,@Rm,@ada,@ade,@qx.{0,0},@List.map_nil.{0,0},@GZ,@Je,@xc,@Aq,@FM,@Jd,@vR,@ab5,@Tt,@N9,@N_,@ab6,@Tv,@ab4,@agF,@Ts,@We,@ac1,@ac2,@DW,@DY,@DX,@Gh,@DZ,@Gg,@dy,@jR.{0},@List.all_nil.{0},@adb,@acT,@h_p,@acU,@acS,@Rt,@Rp,@ac6,@aic,@aid,@Rv,@NA,@RA,@RB,@OX,@cond_true.{1},@cond_false.{1},@ab',@ab_,@ab9,@ab8,@ab7,@ni.eq_1,@nh.eq_1,@nh.eq_2,@nh.eq_3,@nh.eq_4,@dI.eq_1,@dI.eq_2,@dI.eq_3,@dH.eq_1,@dH.eq_2,@dH.eq_3,@bM.eq_1,@bM.eq_2,@bM.eq_3,@bM.eq_4,@bM.eq_5,@bM.eq_6,@bM.eq_7,@fA.eq_1,@fA.eq_2,@cr.eq_1,@cr.eq_2,@cr.eq_3,@cr.eq_4,@om.eq_1,@om.eq_2,@om.eq_3,@om.eq_4,@om.eq_5⟩
end
section
open Go.RowKit
theorem pZ (C:Ctx){w:World}(hg:Grow C.w w):Ext C (C.ke w) where
 tape:=hg.tape
 os:=hg.os
 out:=hg.out
 size:=hg.size
 X:=rfl
 keep b hb _:=hg.keep b hb
 own _ _ h:=h
 qd id h:=⟨h,λb hb=>⟨b,hb,rfl,dx _⟩⟩
 row b carr e fr _ h:=⟨carr,fr,by show w.heap[b]? =_;rw[hg.keep b (c_.1 h).1];exact h,rfl⟩
theorem BG {C:Ctx}(az:Ok C){w:World}(hg:Grow C.w w):Ok (C.ke w):=
 az.step (pZ C hg) (λid b hl=>.inr ⟨hl,rfl,λ_=>CA,λn hn=>hg.keep n (az.Q7 hl hn)⟩) (λid cT n b b'=>az.inj id cT n b b') (λid b n h1 h2=>.inl ⟨b,h1,h2⟩)
theorem Grow.nk {w w':World}(h:Below w.heap.size w w'):Grow w w':=⟨h.tape,h.os,h.output,h.size,λb hb=>h.block b hb⟩
theorem YI {E:Env}{f:Nat}{args:List AV}{rs:List RV}(hr:ee 0 rs=[])
  (h:∀C:Ctx,Ok C->∀us:Array Value,All2 (VA C) args us.toList->Calls E.P f us C.w λe w'=>∃u,e=.returned u/\Grow C.w w'/\VA (C.ke w') (valOf (kD 0 rs)) u):K7 E f args [] rs []:=by
 intro C az hC us hv;refine(h C az us hv).mono λe w' ⟨u,he,hg,hu⟩=> ?_;subst he;exact⟨C.ke w',rfl,(pZ C hg).m _,BG az hg,by simp only[iD,hr];exact hC,rfl,hu⟩
theorem T7 {C:Ctx}(az:Ok C)(w:World):¬(C.ke w).O C.w.heap.size:=by
 rintro(h|⟨id,b,hl,hi⟩)
 ·have:=(az.x _ h).1;omega
 ·have:=az.Q7 hl hi;omega
theorem air {us:Array Value}{a:Value}(h:us.toList=[a]):us= #[a]:=by rw[<-Cq (xs:=us),h]
theorem amx {us:Array Value}{a b:Value}(h:us.toList=[a,b]):us= #[a,b]:=by rw[<-Cq (xs:=us),h]
theorem Lm {C:Ctx}{k:IntKind}{n:Int}{u:Value}(h:VA C (.t (.p (.int k n))) u):u=.int k n:=by cases h;rfl
theorem Oh {C:Ctx}{a:AV}{us:Array Value}(h:All2 (VA C) [a] us.toList):∃u,us= #[u]/\VA C a u:=by
 cases hl:us.toList with
 |nil=>rw[hl]at h;exact h.elim
 |cons x l=>cases l with
  |nil=>rw[hl]at h;exact⟨x,air hl,h.1⟩
  |cons=>rw[hl]at h;exact h.2.elim
theorem su {C:Ctx}{a b:AV}{us:Array Value}(h:All2 (VA C) [a,b] us.toList):∃u v,us= #[u,v]/\VA C a u/\VA C b v:=by
 cases hl:us.toList with
 |nil=>rw[hl]at h;exact h.elim
 |cons x l=>cases l with
  |nil=>rw[hl]at h;exact h.2.elim
  |cons y l=>cases l with
   |nil=>rw[hl]at h;exact⟨x,y,amx hl,h.1,h.2.1⟩
   |cons=>rw[hl]at h;exact h.2.2.elim
theorem K7.at {E:Env}{f:Nat}{args:List AV}{rs:List RV}(h:K7 E f args [] rs []){C:Ctx}(az:Ok C)(hC:C.h=[]){W:World}(hg:Grow C.w W){us:Array Value}(hv:All2 (VA C) args us.toList):
  Calls E.P f us W λe w'=>∃u,e=.returned u/\∃D:Ctx,D.w=w'/\Ext (C.ke W) D/\Ok D/\D.h=(ee 0 rs).map bw.blk/\VA D (valOf (kD 0 rs)) u:=by
 have h1:=h (C.ke W) (BG az hg) hC us (hv.mono λa b hab=>(pZ C hg).va hab);refine h1.mono λe w' h=> ?_;cases e with
 |returned u=>
  obtain⟨D,e1,e2,e3,e4,_,e5⟩:=h;exact⟨u,rfl,D,e1,e2.full (by show C.h.length<=_;rw[hC];exact rz _),e3,e4,e5⟩
 |_=>exact h.elim
theorem zS {C D:Ctx}(h:Ext C D)(hC:C.h=[]){B:Nat}(hB:B<=C.w.heap.size):Below B C.w D.w where
 os:=h.os
 tape:=h.tape
 output:=h.out
 size:=h.size
 block k hk:=h.keep k (by omega) (by rintro⟨id,b,hl,_⟩;unfold live at hl;rw[hC]at hl;cases hl)
theorem Grow.trans {a b c:World}(h:Grow a b)(k:Grow b c):Grow a c:=⟨k.tape.trans h.tape,k.os.trans h.os,k.out.trans h.out,jS h.size k.size,λi hi=>(k.keep i (by have:=h.size;omega)).trans (h.keep i hi)⟩
end
inductive Ask where
 |ret (r:Option (List RV))
 |ask (f:Nat) (a:List AV) (k:gv->Ask)
def Ask.run (F:d_):Ask->Option (List RV)
 | .ret r=>r
 | .ask f a k=>match F f a []with|some r=>(k r).run F|none=>none
theorem Ask.mono {F G:d_}(h:∀f a h r,F f a h=some r->G f a h=some r):∀(t:Ask) (r:List RV),t.run F=some r->t.run G=some r
 | .ret _,_,hr=>hr
 | .ask f a k,r,hr=>by
  simp only[Ask.run]at hr|-;split at hr
  ·rename_i x hx;rw[h _ _ _ _ hx];exact Ask.mono h (k x) r hr
  ·cases hr
def vI.of (t:List AV->Ask):vI:=⟨λF a=>(t a).run F,λ_ _ h a r hr=>Ask.mono h (t a) r hr⟩
def Ask.none:Ask:=.ret Option.none
def Ask.int (f:Nat)(a:List AV)(k:Int->Ask):Ask:=.ask f a λr=>match r with|([.p (.int .i64 n)],[])=>k n|_=>.none
def Ask.u64 (f:Nat)(a:List AV)(k:Int->Ask):Ask:=.ask f a λr=>match r with|([.p (.int .u64 n)],[])=>k n|_=>.none
def Ask.bool (f:Nat)(a:List AV)(k:Bool->Ask):Ask:=.ask f a λr=>match r with|([.p (.bool n)],[])=>k n|_=>.none
def Ask.str (f:Nat)(a:List AV)(k:List UInt8->Ask):Ask:=.ask f a λr=>match r with|([.p (.str n)],[])=>k n|_=>.none
def Ask.sl (sz:Nat)(f:Nat)(a:List AV)(k:List (List PV)->Ask):Ask:=.ask f a λr=>match r with|([.p (.sl nN n)],[])=>cond (Nat.beq sz nN) (k n) .none|_=>.none
def Hj:PV->Bool
 | .int _ _=>true
 |_=>false
def Yq (sz:Nat):List AV->Option (List (List PV))
 |[.t (.p (.sl s [e])),.t (.p (.int .i64 n))]=>if s=sz/\e.length=sz/\e.all Hj=true/\0<=n/\n<=1000 then some (List.replicate n.toNat e) else none
 |_=>none
def CU (sz:Nat)(af:List AV):Option (List RV):=match Yq sz af with|some es=>some [.own sz es]|none=>none
def BD:List AV->Option (List RV):=CU 4
def qB:List AV->Option (List RV):=CU 3
def tY:List AV->Option (List RV):=CU 2
def wz:List PV->Bool
 |[.int .i64 _]=>true
 |_=>false
def D2 (ps:List PV)(es:List (List PV)):Bool:=
 match ps with
 |[_,_,.sl 1 cs]=>cs.all wz&&(es.all wz&&(Nat.ble cs.length 1000000&&Nat.ble es.length 1000000))
 |_=>false
def D3 (ps:List PV)(es:List (List PV)):List (List PV):=
 match ps with
 |[_,_,.sl 1 cs]=>es.filter λe=>cs.any λc=>(nth .bN c 0).toInt==(nth .bN e 0).toInt
 |_=>es
def afk:List PV->Option (Int×Int×Int)
 |[.int .i64 k,.int .i64 a,.int .i64 b]=>some (k,a,b)
 |_=>none
def A8:List (List PV)->Option (List (Int×Int×Int))
 |[]=>some []
 |e::l=>match afk e,A8 l with|some x,some r=>some (x::r)|_,_=>none
def brkStep (n:Int)(st:List Int×List (List Int))(x:Int×Int×Int):Option (List Int×List (List Int)):=
 if 0<=x.2.1/\x.2.1<=n-1 then
  if x.1=1 then(if x.2.1+1<=x.2.2/\x.2.2<=n-1 then some st else none)
  else if x.1=2 then(if 0<=x.2.2/\x.2.2.toNat<st.1.length/\st.1.getD x.2.2.toNat 1=0 then some (st.1.set x.2.2.toNat 1,st.2) else none)
  else if x.1=3 then(if 0<=x.2.2/\x.2.2.toNat<st.2.length/\¬x.2.1∈st.2.getD x.2.2.toNat [] then some (st.1,st.2.set x.2.2.toNat (st.2.getD x.2.2.toNat []++[x.2.1])) else none)
  else none
 else none
def brkGo (n:Int):List (Int×Int×Int)->List Int×List (List Int)->Option (List Int×List (List Int))
 |[],st=>some st
 |x::l,st=>match brkStep n st x with|some bD=>brkGo n l bD|none=>none
def KO (n:Int)(bs:List (Int×Int×Int))(ss cs:Nat):Bool:=
 match brkGo n bs (List.replicate ss 0,List.replicate cs [])with
 |some (s,c)=>s.all (· !=0)&&c.all (λl=> !l.isEmpty)
 |none=>false
def L5:List AV->Option (List RV)
 |[.t (.agg [.int .i64 n,.sl 3 bs,.sl 3 ss,.sl 5 cs,_,_])]=>
  match A8 bs with
  |some l=>if 0<=n/\n<=1000/\bs.length<=1000/\ss.length<=1000/\cs.length<=1000/\KO n l ss.length cs.length=true then some [.p (.bool true)] else none
  |none=>none
 |_=>none
def gT (es:List (List PV)):List Int:=es.map λe=>(nth .bN e 0).toInt
def vB (l:List Int):List (List PV):=l.map λx=>[.int .i64 x]
def E8 (f:Nat)(b p:AV)(m:Nat):Nat->Nat->List (Int×Nat)->(List (Int×Nat)->Ask)->Ask
 |0,_,acc,K=>K acc
 |k+1,i,acc,K=>.ask f [b,p,.t (.p (.int .i64 (i:Int)))] λr=>match r with
  |([.p (.int .i64 Li),.p (.bool ok)],[])=>cond ok (cond (bJ 0 Li&&Nat.blt Li.toNat m) (E8 f b p m k (i+1) (acc++[((i:Int),Li.toNat)]) K) .none) (E8 f b p m k (i+1) acc K)
  |_=>.none
def Dl (first:List Int)(f:Nat):List Int:=((List.range first.length).filter λ(i:Nat)=>first.getD i (-1)==(f:Int)).map λ(i:Nat)=>(i:Int)
def islOf (first:List Int)(l:List (Int×Nat))(f:Nat):List Int:=(l.filter λx=>first.getD x.2 (-1)==(f:Int)).map (·.1)
def JQ (first:List Int)(aA cons:List (Int×Nat)):List (List PV):=
 ((List.range first.length).filter λf=> !(Dl first f).isEmpty).map λf=>[.sl 1 (vB (Dl first f)),.sl 1 (vB (islOf first aA f)),.sl 1 (vB (islOf first cons f))]
def Mt (st gr cn fd:Nat):List AV->Ask
 |[.t (.agg [.int .i64 n,.sl 3 bs,.sl 3 ss,.sl 5 cs,x,y]),.t (.agg [q0,q1,q2,q3])]=>
  .ask st [.t (.agg [.int .i64 n,.sl 3 bs,.sl 3 ss,.sl 5 cs,x,y]),.t (.agg [q0,q1,q2,q3])] λr=>match r with
   |([.p (.int .i64 e)],[])=>if e=0 then
     .ask gr [.t (.agg [.int .i64 n,.sl 3 bs,.sl 3 ss,.sl 5 cs,x,y]),.t (.agg [q0,q1,q2,q3])] λr=>match r with
      |([.p (.sl 1 es)],[])=>
       cond (es.all wz&&(bJ 0 n&&(Nat.beq es.length n.toNat&&(Nat.ble es.length 1000&&(Nat.ble ss.length 1000&&(Nat.ble cs.length 1000&&(gT es).all λf=>bJ 0 f&&Nat.blt f.toNat es.length))))))
        (E8 cn (.t (.agg [.int .i64 n,.sl 3 bs,.sl 3 ss,.sl 5 cs,x,y])) (.t (.agg [q0,q1,q2,q3])) es.length ss.length 0 [] λaA=>
         E8 fd (.t (.agg [.int .i64 n,.sl 3 bs,.sl 3 ss,.sl 5 cs,x,y])) (.t (.agg [q0,q1,q2,q3])) es.length cs.length 0 [] λcons=>
          .ret (some [.p (.sl 3 (JQ (gT es) aA cons))])) .none
      |_=>.none
    else .none
   |_=>.none
 |_=>.none
def Qw (st gr cn fd:Nat):vI:=.of (Mt st gr cn fd)
abbrev LB:=List ((List (Sh⊕AV))⊕Nat)
abbrev LS:=List (Nat×yw)
def sP (k i:Nat):Nat×yw:=(k,.inr (.inr (.t (.ptr i 0))))
def sH (k i:Nat):Nat×yw:=(k,.inr (.inr (.t (.ak i))))
def sI (k:Nat):Nat×yw:=(k,.inl (.int .i64))
def sS (k i:Nat):Nat×yw:=(k,.inl (.sl i))
def hI:Sh⊕AV:=.inl (.int .i64)
def hS (i:Nat):Sh⊕AV:=.inl (.sl i)
def hH (i:Nat):Sh⊕AV:=.inr (.t (.ak i))
def bB:=[hI,hS 3,hS 3,hS 5,hI,hI]
def bP:=[hS 1,hS 4,hS 1,hS 2]
def aea:a_:=⟨⟨[sP 4 0,sP 5 1,sP 6 2,sS 75 3,sI 76,sI 77],[.inl bB,.inl [hI,hI,hI],.inl ([hI]++bP++[hS 2,hS 5])]⟩,[(.exit 4,⟨[],[]⟩),(.ret,⟨[(2,.inl .bool)],[]⟩)]⟩
def aeb:a_:=let x:LB:=[.inl bB,.inl [hI,hI,hI],.inl ([hI]++bP++[hS 2,hS 5]),.inl ([hI]++bP++[hS 2,hS 5])];⟨⟨[sP 4 0,sP 5 1,sP 6 2,sI 7,sS 8 4,sP 10 3,sI 13],x⟩,[(.exit 2,⟨[sP 4 0,sP 5 1,sP 6 2,sI 7,sP 10 3],x⟩),(.ret,⟨[(2,.inl .bool)],[]⟩)]⟩
def aec:a_:=let x:LB:=[.inl bB,.inl [hI,hI,hI],.inl ([hI]++bP++[hS 2,hS 5])];⟨⟨[sP 4 0,sP 5 1,sP 6 2,sI 7],x⟩,[(.exit 0,⟨[sP 4 0,sP 5 1,sP 6 2],x⟩),(.ret,⟨[(2,.inl .bool)],[]⟩)]⟩
def ad_:a_:=let x:LB:=[.inl bB,.inl ([hI]++bP++[hS 2,hS 5])];⟨⟨[sP 4 0,sP 18 1,sS 121 1,sI 122,sI 123],x⟩,[(.exit 2,⟨[sP 4 0,sP 18 1],x⟩),(.ret,⟨[(2,.inl .bool)],[]⟩)]⟩
def ad':a_:=let x:LB:=[.inl bB,.inl [hI,hI,hI],.inl ([hI]++bP++[hS 2,hS 5])];⟨⟨[sP 4 0,sP 5 1,sP 6 2,sI 34,sI 35],x⟩,[(.exit 0,⟨[sP 4 0,sP 5 1,sP 6 2],x⟩),(.ret,⟨[(2,.inl .bool)],[]⟩)]⟩
def ad7:a_:=let x:LB:=[.inl [hS 1,hI],.inl bB,.inl [hI,hH 3,hH 4,hH 5,hI,hI],.inr 3,.inr 3,.inr 5];⟨⟨[sP 0 0,sP 2 1,sP 3 2,sI 7],x⟩,[(.exit 4,⟨[sP 2 1,sP 3 2],x⟩)]⟩
def ad8:a_:=let x:LB:=[.inl [hS 1,hI],.inl bB,.inl [hI,hH 3,hH 4,hH 5,hI,hI],.inr 3,.inr 3,.inr 5];⟨⟨[sP 0 0,sP 2 1,sP 3 2,sI 5],x⟩,[(.exit 2,⟨[sP 0 0,sP 2 1,sP 3 2],x⟩)]⟩
def ad9:a_:=let x:LB:=[.inl [hS 1,hI],.inl bB,.inl [hI,hH 3,hH 4,hH 5,hI,hI],.inr 3,.inr 3,.inr 5];⟨⟨[sP 0 0,sP 2 1,sP 3 2,sI 4],x⟩,[(.exit 0,⟨[sP 0 0,sP 2 1,sP 3 2],x⟩)]⟩
def ad6:a_:=⟨⟨[sP 0 0,sP 3 1,sP 4 2,sP 5 3,sI 6],[.inl [hS 1,hI],.inl bB,.inl ([hI]++bP++[hS 2,hS 5]),.inl ([hI]++bP++[hH 4,hS 5]),.inr 2]⟩,[(.exit 0,⟨[sP 4 1,sP 5 2],[.inl [hS 1,hI],.inl ([hI]++bP++[hS 2,hS 5]),.inl ([hI]++bP++[hH 3,hS 5]),.inr 2]⟩)]⟩
def ZM:a_:=let x:LB:=[.inl bB,.inl bP,.inl bP];⟨⟨[sP 3 0,sP 4 1,sP 5 2,sI 7,sI 21,sI 22,sI 25,sI 26],x⟩,[(.exit 2,⟨[sP 3 0,sP 4 1,sP 5 2,sI 21,sI 22],x⟩),(.ret,⟨[(6,.inl .bool)],[]⟩)]⟩
def ZN:a_:=⟨⟨[sP 3 0,sP 4 1,sP 5 2,sI 21,sI 22],[.inl bB,.inl bP,.inl bP]⟩,[(.exit 0,⟨[],[]⟩),(.ret,⟨[(6,.inl .bool)],[]⟩)]⟩
def ZK:a_:=let x:LB:=[.inl bB,.inl bP,.inl [hS 1,hS 1,hS 1]];⟨⟨[sP 3 0,sP 4 1,sP 8 2,sI 11,sS 23 1,sI 24,sI 25,sS 30 4,sI 31,sI 32],x⟩,[(.exit 2,⟨[sP 3 0,sP 4 1,sP 8 2,sS 23 1,sI 24,sI 25],x⟩),(.ret,⟨[sI 6,(7,.inl .bool)],[]⟩)]⟩
def ZL:a_:=⟨⟨[sP 3 0,sP 4 1,sP 8 2,sS 23 1,sI 24,sI 25],[.inl bB,.inl bP,.inl [hS 1,hS 1,hS 1]]⟩,[(.exit 0,⟨[],[]⟩),(.ret,⟨[sI 6,(7,.inl .bool)],[]⟩)]⟩
def ZJ:a_:=⟨⟨[sI 1,sI 2,sH 7 0,sS 14 3,sI 15,sI 16],[.inr 1]⟩,[(.exit 0,⟨[sH 7 0],[.inr 1]⟩)]⟩
def ZI:a_:=let x:LB:=[.inl (bB++[hH 1,hH 2,hH 3,hH 4,hS 1,hH 5]),.inr 1,.inr 4,.inr 1,.inr 2,.inr 3];⟨⟨[sP 9 0],x⟩,[(.exit 1,⟨[sP 9 0],x⟩)]⟩
def ZF:a_:=let x:LB:=[.inl bB,.inl bP,.inr 1];⟨⟨[sP 2 0,sP 3 1,sH 5 2,sI 39,sI 40,sS 43 3,sI 44,sI 45],x⟩,[(.exit 4,⟨[sP 2 0,sP 3 1,sH 5 2,sI 39,sI 40],x⟩)]⟩
def ZG:a_:=⟨⟨[sP 2 0,sP 3 1,sH 5 2,sI 39,sI 40],[.inl bB,.inl bP,.inr 1]⟩,[(.exit 2,⟨[sH 5 0],[.inr 1]⟩)]⟩
def ZH:a_:=let x:LB:=[.inl bB,.inl bP,.inr 1];⟨⟨[sP 2 0,sP 3 1,sH 5 2,sI 19,sI 20],x⟩,[(.exit 0,⟨[sP 2 0,sP 3 1,sH 5 2],x⟩)]⟩
def ZE:a_:=⟨⟨[sP 4 0,sP 5 1,sP 6 2,sP 8 3,sH 10 4,sS 20 3,sI 21,sI 22],[.inl bB,.inl [hI,hI,hI],.inl ([hI]++bP++[hS 2,hS 5]),.inl ([hI]++bP++[hS 2,hS 5]),.inr 3]⟩,[(.exit 0,⟨[sP 6 0,sP 8 1],[.inl ([hI]++bP++[hS 2,hS 5]),.inl ([hI]++bP++[hS 2,hS 5])]⟩),(.ret,⟨[sP 8 0,(9,.inl .bool)],[.inl ([hI]++bP++[hS 2,hS 5])]⟩)]⟩
def ZD:a_:=⟨⟨[sP 1 0,sI 3,sS 10 3,sI 11,sI 12],[.inl bB]⟩,[(.exit 0,⟨[sP 1 0,sI 3],[.inl bB]⟩)]⟩
def ZC:a_:=let x:LB:=[.inl bB,.inl bP];⟨⟨[sP 2 0,sP 3 1,sS 9 1,sI 10,sI 11],x⟩,[(.exit 0,⟨[sP 2 0,sP 3 1],x⟩),(.ret,⟨[(4,.inl .bool)],[]⟩)]⟩
def ZB:a_:=let x:LB:=[.inl bB,.inl [hI,hI,hI],.inl ([hI,hH 3,hH 4,hH 5,hH 6,hH 7,hH 8]++bB++[hH 9,hH 10]),.inr 1,.inr 4,.inr 1,.inr 2,.inr 2,.inr 5,.inr 5,.inr 4];⟨⟨[sP 4 0,sP 5 1,sP 11 2,sS 38 3,sI 39,sI 40],x⟩,[(.exit 1,⟨[sP 4 0,sP 5 1,sP 11 2],x⟩)]⟩
def ZA:a_:=⟨⟨[sP 2 0,sP 3 1,(6,.inl .bool),sS 50 1,sI 51,sI 52],[.inl bB,.inl bP]⟩,[(.exit 0,⟨[(6,.inl .bool)],[]⟩)]⟩
def Zx:a_:=let x:LB:=[.inl bB,.inl bP,.inr 1];⟨⟨[sP 2 0,sP 3 1,sH 5 2,sI 24,sI 25,sS 28 3,sI 29,sI 30],x⟩,[(.exit 4,⟨[sP 2 0,sP 3 1,sH 5 2,sI 24,sI 25],x⟩)]⟩
def Zy:a_:=⟨⟨[sP 2 0,sP 3 1,sH 5 2,sI 24,sI 25],[.inl bB,.inl bP,.inr 1]⟩,[(.exit 2,⟨[sH 5 0],[.inr 1]⟩)]⟩
def Zz:a_:=let x:LB:=[.inl bB,.inl bP,.inr 1];⟨⟨[sP 2 0,sP 3 1,sH 5 2,sI 14,sI 15],x⟩,[(.exit 0,⟨[sP 2 0,sP 3 1,sH 5 2],x⟩)]⟩
def Zw:a_:=⟨⟨[sP 4 0,sP 7 1,sI 9,sS 20 1,sI 21,sI 22],[.inl bP,.inl [hS 1,hS 1,hS 1]]⟩,[(.exit 0,⟨[sI 9],[]⟩)]⟩
def Zv:a_:=⟨⟨[sP 3 0,sI 9,sS 20 1,sI 21,sI 22],[.inl bB]⟩,[(.exit 0,⟨[sI 9],[]⟩)]⟩
def Zu:a_:=let x:LB:=[.inl [hS 1,hS 1,hS 1]];⟨⟨[sI 2,sP 6 0,sS 12 3,sI 13,sI 14],x⟩,[(.exit 0,⟨[sP 6 0],x⟩),(.ret,⟨[sP 6 0,(7,.inl .bool)],x⟩)]⟩
def Zt:a_:=let x:LB:=[.inl ([hI]++bP++[hS 2,hS 5]),.inl [hI,hS 1,hS 4,hH 2,hS 2,hS 2,hS 5],.inr 1];⟨⟨[sP 4 0,sP 7 1,sS 41 5,sI 42,sI 43],x⟩,[(.exit 1,⟨[sP 4 0,sP 7 1],x⟩)]⟩
def Zs:a_:=⟨⟨[sI 2,sS 3 3,sP 4 0,sP 5 1,sP 8 2,sS 26 3,sI 27,sI 28],[.inl bB,.inl bP,.inl bP]⟩,[(.exit 0,⟨[sI 2,sS 3 3,sP 5 0,sP 8 1],[.inl bP,.inl bP]⟩),(.ret,⟨[sP 8 0,sI 9,sI 10,sI 11],[.inl bP]⟩)]⟩
def Zq:a_:=⟨⟨[(3,.inl .bool),sS 56 5,sI 57,sI 58],[]⟩,[(.exit 2,⟨[(3,.inl .bool)],[]⟩)]⟩
def Zr:a_:=⟨⟨[sP 1 0,(3,.inl .bool),sS 43 3,sI 44,sI 45],[.inl bB]⟩,[(.exit 0,⟨[sP 1 0,(3,.inl .bool)],[.inl bB]⟩)]⟩
def Zp:a_:=let x:LB:=[.inl ([hI,hH 1,hH 2,hH 3,hH 4,hH 5,hH 6]++bB++[hH 7,hH 8]),.inr 1,.inr 4,.inr 1,.inr 2,.inr 2,.inr 5,.inr 5,.inr 4,.inl [hH 10,hH 11,hH 12,hH 13],.inr 1,.inr 4,.inr 1,.inr 2,.inl [hH 15,hH 16,hH 17,hH 18],.inr 1,.inr 4,.inr 1,.inr 2];⟨⟨[sP 0 0,sP 4 9,sP 6 14,sS 52 3,sI 53,sI 54],x⟩,[(.exit 0,⟨[sP 0 0,sP 4 9,sP 6 14],x⟩)]⟩
def Zo:a_:=let x:LB:=[.inl (bB++[hH 1,hH 2,hH 3,hH 4,hH 5]),.inr 1,.inr 4,.inr 1,.inr 2,.inr 3];⟨⟨[sP 0 0,sS 2 1,sS 19 3,sI 20,sI 21],x⟩,[(.exit 0,⟨[],x⟩)]⟩
def Zn:a_:=⟨⟨[sP 2 0,sP 3 1,sS 8 3,sI 9,sI 10],[.inl bB,.inl bP]⟩,[(.exit 0,⟨[],[]⟩),(.ret,⟨[(4,.inl .bool)],[]⟩)]⟩
def Zl:a_:=let x:LB:=[.inl (bB++[hH 1,hH 2,hH 3,hH 4,hS 1,hH 5]),.inr 1,.inr 4,.inr 1,.inr 2,.inr 3];⟨⟨[sP 0 0,sS 52 1,sI 53,sI 54],x⟩,[(.exit 2,⟨[],x⟩)]⟩
def Zm:a_:=let x:LB:=[.inl (bB++[hH 1,hH 2,hH 3,hH 4,hS 1,hH 5]),.inr 1,.inr 4,.inr 1,.inr 2,.inr 3,.inr 1];⟨⟨[sP 0 0,sH 2 6,sS 11 3,sI 12,sI 13],x⟩,[(.exit 0,⟨[sP 0 0,sH 2 6],x⟩)]⟩
def Zk:a_:=let x:LB:=[.inl (bB++[hH 1,hH 2,hH 3,hH 4,hS 1,hH 5]),.inr 1,.inr 4,.inr 1,.inr 2,.inr 3];⟨⟨[sP 0 0,sI 2,sH 9 2,sI 10,sI 11],x⟩,[(.exit 0,⟨[sP 0 0,sI 2],x⟩)]⟩
def Zi:a_:=let x:LB:=[.inl (bB++[hH 1,hH 2,hH 3,hH 4,hS 1,hH 5]),.inr 1,.inr 4,.inr 1,.inr 2,.inr 3];⟨⟨[sP 0 0,sI 2,sI 9,sI 10,sI 18,sI 19],x⟩,[(.exit 2,⟨[sP 0 0,sI 9,sI 10],x⟩)]⟩
def Zj:a_:=let x:LB:=[.inl (bB++[hH 1,hH 2,hH 3,hH 4,hS 1,hH 5]),.inr 1,.inr 4,.inr 1,.inr 2,.inr 3];⟨⟨[sP 0 0,sI 9,sI 10],x⟩,[(.exit 0,⟨[],x⟩)]⟩
def Zh:a_:=let x:LB:=[.inl (bB++[hH 1,hH 2,hH 3,hH 4,hS 1,hH 5]),.inr 1,.inr 4,.inr 1,.inr 2,.inr 3];⟨⟨[sP 0 0,sS 10 3,sI 11,sI 12],x⟩,[(.exit 0,⟨[],x⟩),(.ret,⟨[sI 2,(3,.inl .bool)],x⟩)]⟩
def Zf:a_:=let x:LB:=[.inl (bB++[hH 2,hH 3,hH 4,hH 5,hS 1,hH 6]),.inl [.inr (.t (.ptr 0 0))],.inr 1,.inr 4,.inr 1,.inr 2,.inr 3];⟨⟨[sP 1 1,sI 3,sS 42 3,sI 43,sI 44],x⟩,[(.exit 2,⟨[sP 1 1],x⟩)]⟩
def Zg:a_:=⟨⟨[sP 1 1],[.inl (bB++[hH 2,hH 3,hH 4,hH 5,hS 1,hH 6]),.inl [.inr (.t (.ptr 0 0))],.inr 1,.inr 4,.inr 1,.inr 2,.inr 3]⟩,[]⟩
def Uo:a_:=⟨⟨[sP 0 0,sP 3 1,sP 4 2,sP 5 3,sI 12],[.inl [hS 1,hI],.inl bB,.inl bP,.inl [hH 4,hH 5,hH 6,hH 7],.inr 1,.inr 4,.inr 1,.inr 2]⟩,[(.exit 10,⟨[sP 4 1,sP 5 2],[.inl [hS 1,hI],.inl bP,.inl [hH 3,hH 4,hH 5,hH 6],.inr 1,.inr 4,.inr 1,.inr 2]⟩)]⟩
def Y':a_:=let x:LB:=[.inl [hS 1,hI],.inl bB,.inl bP,.inl [hH 4,hH 5,hH 6,hH 7],.inr 1,.inr 4,.inr 1,.inr 2];⟨⟨[sP 0 0,sP 3 1,sP 4 2,sP 5 3,sS 89 5,sI 90,sI 91],x⟩,[(.exit 8,⟨[sP 0 0,sP 3 1,sP 4 2,sP 5 3],x⟩)]⟩
def Za:a_:=let x:LB:=[.inl [hS 1,hI],.inl bB,.inl bP,.inl [hH 4,hH 5,hH 6,hH 7],.inr 1,.inr 4,.inr 1,.inr 2];⟨⟨[sP 0 0,sP 3 1,sP 4 2,sP 5 3,sI 67,sI 68],x⟩,[(.exit 6,⟨[sP 0 0,sP 3 1,sP 4 2,sP 5 3],x⟩)]⟩
def Zb:a_:=let x:LB:=[.inl [hS 1,hI],.inl bB,.inl bP,.inl [hH 4,hH 5,hH 6,hH 7],.inr 1,.inr 4,.inr 1,.inr 2];⟨⟨[sP 0 0,sP 3 1,sP 4 2,sP 5 3,sI 6,(7,.inl .bool),sI 30,sI 31,sS 35 3,sI 36,sI 37],x⟩,[(.exit 4,⟨[sP 0 0,sP 3 1,sP 4 2,sP 5 3,sI 30,sI 31],x⟩)]⟩
def Zd:a_:=let x:LB:=[.inl [hS 1,hI],.inl bB,.inl bP,.inl [hH 4,hH 5,hH 6,hH 7],.inr 1,.inr 4,.inr 1,.inr 2];⟨⟨[sP 0 0,sP 3 1,sP 4 2,sP 5 3,sI 30,sI 31],x⟩,[(.exit 2,⟨[sP 0 0,sP 3 1,sP 4 2,sP 5 3],x⟩)]⟩
def Ze:a_:=let x:LB:=[.inl [hS 1,hI],.inl bB,.inl bP,.inl [hH 4,hH 5,hH 6,hH 7],.inr 1,.inr 4,.inr 1,.inr 2];⟨⟨[sP 0 0,sP 3 1,sP 4 2,sP 5 3,sI 16,sI 17],x⟩,[(.exit 0,⟨[sP 0 0,sP 3 1,sP 4 2,sP 5 3],x⟩)]⟩
def Y9:a_:=let x:LB:=[.inl ([hI,hH 1,hH 2,hH 3,hH 4,hH 5,hH 6]++bB++[hH 7,hH 8]),.inr 1,.inr 4,.inr 1,.inr 2,.inr 2,.inr 5,.inr 5,.inr 4,.inl [hI,hI,hI],.inr 2];⟨⟨[sP 0 0,sP 3 9,sH 4 10,sS 28 3,sI 29,sI 30,sS 89 3,sI 90,sI 91],x⟩,[(.exit 2,⟨[sP 0 0,sP 3 9,sH 4 10,sS 28 3,sI 29,sI 30],x⟩)]⟩
def Y_:a_:=⟨⟨[sP 0 0,sP 3 9,sH 4 10,sS 28 3,sI 29,sI 30],[.inl ([hI,hH 1,hH 2,hH 3,hH 4,hH 5,hH 6]++bB++[hH 7,hH 8]),.inr 1,.inr 4,.inr 1,.inr 2,.inr 2,.inr 5,.inr 5,.inr 4,.inl [hI,hI,hI],.inr 2]⟩,[(.exit 0,⟨[sP 0 0,sH 4 9],[.inl ([hI,hH 1,hH 2,hH 3,hH 4,hH 5,hH 6]++bB++[hH 7,hH 8]),.inr 1,.inr 4,.inr 1,.inr 2,.inr 2,.inr 5,.inr 5,.inr 4,.inr 2]⟩)]⟩
def Y8:a_:=⟨⟨[sS 1 2,sP 2 0,sS 7 2,sI 8,sI 9],[.inl bB]⟩,[(.exit 0,⟨[sS 1 2],[]⟩),(.ret,⟨[(4,.inl .bool)],[]⟩)]⟩
def Y7:a_:=⟨⟨[sI 2,sP 4 0,sI 7,sS 11 3,sI 12,sI 13],[.inl bP]⟩,[(.exit 0,⟨[sI 7],[]⟩)]⟩
def Y6:a_:=⟨⟨[sI 2,sI 3,sP 5 0,sS 13 3,sI 14,sI 15],[.inl bP]⟩,[(.exit 0,⟨[],[]⟩),(.ret,⟨[sI 8,(9,.inl .bool)],[]⟩)]⟩
def Y5:a_:=⟨⟨[sS 0 3,(1,.inr (.inr (.undef))),sI 7,sI 8],[]⟩,[(.exit 0,⟨[],[]⟩),(.ret,⟨[sI 4],[]⟩)]⟩
def Y4:a_:=let x:LB:=[.inl [hI,hI,hI,hI,hS 1]];⟨⟨[sI 1,sP 2 0,sS 8 1,sI 9,sI 10],x⟩,[(.exit 0,⟨[sP 2 0],x⟩),(.ret,⟨[(4,.inl .bool)],[]⟩)]⟩
def JI:a_:=let x:LB:=[.inl (bB++[hH 1,hH 2,hH 3,hH 4,hH 5]),.inr 1,.inr 4,.inr 1,.inr 2,.inr 3];⟨⟨[sP 0 0,sS 38 1,sI 39,sI 40],x⟩,[(.exit 2,⟨[],x⟩)]⟩
def JH:a_:=let x:LB:=[.inl (bB++[hH 2,hH 3,hH 4,hH 5,hH 6]),.inl [.inr (.t (.ptr 0 0))],.inr 1,.inr 4,.inr 1,.inr 2,.inr 3];⟨⟨[sP 0 0,sS 38 1,sI 39,sI 40],x⟩,[(.exit 2,⟨[],x⟩)]⟩
def He:a_:=let x:LB:=[.inl (bB++[hH 2,hH 3,hH 4,hH 5,hH 6]),.inl [hI],.inr 1,.inr 4,.inr 1,.inr 2,.inr 3];⟨⟨[sP 0 0,sS 38 1,sI 39,sI 40],x⟩,[(.exit 2,⟨[],x⟩)]⟩
def JK:a_:=let x:LB:=[.inl (bB++[hH 1,hH 2,hH 3,hH 4,hH 5]),.inr 1,.inr 4,.inr 1,.inr 2,.inr 3,.inr 1];⟨⟨[sP 0 0,(1,.inr (.inr (.undef))),sH 4 6,sS 13 3,sI 14,sI 15],x⟩,[(.exit 0,⟨[sP 0 0,sH 4 6],x⟩)]⟩
def JJ:a_:=let x:LB:=[.inl (bB++[hH 2,hH 3,hH 4,hH 5,hH 6]),.inl [.inr (.t (.ptr 0 0))],.inr 1,.inr 4,.inr 1,.inr 2,.inr 3,.inr 1];⟨⟨[sP 0 0,(1,.inr (.inr (.undef))),sH 4 7,sS 13 3,sI 14,sI 15],x⟩,[(.exit 0,⟨[sP 0 0,sH 4 7],x⟩)]⟩
def Hf:a_:=let x:LB:=[.inl (bB++[hH 2,hH 3,hH 4,hH 5,hH 6]),.inl [hI],.inr 1,.inr 4,.inr 1,.inr 2,.inr 3,.inr 1];⟨⟨[sP 0 0,(1,.inr (.inr (.undef))),sH 4 7,sS 13 3,sI 14,sI 15],x⟩,[(.exit 0,⟨[sP 0 0,sH 4 7],x⟩)]⟩
def YZ:a_:=⟨⟨[sP 3 0,sP 4 1,sP 7 2,sS 21 3,sI 22,sI 23],[.inl bP,.inl bP,.inl [hH 3,hH 4,hH 5,hH 6],.inr 1,.inr 4,.inr 1,.inr 2]⟩,[(.exit 0,⟨[sP 4 0,sP 7 1],[.inl bP,.inl [hH 2,hH 3,hH 4,hH 5],.inr 1,.inr 4,.inr 1,.inr 2]⟩)]⟩
def U4:a_:=let x:LB:=[.inl bB,.inr 1];⟨⟨[sP 1 0,sH 3 1,sI 10,sI 11],x⟩,[(.exit 0,⟨[sP 1 0,sH 3 1],x⟩)]⟩
def U3:a_:=let x:LB:=[.inl (bB++[hH 1,hH 2,hH 3,hH 4,hH 5]),.inr 1,.inr 4,.inr 1,.inr 2,.inr 3];⟨⟨[sP 0 0,sI 2,sS 9 1,sI 10,sI 11],x⟩,[(.exit 0,⟨[],x⟩)]⟩
def U2:a_:=let x:LB:=[.inl (bB++[hH 1,hH 2,hH 3,hH 4,hH 5]),.inr 1,.inr 4,.inr 1,.inr 2,.inr 3];⟨⟨[sP 0 0,sI 2,sS 8 1,sI 9,sI 10],x⟩,[(.exit 0,⟨[],x⟩)]⟩
def U1:a_:=⟨⟨[sS 0 1,sS 1 1,sI 12,sI 13],[]⟩,[(.exit 0,⟨[],[]⟩),(.ret,⟨[(4,.inl .bool)],[]⟩)]⟩
def U0:a_:=⟨⟨[sS 0 4,sS 1 4,sI 12,sI 13],[]⟩,[(.exit 0,⟨[],[]⟩),(.ret,⟨[(4,.inl .bool)],[]⟩)]⟩
def UZ:a_:=⟨⟨[sS 0 1,sS 1 1,sI 12,sI 13],[]⟩,[(.exit 0,⟨[],[]⟩),(.ret,⟨[(4,.inl .bool)],[]⟩)]⟩
def UY:a_:=⟨⟨[sS 0 2,sS 1 2,sI 12,sI 13],[]⟩,[(.exit 0,⟨[],[]⟩),(.ret,⟨[(4,.inl .bool)],[]⟩)]⟩
def UX:a_:=⟨⟨[sS 0 1,(1,.inl .bool),sI 7,sI 8],[]⟩,[(.exit 0,⟨[],[]⟩),(.ret,⟨[sI 4],[]⟩)]⟩
def E6:a_:=let x:LB:=[.inl [hI]];⟨⟨[sS 0 3,(1,.inr (.inr (.undef))),sI 7,sI 8],x⟩,[(.exit 0,⟨[],x⟩),(.ret,⟨[sI 4],x⟩)]⟩
def E5:a_:=let x:LB:=[.inl [hI]];⟨⟨[sS 0 3,(1,.inr (.inr (.undef))),sI 7,sI 8],x⟩,[(.exit 0,⟨[],x⟩),(.ret,⟨[sI 4],x⟩)]⟩
def UR:a_:=let x:LB:=[.inl bB,.inl bP];⟨⟨[sP 2 0,sP 3 1,sI 13,sI 128,sI 129,sS 134 1,sI 135,sI 136],x⟩,[(.exit 8,⟨[sP 2 0,sP 3 1,sI 13,sI 128,sI 129],x⟩)]⟩
def US:a_:=⟨⟨[sP 2 0,sP 3 1,sI 128,sI 129],[.inl bB,.inl bP]⟩,[(.exit 6,⟨[],[]⟩),(.ret,⟨[sI 4],[]⟩)]⟩
def UT:a_:=let x:LB:=[.inl bB,.inl bP];⟨⟨[sP 2 0,sP 3 1,sS 99 2,sI 100,sI 101],x⟩,[(.exit 4,⟨[sP 2 0,sP 3 1],x⟩),(.ret,⟨[sI 4],[]⟩)]⟩
def UU:a_:=let x:LB:=[.inl bB,.inl bP];⟨⟨[sP 2 0,sP 3 1,sS 77 1,sI 78,sI 79],x⟩,[(.exit 2,⟨[sP 2 0,sP 3 1],x⟩),(.ret,⟨[sI 4],[]⟩)]⟩
def UW:a_:=let x:LB:=[.inl bB,.inl bP];⟨⟨[sP 2 0,sP 3 1,sS 47 4,sI 48,sI 49],x⟩,[(.exit 0,⟨[sP 2 0,sP 3 1],x⟩),(.ret,⟨[sI 4],[]⟩)]⟩
def UP:a_:=⟨⟨[sP 3 0,sP 4 1,sP 5 2,sP 7 4,sS 14 3,sI 15,sI 16,sS 21 1,sI 22,sI 23],[.inl bP,.inl bP,.inl [hS 1,hH 3,hS 1,hS 2],.inr 4,.inl [hS 1,hS 1,hS 1]]⟩,[(.exit 2,⟨[sP 3 0,sP 4 1,sP 5 2,sS 14 3,sI 15,sI 16],[.inl bP,.inl bP,.inl [hS 1,hH 3,hS 1,hS 2],.inr 4]⟩)]⟩
def UQ:a_:=⟨⟨[sP 3 0,sP 4 1,sP 5 2,sS 14 3,sI 15,sI 16],[.inl bP,.inl bP,.inl [hS 1,hH 3,hS 1,hS 2],.inr 4]⟩,[(.exit 0,⟨[sP 4 0,sP 5 1],[.inl bP,.inl [hS 1,hH 2,hS 1,hS 2],.inr 4]⟩)]⟩
def UO:a_:=⟨⟨[sI 3,sS 6 1,sI 7,sI 8],[]⟩,[(.exit 0,⟨[sI 3],[]⟩),(.ret,⟨[sI 2],[]⟩)]⟩
def UN:a_:=⟨⟨[sS 0 4,(1,.inr (.inr (.undef))),sI 7,sI 8],[]⟩,[(.exit 0,⟨[],[]⟩),(.ret,⟨[sI 4],[]⟩)]⟩
def UM:a_:=⟨⟨[sS 0 1,sI 1,sI 7,sI 8],[]⟩,[(.exit 0,⟨[],[]⟩),(.ret,⟨[sI 4],[]⟩)]⟩
def UL:a_:=⟨⟨[sP 3 4,sP 5 5,sS 8 1,sI 9,sI 10],[.inr 1,.inr 4,.inr 1,.inr 2,.inl [hH 0,hH 1,hH 2,hH 3],.inl [hI,hI,hI,hI]]⟩,[(.exit 0,⟨[],[.inr 1,.inr 4,.inr 1,.inr 2]⟩)]⟩
def UK:a_:=⟨⟨[sI 1,sI 2,sH 7 0,sS 11 3,sI 12,sI 13],[.inr 1]⟩,[(.exit 0,⟨[sH 7 0],[.inr 1]⟩)]⟩
def UJ:a_:=⟨⟨[sP 2 0,sP 3 1,sH 5 2,sI 6],[.inl bB,.inl bP,.inr 3]⟩,[(.exit 0,⟨[sH 5 0],[.inr 3]⟩)]⟩
def E4:a_:=let x:LB:=[.inl [.inr (.fn 123 [.ptr 1 0])],.inl ([hI]++bP++[hS 2,hS 5])];⟨⟨[sS 0 2,(1,.inr (.inr (.undef))),sI 7,sI 8],x⟩,[(.exit 0,⟨[],x⟩),(.ret,⟨[sI 4],x⟩)]⟩
def UI:a_:=⟨⟨[sP 4 0,sP 5 1,sP 6 2,sP 7 3,sP 8 4,sP 9 5],[.inl bB,.inl [hI,hI,hI],.inl bP,.inl [hI],.inl [hI],.inl [.inl .bool]]⟩,[(.ret,⟨[sP 8 0,sP 9 1],[.inl [hI],.inl [.inl .bool]]⟩)]⟩
def UH:a_:=let x:LB:=[.inl (bB++[hH 1,hH 2,hH 3,hH 4,hI]),.inr 1,.inr 4,.inr 1,.inr 2];⟨⟨[sP 0 0,sI 24,sI 25],x⟩,[(.exit 0,⟨[],x⟩)]⟩
def UG:a_:=⟨⟨[sS 0 2,sP 3 0,sI 7,sI 8],[.inl [hI,hI]]⟩,[(.exit 0,⟨[],[]⟩),(.ret,⟨[sI 4],[]⟩)]⟩
def E1:a_:=let x:LB:=[.inr 1,.inl bB];⟨⟨[sH 0 0,sI 1,(2,.inr (.inr (.undef))),sI 6,sI 7,sI 8],x⟩,[(.exit 4,⟨[sH 0 0,sI 1,(2,.inr (.inr (.undef))),sI 6,sI 7],x⟩)]⟩
def E2:a_:=let x:LB:=[.inr 1,.inl bB];⟨⟨[sH 0 0,sI 1,(2,.inr (.inr (.undef))),sI 6],x⟩,[(.exit 2,⟨[],x⟩)]⟩
def E3:a_:=let x:LB:=[.inr 1,.inl bB];⟨⟨[sH 0 0,sI 1,(2,.inr (.inr (.undef))),sI 6,sI 7,sI 8],x⟩,[(.exit 0,⟨[sH 0 0,sI 1,(2,.inr (.inr (.undef))),sI 6,sI 7],x⟩)]⟩
def UC:a_:=⟨⟨[sP 1 0,sI 86,sI 87],[.inl bB]⟩,[(.exit 7,⟨[],[]⟩),(.ret,⟨[(2,.inl .bool)],[]⟩)]⟩
def UD:a_:=⟨⟨[sP 1 0,sI 74,sI 75],[.inl bB]⟩,[(.exit 5,⟨[sP 1 0],[.inl bB]⟩),(.ret,⟨[(2,.inl .bool)],[]⟩)]⟩
def UE:a_:=⟨⟨[sP 1 0,sP 4 1,sS 10 3,sI 11,sI 12,sS 61 3,sI 62,sI 63],[.inl bB,.inl [hI,hI,hI]]⟩,[(.exit 3,⟨[sP 1 0,sS 10 3,sI 11,sI 12],[.inl bB]⟩),(.ret,⟨[(2,.inl .bool)],[]⟩)]⟩
def UF:a_:=⟨⟨[sP 1 0,sS 10 3,sI 11,sI 12],[.inl bB]⟩,[(.exit 0,⟨[sP 1 0],[.inl bB]⟩),(.ret,⟨[(2,.inl .bool)],[]⟩)]⟩
def UB:a_:=⟨⟨[sS 6 3,sI 7,sI 8],[]⟩,[(.exit 0,⟨[],[]⟩),(.ret,⟨[(2,.inl .bool)],[]⟩)]⟩
def Uz:a_:=⟨⟨[sI 3,sP 4 0,sS 8 5,sI 9,sI 10,sS 46 1,sI 47,sI 48],[.inl [hI,hI,hI,hI,hS 1]]⟩,[(.exit 2,⟨[sS 8 5,sI 9,sI 10],[]⟩),(.ret,⟨[(2,.inl .bool)],[]⟩)]⟩
def UA:a_:=⟨⟨[sS 8 5,sI 9,sI 10],[]⟩,[(.exit 0,⟨[],[]⟩),(.ret,⟨[(2,.inl .bool)],[]⟩)]⟩
def Ux:a_:=⟨⟨[sP 3 0,sP 4 1,sP 6 2,sP 8 3,sI 64,sI 65],[.inl bB,.inl bP,.inl [hS 1,hS 1,hS 1],.inl [hS 1,hH 4,hH 5],.inr 1,.inr 1]⟩,[(.exit 2,⟨[sP 6 0,sP 8 1],[.inl [hS 1,hS 1,hS 1],.inl [hS 1,hH 2,hH 3],.inr 1,.inr 1]⟩)]⟩
def Uy:a_:=let x:LB:=[.inl bB,.inl bP,.inl [hS 1,hS 1,hS 1],.inl [hS 1,hH 4,hH 5],.inr 1,.inr 1];⟨⟨[sP 3 0,sP 4 1,sP 6 2,sP 8 3,sI 37,sI 38],x⟩,[(.exit 0,⟨[sP 3 0,sP 4 1,sP 6 2,sP 8 3],x⟩)]⟩
def Uw:a_:=let x:LB:=[.inl bP,.inl [hH 2,hH 3,hH 4,hH 5],.inr 1,.inr 4,.inr 1,.inr 2];⟨⟨[sP 4 0,sP 7 1,sS 20 4,sI 21,sI 22],x⟩,[(.exit 0,⟨[sP 4 0,sP 7 1],x⟩)]⟩
def Uv:a_:=let x:LB:=[.inl [hI,hI]];⟨⟨[sS 0 2,(2,.inr (.inr (.undef))),sP 4 0,sI 8,sI 9,sI 10],x⟩,[(.exit 0,⟨[sS 0 2,(2,.inr (.inr (.undef))),sP 4 0,sI 8,sI 9],x⟩)]⟩
def EZ:a_:=let x:LB:=[.inr 1,.inl bB];⟨⟨[sH 0 0,sI 1,sI 2,(3,.inr (.inr (.undef))),sI 8,sI 9],x⟩,[(.exit 2,⟨[sH 0 0,sI 1,sI 2,(3,.inr (.inr (.undef))),sI 8],x⟩)]⟩
def E0:a_:=let x:LB:=[.inr 1,.inl bB];⟨⟨[sH 0 0,sI 1,sI 2,(3,.inr (.inr (.undef))),sI 8],x⟩,[(.exit 0,⟨[],x⟩)]⟩
def EU:a_:=let x:LB:=[.inr 1,.inl bB];⟨⟨[sH 0 0,sI 1,sI 2,sI 3,(4,.inr (.inr (.undef))),sI 18,sI 19,sI 20,sI 21,sI 22],x⟩,[(.exit 8,⟨[sH 0 0,sI 1,sI 2,sI 3,(4,.inr (.inr (.undef))),sI 18,sI 19,sI 20],x⟩)]⟩
def EV:a_:=let x:LB:=[.inr 1,.inl bB];⟨⟨[sH 0 0,sI 14,sI 17],x⟩,[(.exit 6,⟨[],x⟩)]⟩
def EW:a_:=let x:LB:=[.inr 1,.inl bB];⟨⟨[sH 0 0,sI 2,(4,.inr (.inr (.undef))),sI 14,sI 15],x⟩,[(.exit 4,⟨[sH 0 0,sI 2,sI 14],x⟩)]⟩
def EX:a_:=let x:LB:=[.inr 1,.inl bB];⟨⟨[sH 0 0,sI 10,sI 13],x⟩,[(.exit 2,⟨[],x⟩)]⟩
def EY:a_:=let x:LB:=[.inr 1,.inl bB];⟨⟨[sH 0 0,sI 1,(4,.inr (.inr (.undef))),sI 10,sI 11],x⟩,[(.exit 0,⟨[sH 0 0,sI 1,sI 10],x⟩)]⟩
def Us:a_:=⟨⟨[sH 7 0,sH 10 1,sI 65,sI 66],[.inr 1,.inr 1]⟩,[(.exit 4,⟨[sH 10 0],[.inr 1]⟩)]⟩
def Ut:a_:=let x:LB:=[.inl bB,.inl bP,.inr 1];⟨⟨[sP 3 0,sP 4 1,sH 7 2,sI 19,sI 20,sS 23 3,sI 24,sI 25],x⟩,[(.exit 2,⟨[sP 3 0,sP 4 1,sH 7 2,sI 19,sI 20],x⟩)]⟩
def Uu:a_:=⟨⟨[sP 3 0,sP 4 1,sH 7 2,sI 19,sI 20],[.inl bB,.inl bP,.inr 1]⟩,[(.exit 0,⟨[sH 7 0],[.inr 1]⟩)]⟩
def Ur:a_:=⟨⟨[sI 1,sS 7 1,sI 8,sI 9],[]⟩,[(.exit 0,⟨[],[]⟩),(.ret,⟨[(4,.inl .bool)],[]⟩)]⟩
def Uq:a_:=⟨⟨[sP 3 0,sP 4 1,sS 27 1,sI 28,sI 29],[.inl bB,.inl bP]⟩,[(.exit 0,⟨[],[]⟩),(.ret,⟨[sI 6,(7,.inl .bool)],[]⟩)]⟩
def ET:a_:=let x:LB:=[.inr 1,.inl bB];⟨⟨[sH 0 0,sI 2,(4,.inr (.inr (.undef))),sI 10,sI 11],x⟩,[(.exit 0,⟨[sH 0 0,sI 2,(4,.inr (.inr (.undef))),sI 10],x⟩)]⟩
def ES:a_:=let x:LB:=[.inr 1,.inl bB];⟨⟨[sH 0 0,sI 1,sI 2,sI 3,sI 10],x⟩,[(.exit 0,⟨[],x⟩)]⟩
def Up:a_:=⟨⟨[sH 0 0,sI 2,sI 3],[.inr 2]⟩,[(.exit 0,⟨[],[.inr 2]⟩)]⟩
noncomputable def E:Env:=⟨Tryz.prog,[3,4,5,6,7,8,9,10,11,12,13,14,15,16,17,18,19,20,21,22,23,24,25,26,27,28,29,30,31,32,33,34,35,36,39,40,41,42,43,44,45,46,47,48,49,50,51,52,53,54,55,56,57,58,59,60,61,62,63,64,65,66,67,68,69,70,71,72,73,74,75,76,77,78,79,80,81,82,83,84,85,86,87,88,89,90,91,92,93,94,95,96,97,98,99,100,101,102,103,104,105,106,107,108,109,110,111,112,113,114,115,116,117,118,119,120,121,122,123,124,125,126,127,128,129,130,131,132,133,134,135,136,137,141,142,143,144,145,147,148,150,151,152,153,154,155,156,157,158,159,160,161,162,163,164,165,166,167,168,169,170,171,175,176,177,178,179,180,181,182,183,184,185,186,187,188,189,190,191,192,193,194,195,197,198,199,200,201],[(19,1),(50,1),(73,0),(87,0),(88,0),(94,0),(102,0),(111,0),(112,0),(113,0),(115,0),(126,1),(137,0),(160,0)],[(143,0),(144,0),(175,0),(188,0),(189,0),(197,0),(198,0),(199,0),(200,0),(201,0)],[(5,0),(9,3),(10,3),(22,3),(27,1),(30,3),(45,3),(104,1),(105,1),(186,0),(186,2),(187,0)],[(3,4,aea),(3,2,aeb),(3,0,aec),(4,2,ad_),(4,0,ad'),(6,4,ad7),(6,2,ad8),(6,0,ad9),(8,0,ad6),(11,2,ZM),(11,0,ZN),(14,2,ZK),(14,0,ZL),(17,0,ZJ),(20,1,ZI),(21,4,ZF),(21,2,ZG),(21,0,ZH),(22,0,ZE),(23,0,ZD),(25,0,ZC),(30,1,ZB),(31,0,ZA),(34,4,Zx),(34,2,Zy),(34,0,Zz),(40,0,Zw),(41,0,Zv),(42,0,Zu),(44,1,Zt),(45,0,Zs),(47,2,Zq),(47,0,Zr),(49,0,Zp),(53,0,Zo),(55,0,Zn),(58,2,Zl),(58,0,Zm),(59,0,Zk),(60,2,Zi),(60,0,Zj),(61,0,Zh),(63,2,Zf),(63,0,Zg),(68,10,Uo),(68,8,Y'),(68,6,Za),(68,4,Zb),(68,2,Zd),(68,0,Ze),(71,2,Y9),(71,0,Y_),(74,0,Y8),(79,0,Y7),(83,0,Y6),(84,0,Y5),(93,0,Y4),(96,98002,JI),(96,99002,JH),(96,149002,He),(96,98000,JK),(96,99000,JJ),(96,149000,Hf),(99,0,YZ),(100,0,U4),(104,0,U3),(105,0,U2),(106,0,U1),(107,0,U0),(108,0,UZ),(109,0,UY),(110,0,UX),(118,120000,E6),(118,136000,E5),(120,8,UR),(120,6,US),(120,4,UT),(120,2,UU),(120,0,UW),(121,2,UP),(121,0,UQ),(130,0,UO),(132,0,UN),(133,0,UM),(143,0,UL),(153,0,UK),(155,0,UJ),(156,126000,E4),(158,0,UI),(168,0,UH),(171,0,UG),(175,146004,E1),(175,146002,E2),(175,146000,E3),(176,7,UC),(176,5,UD),(176,3,UE),(176,0,UF),(177,0,UB),(178,2,Uz),(178,0,UA),(179,2,Ux),(179,0,Uy),(183,0,Uw),(184,0,Uv),(188,146002,EZ),(188,146000,E0),(189,146008,EU),(189,146006,EV),(189,146004,EW),(189,146002,EX),(189,146000,EY),(190,4,Us),(190,2,Ut),(190,0,Uu),(192,0,Ur),(193,0,Uq),(198,146000,ET),(200,146000,ES),(201,0,Up)],[],[73,94,102,111,112,113],[(12,Qw 31 34 35 36),(88,.pure BD),(91,.pure L5),(115,.pure qB),(137,.pure tY)],[62,70],[(22,7,[(10,none)]),(4,19,[(12,some 0),(12,some 1),(12,some 2),(12,some 3)]),(15,2,[(1,some 1),(1,some 2)]),(50,5,[(10,some 3010)]),(20,9,[(9,some 3011)]),(53,6,[(5,none)])],[(101,.aam 103 D2 D3),(116,.rev 149)],[(19,0,[0,1,2,3]),(48,0,[1,2,3,4,5,6,13,14]),(50,0,[0,1,2,3]),(57,0,[0,1,2,3]),(72,0,[0,1,2,3]),(99,0,[0,1,2,3]),(154,0,[0,1,2,3]),(162,0,[0,1,2,3]),(163,0,[0,1,2,3]),(164,0,[0,1,2,3]),(183,0,[0,1,2,3])],[12],[(147,⟨[(40,true,.int .i64),(41,true,.int .i64)],P4,Ln⟩),(114,⟨[(24,true,.bool)],P4,RJ⟩),(182,⟨[(65,false,.int .i64)],CY,tM⟩)]⟩
theorem qJ (first:List Int)(l:List (Int×Nat))(x:Int×Nat)(f:Nat):islOf first (l++[x]) f=islOf first l f++(if first.getD x.2 (-1)=(f:Int) then[x.1] else[]):=by
 unfold islOf;rw[CK,List.map_append];congr 1;by_cases h:first.getD x.2 (-1)=(f:Int)
 ·rw[aK h,vT (by simpa using h)];rfl
 ·rw[aC h,Bh (by simpa using h)];rfl
def busK (first:List Int)(k f:Nat):List Int:=((List.range k).filter λ(j:Nat)=>first.getD j (-1)==(f:Int)).map λ(j:Nat)=>(j:Int)
theorem KL (first:List Int)(f:Nat):busK first first.length f=Dl first f:=rfl
theorem Gp (first:List Int)(k f:Nat):busK first (k+1) f=busK first k f++(if first.getD k (-1)=(f:Int) then[(k:Int)] else[]):=by
 unfold busK;rw[Cz,CK,List.map_append];congr 1;by_cases h:first.getD k (-1)=(f:Int)
 ·rw[aK h,vT (by simpa using h)];rfl
 ·rw[aC h,Bh (by simpa using h)];rfl
def rowAt (first:List Int)(k:Nat)(aA cons:List (Int×Nat))(i:Nat):List Int:=
 if i %3=0 then busK first k (i/3) else if i %3=1 then islOf first aA (i/3) else islOf first cons (i/3)
def rowsR (first:List Int)(k:Nat)(aA cons:List (Int×Nat)):List (List Int):=(List.range (3*first.length)).map (rowAt first k aA cons)
theorem rowsR_length (first:List Int)(k:Nat)(aA cons:List (Int×Nat)):(rowsR first k aA cons).length=3*first.length:=by simp[rowsR]
theorem rowsR_get {first:List Int}{k:Nat}{aA cons:List (Int×Nat)}{i:Nat}(h:i<3*first.length):(rowsR first k aA cons)[i]? =some (rowAt first k aA cons i):=by
 rw[rowsR,uP,Ar h];rfl
theorem yT {first:List Int}{k k':Nat}{aA RT cons cons':List (Int×Nat)}{i:Nat}{r:List Int}(h1:rowAt first k' RT cons' i=r)(h2:∀j,j≠i->rowAt first k' RT cons' j=rowAt first k aA cons j):
  (rowsR first k aA cons).set i r=rowsR first k' RT cons':=by
 apply Jf
 ·simp[rowsR]
 ·intro j hj EF;rw[List.getElem_set];simp only[rowsR,List.getElem_map,List.getElem_range];split
  ·rename_i e;subst e;exact h1.symm
  ·rename_i e;exact(h2 j (vd e)).symm
theorem rowsR_bus {first:List Int}{k f:Nat}(hf:first.getD k (-1)=(f:Int)):(rowsR first k [] []).set (3*f) (rowAt first k [] [] (3*f)++[(k:Int)])=rowsR first (k+1) [] []:=by
 refine yT ?_ λj hj=> ?_
 ·unfold rowAt;rw[aK (by omega),aK (by omega),show 3*f/3=f by omega,Gp,aK hf]
 ·unfold rowAt;by_cases h0:j %3=0
  ·rw[aK h0,aK h0,Gp,aC (by rw[hf];omega),uN]
  ·rw[aC h0,aC h0]
theorem rowsR_src {first:List Int}{k f i:Nat}{aA:List (Int×Nat)}{Li:Nat}(hf:first.getD Li (-1)=(f:Int)):(rowsR first k aA []).set (3*f+1) (rowAt first k aA [] (3*f+1)++[(i:Int)])=rowsR first k (aA++[((i:Int),Li)]) []:=by
 refine yT ?_ λj hj=> ?_
 ·unfold rowAt;rw[aC (by omega),aK (by omega),aC (by omega),aK (by omega),show(3*f+1)/3=f by omega,qJ,aK hf]
 ·unfold rowAt;by_cases h0:j %3=0
  ·rw[aK h0,aK h0]
  ·by_cases h1:j %3=1
   ·rw[aC h0,aK h1,aC h0,aK h1,qJ,aC (by rw[hf];omega),uN]
   ·rw[aC h0,aC h1,aC h0,aC h1]
theorem rowsR_con {first:List Int}{k f i:Nat}{aA cons:List (Int×Nat)}{Li:Nat}(hf:first.getD Li (-1)=(f:Int)):(rowsR first k aA cons).set (3*f+2) (rowAt first k aA cons (3*f+2)++[(i:Int)])=rowsR first k aA (cons++[((i:Int),Li)]):=by
 refine yT ?_ λj hj=> ?_
 ·unfold rowAt;rw[aC (by omega),aC (by omega),aC (by omega),aC (by omega),show(3*f+2)/3=f by omega,qJ,aK hf]
 ·unfold rowAt;by_cases h0:j %3=0
  ·rw[aK h0,aK h0]
  ·by_cases h1:j %3=1
   ·rw[aC h0,aK h1,aC h0,aK h1]
   ·rw[aC h0,aC h1,aC h0,aC h1,qJ,aC (by rw[hf];omega),uN]
theorem rowsR_zero (first:List Int):rowsR first 0 [] []=List.replicate (3*first.length) []:=by
 apply Jf
 ·simp[rowsR]
 ·intro j hj EF;simp only[rowsR,List.getElem_map,List.getElem_range,List.getElem_replicate];unfold rowAt;split
  ·rfl
  ·split<;>rfl
end Go.Proofs.YtoocplpcbdemhaaGreat.Vm
namespace Go.Proofs.YtoocplpcbdemhaaGreat
open Go Go.Proofs Go.RowKit
theorem iX {W:World}{b:Nat}{o:Obj}(h:W.heap[b]? =some o):b<W.heap.size:=(c_.1 h).1
theorem IV {W:World}{b:Nat}{cs:Array Value}{t:TypeId}{fr:Nat×Nat}(h:W.heap[b]? =some (.cells cs t fr))(i:Nat)(v:Value):(W.setCell ⟨b,i,none⟩ v).heap[b]? =some (.cells (cs.setIfInBounds i v) t fr):=by
 obtain⟨hlt,hk⟩:=c_.1 h;show(W.heap.modify b _)[b]? =_;rw[N8 (by rw[Array.size_modify];exact hlt),Array.getElem_modify_self,hk];rfl
def iv (l:List Int):List Value:=l.map (Value.int .i64)
structure Tb (base A:Nat)(ty:TypeId)(vals:List Value)(rows:List (List Int))(W:World):Prop where
 cell:W.heap[A]? =some (.cells vals.toArray ty (0,0))
 low:base<=A
 len:vals.length=rows.length
 row:∀(i:Nat) v xs,vals[i]? =some v->rows[i]? =some xs->W.ownsRow base 3 1 v xs.length (iv xs)
 apart:∀(i j:Nat) v v' g,vals[i]? =some v->vals[j]? =some v'->v.ownBlock=some g->v'.ownBlock=some g->i=j
 ER:∀(i:Nat) v,vals[i]? =some v->v.ownBlock≠some A
section
variable {base A:Nat} {ty:TypeId} {vals:List Value} {rows:List (List Int)} {W W':World}
theorem Tb.lt (h:Tb base A ty vals rows W){i:Nat}{v:Value}{g:Nat}(hv:vals[i]? =some v)(hg:v.ownBlock=some g):base<=g/\g<W.heap.size:=by
 have hi:i<rows.length:=by rw[<-h.len];exact(ko.1 hv).1
 exact(h.row i v _ hv (dO hi)).lt g hg
theorem Tb.kept (h:Tb base A ty vals rows W){row:Option Nat}(hg:W.grownBy W' row)(hA:row≠some A)(hr:∀(i:Nat) v,vals[i]? =some v->v.ownBlock=none\/v.ownBlock≠row):Tb base A ty vals rows W':=
 ⟨(hg.block A (iX h.cell) (vd hA)).trans h.cell,h.low,h.len,λi v xs hv hx=>(h.row i v xs hv hx).kept hg (hr i v hv),h.apart,h.ER⟩
theorem Tb.below (h:Tb base A ty vals rows W)(hB:Below W.heap.size W W'):Tb base A ty vals rows W':=
 h.kept (row:=none) ⟨hB.os,hB.tape,hB.output,hB.size,λk hk _=>hB.block k hk⟩ (by simp) (λi v _=>by cases v.ownBlock<;>simp)
theorem Tb.drew (h:Tb base A ty vals rows W):Tb base A ty vals rows W.drew:=h.below (Below.refl _ W).drew
theorem Tb.alloc (h:Tb base A ty vals rows W)(o:Obj):Tb base A ty vals rows (W.alloc o):=h.below ((Below.refl _ W).alloc (dB _) o)
theorem Tb.at_ (h:Tb base A ty vals rows W){i:Nat}{v:Value}(hv:vals[i]? =some v):W.cell? ⟨A,i,none⟩=some v/\W.frozen? ⟨A,i,none⟩=false:=by
 constructor
 ·simp[World.cell?,h.cell,hv]
 ·simp[World.frozen?,h.cell]
theorem Tb.Pr (h:Tb base A ty vals rows W){b i:Nat}(u:Value)(hA:b≠A)(hr:∀(j:Nat) v,vals[j]? =some v->v.ownBlock≠some b):Tb base A ty vals rows (W.setCell ⟨b,i,none⟩ u):=
 h.kept (row:=some b) (CF W b i u) (by simpa using hA) (λj v hv=>.inr (hr j v hv))
theorem Tb.push (h:Tb base A ty vals rows W){i:Nat}{v v':Value}{xs:List Int}{x:Int}{w1:World}(hv:vals[i]? =some v)(hx:rows[i]? =some xs)(hg:W.grownBy w1 v.ownBlock)
  (hown:w1.ownsRow base 3 1 v' (xs.length+1) (iv xs++[.int .i64 x])) (hat:v'.ownBlock=v.ownBlock\/v'.ownBlock=some W.heap.size):
  Tb base A ty (vals.set i v') (rows.set i (xs++[x])) (w1.setCell ⟨A,i,none⟩ v'):=by
 have hi:i<vals.length:=(ko.1 hv).1;have Lf:=iX h.cell;have hA1:w1.heap[A]? =some (.cells vals.toArray ty (0,0)):=(hg.block A Lf (λe=>h.ER i v hv e.symm)).trans h.cell;have MB:=CF w1 A i v';have Xx:v'.ownBlock≠some A:=by
  rcases hat with e|e
  ·rw[e];exact h.ER i v hv
  ·rw[e];simp;omega
 have Q5:∀(j:Nat) u,j≠i->vals[j]? =some u->u.ownBlock=none\/u.ownBlock≠v.ownBlock:=λj u hj hu=>by
  cases hb:u.ownBlock with
  |none=>exact .inl rfl
  |some g=>exact .inr λe=>hj (h.apart j i u v g hu hv hb e.symm)
 have get:∀(j:Nat) u,(vals.set i v')[j]? =some u->(j=i/\u=v')\/(j≠i/\vals[j]? =some u):=λj u hu=>by
  rw[qy]at hu;split at hu
  ·rename_i e;subst e;first|(rw[aK hi]at hu;cases hu;exact .inl ⟨rfl,rfl⟩)|(cases hu;exact .inl ⟨rfl,rfl⟩)
  ·rename_i e;exact .inr ⟨λe'=>e e'.symm,hu⟩
 have new:∀(j:Nat) u g,j≠i->vals[j]? =some u->u.ownBlock=some g->v'.ownBlock≠some g:=λj u g hj hu hug e=>by
  rcases hat with e2|e2
  ·exact hj (h.apart j i u v g hu hv hug (e2▸e))
  ·have:=(h.lt hu hug).2;rw[e2]at e;cases e;omega
 refine⟨?_,h.low,by simp[h.len],λj u ys hu hy=> ?_,λj k u u' g hu Qo OI hg2=> ?_,λj u hu=> ?_⟩
 ·rw[IV hA1];congr 2;apply Array.ext';simp
 ·rw[qy]at hy;rcases get j u hu with⟨rfl,rfl⟩|⟨hj,hu⟩
  ·rw[aK rfl,aK (by rw[<-h.len];exact hi)]at hy;cases hy;have:=hown.kept MB (.inr Xx);simpa[iv]using this
  ·rw[aC (vd hj)]at hy;exact((h.row j u ys hu hy).kept hg (Q5 j u hj hu)).kept MB (.inr (h.ER j u hu))
 ·rcases get j u hu with⟨e1,e2⟩|⟨hj,hu2⟩<;>rcases get k u' Qo with⟨e3,e4⟩|⟨hk,ag1⟩
  ·rw[e1,e3]
  ·subst e2;exact absurd OI (new k u' g hk ag1 hg2)
  ·subst e4;exact absurd hg2 (new j u g hj hu2 OI)
  ·exact h.apart j k u u' g hu2 ag1 OI hg2
 ·rcases get j u hu with⟨rfl,rfl⟩|⟨hj,hu⟩
  ·exact Xx
  ·exact h.ER j u hu
theorem Tb.make (n:Nat)(hb:base<=W.heap.size)(cs:Array Value)(hc:cs.toList=List.replicate n (.slice none 0 0)):Tb base W.heap.size ty (List.replicate n (.slice none 0 0)) (List.replicate n []) (W.alloc (.cells cs ty)):=by
 refine⟨?_,hb,by simp,λi v xs hv hx=> ?_,λi j v v' g hv _ hg _=> ?_,λi v hv=> ?_⟩
 ·rw[<-hc];exact Cn W _
 ·rw[pI]at hv hx;split at hv
  ·rw[aK (by assumption)]at hx;cases hv;cases hx;exact World.ownsRow_nil _ base 3 1
  ·cases hv
 ·rw[pI]at hv;split at hv
  ·cases hv;simp[Value.ownBlock]at hg
  ·cases hv
 ·rw[pI]at hv;split at hv
  ·cases hv;simp[Value.ownBlock]
  ·cases hv
end
end Go.Proofs.YtoocplpcbdemhaaGreat
namespace Go.Proofs.YtoocplpcbdemhaaGreat.Vm
end Go.Proofs.YtoocplpcbdemhaaGreat.Vm
namespace Go.Proofs.YtoocplpcbdemhaaGreat
open Go Go.Proofs Go.RowKit Go.Shelf
set_option maxRecDepth 100000 in
set_option maxHeartbeats 1000000 in
theorem VV (a:Option Addr)(l c:Nat)(b:Option Addr)(l2 c2:Nat)(d:Option Addr)(l3 c3:Nat)(w:World):
  CallsIn Fence.wide 6 Tryz.prog 38 #[.agg #[.slice a l c,.slice b l2 c2,.slice d l3 c3]] w λe w'=>e=.returned (.bool (decide (l=0)))/\Below w.heap.size w w':=by
 refine Cs Tryz.func38 rfl trivial ?_ rfl;simp only[Tryz.ntmps38,oa,cM,iD,Nat.reduceAdd,Nat.reduceSub,iO,CJ,Aj,FT,gq,rS]
 gi_wp2
 go_ret
 have e:((l:Int)==0)=decide (l=0):=by rw[uQ];simp
 exact⟨by simp[e],(Below.refl _ w).alloc (dB _) _⟩
theorem green (a:Option Addr)(l c:Nat)(b:Option Addr)(l2 c2:Nat)(d:Option Addr)(l3 c3:Nat)(w:World):Calls Tryz.prog 38 #[.agg #[.slice a l c,.slice b l2 c2,.slice d l3 c3]] w λe w'=>e=.returned (.bool (decide (l=0)))/\Below w.heap.size w w':=callsIn_wide.1 (VV a l c b l2 c2 d l3 c3 w)
def tI (w:World)(b p:Nat)(x y z:Value):Prop:=w.cell? ⟨b,p*3,none⟩=some x/\w.cell? ⟨b,p*3+1,none⟩=some y/\w.cell? ⟨b,p*3+2,none⟩=some z
theorem tI.below {w w':World}{b p:Nat}{x y z:Value}(h:tI w b p x y z)(hb:b<w.heap.size)(hw:Below w.heap.size w w'):tI w' b p x y z:=
 ⟨(hw.cell (p:=⟨b,p*3,none⟩) hb).trans h.1,(hw.cell (p:=⟨b,p*3+1,none⟩) hb).trans h.2.1,(hw.cell (p:=⟨b,p*3+2,none⟩) hb).trans h.2.2⟩
set_option maxRecDepth 100000 in
set_option maxHeartbeats 2000000 in
theorem Vg (b len cap:Nat)(SA SB SV:Nat->Option Addr)(L LB LV SC CB CV:Nat->Nat)(w:World)(hb:b<w.heap.size)(hlen:len<=1000000)(hc:∀j,j<len->tI w b j (.slice (SA j) (L j) (SC j)) (.slice (SB j) (LB j) (CB j)) (.slice (SV j) (LV j) (CV j))):
  CallsIn Fence.wide 8 Tryz.prog 84 #[.slice (some ⟨b,0,none⟩) len cap,.func (.func 38) #[] #[]] w λe w'=>
   ((e=.returned (.int .i64 (-1))/\∀j,j<len->0<L j)\/∃i:Nat,i<len/\e=.returned (.int .i64 (i:Nat))/\L i=0/\∀j,j<i->0<L j)/\Below w.heap.size w w':=by
 refine Cs Tryz.func84 rfl trivial ?_ rfl;simp only[Tryz.ntmps84,oa,cM,iD,Nat.reduceAdd,Nat.reduceSub,iO,CJ,Aj,FT,gq,rS]
 gi_wp2
 gi_loopw [8] (λi wr=>∃k:Nat,k<=len/\i=.int .i64 (k:Nat)/\(∀j,j<k->0<L j)/\Below w.heap.size w wr)
  (λi _=>len-(intOf i).toNat)
 case atStart=>exact⟨0,rz _,rfl,λj h=>absurd h (by omega),Below.refl _ _⟩
 case round=>
  obtain⟨k,hk,rfl,hno,hB⟩:=hrel;by_cases hlt:k<len
  ·obtain⟨c0,c1,c2⟩:=(hc k hlt).below hb hB;by_cases hv:L k=0
   ·have hd:decide (L k=0)=true:=by simpa using hv
    clear hv
    gi_wp2
    refine⟨trivial,?_⟩;refine(callsIn_wide.2 (green (SA k) (L k) (SC k) (SB k) (LB k) (CB k) (SV k) (LV k) (CV k) wr)).mono ?_;rintro e W3 ⟨rfl,OM⟩;rw[hd];have hv:L k=0:=by simpa using hd
    gi_wp2
    go_ret
    exact⟨.inr ⟨k,hlt,rfl,hv,hno⟩,hB.trans (OM.mono hB.size)⟩
   ·have hd:decide (L k=0)=false:=by simp;omega
    gi_wp2
    refine⟨trivial,?_⟩;refine(callsIn_wide.2 (green (SA k) (L k) (SC k) (SB k) (LB k) (CB k) (SV k) (LV k) (CV k) wr)).mono ?_;rintro e W3 ⟨rfl,OM⟩;rw[hd]
    gi_wp2
    go_roundw
    case rel=>exact⟨k+1,by omega,by simp,λj hj=>(Nat.lt_succ_iff_lt_or_eq.1 hj).elim (hno j) (λh=>by rw[h];omega),hB.trans (OM.mono hB.size)⟩
    case measure=>simp[intOf]<;>omega
  ·obtain rfl:k=len:=by omega
   gi_wp2
   go_ret
   exact⟨.inl ⟨rfl,hno⟩,hB⟩
def kept (L:Nat->Nat)(j:Nat):List Nat:=(List.range j).filter λx=>decide (0<L x)
theorem zx (L:Nat->Nat)(j:Nat):kept L (j+1)=if 0<L j then kept L j++[j] else kept L j:=by
 unfold kept;rw[Cz,CK];by_cases h:0<L j<;>simp[h]
theorem JO {L:Nat->Nat}{j:Nat}(h:∀x,x<j->0<L x):kept L j=List.range j:=by
 unfold kept;rw[List.filter_eq_self];intro x hx;simpa using h x (gR.1 hx)
def Rw (w:World)(b n:Nat):Prop:=∀o,o<n->∃v,w.cell? ⟨b,o,none⟩=some v/\w.frozen? ⟨b,o,none⟩=false
theorem Rw.of_block {w w':World}{b n:Nat}(h:Rw w b n)(e:w'.heap[b]? =w.heap[b]?):Rw w' b n:=λo ho=>by
 obtain⟨v,h1,h2⟩:=h o ho;exact⟨v,(nT (a:=⟨b,o,none⟩) e).trans h1,(pJ (a:=⟨b,o,none⟩) e).trans h2⟩
theorem tI.of_block {w w':World}{b p:Nat}{x y z:Value}(h:tI w b p x y z)(e:w'.heap[b]? =w.heap[b]?):tI w' b p x y z:=
 ⟨(nT (a:=⟨b,_,none⟩) e).trans h.1,(nT (a:=⟨b,_,none⟩) e).trans h.2.1,(nT (a:=⟨b,_,none⟩) e).trans h.2.2⟩
theorem tI.GU {w:World}{b p o:Nat}{x y z:Value}{vs:List Value}(h:tI w b p x y z)(ho:p*3+2<o\/o+vs.length<=p*3):tI (w.setCells b o vs) b p x y z:=
 ⟨(w_ b vs o w ⟨b,p*3,none⟩ (λ_ _=>by show p*3<o\/o+vs.length<=p*3;omega)).trans h.1,
  (w_ b vs o w ⟨b,p*3+1,none⟩ (λ_ _=>by show p*3+1<o\/o+vs.length<=p*3+1;omega)).trans h.2.1,
  (w_ b vs o w ⟨b,p*3+2,none⟩ (λ_ _=>by show p*3+2<o\/o+vs.length<=p*3+2;omega)).trans h.2.2⟩
theorem Rw.set {w:World}{b n o:Nat}{vs:List Value}(h:Rw w b n)(ho:o+vs.length<=n):Rw (w.setCells b o vs) b n:=λq hq=>by
 obtain⟨v,h1,h2⟩:=h q hq;rcases y7 q o with hl|hl
 ·exact⟨v,(w_ b vs o w ⟨b,q,none⟩ (λ_ _=>.inl hl)).trans h1,(World.frozen?_setCells b vs o w _).trans h2⟩
 rcases y7 q (o+vs.length)with hu|hu
 ·have h3:=World.cell?_setCells_in b vs o w (λj hj=>by obtain⟨v,h1,_⟩:=h (o+j) (by omega);rw[h1];rfl) (q-o) (by omega);have e:o+(q-o)=q:=by omega
  rw[e]at h3;exact⟨_,h3,(World.frozen?_setCells b vs o w _).trans h2⟩
 ·exact⟨v,(w_ b vs o w ⟨b,q,none⟩ (λ_ _=>.inr hu)).trans h1,(World.frozen?_setCells b vs o w _).trans h2⟩
theorem tI.adC {w:World}{b p n:Nat}{x y z:Value}(h:Rw w b n)(hp:p*3+3<=n):tI (w.setCells b (p*3) [x,y,z]) b p x y z:=by
 have h3:=World.cell?_setCells_in b [x,y,z] (p*3) w (λj hj=>by obtain⟨v,h1,_⟩:=h (p*3+j) (by simp at hj;omega);rw[h1];rfl);exact⟨h3 0 (by simp),h3 1 (by simp),h3 2 (by simp)⟩
theorem zD {w:World}{b:Nat}:∀(vs:List Value) (o:Nat) (w':World),w.grownBy w' (some b)->w.grownBy (w'.setCells b o vs) (some b)
 |[],_,_,h=>h
 |v::vs,o,w',h=>zD vs (o+1) _ (h.andThen (CF w' b o v) (λj hj=>.inr hj))
theorem AQ {w w' w2:World}{b:Nat}(h:w.grownBy w' (some b))(hB:Below w'.heap.size w' w2):w.grownBy w2 (some b):=
 h.andThen (row':=none) ⟨hB.os,hB.tape,hB.output,hB.size,λk hk _=>hB.block k hk⟩ (λj hj=>by cases hj)
theorem ae6 (w:World)(b o n c:Nat)(ty:TypeId)(hn:0<n)(h:Rw w b (o+n*3)):
  ∃vs:List Value,vs.length=n*3/\(Builtin.clear_ #[51] ty #[.slice (some ⟨b,o,none⟩) n c]).run Tryz.prog w=.ok (.tuple #[]) (w.setCells b o vs):=by
 obtain⟨L,hL⟩:∃L,(Builtin.zeroCells #[.slice none 0 0,.slice none 0 0,.slice none 0 0] n).toList=L:=⟨_,rfl⟩
 have hlen:L.length=n*3:=by rw[<-hL];simp[Builtin.zeroCells]<;>omega
 have h1:∀v∈L,v.oneCell'=true:=by
  intro v hv;rw[<-hL]at hv;simp only[Builtin.zeroCells,G0,kE]at hv;obtain⟨i,_,rfl⟩:=hv;have:i %3=0\/i %3=1\/i %3=2:=by omega
  rcases this with h|h|h<;>simp[h]<;>rfl
 have hst:=run_storeCells_cells (P:=Tryz.prog) b o L 0 w (λj hj=>by obtain⟨v,h1,_⟩:=h (o+j) (by omega);rw[show o+0+j=o+j by omega,h1];rfl) (λj hj=>by obtain⟨v,_,h2⟩:=h (o+j) (by omega);rw[show o+0+j=o+j by omega];exact h2) h1;simp only[I7]at hst;refine⟨L,hlen,?_⟩;obtain⟨m,rfl⟩:∃m,n=m+1:=⟨n-1,by omega⟩
 simp[Builtin.clear_,qz Tryz.underlying51,Tryz.zeroValue54,Value.cells,hL,hst]
set_option maxRecDepth 100000 in
set_option maxHeartbeats 4000000 in
theorem ae2 (b len cap:Nat)(SA SB SV:Nat->Option Addr)(L LB LV SC CB CV:Nat->Nat)(w:World)(hb:b<w.heap.size)(hlen:len<=1000000)(j0:len<=cap)(hc:∀j,j<len->tI w b j (.slice (SA j) (L j) (SC j)) (.slice (SB j) (LB j) (CB j)) (.slice (SV j) (LV j) (CV j)))(hf:Rw w b (len*3)):
  CallsIn Fence.wide 9 Tryz.prog 37 #[.slice (some ⟨b,0,none⟩) len cap,.func (.func 38) #[] #[]] w λe w'=>
   e=.returned (.slice (some ⟨b,0,none⟩) (kept L len).length cap)/\(∀(p x:Nat),(kept L len)[p]? =some x->tI w' b p (.slice (SA x) (L x) (SC x)) (.slice (SB x) (LB x) (CB x)) (.slice (SV x) (LV x) (CV x)))/\w.grownBy w' (some b):=by
 refine Cs Tryz.func37 rfl trivial ?_ rfl;simp only[Tryz.ntmps37,oa,cM,iD,Nat.reduceAdd,Nat.reduceSub,iO,CJ,Aj,FT,gq,rS]
 gi_wp2
 refine⟨trivial,?_⟩;refine(callsIn_wide.2 (callsIn_wide.1 (Vg b len cap SA SB SV L LB LV SC CB CV w hb hlen hc))).mono ?_;rintro e W1 ⟨⟨rfl,hno⟩|⟨i0,hi0,rfl,hv0,hno⟩,rI⟩
 ·gi_wp2
  go_ret
  have hk:=JO hno;refine⟨by rw[hk,FR];rfl,λp x hp=> ?_,?_⟩
  ·rw[hk]at hp;obtain⟨h1,h2⟩:=ko.1 hp;simp at h1 h2;subst h2;exact(hc p h1).below hb rI
  ·exact⟨rI.os,rI.tape,rI.output,rI.size,λk hk _=>rI.block k hk⟩
 ·have hrow:W1.heap[b]? =w.heap[b]?:=rI.block b hb
  gi_wp2
  gi_loopw [5,6] (λi j wr=>∃m:Nat,m<=len/\i0<m/\i=.int .i64 ((kept L m).length:Nat)/\j=.int .i64 (m:Nat)/\(kept L m).length<m/\(∀(p x:Nat),(kept L m)[p]? =some x->tI wr b p (.slice (SA x) (L x) (SC x)) (.slice (SB x) (LB x) (CB x)) (.slice (SV x) (LV x) (CV x)))/\
    (∀q,m<=q->q<len->tI wr b q (.slice (SA q) (L q) (SC q)) (.slice (SB q) (LB q) (CB q)) (.slice (SV q) (LV q) (CV q)))/\Rw wr b (len*3)/\w.grownBy wr (some b))
   (λ_ j _=>len-(intOf j).toNat)
  case atStart=>
   have hka:kept L (i0+1)=List.range i0:=by rw[zx,aC (by omega),JO hno]
   refine⟨i0+1,by omega,by omega,by rw[hka];simp,by simp,by rw[hka];simp,λp x hp=> ?_,λq _ hq=>(hc q hq).of_block hrow,hf.of_block hrow,⟨rI.os,rI.tape,rI.output,rI.size,λk hk _=>rI.block k hk⟩⟩;rw[hka]at hp;obtain⟨h1,h2⟩:=ko.1 hp;simp at h1 h2;subst h2;exact(hc p (by omega)).of_block hrow
  case round=>
   obtain⟨m,hm,him,rfl,rfl,apE,nz,hk2,hrw,hg⟩:=hrel;have hbr:b<wr.heap.size:=jK hb hg.size;by_cases hlt:m<len
   ·obtain⟨c0,c1,c2⟩:=hk2 m (dB _) hlt;have Qx:Below wr.heap.size wr (wr.alloc (.cells #[.slice (SA m) (L m) (SC m),.slice (SB m) (LB m) (CB m),.slice (SV m) (LV m) (CV m)] 54)):=(Below.refl _ wr).alloc (dB _) _;by_cases hv:0<L m
    ·have hd:decide (L m=0)=false:=by simp;omega
     gi_wp2
     refine⟨trivial,?_⟩;refine(callsIn_wide.2 (green (SA m) (L m) (SC m) (SB m) (LB m) (CB m) (SV m) (LV m) (CV m) _)).mono ?_;rintro e W3 ⟨rfl,OM⟩;rw[hd];have Hw:Below wr.heap.size wr W3:=Qx.trans (OM.mono Qx.size);have hbx:W3.heap[wr.heap.size]? =some (.cells #[.slice (SA m) (L m) (SC m),.slice (SB m) (LB m) (CB m),.slice (SV m) (LV m) (CV m)] 54 (0,0)):=(OM.block _ (by simp)).trans (World.alloc_heap_new wr _);have x0:W3.cell? ⟨wr.heap.size,0,none⟩=some (.slice (SA m) (L m) (SC m)):=by simp[World.cell?,hbx]
     have x1:W3.cell? ⟨wr.heap.size,1,none⟩=some (.slice (SB m) (LB m) (CB m)):=by simp[World.cell?,hbx]
     have x2:W3.cell? ⟨wr.heap.size,2,none⟩=some (.slice (SV m) (LV m) (CV m)):=by simp[World.cell?,hbx]
     have Vp:=hrw.of_block (Hw.block b hbr);obtain⟨u0,a0,f0⟩:=Vp ((kept L m).length*3) (by omega);obtain⟨u1,a1,f1⟩:=Vp ((kept L m).length*3+1) (by omega);obtain⟨u2,a2,f2⟩:=Vp ((kept L m).length*3+2) (by omega);have Xz:kept L (m+1)=kept L m++[m]:=by rw[zx,aK hv]
     have MB:((W3.setCell ⟨b,(kept L m).length*3,none⟩ (.slice (SA m) (L m) (SC m))).setCell ⟨b,(kept L m).length*3+1,none⟩ (.slice (SB m) (LB m) (CB m))).setCell ⟨b,(kept L m).length*3+2,none⟩ (.slice (SV m) (LV m) (CV m))=W3.setCells b ((kept L m).length*3) [.slice (SA m) (L m) (SC m),.slice (SB m) (LB m) (CB m),.slice (SV m) (LV m) (CV m)]:=rfl
     gi_wp2
     try rw[MB]
     refine⟨⟨_,_,_,_,_,_,_,_,_,_,_,_,_,_,_,_,_,_,_,_,_,_,_,?_,rfl⟩,?_⟩
     ·refine⟨m+1,by omega,by omega,by rw[Xz];simp,by simp,by rw[Xz];simp;omega,λp x hp=> ?_,λq h1 h2=>((hk2 q (by omega) h2).of_block (Hw.block b hbr)).GU (.inr (by simp;omega)),Vp.set (by simp;omega),zD _ _ _ (AQ hg Hw)⟩;rw[Xz]at hp;rcases y7 p (kept L m).length with h|h
      ·rw[Cr h]at hp;exact((nz p x hp).of_block (Hw.block b hbr)).GU (.inl (by omega))
      ·rw[EN h]at hp;obtain⟨h1,h2⟩:=ko.1 hp;simp at h1 h2;obtain rfl:p=(kept L m).length:=by omega
       subst h2;exact tI.adC Vp (by omega)
     ·simp[intOf]<;>omega
    ·have hd:decide (L m=0)=true:=by simp;omega
     gi_wp2
     refine⟨trivial,?_⟩;refine(callsIn_wide.2 (green (SA m) (L m) (SC m) (SB m) (LB m) (CB m) (SV m) (LV m) (CV m) _)).mono ?_;rintro e W3 ⟨rfl,OM⟩;rw[hd];have Hw:Below wr.heap.size wr W3:=Qx.trans (OM.mono Qx.size);have Xz:kept L (m+1)=kept L m:=by rw[zx,aC (by omega)]
     gi_wp2
     refine⟨⟨_,_,_,_,_,_,_,_,_,_,_,_,_,_,_,_,_,_,_,_,_,_,_,?_,rfl⟩,?_⟩
     ·exact⟨m+1,by omega,by omega,by rw[Xz],by simp,by rw[Xz];omega,λp x hp=>(nz p x (by rw[<-Xz];exact hp)).of_block (Hw.block b hbr),λq h1 h2=>(hk2 q (by omega) h2).of_block (Hw.block b hbr),hrw.of_block (Hw.block b hbr),AQ hg Hw⟩
     ·simp[intOf]<;>omega
   ·obtain rfl:m=len:=by omega
    have hne:¬cap=(kept L m).length:=by omega
    obtain⟨vs,E9,apX⟩:=ae6 wr b ((kept L m).length*3) (m-(kept L m).length) (cap-(kept L m).length) 0 (by omega) (λo ho=>hrw o (by omega))
    gi_wp2
    go_ret
    refine⟨rfl,λp x hp=>(nz p x hp).GU (.inl ?_),zD vs _ wr hg⟩;have:=(ko.1 hp).1;omega
end Go.Proofs.YtoocplpcbdemhaaGreat
namespace Go.Proofs.YtoocplpcbdemhaaGreat.Vm
end Go.Proofs.YtoocplpcbdemhaaGreat.Vm
namespace Go.Proofs.YtoocplpcbdemhaaGreat
open Go Go.Proofs Go.RowKit
open Vm (busK islOf rowsR rowsR_length rowsR_get rowsR_bus rowsR_src rowsR_con rowsR_zero)
theorem below_grown {B:Nat}{w w' w2:World}{row:Option Nat}(h:Below B w w')(hg:w'.grownBy w2 row)(hB:B<=w.heap.size)(hr:∀k,row=some k->B<=k):Below B w w2:=
 ⟨hg.os.trans h.os,hg.tape.trans h.tape,hg.output.trans h.output,jS h.size hg.size,λk hk=>(hg.block k (by have:=h.size;omega) (λe=>by have:=hr k e.symm;omega)).trans (h.block k hk)⟩
def K2 (W:World)(sv:Value)(l:List Int):Prop:=
 (∃a cap,sv=.slice a 0 cap/\l=[])\/∃b off cap,sv=.slice (some ⟨b,off,none⟩) l.length cap/\b<W.heap.size/\∀j,j<l.length->W.cell? ⟨b,off+j,none⟩=some (.int .i64 l[j]!)
theorem K2.below {B:Nat}{W W':World}{sv:Value}{l:List Int}(h:K2 W sv l)(hs:W.heap.size<=B)(hB:Below B W W'):K2 W' sv l:=by
 rcases h with h|⟨b,off,cap,e,hb,hc⟩
 ·exact .inl h
 ·exact .inr ⟨b,off,cap,e,by have:=hB.size;omega,λj hj=>(hB.cell (p:=⟨b,off+j,none⟩) (show b<B by omega)).trans (hc j hj)⟩
structure XI (w:World)(bc pc:Array Value)(W:World):Prop where
 below:Below w.heap.size w W
 size:w.heap.size+2<=W.heap.size
 bx:W.heap[w.heap.size]? =some (.cells bc 29 (0,0))
 px:W.heap[w.heap.size+1]? =some (.cells pc 38 (0,0))
theorem XI.start (w:World)(bc pc:Array Value):XI w bc pc ((w.alloc (.cells bc 29)).alloc (.cells pc 38)):=by
 refine⟨((Below.refl _ w).alloc (dB _) _).alloc (by simp) _,by simp,?_,?_⟩
 ·exact(vQ _ _ (by simp)).trans (Cn w _)
 ·have:=Cn (w.alloc (.cells bc 29)) (.cells pc 38);simpa using this
theorem XI.step {w:World}{bc pc:Array Value}{W W':World}{B:Nat}(h:XI w bc pc W)(hB:Below B W W')(hs:w.heap.size+2<=B):XI w bc pc W':=
 ⟨h.below.trans (hB.mono (by omega)),jS h.size hB.size,(hB.block _ (by omega)).trans h.bx,(hB.block _ (by omega)).trans h.px⟩
theorem XI.b {w:World}{bc pc:Array Value}{W:World}(h:XI w bc pc W)(j:Nat):W.cell? ⟨w.heap.size,j,none⟩=bc[j]?:=by simp[World.cell?,h.bx]
theorem XI.p {w:World}{bc pc:Array Value}{W:World}(h:XI w bc pc W)(j:Nat):W.cell? ⟨w.heap.size+1,j,none⟩=pc[j]?:=by simp[World.cell?,h.px]
theorem Ue (n:Nat)(hn:n<=1000)(W:World):∃cs:Array Value,cs.toList=List.replicate (3*n) (.slice none 0 0)/\(Instr.makeSlice 51 (.int .i64 (n:Int)) (.int .i64 (n:Int))).run Tryz.prog W=.ok (.slice (some ⟨W.heap.size,0,none⟩) n n) (W.alloc (.cells cs 54)):=by
 have hi:(Tryz.prog.info? 54).map (λi=>(i.zero,i.size,i.bytes))=some (some (.agg #[.slice none 0 0,.slice none 0 0,.slice none 0 0]),3,72):=by kernel_rfl
 cases h:Tryz.prog.info? 54 with
 |none=>rw[h]at hi;cases hi
 |some i=>
  rw[h]at hi;simp only[ru,fZ,iP]at hi;obtain⟨hz,hsz,hby⟩:=hi;refine⟨_,?_,run_make W 51 54 i _ Tryz.underlying51 h hz .i64 .i64 n n (by omega) (Cu _) (by rw[hby];omega) (by omega)⟩;rw[hsz,bo,Nat.mul_comm n 3];unfold madeCells;rw[G0,List.eq_replicate_iff];refine⟨by simp,λv hv=> ?_⟩;obtain⟨j,_,rfl⟩:=kE.1 hv;show((#[.slice none 0 0,.slice none 0 0,.slice none 0 0]:Array Value)[j %3]!)=_;have h3:j %3<3:=Af _ (by omega);generalize j %3=q at h3
  match q,h3 with
  |0,_=>rfl
  |1,_=>rfl
  |2,_=>rfl
def km (b:Nat->Nat)(ok:Nat->Bool)(k:Nat):List (Int×Nat):=((List.range k).filter ok).map λ(i:Nat)=>((i:Int),b i)
theorem Ew {b:Nat->Nat}{ok:Nat->Bool}{k:Nat}(h:ok k=false):km b ok (k+1)=km b ok k:=by
 unfold km;rw[Cz,CK,Bh (by simp[h])];simp
theorem Gx {b:Nat->Nat}{ok:Nat->Bool}{k:Nat}(h:ok k=true):km b ok (k+1)=km b ok k++[((k:Int),b k)]:=by
 unfold km;rw[Cz,CK,vT h];simp
theorem Eu (b:Nat->Nat)(ok:Nat->Bool)(k:Nat):(km b ok k).length<=k:=by
 unfold km;rw[nS];have:=oO ok (List.range k)
 rwa [FR]at this
def LJ:Value->Option Addr| .slice a _ _=>a|_=>none
def age:Value->Nat| .slice _ l _=>l|_=>0
def LI:Value->Nat| .slice _ _ c=>c|_=>0
theorem zf {W:World}{base n:Nat}{v:Value}{xs:List Value}(h:W.ownsRow base 3 1 v n xs):v=.slice (LJ v) n (LI v):=by
 rcases h.2 with⟨rfl,rfl⟩|⟨g,cap,cur,rfl,_⟩
 ·rfl
 ·rfl
theorem PX {W:World}{base base' n:Nat}{v:Value}{xs:List Value}(h:W.ownsRow base 3 1 v n xs)(hb:base'<=base):W.ownsRow base' 3 1 v n xs:=by
 refine⟨h.1,h.2.imp (λh=>h) ?_⟩;rintro⟨g,cap,cur,e,h1,rest⟩;exact⟨g,cap,cur,e,by omega,rest⟩
def Dh (rows:List (List Int))(x:Nat):Nat:=(rows.getD (x*3) []).length
def Xp (w:World)(n:Nat)(rows:List (List Int))(e:Ending)(w':World):Prop:=
 ∃A,e=.returned (.slice (some ⟨A,0,none⟩) (kept (Dh rows) n).length n)/\Below w.heap.size w w'/\w.heap.size<=A/\A<w'.heap.size/\
  ∀p x,(kept (Dh rows) n)[p]? =some x->∀t,t<3->∃v xs,w'.cell? ⟨A,p*3+t,none⟩=some v/\rows[x*3+t]? =some xs/\w'.ownsRow w.heap.size 3 1 v xs.length (iv xs)
theorem W8 (first:List Int)(k f:Nat):(busK first k f).length<=k:=by
 unfold Vm.busK;rw[nS];have:=oO (λ(j:Nat)=>first.getD j (-1)==(f:Int)) (List.range k)
 rwa [FR]at this
theorem F5 (first:List Int)(l:List (Int×Nat))(f:Nat):(islOf first l f).length<=l.length:=by
 unfold Vm.islOf;rw[nS];exact oO ..
theorem yU {first:List Int}{k m i:Nat}{aA cons:List (Int×Nat)}(h1:k<=m)(h2:aA.length<=m)(h3:cons.length<=m):(Vm.rowAt first k aA cons i).length<=m:=by
 unfold Vm.rowAt;split
 ·exact jS (W8 ..) h1
 ·split
  ·exact jS (F5 ..) h2
  ·exact jS (F5 ..) h3
theorem BC {v:Value}{gg l cap:Nat}{W:World}{o:Obj}(h:v.ownBlock=some gg\/gg=W.heap.size+1):(Value.slice (some ⟨gg,0,none⟩) l cap).ownBlock=v.ownBlock\/(Value.slice (some ⟨gg,0,none⟩) l cap).ownBlock=some (W.alloc o).heap.size:=by
 rcases h with h|h
 ·exact .inl (by rw[h];rfl)
 ·exact .inr (by rw[h];simp[Value.ownBlock])
theorem wF {A i:Nat}{W2 wr w1:World}{o:Obj}{v u:Value}(hB:Below A W2 wr)(hA:A<=W2.heap.size)(hg:(wr.alloc o).grownBy w1 v.ownBlock)(hv:∀g,v.ownBlock=some g->A<=g){b:Nat}(hb:A<=b):Below A W2 (w1.setCell ⟨b,i,none⟩ u):=by
 have h1:Below A W2 (wr.alloc o):=hB.alloc (by have:=hB.size;omega) o;exact below_grown (below_grown h1 hg hA hv) (CF w1 b i u) hA (λk hk=>by cases hk;exact hb)
theorem ZQ {A n:Nat}{vals:List Value}{rows:List (List Int)}{W:World}(hT:Tb A A 54 vals rows W)(hrl:rows.length=3*n)(hn:n<=1000)(Lf:A<W.heap.size):
  Calls Tryz.prog 37 #[.slice (some ⟨A,0,none⟩) n n,.func (.func 38) #[] #[]] W λe w'=>e=.returned (.slice (some ⟨A,0,none⟩) (kept (Dh rows) n).length n)/\
   (∀p x,(kept (Dh rows) n)[p]? =some x->∀t,t<3->∃v xs,w'.cell? ⟨A,p*3+t,none⟩=some v/\rows[x*3+t]? =some xs/\w'.ownsRow A 3 1 v xs.length (iv xs))/\W.grownBy w' (some A):=by
 have hvl:vals.length=3*n:=by rw[hT.len,hrl]
 have get:∀i,i<3*n->∃v xs,vals[i]? =some v/\rows[i]? =some xs/\W.ownsRow A 3 1 v xs.length (iv xs)/\v=.slice (LJ (vals.getD i undef)) xs.length (LI (vals.getD i undef)):=λi hi=>by
  have h1:=dO (l:=vals) (i:=i) (by omega);have h2:=dO (l:=rows) (i:=i) (by omega);have h3:=hT.row _ _ _ h1 h2;refine⟨_,_,h1,h2,h3,?_⟩;rw[dD,h1];exact zf h3
 have hLn:∀i,i<3*n->age (vals.getD i undef)=(rows.getD i []).length:=λi hi=>by
  obtain⟨v,xs,h1,h2,_,h4⟩:=get i hi;rw[dD,dD,h1,h2];show age v=xs.length;rw[h4];rfl
 have cellAt:∀i,i<3*n->W.cell? ⟨A,i,none⟩=some (.slice (LJ (vals.getD i undef)) ((rows.getD i []).length) (LI (vals.getD i undef))):=λi hi=>by
  obtain⟨v,xs,h1,h2,_,h4⟩:=get i hi;rw[(hT.at_ h1).1,dD (l:=rows),h2];exact congrArg some h4
 have hd:=ae2 A n n (λj=>LJ (vals.getD (j*3) undef)) (λj=>LJ (vals.getD (j*3+1) undef)) (λj=>LJ (vals.getD (j*3+2) undef)) (Dh rows) (λj=>(rows.getD (j*3+1) []).length) (λj=>(rows.getD (j*3+2) []).length)
  (λj=>LI (vals.getD (j*3) undef)) (λj=>LI (vals.getD (j*3+1) undef)) (λj=>LI (vals.getD (j*3+2) undef)) W Lf (by omega) (dB _)
  (λj hj=>⟨cellAt _ (by omega),cellAt _ (by omega),cellAt _ (by omega)⟩) (λo ho=>by
   obtain⟨v,xs,h1,_⟩:=get o (by omega);exact⟨v,(hT.at_ h1).1,(hT.at_ h1).2⟩)
 refine(callsIn_wide.1 hd).mono ?_;rintro e w' ⟨rfl,hc,hg⟩;refine⟨rfl,λp x hp t ht=> ?_,hg⟩;have hx:x<n:=by
  have:=eC hp;unfold kept at this;exact gR.1 (uO.1 this).1
 obtain⟨v,xs,h1,h2,h3,h4⟩:=get (x*3+t) (by omega);have hk:=h3.kept hg (.inr (hT.ER _ _ h1));refine⟨v,xs,?_,h2,hk⟩;have BO:(rows.getD (x*3+t) []).length=xs.length:=by rw[dD,h2];rfl
 obtain⟨a0,a1,a2⟩:=hc p x hp;rw[h4,<-BO]
 match t,ht with
 |0,_=>exact a0
 |1,_=>exact a1
 |2,_=>exact a2
end Go.Proofs.YtoocplpcbdemhaaGreat
namespace Go.Proofs.YtoocplpcbdemhaaGreat.Vm
end Go.Proofs.YtoocplpcbdemhaaGreat.Vm
namespace Go.Proofs.YtoocplpcbdemhaaGreat
open Go Go.Proofs Go.RowKit Go.Shelf
theorem ju {P:Program}(w:World)(dT sT ty elem:TypeId)(g o ae3 amn:Nat)(a:Addr)(adE sCap sz:Nat)(cur:Array Value)(t:TypeId)(cs:List Value)
  (hu:P.underlying dT=some (.slice elem)) (hs:(P.info? elem).map (·.size)=some sz)
  (hg:w.heap[g]? =some (.cells cur t (0,0))) (hn:cs.length=Nat.min adE ae3*sz)
  (uS:∀j v,cs[j]? =some v->w.cell? (a.add j)=some v) (lI:o+cs.length<=cur.size) (h1:∀v∈cs,v.oneCell'=true):
  (Builtin.copy_ #[dT,sT] ty #[.slice (some ⟨g,o,none⟩) ae3 amn,.slice (some a) adE sCap]).run P w=
   .ok (goInt (Nat.min adE ae3)) (w.setRow g (cur.toList.take o++cs++cur.toList.drop (o+cs.length)).toArray):=by
 have hl:=run_loadCells_list (P:=P) w a cs uS;have hst:=run_storeCells_at P g o t cs 0 cur w hg (by simpa using lI) h1;cases hq:P.info? elem with
 |none=>simp[hq]at hs
 |some i=>
  have hi:i.size=sz:=by simpa[hq]using hs
  simp[Builtin.copy_,qz hu,Builtin.lenOf,Builtin.firstCells,sizeOf,typeInfo,hq,hi,<-hn,hl,hst]
def rN (xs:List Value)(cur:Array Value)(m:Nat):Prop:=∀j,j<m->cur[j]? =xs[j %xs.length]?
theorem rN.more {xs:List Value}{cur:Array Value}{k m sz:Nat}(h:rN xs cur (k*sz))(hx:xs.length=sz)(hz:0<sz)(hm:m<=k)(cs:List Value)(hcs:cs=(cur.toList.take (m*sz)))(lI:(k+m)*sz<=cur.size):
  rN xs (cur.toList.take (k*sz)++cs++cur.toList.drop (k*sz+cs.length)).toArray ((k+m)*sz)/\(cur.toList.take (k*sz)++cs++cur.toList.drop (k*sz+cs.length)).toArray.size=cur.size:=by
 have Xy:m*sz<=k*sz:=mC _ hm;have ah0:(k+m)*sz=k*sz+m*sz:=Cv ..;have hl:cs.length=m*sz:=by rw[hcs,Cp,y9];omega
 refine⟨λj hj=> ?_,by simp[hl];omega⟩;have hk:(cur.toList.take (k*sz)).length=k*sz:=by rw[Cp,y9];omega
 rw[Bj,lz];rcases y7 j (k*sz)with hlt|uu
 ·rw[Cr (by omega),kG,aK hlt,Ak];exact h j hlt
 ·rw[EN (by omega),hk,Cr (by omega),hcs,kG,aK (by omega),Ak,h (j-k*sz) (by omega),hx];congr 1;have e:j=(j-k*sz)+sz*k:=by rw[Nat.mul_comm sz k];omega
  conv=>rhs;rw[e]
  rw[Nat.add_mul_mod_self_left]
theorem GC (j:Nat):((Value.agg #[.int .i64 0,.int .i64 0,.int .i64 0,.int .i64 0]).cells[j %(Value.agg #[.int .i64 0,.int .i64 0,.int .i64 0,.int .i64 0]).cells.size]!).oneCell'=true:=by
 have h:j %4<4:=Af _ (by omega);show((#[.int .i64 0,.int .i64 0,.int .i64 0,.int .i64 0]:Array Value)[j %4]!).oneCell'=true;generalize j %4=i at h
 match i,h with|0,_=>rfl|1,_=>rfl|2,_=>rfl|3,_=>rfl
theorem Uc (n:Int)(hn:0<=n/\n<=1000)(W:World):∃cur:Array Value,cur.size=n.toNat*4/\(∀u∈cur.toList,u.oneCell'=true)/\
  (Instr.makeSlice 35 (.int .i64 n) (.int .i64 n)).run Tryz.prog W=.ok (.slice (some ⟨W.heap.size,0,none⟩) n.toNat n.toNat) (W.alloc (.cells cur 59)):=by
 have hi:(Tryz.prog.info? 59).map (λi=>(i.zero,i.size,i.bytes))=some (some (.agg #[.int .i64 0,.int .i64 0,.int .i64 0,.int .i64 0]),4,32):=by kernel_rfl
 cases h:Tryz.prog.info? 59 with
 |none=>rw[h]at hi;cases hi
 |some i=>
  rw[h]at hi;simp only[ru,fZ,iP]at hi;obtain⟨hz,hsz,hby⟩:=hi;refine⟨_,?_,?_,run_make W 35 59 i _ Tryz.underlying35 h hz .i64 .i64 n n hn.1 (Cu _) (by rw[hby];omega) (by omega)⟩
  ·rw[hsz];exact size_madeCells ..
  ·intro u hu;simp only[madeCells,G0,kE]at hu;obtain⟨j,_,rfl⟩:=hu;exact GC j
set_option maxRecDepth 100000 in
set_option maxHeartbeats 4000000 in
theorem Ym (xs:List Value)(hx:xs.length=4)(h1:∀u∈xs,u.oneCell'=true)(b off cap:Nat)(n:Int)(hn:0<=n/\n<=1000)(w:World)(hb:b<w.heap.size)(hc:∀(j:Nat) v,xs[j]? =some v->w.cell? ⟨b,off+j,none⟩=some v):
  Calls Tryz.prog 88 #[.slice (some ⟨b,off,none⟩) 1 cap,.int .i64 n] w λe w'=>
   ∃g cur,e=.returned (.slice (some ⟨g,0,none⟩) n.toNat n.toNat)/\Below w.heap.size w w'/\w.heap.size<=g/\w'.heap[g]? =some (.cells cur 59 (0,0))/\cur.size=n.toNat*4/\(∀u∈cur.toList,u.oneCell'=true)/\rN xs cur (n.toNat*4):=by
 have r_:decide (n<0)=false:=by simpa using hn.1
 obtain⟨k,rfl⟩:∃k:Nat,n=(k:Int):=⟨n.toNat,by omega⟩
 have hk:k<=1000:=by omega
 have hmul:∀W,Calls Tryz.prog 138 #[.int .u64 1,.int .u64 (k:Int)] W λe w'=>e=.returned (.tuple #[.int .u64 0,.int .u64 (k:Int)])/\w'=W:=λW=>by
  have h:=Any.bits_Mul Tryz.lays212 1 k (by omega) (by omega) W;rw[show 1*k/18446744073709551616=0 by omega,show 1*k %18446744073709551616=k by omega]at h;exact h
 have u1:IntKind.u64.wrap (1:Int)=1:=rfl;have u2:IntKind.u64.wrap (k:Int)=k:=by rw[IntKind.wrap_u64];omega
 have u3:IntKind.i64.wrap (k:Int)=k:=by rw[FI];omega
 have hu:Tryz.prog.underlying 35=some (.slice 59):=Tryz.underlying35;have hsz:(Tryz.prog.info? 59).map (·.size)=some 4:=by kernel_rfl
 obtain⟨tA,hs0,h10,Xy⟩:=Uc (k:Int) ⟨by omega,by omega⟩ w;simp only[bo]at hs0 Xy;obtain⟨W1,hW1⟩:∃W1,w.alloc (.cells tA 59)=W1:=⟨_,rfl⟩
 have OI:W1.heap[w.heap.size]? =some (.cells tA 59 (0,0)):=by rw[<-hW1];exact Cn w _
 have rI:Below w.heap.size w W1:=by rw[<-hW1];exact(Below.refl _ w).alloc (dB _) _
 have hm1:Nat.min 1 k=1\/(Nat.min 1 k=0/\k=0):=by
  rcases Nat.eq_zero_or_pos k with h|h
  ·subst h;exact .inr ⟨rfl,rfl⟩
  ·exact .inl (Nat.min_eq_left h)
 have Dy:(xs.take (Nat.min 1 k*4)).length=Nat.min 1 k*4:=by rw[Cp];omega
 have VK:=ju (P:=Tryz.prog) W1 35 35 3 59 w.heap.size 0 k k ⟨b,off,none⟩ 1 cap 4 tA 59 (xs.take (Nat.min 1 k*4)) hu hsz OI Dy
  (λj v hv=>by
   rw[kG]at hv;split at hv
   ·rw[show((⟨b,off,none⟩:Addr).add j)=⟨b,off+j,none⟩ by unfold Addr.add;split<;>simp_all];exact(rI.cell (p:=⟨b,off+j,none⟩) hb).trans (hc j v hv)
   ·cases hv) (by rw[Dy,hs0];have:Nat.min 1 k<=k:=I8 1 k;have:=mC 4 this;omega) (λv hv=>h1 v (mZ hv))
 obtain⟨W2,hW2⟩:∃W2,W1.setRow w.heap.size (tA.toList.take 0++xs.take (Nat.min 1 k*4)++tA.toList.drop (0+(xs.take (Nat.min 1 k*4)).length)).toArray=W2:=⟨_,rfl⟩
 rw[hW2]at VK;have Vo:W1.heap.size=w.heap.size+1:=by rw[<-hW1];simp
 have E_:W2.heap.size=w.heap.size+1:=by rw[<-hW2];simp[World.setRow,Vo]
 have OO:Below w.heap.size w W2:=by rw[<-hW2];exact rI.trans ⟨rfl,rfl,rfl,by simp[World.setRow],λi hi=>setRow_other _ _ _ _ (by omega)⟩
 have hst:∃cur:Array Value,W2.heap[w.heap.size]? =some (.cells cur 59 (0,0))/\cur.size=k*4/\(∀u∈cur.toList,u.oneCell'=true)/\rN xs cur (Nat.min 1 k*4):=by
  refine⟨_,by rw[<-hW2];exact setRow_heap _ _ _ _ _ _ OI,?_,?_,?_⟩
  ·simp only[iN,gq,oa,jf,List.length_drop,y9,Dy,hs0];have:Nat.min 1 k<=k:=I8 1 k;have:=mC 4 this;omega
  ·intro u hu;simp only[iN,gq]at hu;rcases eO.1 hu with h|h
   ·exact h1 u (mZ h)
   ·exact h10 u (xh h)
  ·intro j hj;simp only[iN,gq,Bj];rw[Cr (by rw[Dy];exact hj),kG,aK hj,sK (by omega)]
 obtain⟨Wk,hg2,hs2,h12,hA2⟩:=hst
 go_enter Tryz.func88,Tryz.ntmps88
 go_wp2_with (go_at_call 138;refine(hmul _).mono ?_;rintro e w' ⟨rfl,he⟩;rw[he])
 go_loopw [8] (λt wr=>∃(m:Nat) (cur:Array Value),m<=k/\(0<k->0<m)/\t=.int .i64 (m:Nat)/\wr.heap[w.heap.size]? =some (.cells cur 59 (0,0))/\cur.size=k*4/\(∀u∈cur.toList,u.oneCell'=true)/\rN xs cur (m*4)/\Below w.heap.size w wr)
  (λt _=>k-(intOf t).toNat)
 case atStart=>exact⟨Nat.min 1 k,Wk,I8 _ _,λh=>by rcases hm1 with h'|⟨_,h'⟩<;>omega,rfl,hg2,hs2,h12,hA2,OO⟩
 case round=>
  obtain⟨m,cur,ahs,JV,rfl,hg,hs,h1c,hA,hB⟩:=hrel;by_cases hlt:m<k
  ·have hm0:=JV (by omega);obtain⟨q,hq⟩:∃q,Nat.min m (k-m)=q:=⟨_,rfl⟩
   have Vr:0<q/\q<=m/\m+q<=k:=by
    have a1:q<=m:=by rw[<-hq];exact Nat.min_le_left _ _
    have a2:q<=k-m:=by rw[<-hq];exact I8 _ _
    have a3:0<q:=by rw[<-hq];exact Nat.lt_min.2 ⟨hm0,by omega⟩
    clear hq;omega
   have hgd:wr.drew.heap[w.heap.size]? =some (.cells cur 59 (0,0)):=hg;have hql:(cur.toList.take (q*4)).length=q*4:=by rw[Cp,y9];omega
   obtain⟨hA',dL⟩:=hA.more hx (by omega) Vr.2.1 (cur.toList.take (q*4)) rfl (by omega);have hcp:=ju (P:=Tryz.prog) wr.drew 35 35 3 59 w.heap.size (m*4) (k-m) (k-m) ⟨w.heap.size,0,none⟩ m k 4 cur 59 (cur.toList.take (q*4)) hu hsz hgd (by rw[hq];exact hql)
    (λj v hv=>by
     rw[kG]at hv;split at hv
     ·rw[show((⟨w.heap.size,0,none⟩:Addr).add j)=⟨w.heap.size,j,none⟩ by unfold Addr.add;split<;>simp_all];simp only[World.cell?,hgd];simpa using hv
     ·cases hv) (by rw[hql];omega) (λv hv=>h1c v (mZ hv))
   rw[hq]at hcp;obtain⟨W3,hW3⟩:∃W3,wr.drew.setRow w.heap.size (cur.toList.take (m*4)++cur.toList.take (q*4)++cur.toList.drop (m*4+(cur.toList.take (q*4)).length)).toArray=W3:=⟨_,rfl⟩
   rw[hW3]at hcp;have OM:Below w.heap.size w W3:=by rw[<-hW3];exact hB.trans ⟨rfl,rfl,rfl,by simp[World.setRow],λi hi=>setRow_other _ _ _ _ (by omega)⟩
   have hg3:W3.heap[w.heap.size]? =some (.cells (cur.toList.take (m*4)++cur.toList.take (q*4)++cur.toList.drop (m*4+(cur.toList.take (q*4)).length)).toArray 59 (0,0)):=by rw[<-hW3];exact setRow_heap _ _ _ _ _ _ hgd
   have u4:IntKind.i64.wrap ((m:Int)+(q:Int))=((m+q:Nat):Int):=by rw[FI];omega
   go_wp2
   go_region
   go_wp2
   go_roundw
   case rel=>exact⟨m+q,_,Vr.2.2,λ_=>by omega,by simp,hg3,by rw[dL,hs],λu hu=>by
    simp only[]at hu;rcases eO.1 hu with h|h
    ·rcases eO.1 h with h|h
     ·exact h1c u (mZ h)
     ·exact h1c u (mZ h)
    ·exact h1c u (xh h),hA',OM⟩
   case measure=>simp[intOf]<;>omega
  ·obtain rfl:m=k:=by omega
   go_wp2
   go_ret
   exact⟨_,cur,rfl,hB,dB _,hg,hs,h1c,hA⟩
theorem GF (j:Nat):((Value.agg #[.int .i64 0,.int .i64 0,.int .i64 0]).cells[j %(Value.agg #[.int .i64 0,.int .i64 0,.int .i64 0]).cells.size]!).oneCell'=true:=by
 have h:j %3<3:=Af _ (by omega);show((#[.int .i64 0,.int .i64 0,.int .i64 0]:Array Value)[j %3]!).oneCell'=true;generalize j %3=i at h
 match i,h with|0,_=>rfl|1,_=>rfl|2,_=>rfl
theorem Uf (n:Int)(hn:0<=n/\n<=1000)(W:World):∃cur:Array Value,cur.size=n.toNat*3/\(∀u∈cur.toList,u.oneCell'=true)/\
  (Instr.makeSlice 68 (.int .i64 n) (.int .i64 n)).run Tryz.prog W=.ok (.slice (some ⟨W.heap.size,0,none⟩) n.toNat n.toNat) (W.alloc (.cells cur 67)):=by
 have hi:(Tryz.prog.info? 67).map (λi=>(i.zero,i.size,i.bytes))=some (some (.agg #[.int .i64 0,.int .i64 0,.int .i64 0]),3,24):=by kernel_rfl
 cases h:Tryz.prog.info? 67 with
 |none=>rw[h]at hi;cases hi
 |some i=>
  rw[h]at hi;simp only[ru,fZ,iP]at hi;obtain⟨hz,hsz,hby⟩:=hi;refine⟨_,?_,?_,run_make W 68 67 i _ Tryz.underlying68 h hz .i64 .i64 n n hn.1 (Cu _) (by rw[hby];omega) (by omega)⟩
  ·rw[hsz];exact size_madeCells ..
  ·intro u hu;simp only[madeCells,G0,kE]at hu;obtain⟨j,_,rfl⟩:=hu;exact GF j
set_option maxRecDepth 100000 in
set_option maxHeartbeats 4000000 in
theorem Yp (xs:List Value)(hx:xs.length=3)(h1:∀u∈xs,u.oneCell'=true)(b off cap:Nat)(n:Int)(hn:0<=n/\n<=1000)(w:World)(hb:b<w.heap.size)(hc:∀(j:Nat) v,xs[j]? =some v->w.cell? ⟨b,off+j,none⟩=some v):
  Calls Tryz.prog 115 #[.slice (some ⟨b,off,none⟩) 1 cap,.int .i64 n] w λe w'=>
   ∃g cur,e=.returned (.slice (some ⟨g,0,none⟩) n.toNat n.toNat)/\Below w.heap.size w w'/\w.heap.size<=g/\w'.heap[g]? =some (.cells cur 67 (0,0))/\cur.size=n.toNat*3/\(∀u∈cur.toList,u.oneCell'=true)/\rN xs cur (n.toNat*3):=by
 have r_:decide (n<0)=false:=by simpa using hn.1
 obtain⟨k,rfl⟩:∃k:Nat,n=(k:Int):=⟨n.toNat,by omega⟩
 have hk:k<=1000:=by omega
 have hmul:∀W,Calls Tryz.prog 138 #[.int .u64 1,.int .u64 (k:Int)] W λe w'=>e=.returned (.tuple #[.int .u64 0,.int .u64 (k:Int)])/\w'=W:=λW=>by
  have h:=Any.bits_Mul Tryz.lays212 1 k (by omega) (by omega) W;rw[show 1*k/18446744073709551616=0 by omega,show 1*k %18446744073709551616=k by omega]at h;exact h
 have u1:IntKind.u64.wrap (1:Int)=1:=rfl;have u2:IntKind.u64.wrap (k:Int)=k:=by rw[IntKind.wrap_u64];omega
 have u3:IntKind.i64.wrap (k:Int)=k:=by rw[FI];omega
 have hu:Tryz.prog.underlying 68=some (.slice 67):=Tryz.underlying68;have hsz:(Tryz.prog.info? 67).map (·.size)=some 3:=by kernel_rfl
 obtain⟨tA,hs0,h10,Xy⟩:=Uf (k:Int) ⟨by omega,by omega⟩ w;simp only[bo]at hs0 Xy;obtain⟨W1,hW1⟩:∃W1,w.alloc (.cells tA 67)=W1:=⟨_,rfl⟩
 have OI:W1.heap[w.heap.size]? =some (.cells tA 67 (0,0)):=by rw[<-hW1];exact Cn w _
 have rI:Below w.heap.size w W1:=by rw[<-hW1];exact(Below.refl _ w).alloc (dB _) _
 have hm1:Nat.min 1 k=1\/(Nat.min 1 k=0/\k=0):=by
  rcases Nat.eq_zero_or_pos k with h|h
  ·subst h;exact .inr ⟨rfl,rfl⟩
  ·exact .inl (Nat.min_eq_left h)
 have Dy:(xs.take (Nat.min 1 k*3)).length=Nat.min 1 k*3:=by rw[Cp];omega
 have VK:=ju (P:=Tryz.prog) W1 68 68 3 67 w.heap.size 0 k k ⟨b,off,none⟩ 1 cap 3 tA 67 (xs.take (Nat.min 1 k*3)) hu hsz OI Dy
  (λj v hv=>by
   rw[kG]at hv;split at hv
   ·rw[show((⟨b,off,none⟩:Addr).add j)=⟨b,off+j,none⟩ by unfold Addr.add;split<;>simp_all];exact(rI.cell (p:=⟨b,off+j,none⟩) hb).trans (hc j v hv)
   ·cases hv) (by rw[Dy,hs0];have:Nat.min 1 k<=k:=I8 1 k;have:=mC 3 this;omega) (λv hv=>h1 v (mZ hv))
 obtain⟨W2,hW2⟩:∃W2,W1.setRow w.heap.size (tA.toList.take 0++xs.take (Nat.min 1 k*3)++tA.toList.drop (0+(xs.take (Nat.min 1 k*3)).length)).toArray=W2:=⟨_,rfl⟩
 rw[hW2]at VK;have Vo:W1.heap.size=w.heap.size+1:=by rw[<-hW1];simp
 have E_:W2.heap.size=w.heap.size+1:=by rw[<-hW2];simp[World.setRow,Vo]
 have OO:Below w.heap.size w W2:=by rw[<-hW2];exact rI.trans ⟨rfl,rfl,rfl,by simp[World.setRow],λi hi=>setRow_other _ _ _ _ (by omega)⟩
 have hst:∃cur:Array Value,W2.heap[w.heap.size]? =some (.cells cur 67 (0,0))/\cur.size=k*3/\(∀u∈cur.toList,u.oneCell'=true)/\rN xs cur (Nat.min 1 k*3):=by
  refine⟨_,by rw[<-hW2];exact setRow_heap _ _ _ _ _ _ OI,?_,?_,?_⟩
  ·simp only[iN,gq,oa,jf,List.length_drop,y9,Dy,hs0];have:Nat.min 1 k<=k:=I8 1 k;have:=mC 3 this;omega
  ·intro u hu;simp only[iN,gq]at hu;rcases eO.1 hu with h|h
   ·exact h1 u (mZ h)
   ·exact h10 u (xh h)
  ·intro j hj;simp only[iN,gq,Bj];rw[Cr (by rw[Dy];exact hj),kG,aK hj,sK (by omega)]
 obtain⟨Wk,hg2,hs2,h12,hA2⟩:=hst
 go_enter Tryz.func115,Tryz.ntmps115
 go_wp2_with (go_at_call 138;refine(hmul _).mono ?_;rintro e w' ⟨rfl,he⟩;rw[he])
 go_loopw [8] (λt wr=>∃(m:Nat) (cur:Array Value),m<=k/\(0<k->0<m)/\t=.int .i64 (m:Nat)/\wr.heap[w.heap.size]? =some (.cells cur 67 (0,0))/\cur.size=k*3/\(∀u∈cur.toList,u.oneCell'=true)/\rN xs cur (m*3)/\Below w.heap.size w wr)
  (λt _=>k-(intOf t).toNat)
 case atStart=>exact⟨Nat.min 1 k,Wk,I8 _ _,λh=>by rcases hm1 with h'|⟨_,h'⟩<;>omega,rfl,hg2,hs2,h12,hA2,OO⟩
 case round=>
  obtain⟨m,cur,ahs,JV,rfl,hg,hs,h1c,hA,hB⟩:=hrel;by_cases hlt:m<k
  ·have hm0:=JV (by omega);obtain⟨q,hq⟩:∃q,Nat.min m (k-m)=q:=⟨_,rfl⟩
   have Vr:0<q/\q<=m/\m+q<=k:=by
    have a1:q<=m:=by rw[<-hq];exact Nat.min_le_left _ _
    have a2:q<=k-m:=by rw[<-hq];exact I8 _ _
    have a3:0<q:=by rw[<-hq];exact Nat.lt_min.2 ⟨hm0,by omega⟩
    clear hq;omega
   have hgd:wr.drew.heap[w.heap.size]? =some (.cells cur 67 (0,0)):=hg;have hql:(cur.toList.take (q*3)).length=q*3:=by rw[Cp,y9];omega
   obtain⟨hA',dL⟩:=hA.more hx (by omega) Vr.2.1 (cur.toList.take (q*3)) rfl (by omega);have hcp:=ju (P:=Tryz.prog) wr.drew 68 68 3 67 w.heap.size (m*3) (k-m) (k-m) ⟨w.heap.size,0,none⟩ m k 3 cur 67 (cur.toList.take (q*3)) hu hsz hgd (by rw[hq];exact hql)
    (λj v hv=>by
     rw[kG]at hv;split at hv
     ·rw[show((⟨w.heap.size,0,none⟩:Addr).add j)=⟨w.heap.size,j,none⟩ by unfold Addr.add;split<;>simp_all];simp only[World.cell?,hgd];simpa using hv
     ·cases hv) (by rw[hql];omega) (λv hv=>h1c v (mZ hv))
   rw[hq]at hcp;obtain⟨W3,hW3⟩:∃W3,wr.drew.setRow w.heap.size (cur.toList.take (m*3)++cur.toList.take (q*3)++cur.toList.drop (m*3+(cur.toList.take (q*3)).length)).toArray=W3:=⟨_,rfl⟩
   rw[hW3]at hcp;have OM:Below w.heap.size w W3:=by rw[<-hW3];exact hB.trans ⟨rfl,rfl,rfl,by simp[World.setRow],λi hi=>setRow_other _ _ _ _ (by omega)⟩
   have hg3:W3.heap[w.heap.size]? =some (.cells (cur.toList.take (m*3)++cur.toList.take (q*3)++cur.toList.drop (m*3+(cur.toList.take (q*3)).length)).toArray 67 (0,0)):=by rw[<-hW3];exact setRow_heap _ _ _ _ _ _ hgd
   have u4:IntKind.i64.wrap ((m:Int)+(q:Int))=((m+q:Nat):Int):=by rw[FI];omega
   go_wp2
   go_region
   go_wp2
   go_roundw
   case rel=>exact⟨m+q,_,Vr.2.2,λ_=>by omega,by simp,hg3,by rw[dL,hs],λu hu=>by
    simp only[]at hu;rcases eO.1 hu with h|h
    ·rcases eO.1 h with h|h
     ·exact h1c u (mZ h)
     ·exact h1c u (mZ h)
    ·exact h1c u (xh h),hA',OM⟩
   case measure=>simp[intOf]<;>omega
  ·obtain rfl:m=k:=by omega
   go_wp2
   go_ret
   exact⟨_,cur,rfl,hB,dB _,hg,hs,h1c,hA⟩
theorem GD (j:Nat):((Value.agg #[.int .i64 0,.int .i64 0]).cells[j %(Value.agg #[.int .i64 0,.int .i64 0]).cells.size]!).oneCell'=true:=by
 have h:j %2<2:=Af _ (by omega);show((#[.int .i64 0,.int .i64 0]:Array Value)[j %2]!).oneCell'=true;generalize j %2=i at h
 match i,h with|0,_=>rfl|1,_=>rfl
theorem Ud (n:Int)(hn:0<=n/\n<=1000)(W:World):∃cur:Array Value,cur.size=n.toNat*2/\(∀u∈cur.toList,u.oneCell'=true)/\
  (Instr.makeSlice 39 (.int .i64 n) (.int .i64 n)).run Tryz.prog W=.ok (.slice (some ⟨W.heap.size,0,none⟩) n.toNat n.toNat) (W.alloc (.cells cur 91)):=by
 have hi:(Tryz.prog.info? 91).map (λi=>(i.zero,i.size,i.bytes))=some (some (.agg #[.int .i64 0,.int .i64 0]),2,16):=by kernel_rfl
 cases h:Tryz.prog.info? 91 with
 |none=>rw[h]at hi;cases hi
 |some i=>
  rw[h]at hi;simp only[ru,fZ,iP]at hi;obtain⟨hz,hsz,hby⟩:=hi;refine⟨_,?_,?_,run_make W 39 91 i _ Tryz.underlying39 h hz .i64 .i64 n n hn.1 (Cu _) (by rw[hby];omega) (by omega)⟩
  ·rw[hsz];exact size_madeCells ..
  ·intro u hu;simp only[madeCells,G0,kE]at hu;obtain⟨j,_,rfl⟩:=hu;exact GD j
set_option maxRecDepth 100000 in
set_option maxHeartbeats 4000000 in
theorem Yn (xs:List Value)(hx:xs.length=2)(h1:∀u∈xs,u.oneCell'=true)(b off cap:Nat)(n:Int)(hn:0<=n/\n<=1000)(w:World)(hb:b<w.heap.size)(hc:∀(j:Nat) v,xs[j]? =some v->w.cell? ⟨b,off+j,none⟩=some v):
  Calls Tryz.prog 137 #[.slice (some ⟨b,off,none⟩) 1 cap,.int .i64 n] w λe w'=>
   ∃g cur,e=.returned (.slice (some ⟨g,0,none⟩) n.toNat n.toNat)/\Below w.heap.size w w'/\w.heap.size<=g/\w'.heap[g]? =some (.cells cur 91 (0,0))/\cur.size=n.toNat*2/\(∀u∈cur.toList,u.oneCell'=true)/\rN xs cur (n.toNat*2):=by
 have r_:decide (n<0)=false:=by simpa using hn.1
 obtain⟨k,rfl⟩:∃k:Nat,n=(k:Int):=⟨n.toNat,by omega⟩
 have hk:k<=1000:=by omega
 have hmul:∀W,Calls Tryz.prog 138 #[.int .u64 1,.int .u64 (k:Int)] W λe w'=>e=.returned (.tuple #[.int .u64 0,.int .u64 (k:Int)])/\w'=W:=λW=>by
  have h:=Any.bits_Mul Tryz.lays212 1 k (by omega) (by omega) W;rw[show 1*k/18446744073709551616=0 by omega,show 1*k %18446744073709551616=k by omega]at h;exact h
 have u1:IntKind.u64.wrap (1:Int)=1:=rfl;have u2:IntKind.u64.wrap (k:Int)=k:=by rw[IntKind.wrap_u64];omega
 have u3:IntKind.i64.wrap (k:Int)=k:=by rw[FI];omega
 have hu:Tryz.prog.underlying 39=some (.slice 91):=Tryz.underlying39;have hsz:(Tryz.prog.info? 91).map (·.size)=some 2:=by kernel_rfl
 obtain⟨tA,hs0,h10,Xy⟩:=Ud (k:Int) ⟨by omega,by omega⟩ w;simp only[bo]at hs0 Xy;obtain⟨W1,hW1⟩:∃W1,w.alloc (.cells tA 91)=W1:=⟨_,rfl⟩
 have OI:W1.heap[w.heap.size]? =some (.cells tA 91 (0,0)):=by rw[<-hW1];exact Cn w _
 have rI:Below w.heap.size w W1:=by rw[<-hW1];exact(Below.refl _ w).alloc (dB _) _
 have hm1:Nat.min 1 k=1\/(Nat.min 1 k=0/\k=0):=by
  rcases Nat.eq_zero_or_pos k with h|h
  ·subst h;exact .inr ⟨rfl,rfl⟩
  ·exact .inl (Nat.min_eq_left h)
 have Dy:(xs.take (Nat.min 1 k*2)).length=Nat.min 1 k*2:=by rw[Cp];omega
 have VK:=ju (P:=Tryz.prog) W1 39 39 3 91 w.heap.size 0 k k ⟨b,off,none⟩ 1 cap 2 tA 91 (xs.take (Nat.min 1 k*2)) hu hsz OI Dy
  (λj v hv=>by
   rw[kG]at hv;split at hv
   ·rw[show((⟨b,off,none⟩:Addr).add j)=⟨b,off+j,none⟩ by unfold Addr.add;split<;>simp_all];exact(rI.cell (p:=⟨b,off+j,none⟩) hb).trans (hc j v hv)
   ·cases hv) (by rw[Dy,hs0];have:Nat.min 1 k<=k:=I8 1 k;have:=mC 2 this;omega) (λv hv=>h1 v (mZ hv))
 obtain⟨W2,hW2⟩:∃W2,W1.setRow w.heap.size (tA.toList.take 0++xs.take (Nat.min 1 k*2)++tA.toList.drop (0+(xs.take (Nat.min 1 k*2)).length)).toArray=W2:=⟨_,rfl⟩
 rw[hW2]at VK;have Vo:W1.heap.size=w.heap.size+1:=by rw[<-hW1];simp
 have E_:W2.heap.size=w.heap.size+1:=by rw[<-hW2];simp[World.setRow,Vo]
 have OO:Below w.heap.size w W2:=by rw[<-hW2];exact rI.trans ⟨rfl,rfl,rfl,by simp[World.setRow],λi hi=>setRow_other _ _ _ _ (by omega)⟩
 have hst:∃cur:Array Value,W2.heap[w.heap.size]? =some (.cells cur 91 (0,0))/\cur.size=k*2/\(∀u∈cur.toList,u.oneCell'=true)/\rN xs cur (Nat.min 1 k*2):=by
  refine⟨_,by rw[<-hW2];exact setRow_heap _ _ _ _ _ _ OI,?_,?_,?_⟩
  ·simp only[iN,gq,oa,jf,List.length_drop,y9,Dy,hs0];have:Nat.min 1 k<=k:=I8 1 k;have:=mC 2 this;omega
  ·intro u hu;simp only[iN,gq]at hu;rcases eO.1 hu with h|h
   ·exact h1 u (mZ h)
   ·exact h10 u (xh h)
  ·intro j hj;simp only[iN,gq,Bj];rw[Cr (by rw[Dy];exact hj),kG,aK hj,sK (by omega)]
 obtain⟨Wk,hg2,hs2,h12,hA2⟩:=hst
 go_enter Tryz.func137,Tryz.ntmps137
 go_wp2_with (go_at_call 138;refine(hmul _).mono ?_;rintro e w' ⟨rfl,he⟩;rw[he])
 go_loopw [8] (λt wr=>∃(m:Nat) (cur:Array Value),m<=k/\(0<k->0<m)/\t=.int .i64 (m:Nat)/\wr.heap[w.heap.size]? =some (.cells cur 91 (0,0))/\cur.size=k*2/\(∀u∈cur.toList,u.oneCell'=true)/\rN xs cur (m*2)/\Below w.heap.size w wr)
  (λt _=>k-(intOf t).toNat)
 case atStart=>exact⟨Nat.min 1 k,Wk,I8 _ _,λh=>by rcases hm1 with h'|⟨_,h'⟩<;>omega,rfl,hg2,hs2,h12,hA2,OO⟩
 case round=>
  obtain⟨m,cur,ahs,JV,rfl,hg,hs,h1c,hA,hB⟩:=hrel;by_cases hlt:m<k
  ·have hm0:=JV (by omega);obtain⟨q,hq⟩:∃q,Nat.min m (k-m)=q:=⟨_,rfl⟩
   have Vr:0<q/\q<=m/\m+q<=k:=by
    have a1:q<=m:=by rw[<-hq];exact Nat.min_le_left _ _
    have a2:q<=k-m:=by rw[<-hq];exact I8 _ _
    have a3:0<q:=by rw[<-hq];exact Nat.lt_min.2 ⟨hm0,by omega⟩
    clear hq;omega
   have hgd:wr.drew.heap[w.heap.size]? =some (.cells cur 91 (0,0)):=hg;have hql:(cur.toList.take (q*2)).length=q*2:=by rw[Cp,y9];omega
   obtain⟨hA',dL⟩:=hA.more hx (by omega) Vr.2.1 (cur.toList.take (q*2)) rfl (by omega);have hcp:=ju (P:=Tryz.prog) wr.drew 39 39 3 91 w.heap.size (m*2) (k-m) (k-m) ⟨w.heap.size,0,none⟩ m k 2 cur 91 (cur.toList.take (q*2)) hu hsz hgd (by rw[hq];exact hql)
    (λj v hv=>by
     rw[kG]at hv;split at hv
     ·rw[show((⟨w.heap.size,0,none⟩:Addr).add j)=⟨w.heap.size,j,none⟩ by unfold Addr.add;split<;>simp_all];simp only[World.cell?,hgd];simpa using hv
     ·cases hv) (by rw[hql];omega) (λv hv=>h1c v (mZ hv))
   rw[hq]at hcp;obtain⟨W3,hW3⟩:∃W3,wr.drew.setRow w.heap.size (cur.toList.take (m*2)++cur.toList.take (q*2)++cur.toList.drop (m*2+(cur.toList.take (q*2)).length)).toArray=W3:=⟨_,rfl⟩
   rw[hW3]at hcp;have OM:Below w.heap.size w W3:=by rw[<-hW3];exact hB.trans ⟨rfl,rfl,rfl,by simp[World.setRow],λi hi=>setRow_other _ _ _ _ (by omega)⟩
   have hg3:W3.heap[w.heap.size]? =some (.cells (cur.toList.take (m*2)++cur.toList.take (q*2)++cur.toList.drop (m*2+(cur.toList.take (q*2)).length)).toArray 91 (0,0)):=by rw[<-hW3];exact setRow_heap _ _ _ _ _ _ hgd
   have u4:IntKind.i64.wrap ((m:Int)+(q:Int))=((m+q:Nat):Int):=by rw[FI];omega
   go_wp2
   go_region
   go_wp2
   go_roundw
   case rel=>exact⟨m+q,_,Vr.2.2,λ_=>by omega,by simp,hg3,by rw[dL,hs],λu hu=>by
    simp only[]at hu;rcases eO.1 hu with h|h
    ·rcases eO.1 h with h|h
     ·exact h1c u (mZ h)
     ·exact h1c u (mZ h)
    ·exact h1c u (xh h),hA',OM⟩
   case measure=>simp[intOf]<;>omega
  ·obtain rfl:m=k:=by omega
   go_wp2
   go_ret
   exact⟨_,cur,rfl,hB,dB _,hg,hs,h1c,hA⟩
end Go.Proofs.YtoocplpcbdemhaaGreat
namespace Go.Proofs.YtoocplpcbdemhaaGreat.Vm
section
open Go.RowKit
theorem CO {E:Env}{f sz:Nat}{args:List AV}{es:List (List PV)}
  (h:∀C:Ctx,Ok C->∀us:Array Value,All2 (VA C) args us.toList->Calls E.P f us C.w λe w'=>∃(g:Nat) (cur:Array Value) (ty:TypeId) (cap:Nat),e=.returned (.slice (some ⟨g,0,none⟩) es.length cap)/\Grow C.w w'/\C.w.heap.size<=g/\
   w'.heap[g]? =some (.cells cur ty (0,0))/\es.length<=cap/\cap*sz<=cur.size/\(∀u∈cur.toList,u.oneCell'=true)/\(∀e∈es,e.length=sz)/\∀(i j:Nat) e c,es[i]? =some e->e[j]? =some c->∃k n,c=.int k n/\cur[i*sz+j]? =some (.int k n)):K7 E f args [] [.own sz es] []:=by
 intro C az hC us hv;refine(h C az us hv).mono λe w' ⟨g,cur,ty,cap,he,hg,uu,hw,j0,hsz,ji,hlen,hcell⟩=> ?_;subst he;have hCh:C.h=[]:=hC;obtain⟨C1,hC1⟩:∃C1,(C.more 1).ky w' 0 (some g) (.arr sz es)=C1:=⟨_,rfl⟩
 have hf:nth bw.fresh (C.more 1).h 0=.fresh:=by show nth bw.fresh (C.h++dm .fresh 1) 0=_;rw[hCh];rfl
 have hx1:=nB (C.more 1) (w:=w') (nid:=0) (x:=some g) (B:=.arr sz es) hg hf (λn h=>by cases h;exact uu);have hx:Ext C C1:=hC1▸(pY C 1).trans hx1;have hh:C1.h=[.blk (.arr sz es)]:=by rw[<-hC1];show upd _ (C.h++dm .fresh 1) 0=_;rw[hCh];rfl
 have hι:C1.ι 0=some g:=by rw[<-hC1];show pt C.ι 0 (some g) 0=_;exact cG ..
 have hwC:C1.w=w':=by rw[<-hC1];rfl
 have Fb:Ok C1:=by
  rw[<-hC1];refine t_ (BF az 1) hg hf (λn h=>by cases h;exact uu) (.inr ⟨g,cur,ty,(0,0),by rw[hC1];exact hι,hw,?_,.inl rfl,hlen,ji,λi j e c he hc=> ?_⟩)
  ·have:=mC sz j0;omega
  ·obtain⟨k,n,rfl,h1⟩:=hcell i j e c he hc;exact⟨_,h1,.int k n⟩
 refine⟨C1,hwC,hx.m _,Fb,hh,rfl,?_⟩;refine⟨by unfold known;rw[hh];simp[nth],⟨_,_,_,rfl⟩,λnN es' hl=> ?_⟩;rw[hh]at hl;cases hl;unfold HS;rw[show C1.ι ([]:List au).length=some g from hι];exact⟨cap,cur,ty,(0,0),rfl,j0,by rw[hwC];exact hw,hsz⟩
theorem yX {sz:Nat}{args:List AV}{es:List (List PV)}(h:Yq sz args=some es):∃(e:List PV) (n:Int),args=[.t (.p (.sl sz [e])),.t (.p (.int .i64 n))]/\e.length=sz/\(∀c∈e,Hj c=true)/\(0<=n/\n<=1000)/\es=List.replicate n.toNat e:=by
 unfold Yq at h;split at h
 ·rename_i s e n;split at h
  ·rename_i hc;obtain⟨rfl,h1,h2,h3,h4⟩:=hc;cases h;exact⟨e,n,rfl,h1,λc hc=>fk.1 h2 c hc,⟨h3,h4⟩,rfl⟩
  ·cases h
 ·cases h
theorem GV {e:List PV}{sz:Nat}(hl:e.length=sz)(hz:0<sz)(hi:∀c∈e,Hj c=true){xs:List Value}(hx:xs.length=sz)(ZW:∀(j:Nat) c,e[j]? =some c->∃k n,c=.int k n/\xs[j]? =some (.int k n)){cur:Array Value}{n:Nat}(hA:∀j,j<n*sz->cur[j]? =xs[j %xs.length]?):
  ∀(i j:Nat) e' c,(List.replicate n e)[i]? =some e'->e'[j]? =some c->∃k m,c=.int k m/\cur[i*sz+j]? =some (.int k m):=by
 intro i j e' c h1 h2;rw[pI]at h1;split at h1
 ·rename_i pT;cases h1;have hj:j<sz:=by rw[<-hl];exact(ko.1 h2).1
  obtain⟨k,m,hc,hm⟩:=ZW j c h2;refine⟨k,m,hc,?_⟩;have hlt:i*sz+j<n*sz:=by
   have:=mC sz (show i+1<=n from pT);rw[Cv]at this;omega
  rw[hA _ hlt,hx,Nat.mul_comm i sz,Nat.mul_add_mod,sK hj];exact hm
 ·cases h1
theorem Cj {C:Ctx}{sz:Nat}{e:List PV}{u:Value}(hl:e.length=sz)(hz:0<sz)(hi:∀c∈e,Hj c=true)(h:C.P (.sl sz [e]) u):
  ∃b off cap,u=.slice (some ⟨b,off,none⟩) 1 cap/\b<C.w.heap.size/\∃xs:List Value,xs.length=sz/\(∀v∈xs,v.oneCell'=true)/\(∀(j:Nat) v,xs[j]? =some v->C.w.cell? ⟨b,off+j,none⟩=some v)/\∀(j:Nat) c,e[j]? =some c->∃k n,c=.int k n/\xs[j]? =some (.int k n):=by
 cases h with
 |sl _ _ b off cap f hb hO hc hsz hcell hv2=>
  have hint:∀(j:Nat) c,e[j]? =some c->∃k n,c=.int k n/\f 0 j=.int k n:=λj c hj=>by
   have h1:=hi c (eC hj);have h2:=hv2 0 j e c rfl hj;cases c<;>first|(cases h1;done)|skip
   rename_i k n;generalize f 0 j=y at h2;cases h2;exact⟨k,n,rfl,rfl⟩
  refine⟨b,off,cap,rfl,hb,(List.range sz).map (f 0),by simp,λv hv=> ?_,λj v hv=> ?_,λj c hj=> ?_⟩
  ·obtain⟨j,hj,rfl⟩:=kE.1 hv;have hj:j<e.length:=by rw[hl];exact gR.1 hj
   obtain⟨k,n,_,h2⟩:=hint j _ (dO hj);rw[h2];rfl
  ·rw[uP]at hv;obtain⟨j',EF,rfl⟩:=EO.1 hv;obtain⟨h1,h2⟩:=ko.1 EF;simp at h1 h2;subst h2;have:=hcell 0 j e _ rfl (dO (by omega));rw[<-this];congr 2;omega
  ·obtain⟨k,n,h1,h2⟩:=hint j c hj;have:j<sz:=by rw[<-hl];exact(ko.1 hj).1
   exact⟨k,n,h1,by rw[uP,Ar this];simp[h2]⟩
theorem wB {w w':World}(h:Below w.heap.size w w'):Grow w w':=Grow.nk h
theorem PA:∀args rs,tY args=some rs->K7 E 137 args [] rs []:=λargs rs h=>by
 unfold tY CU at h;split at h
 ·rename_i es hes;cases h;obtain⟨e,n,rfl,hl,hi,hn,rfl⟩:=yX hes;refine CO λC az us hv=> ?_;obtain⟨u,v,rfl,h1,h2⟩:=su hv;cases Lm h2;obtain⟨b,off,cap,rfl,hb,xs,hx,ji,hcell,ZW⟩:=Cj hl (by omega) hi h1;refine(Yn xs hx ji b off cap n hn C.w hb hcell).mono ?_;rintro e' w' ⟨g,cur,rfl,hB,hg,hw,hs,h1c,hA⟩;exact⟨g,cur,91,n.toNat,by rw[za],wB hB,hg,hw,by rw[za];exact dB _,by rw[hs];exact dB _,h1c,λe' he=>by rw[(Ja.1 he).2];exact hl,GV hl (by omega) hi hx ZW hA⟩
 ·cases h
theorem Pz:∀args rs,BD args=some rs->K7 E 88 args [] rs []:=λargs rs h=>by
 unfold BD CU at h;split at h
 ·rename_i es hes;cases h;obtain⟨e,n,rfl,hl,hi,hn,rfl⟩:=yX hes;refine CO λC az us hv=> ?_;obtain⟨u,v,rfl,h1,h2⟩:=su hv;cases Lm h2;obtain⟨b,off,cap,rfl,hb,xs,hx,ji,hcell,ZW⟩:=Cj hl (by omega) hi h1;refine(Ym xs hx ji b off cap n hn C.w hb hcell).mono ?_;rintro e' w' ⟨g,cur,rfl,hB,hg,hw,hs,h1c,hA⟩;exact⟨g,cur,_,n.toNat,by rw[za],wB hB,hg,hw,by rw[za];exact dB _,by rw[hs];exact dB _,h1c,λe' he=>by rw[(Ja.1 he).2];exact hl,GV hl (by omega) hi hx ZW hA⟩
 ·cases h
theorem PB:∀args rs,qB args=some rs->K7 E 115 args [] rs []:=λargs rs h=>by
 unfold qB CU at h;split at h
 ·rename_i es hes;cases h;obtain⟨e,n,rfl,hl,hi,hn,rfl⟩:=yX hes;refine CO λC az us hv=> ?_;obtain⟨u,v,rfl,h1,h2⟩:=su hv;cases Lm h2;obtain⟨b,off,cap,rfl,hb,xs,hx,ji,hcell,ZW⟩:=Cj hl (by omega) hi h1;refine(Yp xs hx ji b off cap n hn C.w hb hcell).mono ?_;rintro e' w' ⟨g,cur,rfl,hB,hg,hw,hs,h1c,hA⟩;exact⟨g,cur,_,n.toNat,by rw[za],wB hB,hg,hw,by rw[za];exact dB _,by rw[hs];exact dB _,h1c,λe' he=>by rw[(Ja.1 he).2];exact hl,GV hl (by omega) hi hx ZW hA⟩
 ·cases h
end
section
open Go Go.Proofs Go.RowKit Go.Shelf Go.Sort
set_option maxRecDepth 100000 in
set_option maxHeartbeats 1000000 in
theorem Qi (a:Option Addr)(cap:Nat)(v:Value)(w:World):Calls Tryz.prog 133 #[.slice a 0 cap,v] w λe w'=>e=.returned (.int .i64 (-1))/\w'=w:=by
 go_enter Tryz.func133,Tryz.ntmps133
 go_wp2
 go_loopw [8] (λi wr=>i=.int .i64 0/\wr=w) (λi _=>0)
 case atStart=>exact⟨rfl,rfl⟩
 case round=>
  obtain⟨rfl,rfl⟩:=hrel
  go_wp2
  go_ret
  exact⟨rfl,rfl⟩
set_option maxRecDepth 100000 in
set_option maxHeartbeats 1000000 in
theorem contains_nil (a:Option Addr)(cap:Nat)(v:Value)(w:World):Calls Tryz.prog 81 #[.slice a 0 cap,v] w λe w'=>e=.returned (.bool false)/\w'=w:=by
 go_enter Tryz.func81,Tryz.ntmps81
 go_wp2_with (go_at_call 133;refine(Qi a cap v _).mono ?_;rintro e w' ⟨rfl,he⟩;rw[he])
 go_ret
 exact⟨rfl,rfl⟩
def Nums1 (W:World)(sv:Value)(cs:List Int):Prop:=
 (∃a cap,sv=.slice a 0 cap/\cs=[])\/∃b off cap,sv=.slice (some ⟨b,off,none⟩) cs.length cap/\∀j,j<cs.length->W.cell? ⟨b,off+j,none⟩=some (.int .i64 cs[j]!)
theorem contains_any (sv:Value)(cs:List Int)(x:Int)(W:World)(h:Nums1 W sv cs)(hlen:cs.length<=9223372036854775807):
  Calls Tryz.prog 81 #[sv,.int .i64 x] W λe w'=>e=.returned (.bool (cs.any λy=>x==y))/\w'=W:=by
 rcases h with⟨a,cap,rfl,rfl⟩|⟨b,off,cap,rfl,hc⟩
 ·exact contains_nil a cap _ W
 ·have:=AnyE.slices_Contains Tryz.laysE31 (Value.int .i64) _ (EqlAt.int _ _ .i64) b off cs.length cap cs x W (dB _) hlen hc;rw[List.take_length]at this;exact this
set_option maxRecDepth 100000 in
set_option maxHeartbeats 1000000 in
theorem Ko (Bx:Nat)(sv:Value)(cs:List Int)(x:Int)(W:World)(hb:W.cell? ⟨Bx,2,none⟩=some sv)(h:Nums1 W sv cs)(hlen:cs.length<=9223372036854775807):
  Calls Tryz.prog 103 #[.int .i64 x,.pointer (some ⟨Bx,0,none⟩)] W λe w'=>e=.returned (.bool (!cs.any λy=>x==y))/\w'=W:=by
 go_enter Tryz.func103,Tryz.ntmps103
 go_wp2_with (go_at_call 81;refine(contains_any sv cs x _ h hlen).mono ?_;rintro e w' ⟨rfl,he⟩;rw[he])
 go_ret
 exact⟨rfl,rfl⟩
theorem s8 {α:Type}[Inhabited α](enc:α->Value)(w:World)(blk off n:Nat)(dk:Array α)(os:Array Obj){k:Nat}(hk:k<w.heap.size)(hne:k≠blk):(sortWorld enc w blk off n dk os).heap[k]? =w.heap[k]?:=by
 show((Go.Sort.ahead w n).heap.modify blk _++os)[k]? =_;rw[Array.getElem?_append_left (by rw[Array.size_modify];exact hk),FL,aC (vd hne)];rfl
theorem Nums1.ag {W W':World}{sv:Value}{cs:List Int}(h:Nums1 W sv cs)(hk:∀b o l c,sv=.slice (some ⟨b,o,none⟩) l c->0<cs.length->W'.heap[b]? =W.heap[b]?):Nums1 W' sv cs:=by
 rcases h with h|⟨b,off,cap,rfl,hc⟩
 ·exact .inl h
 ·exact .inr ⟨b,off,cap,rfl,λj hj=>(nT (hk b off _ cap rfl (by omega))).trans (hc j hj)⟩
theorem Wh (blk off cap Bx:Nat)(d:Array Int)(sv:Value)(cs:List Int)(w:World)(hbx:Bx<w.heap.size)(hne:Bx≠blk)(hb:w.cell? ⟨Bx,2,none⟩=some sv)(h:Nums1 w sv cs)
  (hsv:∀b o l c,sv=.slice (some ⟨b,o,none⟩) l c->0<cs.length->b<w.heap.size/\b≠blk) (hlen:cs.length<=9223372036854775807) (hH:Holds (Value.int .i64) w blk off d) (hsz:d.size<=9223372036854775807) (j0:d.size<=cap):
  Calls Tryz.prog 101 #[.slice (some ⟨blk,off,none⟩) d.size cap,.func (.func 103) #[] #[.pointer (some ⟨Bx,0,none⟩)]] w λe w'=>
   e=.returned (.slice (some ⟨blk,off,none⟩) (d.toList.filter λx=>cs.any λy=>x==y).length cap)/\∃q,w'=putRow (Value.int .i64) (Go.Sort.ahead w q) blk off ((d.toList.filter λx=>cs.any λy=>x==y)++List.replicate (d.size-(d.toList.filter λx=>cs.any λy=>x==y).length) (0:Int)).toArray:=by
 have e0:(λx:Int=> !(!cs.any λy=>x==y))=λx=>cs.any λy=>x==y:=by funext x;simp
 have:=AnyE.slices_DeleteFunc Tryz.laysH10 (Value.int .i64) (λx=>rfl) (λx=> !cs.any λy=>x==y) 103 #[.pointer (some ⟨Bx,0,none⟩)] (enters_of Tryz.func103 (by kernel_rfl) rfl) 0 (λw=>by kernel_rfl)
  blk off cap d w (λW x hB=> ?_) (λn os dk x _=> ?_) hH hsz j0
 ·simp only[e0]at this;exact this
 ·refine(Ko Bx sv cs x W ((hB.cell (p:=⟨Bx,2,none⟩) hbx).trans hb) (h.ag λb o l c e hl=>hB.block b (hsv b o l c e hl).1) hlen).mono ?_;rintro e w' ⟨rfl,rfl⟩;exact⟨rfl,0,rfl⟩
 ·refine(Ko Bx sv cs x _ ((nT (s8 _ w blk off n dk os hbx hne)).trans hb) (h.ag λb o l c e hl=>s8 _ w blk off n dk os (hsv b o l c e hl).1 (hsv b o l c e hl).2) hlen).mono ?_;rintro e w' ⟨rfl,rfl⟩;exact⟨rfl,0,rfl⟩
set_option maxRecDepth 100000 in
set_option maxHeartbeats 1000000 in
theorem My (a:Option Addr)(cap Bx:Nat)(w:World):Calls Tryz.prog 146 #[.slice a 0 cap,.func (.func 103) #[] #[.pointer (some ⟨Bx,0,none⟩)]] w λe w'=>e=.returned (.int .i64 (-1))/\w'=w:=by
 go_enter Tryz.func146,Tryz.ntmps146
 go_wp2
 go_loopw [8] (λi wr=>i=.int .i64 0/\wr=w) (λi _=>0)
 case atStart=>exact⟨rfl,rfl⟩
 case round=>
  obtain⟨rfl,rfl⟩:=hrel
  go_wp2
  go_ret
  exact⟨rfl,rfl⟩
set_option maxRecDepth 100000 in
set_option maxHeartbeats 1000000 in
theorem Wj (a:Option Addr)(cap Bx:Nat)(w:World):Calls Tryz.prog 101 #[.slice a 0 cap,.func (.func 103) #[] #[.pointer (some ⟨Bx,0,none⟩)]] w λe w'=>e=.returned (.slice a 0 cap)/\w'=w:=by
 go_enter Tryz.func101,Tryz.ntmps101
 go_wp2_with (go_at_call 146;refine(My a cap Bx _).mono ?_;rintro e w' ⟨rfl,he⟩;rw[he])
 go_ret
 exact⟨rfl,rfl⟩
theorem map_set {W:World}{n:Nat}{carr:Array Value}{e:TypeId}{fr:Nat×Nat}(h:W.heap[n]? =some (.cells carr e fr))(f:Array Value->Array Value):mapBlock W n f=W.setRow n (f carr):=by
 unfold mapBlock World.setRow;congr 1;apply Array.ext_getElem?;intro k;rw[FL,FL];split
 ·rename_i hk;subst hk;rw[h];rfl
 ·rfl
theorem QB {w:World}{b o:Nat}{carr:Array Value}{e:TypeId}{fr:Nat×Nat}(h:w.heap[b]? =some (.cells carr e fr))(hn:xr carr fr)(ho:o<carr.size):w.frozen? ⟨b,o,none⟩=false:=by
 have h2:=hn.off o ho;obtain⟨lo,hi⟩:=fr;simp only[World.frozen?,h];simp only[Bool.and_eq_false_iff,decide_eq_false_iff_not];simp only at h2;omega
def eE (es:List (List PV)):List Int:=es.map λe=>(nth .bN e 0).toInt
theorem OA {e:List PV}(h:wz e=true):e=[.int .i64 (nth .bN e 0).toInt]:=by
 unfold wz at h;split at h
 ·rfl
 ·cases h
theorem FX {es:List (List PV)}(h:es.all wz=true){j:Nat}{e:List PV}(hj:es[j]? =some e):e=[.int .i64 (eE es)[j]!]:=by
 have h1:=OA (fk.1 h e (eC hj));have h2:(eE es)[j]! =(nth .bN e 0).toInt:=by
  rw[List.getElem!_eq_getElem?_getD,eE,uP,hj];rfl
 rw[h2];exact h1
theorem G8 (cs es:List (List PV))(h:es.all wz=true):((eE es).filter λx=>(eE cs).any λy=>x==y).map (λx=>[PV.int .i64 x])=D3 [.bN,.bN,.sl 1 cs] es:=by
 have e0:es=(eE es).map λx=>[PV.int .i64 x]:=by
  rw[eE,List.map_map];have:es.map (λe=>e)=es.map ((λx=>[PV.int .i64 x])∘λe=>(nth .bN e 0).toInt):=rj λe he=>OA (fk.1 h e he);rw[<-this,List.map_id']
 unfold D3;simp only;have e1:(es.filter λe=>cs.any λc=>(nth .bN c 0).toInt==(nth .bN e 0).toInt)=((eE es).map λx=>[PV.int .i64 x]).filter λe=>cs.any λc=>(nth .bN c 0).toInt==(nth .bN e 0).toInt:=by rw[<-e0]
 rw[e1,List.filter_map];congr 1;apply xg;intro x _;simp only[Function.comp,eE,List.any_map];congr 1;funext c;simp only[Function.comp,nth,PV.toInt];rw[uQ,w8,w8];exact eq_comm
theorem MZ {C:Ctx}(az:Ok C){look:aJ}(hl:bQ C look){nid:Nat}{args:List AV}{v:AV}{us:cD}{et:Array Value}(hn:nth bw.fresh C.h nid=.fresh/\nid<C.h.length)
  (ha:All2 (VA C) args et.toList) (h:Bn (.aam 103 D2 D3) look nid args two=some (v,us)):
  Calls Tryz.prog 101 et C.w λe w'=>match e with
   | .returned u=>bq C us v u w'
   |_=>False:=by
 unfold Bn at h;split at h
 case h_3=>cases h
 case h_2=>
  rename_i g1 pg f1 j g' b hk;cases hk;split at h
  case h_2=>cases h
  rename_i es cs0 hlj Lb;split at h
  case h_2=>cases h
  rename_i ps hps;obtain⟨Qs,h9⟩:=bX h;clear h;cases hgg:Nat.beq 103 g' with
  |false=>rw[hgg]at h9;cases h9
  |true=>
  rw[hgg,aK rfl]at h9;obtain rfl:=gK hgg;clear hgg;obtain⟨rfl,rfl⟩:=ax h9;clear h9;obtain⟨u1,u2,rfl,h1,h2⟩:=su ha;obtain⟨us2,rfl,h3⟩:=h2;obtain⟨Bxv,rfl,h4⟩:∃y,us2= #[y]/\VT C (.ptr b 0) y:=by
   cases hu:us2.toList with
   |nil=>rw[hu]at h3;exact h3.elim
   |cons y r=>cases r with
    |nil=>rw[hu]at h3;exact⟨y,air hu,h3.1⟩
    |cons=>rw[hu]at h3;exact h3.2.elim
  obtain⟨_,Bx,rfl,h5⟩:=h4;have Z8:=hl _ _ Lb;have J0:=hl _ _ hlj;have hib:=h5 _ Z8;obtain⟨p0,p1,cs,rfl,hcs,hes,hb1,hb2⟩:∃p0 p1 cs,ps=[p0,p1,.sl 1 cs]/\cs.all wz=true/\es.all wz=true/\cs.length<=1000000/\es.length<=1000000:=by
   unfold D2 at Qs;split at Qs
   ·simp only[bO]at Qs;exact⟨_,_,_,rfl,Qs.1,Qs.2.1,mD Qs.2.2.1,mD Qs.2.2.2⟩
   ·cases Qs
  have MJ:cs0=[.t (.p p0),.t (.p p1),.t (.p (.sl 1 cs))]:=vo hps;subst MJ;obtain⟨n0,anz,e0,fr0,k1,k2,k3,k4,k5⟩:=az.blk b _ Z8;rw[hib]at k1;cases k1;obtain⟨sv,m1,m2,m3⟩:=k5 2 _ rfl;have hbx:Bx<C.w.heap.size:=(c_.1 k2).1;have hcb:C.w.cell? ⟨Bx,2,none⟩=some sv:=by simp[World.cell?,k2,m1]
  have m2:C.P (.sl 1 cs) sv:=m2;have hdl:D3 [p0,p1,.sl 1 cs] es=D3 [.bN,.bN,.sl 1 cs] es:=rfl;rw[hdl,<-G8 cs es hes];have alm:∀n,C.ι j=some n->Bx≠n:=λn hn e=>by
   subst e;have:=az.inj b j Bx _ _ Z8 J0 (.inl hib) (.inl hn);subst this;cases lH Z8 J0
  obtain⟨_,_,hHS⟩:=h1;have hHS:=hHS _ _ J0;unfold HS at hHS;have Vu:Nums1 C.w sv (eE cs)/\∀b o l c,sv=.slice (some ⟨b,o,none⟩) l c->0<(eE cs).length->b<C.w.heap.size/\¬C.O b:=by
   have jO:(eE cs).length=cs.length:=by simp[eE]
   cases m2 with
   |yA _ a cap=>exact⟨.inl ⟨a,cap,rfl,rfl⟩,λb o l c _ h=>by simp[eE]at h⟩
   |sl _ _ b2 off cap f q1 q2 q3 q4 q5 q6=>
    refine⟨.inr ⟨b2,off,cap,by rw[jO],λi hi=> ?_⟩,λb o l c e _=>by cases e;exact⟨q1,q2⟩⟩;rw[jO]at hi;have he:=FX hcs (dO hi);have hz:=q5 i 0 _ (.int .i64 (eE cs)[i]!) (dO hi) (by rw[he];rfl);have hy:=q6 i 0 _ (.int .i64 (eE cs)[i]!) (dO hi) (by rw[he];rfl);rw[show off+i=off+i*1+0 by omega,hz];generalize f i 0=y at hy;cases hy;rfl
  cases xS:C.ι j with
  |none=>
   rw[xS]at hHS;obtain⟨rfl,rfl⟩:=hHS;refine(Wj none 0 Bx C.w).mono ?_;rintro e w' ⟨rfl,he⟩;subst he;have hd:bK [(j,bw.dead)]:=λu hu=>by simp at hu;subst hu;rfl
   have f_:=ic az hd;have hf':nth bw.fresh (C.kill [(j,bw.dead)]).h nid=.fresh:=by
    show nth bw.fresh (upd .dead C.h j) nid=_;rw[ep,aC]
    ·exact hn.1
    ·rintro⟨rfl,_⟩;have:=dX J0;exact this hn.1
   have kY:=nB (C.kill [(j,bw.dead)]) (B:=.arr 1 []) (Grow.refl _) hf' (x:=none) (λn h=>by cases h);refine⟨(C.kill [(j,bw.dead)]).ky C.w nid none (.arr 1 []),rfl,rfl,(cB C hd).trans kY,t_ f_ (Grow.refl _) hf' (λn h=>by cases h) (show q9 _ nid (.arr 1 []) from Or.inl ⟨cG _ _ _,rfl⟩),?_⟩;refine⟨?_,⟨_,_,_,rfl⟩,λnN es' hl'=> ?_⟩
   ·unfold known;show nth bw.fresh (upd _ (upd .dead C.h j) nid) nid≠_;rw[ep,aK ⟨rfl,by rw[bU];exact hn.2⟩];simp
   ·have hl2:live (upd (.blk (.arr 1 [])) (upd .dead C.h j) nid) nid (.arr nN es'):=hl';rcases bR.1 hl2 with⟨_,_,h6⟩|⟨h6,_⟩
    ·cases h6;unfold HS;rw[show((C.kill [(j,bw.dead)]).ky C.w nid none (.arr 1 [])).ι nid=none from cG _ _ _];exact⟨rfl,rfl⟩
    ·exact absurd ⟨rfl,by rw[bU];exact hn.2⟩ h6
  |some n=>
   rw[xS]at hHS;obtain⟨cap,carr,e,fr,rfl,hc1,hr,hc2⟩:=hHS;rcases az.blk j _ J0 with⟨hnn,_⟩|⟨n',cX,e',fr',nW,Fa,hsz,uv,AL,ji,hc⟩
   ·rw[xS]at hnn;cases hnn
   rw[xS]at nW;cases nW;rw[hr]at Fa;cases Fa;have aeJ:(eE es).length=es.length:=by simp[eE]
   have hcell:∀i,i<es.length->carr[i]? =some (.int .i64 (eE es)[i]!):=λi hi=>by
    have he:=FX hes (dO hi);obtain⟨u,h6,h7⟩:=hc i 0 _ (.int .i64 (eE es)[i]!) (dO hi) (by rw[he];rfl);cases h7;simpa using h6
   have hH:Holds (Value.int .i64) C.w n 0 (eE es).toArray:=λi hi=>by
    have hi:i<es.length:=by simpa[eE]using hi
    have h6:=hcell i hi;have hlt:=(c_.1 h6).1;refine⟨?_,QB hr uv (by omega)⟩;simp only[World.cell?,hr,dy];rw[h6];simp
   have hdw:=Wh n 0 cap Bx (eE es).toArray sv (eE cs) C.w hbx (alm n xS) hcb Vu.1 (λb o l c e hl=>⟨(Vu.2 b o l c e hl).1,λh=>(Vu.2 b o l c e hl).2 (.inr ⟨j,_,J0,.inl (h▸xS)⟩)⟩) (by simp[eE];omega) hH (by simp[eE];omega) (by simp[aeJ];exact hc1);have hsd:(eE es).toArray.size=es.length:=by simp[aeJ]
   rw[hsd]at hdw;refine hdw.mono ?_;rintro e2 w' ⟨rfl,q,rfl⟩;obtain⟨L,hL⟩:∃L,((eE es).toArray.toList.filter λx=>(eE cs).any λy=>x==y)=L:=⟨_,rfl⟩
   have hL2:((eE es).filter λx=>(eE cs).any λy=>x==y)=L:=by rw[<-hL]
   have hLl:L.length<=es.length:=by rw[<-hL2,<-aeJ];exact oO ..
   obtain⟨D,hD⟩:∃D:Array Int,(L++List.replicate (es.length-L.length) (0:Int)).toArray=D:=⟨_,rfl⟩
   have hDs:D.size=es.length:=by rw[<-hD];simp;omega
   have hDg:∀i,i<L.length->D[i]! =L[i]!:=λi hi=>by
    rw[<-hD];rw[getElem!_pos _ i (by simp;omega),getElem!_pos _ i hi];simp[List.getElem_append_left hi]
   rw[hL,hD];have hx1:=zJ C (Go.Sort.ahead C.w q) rfl rfl rfl rfl;have Fb:=Jq az (Go.Sort.ahead C.w q) rfl rfl rfl rfl;have hr1:(C.ke (Go.Sort.ahead C.w q)).w.heap[n]? =some (.cells carr e fr):=hr;have hw:putRow (Value.int .i64) (Go.Sort.ahead C.w q) n 0 D=(Go.Sort.ahead C.w q).setRow n (Go.Sort.putCells (Value.int .i64) 0 D carr):=map_set (W:=Go.Sort.ahead C.w q) hr (Go.Sort.putCells (Value.int .i64) 0 D);have Bl:(Go.Sort.putCells (Value.int .i64) 0 D carr).size=carr.size:=by simp[Go.Sort.putCells]
   have acH:∀k,k<D.size->(Go.Sort.putCells (Value.int .i64) 0 D carr)[k]? =some (.int .i64 D[k]!):=λk hk=>by
    unfold Go.Sort.putCells;rw[Array.getElem?_mapIdx,N8 (by omega)];simp[hk]
   have hx2:=zH (C:=C.ke (Go.Sort.ahead C.w q)) (B':=.arr 1 (L.map λx=>[PV.int .i64 x])) J0 xS hn.1 hr1 Bl;have hB:q9 ((C.ke (Go.Sort.ahead C.w q)).renew j nid n (Go.Sort.putCells (Value.int .i64) 0 D carr) (.arr 1 (L.map λx=>[PV.int .i64 x]))) nid (.arr 1 (L.map λx=>[PV.int .i64 x])):=by
    refine Or.inr ⟨n,_,e,fr,cG _ _ _,fH _ _ _ _ _ _ hr1,by rw[Bl,nS];omega,uv.size Bl,λx hx=> ?_,λu hu=> ?_,λi k el c he hk=> ?_⟩
    ·obtain⟨y,_,rfl⟩:=kE.1 hx;rfl
    ·obtain⟨k,hk⟩:=eB.1 hu;have hk:(Go.Sort.putCells (Value.int .i64) 0 D carr)[k]? =some u:=by simpa using hk
     by_cases hkD:k<D.size
     ·rw[acH k hkD]at hk;cases hk;rfl
     ·unfold Go.Sort.putCells at hk;rw[Array.getElem?_mapIdx]at hk;obtain⟨y,hy,rfl⟩:=EO.1 hk;rw[aC (by omega)];exact ji y (eB.2 ⟨k,by simpa using hy⟩)
    ·rw[uP]at he;obtain⟨y,hy,rfl⟩:=EO.1 he;obtain⟨hi,hy⟩:=ko.1 hy;cases k with
     |zero=>
      cases hk;refine⟨_,by rw[show i*1+0=i by omega];exact acH i (by omega),?_⟩;rw[hDg i hi,getElem!_pos _ i hi,hy];exact .int _ _
     |succ k=>simp at hk
   refine⟨(C.ke (Go.Sort.ahead C.w q)).renew j nid n (Go.Sort.putCells (Value.int .i64) 0 D carr) (.arr 1 (L.map λx=>[PV.int .i64 x])),hw.symm,rfl,hx1.trans hx2,Jo Fb J0 xS hn.1 hn.2 hr1 Bl hB,?_⟩;have jZ:live (upd (.blk (.arr 1 (L.map λx=>[PV.int .i64 x]))) (upd .dead C.h j) nid) nid (.arr 1 (L.map λx=>[PV.int .i64 x])):=bR.2 (.inl ⟨rfl,by rw[bU];exact hn.2,rfl⟩);refine⟨dX jZ,⟨_,_,_,rfl⟩,λsz2 es2 hd=> ?_⟩;have:=lH jZ hd;cases this;unfold HS;rw[show((C.ke (Go.Sort.ahead C.w q)).renew j nid n (Go.Sort.putCells (Value.int .i64) 0 D carr) (.arr 1 (L.map λx=>[PV.int .i64 x]))).ι nid=some n from cG _ _ _];exact⟨cap,_,e,fr,by rw[nS],by rw[nS];omega,fH _ _ _ _ _ _ hr1,by rw[Bl];omega⟩
 all_goals (rename_i hk;cases hk)
end
section
open Go Go.Proofs Go.RowKit Go.Shelf
attribute [local go_sem] Oper.semAt_some
set_option maxRecDepth 100000 in
set_option maxHeartbeats 2000000 in
theorem Xi (N l Bs b off len cap:Nat)(g:Nat->Value)(hN:2<=N)(ala:len<=140737488351232)(J:Nat->World->Prop)(Jx:World->Prop)(W:World)
  (XF:W.cell? ⟨Bs,0,none⟩=some (.slice (some ⟨b,off,none⟩) len cap)) (hc:∀j,j<len->W.cell? ⟨b,off+j,none⟩=some (g j))
  (hY:∀k W1,k<len->J k W1->YieldAt Fence.wide (N-1) Tryz.prog l #[.int .i64 ((len-1-k:Nat):Int),g (len-1-k)] W1 λe W'=>
   (e=.returned (.bool true)/\J (k+1) W'/\∀b',qu Bs (.slice (some ⟨b,off,none⟩) len cap) b'->W'.heap[b']? =W1.heap[b']?)\/(e=.returned (.bool false)/\Jx W'))
  (h0:J 0 W):CallsIn Fence.wide N Tryz.prog 149 #[.func (.yield l) #[] #[],.pointer (some ⟨Bs,0,none⟩)] W λe W'=>(∃v,e=.returned v)/\(J len W'\/Jx W'):=by
 refine Cs Tryz.func149 rfl trivial ?_ rfl;simp only[Tryz.ntmps149,oa,cM,iD,Nat.reduceAdd,Nat.reduceSub,iO,CJ,Aj,FT,gq,rS]
 gi_wp2
 gi_loopw [3] (λi wr=>∃k:Nat,k<=len/\i=.int .i64 ((len:Int)-1-k)/\J k wr/\∀b',qu Bs (.slice (some ⟨b,off,none⟩) len cap) b'->wr.heap[b']? =W.heap[b']?)
  (λi _=>((intOf i)+1).toNat)
 case atStart=>exact⟨0,rz _,by simp,h0,λ_ _=>rfl⟩
 case round=>
  obtain⟨k,hk,rfl,hJs,Z4⟩:=hrel;have ak:wr.cell? ⟨Bs,0,none⟩=some (.slice (some ⟨b,off,none⟩) len cap):=(nT (Z4 Bs (.inl rfl))).trans XF;by_cases hlt:k<len
  ·have e0:((len:Int)-1-k)=((len-1-k:Nat):Int):=by omega
   have c0:wr.cell? ⟨b,off+(len-1-k),none⟩=some (g (len-1-k)):=(nT (Z4 b (.inr ⟨_,_,_,rfl,by omega⟩))).trans (hc (len-1-k) (by omega));have c0':wr.cell? ⟨b,off+(len-1-k)*1,none⟩=some (g (len-1-k)):=by rw[Nat.mul_one];exact c0
   obtain⟨fn,tmps,assign,body,hy,hR⟩:=hY k wr hlt hJs;rw[e0]
   gi_wp2
   refine⟨λ_=>by omega,hR.mono ?_⟩;rintro e W3 (⟨rfl,hJ3,hk3⟩|⟨rfl,al'⟩)
   ·gi_wp2
    go_roundw
    case rel=>exact⟨k+1,by omega,by simp<;>omega,hJ3,λb' hb'=>(hk3 b' hb').trans (Z4 b' hb')⟩
    case measure=>simp[intOf]<;>omega
   ·gi_wp2
    refine bodyPost_ret (results_none rfl _ _ _) rfl ?_;exact⟨⟨_,rfl⟩,.inr al'⟩
  ·obtain rfl:k=len:=by omega
   gi_wp2
   go_end0
   exact⟨⟨_,rfl⟩,.inl hJs⟩
set_option maxRecDepth 100000 in
set_option maxHeartbeats 2000000 in
theorem QX (N l Bs:Nat)(a:Option Addr)(cap:Nat)(J:Nat->World->Prop)(Jx:World->Prop)(W:World)(XF:W.cell? ⟨Bs,0,none⟩=some (.slice a 0 cap))(h0:J 0 W):
  CallsIn Fence.wide N Tryz.prog 149 #[.func (.yield l) #[] #[],.pointer (some ⟨Bs,0,none⟩)] W λe W'=>(∃v,e=.returned v)/\(J 0 W'\/Jx W'):=by
 refine Cs Tryz.func149 rfl trivial ?_ rfl;simp only[Tryz.ntmps149,oa,cM,iD,Nat.reduceAdd,Nat.reduceSub,iO,CJ,Aj,FT,gq,rS]
 gi_wp2
 gi_loopw [3] (λi wr=>i=.int .i64 (-1)/\J 0 wr) (λ_ _=>0)
 case atStart=>exact⟨rfl,h0⟩
 case round=>
  obtain⟨rfl,hJs⟩:=hrel
  gi_wp2
  go_end0
  exact⟨⟨_,rfl⟩,.inl hJs⟩
theorem Sl:O_ Tryz.prog 149:=
 ⟨enters_of Tryz.func149 (by kernel_rfl) rfl,λN l Bs sv n g W J Jx hN hn XF AL hY h0=>by
  rcases AL with⟨a,cap,rfl,rfl⟩|⟨b,off,cap,rfl,hc⟩
  ·exact QX N l Bs a cap J Jx W XF h0
  ·exact Xi N l Bs b off n cap g hN hn J Jx W XF hc hY h0⟩
set_option maxHeartbeats 1000000 in
theorem aaZ (v:Value)(hv:v.oneCell'=true)(w:World):
  CallsIn Fence.wide 6 Tryz.prog 116 #[v] w λe w'=>e=.returned (.func (.func 149) #[] #[.pointer (some ⟨w.heap.size,0,none⟩)])/\w'=w.alloc (.cells #[v] 22):=by
 refine Cs Tryz.func116 rfl trivial ?_ rfl;simp only[Tryz.ntmps116,oa,cM,iD,Nat.reduceAdd,Nat.reduceSub,iO,CJ,Aj,FT,gq,rS]
 gi_wp2
 go_ret
 exact⟨rfl,rfl⟩
theorem PN {C:Ctx}(az:Ok C){look:aJ}(hl:bQ C look){nid g:Nat}{args:List AV}{v:AV}{us:cD}{et:Array Value}
  (ha:All2 (VA C) args et.toList) (h:Bn (.rev g) look nid args two=some (v,us)):∃ua,et= #[ua]/\ua.oneCell'=true/\∀e,bq C us v (.func (.func g) #[] #[.pointer (some ⟨C.w.heap.size,0,none⟩)]) (C.w.alloc (.cells #[ua] e)):=by
 have key:∀(es:List (List PV)) (us:cD) (ua:Value),bK us->(C.kill us).P (.sl 1 es) ua->∀e,bq C us (.rev g es) (.func (.func g) #[] #[.pointer (some ⟨C.w.heap.size,0,none⟩)]) (C.w.alloc (.cells #[ua] e)):=λes us ua hd hp e=>by
  have hg:Grow (C.kill us).w ((C.kill us).w.alloc (.cells #[ua] e)):=Grow.alloc _ _;have hk:=ic az hd;refine⟨(C.kill us).ke (C.w.alloc (.cells #[ua] e)),rfl,rfl,(cB C hd).trans (pZ _ hg),BG hk hg,C.w.heap.size,rfl,by show _<(C.w.alloc (.cells #[ua] e)).heap.size;simp,T7 hk _,ua,?_,(pZ _ hg).vp hp⟩;show(C.w.alloc (.cells #[ua] e)).cell? _=_;unfold World.cell?;rw[show(C.w.alloc (.cells #[ua] e)).heap[C.w.heap.size]? =some (.cells #[ua] e) from gh _ _];rfl
 unfold Bn at h;split at h
 case h_3=>cases h
 case h_1=>
  rename_i hk;cases hk;obtain⟨ua,rfl,h1⟩:=Oh ha;split at h
  ·obtain⟨rfl,rfl⟩:=ax h;have h1:C.P _ ua:=h1;exact⟨ua,rfl,h1.eX,key _ [] ua (λ_ h=>by cases h) h1⟩
  ·obtain⟨rfl,rfl⟩:=ax h;have h1:C.P .bN ua:=h1;cases h1;exact⟨_,rfl,rfl,key _ [] _ (λ_ h=>by cases h) (.yA _ _ _)⟩
  ·split at h
   ·rename_i j _ es hlk;obtain⟨rfl,rfl⟩:=ax h;have hlv:=hl _ _ hlk;have h2:=h1.2.2 _ _ hlv;have hd:bK [(j,bw.dead)]:=λu hu=>by simp at hu;subst hu;rfl
    refine⟨ua,rfl,?_,key _ _ ua hd (eY az hlv h2 hd (by simp))⟩;obtain⟨a,l,c,rfl⟩:=h1.2.1;rfl
   ·cases h
  ·cases h
 all_goals (rename_i hk;cases hk)
end
end Go.Proofs.YtoocplpcbdemhaaGreat.Vm
namespace Go.Proofs.YtoocplpcbdemhaaGreat
open Go Go.Proofs Go.RowKit
open Vm (busK islOf rowsR rowsR_length rowsR_get rowsR_bus rowsR_src rowsR_con rowsR_zero)
set_option maxRecDepth 100000 in
set_option maxHeartbeats 8000000 in
theorem U' (n:Nat)(hn:n<=1000)(bsv xv yv p0 p1 p2 p3:Value)(o1:bsv.oneCell'=true)(o2:xv.oneCell'=true)(o3:yv.oneCell'=true)(q0:p0.oneCell'=true)(q1:p1.oneCell'=true)(q2:p2.oneCell'=true)(q3:p3.oneCell'=true)
  (sa ca:Option Addr) (ns sc nc cc:Nat) (Z5:ns<=1000) (hnc:nc<=1000) (first:List Int) (pn:first.length=n) (uv:∀j,j<n->∃f:Nat,f<n/\first.getD j (-1)=(f:Int)) (b1 b2:Nat->Nat) (pg zk:Nat->Bool) (hb1:∀i,i<ns->pg i=true->b1 i<n) (hb2:∀i,i<nc->zk i=true->b2 i<n) (w:World)
  (hst:∀W,Below w.heap.size w W->Calls Tryz.prog 31 #[.agg #[.int .i64 (n:Int),bsv,.slice sa ns sc,.slice ca nc cc,xv,yv],.agg #[p0,p1,p2,p3]] W λe w'=>e=.returned (.int .i64 0)/\Below W.heap.size W w')
  (hgr:∀W,Below w.heap.size w W->Calls Tryz.prog 34 #[.agg #[.int .i64 (n:Int),bsv,.slice sa ns sc,.slice ca nc cc,xv,yv],.agg #[p0,p1,p2,p3]] W λe w'=>∃fv,e=.returned fv/\Below W.heap.size W w'/\K2 w' fv first)
  (J5:∀i,i<ns->∀W,Below w.heap.size w W->Calls Tryz.prog 35 #[.agg #[.int .i64 (n:Int),bsv,.slice sa ns sc,.slice ca nc cc,xv,yv],.agg #[p0,p1,p2,p3],.int .i64 (i:Int)] W λe w'=>(∃z:Int,(pg i=true->z=(b1 i:Nat))/\e=.returned (.tuple #[.int .i64 z,.bool (pg i)]))/\Below W.heap.size W w')
  (hfd:∀i,i<nc->∀W,Below w.heap.size w W->Calls Tryz.prog 36 #[.agg #[.int .i64 (n:Int),bsv,.slice sa ns sc,.slice ca nc cc,xv,yv],.agg #[p0,p1,p2,p3],.int .i64 (i:Int)] W λe w'=>(∃z:Int,(zk i=true->z=(b2 i:Nat))/\e=.returned (.tuple #[.int .i64 z,.bool (zk i)]))/\Below W.heap.size W w'):
  Calls Tryz.prog 12 #[.agg #[.int .i64 (n:Int),bsv,.slice sa ns sc,.slice ca nc cc,xv,yv],.agg #[p0,p1,p2,p3]] w λe w'=>Xp w n (rowsR first n (km b1 pg ns) (km b2 zk nc)) e w':=by
 have hF0:=XI.start w #[.int .i64 (n:Int),bsv,.slice sa ns sc,.slice ca nc cc,xv,yv] #[p0,p1,p2,p3]
 go_enter Tryz.func12,Tryz.ntmps12
 go_wp2_with (go_at_call 31;refine(hst _ hF0.below).mono ?_)
 rintro e W1 ⟨rfl,rI⟩;have OL:=hF0.step rI (by simp);clear hF0 rI;have x0:=OL.b 0;have x1:=OL.b 1;have x2:=OL.b 2;have x3:=OL.b 3;have x4:=OL.b 4;have x5:=OL.b 5;have y0:=OL.p 0;have y1:=OL.p 1;have y2:=OL.p 2;have y3:=OL.p 3;simp only[Bj,rT,qA]at x0 x1 x2 x3 x4 x5 y0 y1 y2 y3
 go_wp2_with (go_at_call 34;refine(hgr _ OL.below).mono ?_)
 rintro e W2 ⟨fv,rfl,OO,hfv⟩;have hF2:=OL.step OO OL.size;clear OL OO x0 x1 x2 x3 x4 x5 y0 y1 y2 y3;have x0:=hF2.b 0;simp only[Bj,rT,qA]at x0;obtain⟨cs,hcs,Xy⟩:=Ue n hn W2;obtain⟨fa,fc,rfl,hfc⟩:∃fa fc,fv=.slice fa n fc/\∀j,j<n->∃b off,fa=some ⟨b,off,none⟩/\b<W2.heap.size/\W2.cell? ⟨b,off+j,none⟩=some (.int .i64 (first.getD j (-1))):=by
  rcases hfv with⟨a,cap,rfl,h⟩|⟨b,off,cap,rfl,hb,hc⟩
  ·have h0:n=0:=by rw[<-pn,h];rfl
   subst h0;exact⟨a,cap,rfl,λj hj=>by omega⟩
  ·refine⟨_,cap,by rw[pn],λj hj=>⟨b,off,rfl,hb,?_⟩⟩;rw[hc j (by omega)];congr 2;rw[List.getElem!_eq_getElem?_getD,dD,dO (by omega)];rfl
 clear hfv;obtain⟨A,hA⟩:∃A,W2.heap.size=A:=⟨_,rfl⟩
 have aqd:=hF2.size;have mh:(Tryz.prog.info? 3).map (λi=>(i.zero,i.size,i.bytes))=some (some (.int .i64 0),1,8):=by kernel_rfl
 obtain⟨i0,hi,hz0,hz1,hz2⟩:∃i0,Tryz.prog.info? 3=some i0/\i0.zero=some (.int .i64 0)/\i0.size=1/\i0.bytes=8:=by
  cases h:Tryz.prog.info? 3 with
  |none=>rw[h]at mh;cases mh
  |some i=>
   rw[h]at mh;simp only[ru,fZ,iP]at mh;exact⟨i,rfl,mh.1,mh.2.1,mh.2.2⟩
 have hT0:=Tb.make (ty:=54) (W:=W2) (3*n) (dB _) cs hcs
 go_wp2
 rw[hA]at hT0
 go_loopw [27] (λt wr=>∃(k:Nat) (vals:List Value),k<=n/\t=.int .i64 (k:Nat)/\Tb A A 54 vals (rowsR first k [] []) wr/\Below A W2 wr/\A+1<=wr.heap.size) (λt _=>n-(intOf t).toNat)
 case atStart=>exact⟨0,_,rz _,rfl,by rw[rowsR_zero,pn];exact hT0,(Below.refl _ W2).alloc (by omega) _,by simp;omega⟩
 case round=>
  obtain⟨k,vals,hk,rfl,hT,hB,hsz⟩:=hrel;by_cases hlt:k<n
  ·obtain⟨b,off,rfl,hb,hc0⟩:=hfc k hlt;obtain⟨f,hf,hff⟩:=uv k hlt;have hc1:wr.cell? ⟨b,off+k,none⟩=some (.int .i64 (f:Int)):=by rw[(hB.cell (p:=⟨b,off+k,none⟩) (show b<A by omega)),hc0,hff]
   have hvl:vals.length=3*n:=by rw[hT.len,rowsR_length,pn]
   obtain⟨v,hv⟩:∃v,vals[f*3]? =some v:=⟨vals[f*3]'(by omega),dO _⟩
   have hrow:(rowsR first k [] [])[f*3]? =some (Vm.rowAt first k [] [] (f*3)):=rowsR_get (by omega);obtain⟨c2,f2⟩:=hT.at_ hv;have VR:=hT.alloc (.cells #[.int .i64 (k:Int)] 3);have hown:=VR.row _ _ _ hv hrow;have hbl:(Vm.rowAt first k [] [] (f*3)).length<=1000:=jS (yU (m:=n) (by omega) (rz _) (rz _)) hn;have Xx:=hT.ER _ _ hv;have Lf:=iX hT.cell
   go_wp2_with (at_builtin;refine wpList_append_lies _ rfl _ _ 22 rfl A 3 i0 (.int .i64 0) 1 8 Tryz.underlying22 hi hz0 hz1 hz2 rfl (by decide) _ _ _ rfl hown ⟨wr.heap.size,0,none⟩ 1 1 [.int .i64 (k:Int)] rfl rfl (World.news_of_block (cs:= #[.int .i64 (k:Int)]) (t:=3) (fr:=(0,0)) (Cn _ _)) (by intro u hu;simp only[gI,Ai,or_false]at hu;subst hu;rfl) (by omega) (by unfold maxLen;omega) (by omega) (by simp;omega) (wr.heap.size+1) (by simp) ?_;intro gg cap w1 Dw jD hat aev;have K_:w1.heap[A]? =wr.heap[A]?:=(jD.block _ (by simp;omega) (vd Xx)).trans (vQ wr _ Lf);have fz:=(pJ (a:=⟨A,f*3,none⟩) K_).trans f2;have xz:=(nT (a:=⟨A,f*3,none⟩) K_).trans c2)
   have hN:=VR.push (x:=(k:Int)) hv hrow jD (v':=.slice (some ⟨gg,0,none⟩) ((Vm.rowAt first k [] [] (f*3)).length+1) cap) Dw (BC hat);rw[show f*3=3*f by omega]at hN;rw[rowsR_bus hff]at hN;refine⟨⟨k+1,_,by omega,by simp,by rw[show f*3=3*f by omega];exact hN,?_,?_⟩,by simp[intOf]<;>omega⟩
   ·exact wF hB (by omega) jD (λg hg=>(hT.lt hv hg).1) (dB _)
   ·have h1:=jD.size;simp[World.setCell]at h1|-;omega
  ·obtain rfl:k=n:=by omega
   have wA:=hF2.step hB (by omega);clear hT0 Xy x0 hst hgr;have x2:=wA.b 2;simp only[Bj,rT,qA]at x2
   go_wp2
   clear x2
   go_loopw [48] (λt wr2=>∃(i:Nat) (vals:List Value),i<=ns/\t=.int .i64 (i:Nat)/\Tb A A 54 vals (rowsR first k (km b1 pg i) []) wr2/\Below A W2 wr2/\A+1<=wr2.heap.size) (λt _=>ns-(intOf t).toNat)
   case atStart=>exact⟨0,vals,rz _,rfl,hT,hB,hsz⟩
   case round=>
    clear hT hB hsz wA;rename_i wr2;obtain⟨i,Is,hi2,rfl,hT,hB,hsz⟩:=hrel;by_cases Z9:i<ns
    ·have wA:=hF2.step hB (by omega);have x0:=wA.b 0;have x1:=wA.b 1;have x2:=wA.b 2;have x3:=wA.b 3;have x4:=wA.b 4;have x5:=wA.b 5;have y0:=wA.p 0;have y1:=wA.p 1;have y2:=wA.p 2;have y3:=wA.p 3;simp only[Bj,rT,qA]at x0 x1 x2 x3 x4 x5 y0 y1 y2 y3
     go_wp2_with (go_at_call 35;refine(J5 i Z9 _ wA.below).mono ?_)
     rintro e W4 ⟨⟨z,hz,rfl⟩,Hw⟩;clear x0 x1 x2 x3 x4 x5 y0 y1 y2 y3 wA;have hT4:=hT.below Hw;have hB5:=hB.trans (Hw.mono (by omega));have hs4:=Hw.size;cases az:pg i with
     |false=>
      go_wp2
      go_roundw
      case rel=>exact⟨i+1,Is,by omega,by simp,by rw[Ew az];exact hT4,hB5,by omega⟩
      case measure=>simp[intOf]<;>omega
     |true=>
      obtain rfl:=hz az;have MK:=hb1 i Z9 az;obtain⟨b,off,rfl,hb,hc0⟩:=hfc _ MK;obtain⟨f,hf,hff⟩:=uv _ MK;have hc1:W4.cell? ⟨b,off+b1 i,none⟩=some (.int .i64 (f:Int)):=by rw[(hB5.cell (p:=⟨b,off+b1 i,none⟩) (show b<A by omega)),hc0,hff]
      have hvl:Is.length=3*k:=by rw[hT.len,rowsR_length,pn]
      obtain⟨v,hv⟩:∃v,Is[f*3+1]? =some v:=⟨Is[f*3+1]'(by omega),dO _⟩
      have hrow:(rowsR first k (km b1 pg i) [])[f*3+1]? =some (Vm.rowAt first k (km b1 pg i) [] (f*3+1)):=rowsR_get (by omega);obtain⟨c2,f2⟩:=hT4.at_ hv;have VR:=(hT4.drew).alloc (.cells #[.int .i64 (i:Int)] 3);have hown:=VR.row _ _ _ hv hrow;have hbl:(Vm.rowAt first k (km b1 pg i) [] (f*3+1)).length<=1000:=yU (by omega) (jS (Eu ..) (by omega)) (rz _);have Xx:=hT.ER _ _ hv;have Lf:=iX hT4.cell;have c2d:W4.drew.cell? ⟨A,f*3+1,none⟩=some v:=c2;have c1d:W4.drew.cell? ⟨b,off+b1 i,none⟩=some (.int .i64 (f:Int)):=hc1;have Qx:Below W4.heap.size W4 (W4.alloc (.cells #[.int .i64 (i:Int)] 3)).drew:=((Below.refl _ W4).alloc (dB _) _).drew;have c1a:(W4.alloc (.cells #[.int .i64 (i:Int)] 3)).drew.cell? ⟨b,off+b1 i,none⟩=some (.int .i64 (f:Int)):=(Qx.cell (p:=⟨b,off+b1 i,none⟩) (show b<W4.heap.size by omega)).trans hc1;have c2a:(W4.alloc (.cells #[.int .i64 (i:Int)] 3)).drew.cell? ⟨A,f*3+1,none⟩=some v:=(Qx.cell (p:=⟨A,f*3+1,none⟩) Lf).trans c2
      go_wp2
      go_region_law (refine step_append_lies _ (by rfl) _ _ _ (by rfl) A 3 i0 _ 1 8 Tryz.underlying22 hi hz0 hz1 hz2 rfl (by omega) v _ (iv (Vm.rowAt first k (km b1 pg i) [] (f*3+1))) (by rfl) hown ⟨W4.heap.size,0,none⟩ 1 1 [.int .i64 (i:Int)] (by rfl) (by rfl) (World.news_of_block (cs:= #[.int .i64 (i:Int)]) (t:=3) (fr:=(0,0)) (Cn W4.drew _)) (by intro u hu;simp only[gI,Ai,or_false]at hu;subst hu;rfl) (by omega) (by unfold maxLen;omega) (by omega) (by simp;omega) (W4.heap.size+1) (by simp) ?_;intro gg cap w1 Dw jD hat aev;have K_:w1.heap[A]? =W4.heap[A]?:=(jD.block _ (by simp;omega) (vd Xx)).trans (vQ W4.drew _ Lf);have fz:=(pJ (a:=⟨A,f*3+1,none⟩) K_).trans f2;have xz:=(nT (a:=⟨A,f*3+1,none⟩) K_).trans c2;have xf:w1.cell? ⟨b,off+b1 i,none⟩=some (.int .i64 (f:Int)):=(nT (a:=⟨b,off+b1 i,none⟩) ((jD.block b (by simp;omega) (λe=>by have:=(hT.lt hv e.symm).1;omega)).trans (vQ W4.drew _ (show b<W4.heap.size by omega)))).trans hc1)
      all_goals
       have hN:=VR.push (x:=(i:Int)) hv hrow jD (v':=.slice (some ⟨gg,0,none⟩) ((Vm.rowAt first k (km b1 pg i) [] (f*3+1)).length+1) cap) Dw (BC hat);rw[show f*3+1=3*f+1 by omega]at hN;rw[rowsR_src hff,<-Gx az]at hN
       go_wp2
       refine⟨⟨i+1,_,by omega,by simp,by rw[show f*3+1=3*f+1 by omega];exact hN,wF (wr:=W4.drew) (o:=.cells #[.int .i64 (i:Int)] 3) hB5.drew (by omega) jD (λg hg=>(hT.lt hv hg).1) (dB _),?_⟩,by simp[intOf]<;>omega⟩;have h1:=jD.size;simp[World.setCell]at h1|-;omega
    ·obtain rfl:i=ns:=by omega
     have wA:=hF2.step hB (by omega);have x3:=wA.b 3;simp only[Bj,rT,qA]at x3;clear J5
     go_wp2
     clear x3
     go_loopw [81] (λt wr3=>∃(m:Nat) (vals:List Value),m<=nc/\t=.int .i64 (m:Nat)/\Tb A A 54 vals (rowsR first k (km b1 pg i) (km b2 zk m)) wr3/\Below A W2 wr3/\A+1<=wr3.heap.size) (λt _=>nc-(intOf t).toNat)
     case atStart=>exact⟨0,Is,rz _,rfl,hT,hB,hsz⟩
     case round=>
      clear hT hB hsz wA;rename_i wr3;obtain⟨m,NF,hi3,rfl,hT,hB,hsz⟩:=hrel;by_cases ahw:m<nc
      ·have wA:=hF2.step hB (by omega);have x0:=wA.b 0;have x1:=wA.b 1;have x2:=wA.b 2;have x3:=wA.b 3;have x4:=wA.b 4;have x5:=wA.b 5;have y0:=wA.p 0;have y1:=wA.p 1;have y2:=wA.p 2;have y3:=wA.p 3;simp only[Bj,rT,qA]at x0 x1 x2 x3 x4 x5 y0 y1 y2 y3
       go_wp2_with (go_at_call 36;refine(hfd m ahw _ wA.below).mono ?_)
       rintro e W4 ⟨⟨z,hz,rfl⟩,Hw⟩;clear x0 x1 x2 x3 x4 x5 y0 y1 y2 y3 wA;have hT4:=hT.below Hw;have hB5:=hB.trans (Hw.mono (by omega));have hs4:=Hw.size;cases az:zk m with
       |false=>
        go_wp2
        go_roundw
        case rel=>exact⟨m+1,NF,by omega,by simp,by rw[Ew az];exact hT4,hB5,by omega⟩
        case measure=>simp[intOf]<;>omega
       |true=>
        obtain rfl:=hz az;have MK:=hb2 m ahw az;obtain⟨b,off,rfl,hb,hc0⟩:=hfc _ MK;obtain⟨f,hf,hff⟩:=uv _ MK;have hc1:W4.cell? ⟨b,off+b2 m,none⟩=some (.int .i64 (f:Int)):=by rw[(hB5.cell (p:=⟨b,off+b2 m,none⟩) (show b<A by omega)),hc0,hff]
        have hvl:NF.length=3*k:=by rw[hT.len,rowsR_length,pn]
        obtain⟨v,hv⟩:∃v,NF[f*3+2]? =some v:=⟨NF[f*3+2]'(by omega),dO _⟩
        have hrow:(rowsR first k (km b1 pg i) (km b2 zk m))[f*3+2]? =some (Vm.rowAt first k (km b1 pg i) (km b2 zk m) (f*3+2)):=rowsR_get (by omega);obtain⟨c2,f2⟩:=hT4.at_ hv;have VR:=(hT4.drew).alloc (.cells #[.int .i64 (m:Int)] 3);have hown:=VR.row _ _ _ hv hrow;have hbl:(Vm.rowAt first k (km b1 pg i) (km b2 zk m) (f*3+2)).length<=1000:=yU (by omega) (jS (Eu ..) (by omega)) (jS (Eu ..) (by omega));have Xx:=hT.ER _ _ hv;have Lf:=iX hT4.cell;have c2d:W4.drew.cell? ⟨A,f*3+2,none⟩=some v:=c2;have c1d:W4.drew.cell? ⟨b,off+b2 m,none⟩=some (.int .i64 (f:Int)):=hc1;have Qx:Below W4.heap.size W4 (W4.alloc (.cells #[.int .i64 (m:Int)] 3)).drew:=((Below.refl _ W4).alloc (dB _) _).drew;have c1a:(W4.alloc (.cells #[.int .i64 (m:Int)] 3)).drew.cell? ⟨b,off+b2 m,none⟩=some (.int .i64 (f:Int)):=(Qx.cell (p:=⟨b,off+b2 m,none⟩) (show b<W4.heap.size by omega)).trans hc1;have c2a:(W4.alloc (.cells #[.int .i64 (m:Int)] 3)).drew.cell? ⟨A,f*3+2,none⟩=some v:=(Qx.cell (p:=⟨A,f*3+2,none⟩) Lf).trans c2
        go_wp2
        go_region_law (refine step_append_lies _ (by rfl) _ _ _ (by rfl) A 3 i0 _ 1 8 Tryz.underlying22 hi hz0 hz1 hz2 rfl (by omega) v _ (iv (Vm.rowAt first k (km b1 pg i) (km b2 zk m) (f*3+2))) (by rfl) hown ⟨W4.heap.size,0,none⟩ 1 1 [.int .i64 (m:Int)] (by rfl) (by rfl) (World.news_of_block (cs:= #[.int .i64 (m:Int)]) (t:=3) (fr:=(0,0)) (Cn W4.drew _)) (by intro u hu;simp only[gI,Ai,or_false]at hu;subst hu;rfl) (by omega) (by unfold maxLen;omega) (by omega) (by simp;omega) (W4.heap.size+1) (by simp) ?_;intro gg cap w1 Dw jD hat aev;have K_:w1.heap[A]? =W4.heap[A]?:=(jD.block _ (by simp;omega) (vd Xx)).trans (vQ W4.drew _ Lf);have fz:=(pJ (a:=⟨A,f*3+2,none⟩) K_).trans f2;have xz:=(nT (a:=⟨A,f*3+2,none⟩) K_).trans c2;have xf:w1.cell? ⟨b,off+b2 m,none⟩=some (.int .i64 (f:Int)):=(nT (a:=⟨b,off+b2 m,none⟩) ((jD.block b (by simp;omega) (λe=>by have:=(hT.lt hv e.symm).1;omega)).trans (vQ W4.drew _ (show b<W4.heap.size by omega)))).trans hc1)
        all_goals
         have hN:=VR.push (x:=(m:Int)) hv hrow jD (v':=.slice (some ⟨gg,0,none⟩) ((Vm.rowAt first k (km b1 pg i) (km b2 zk m) (f*3+2)).length+1) cap) Dw (BC hat);rw[show f*3+2=3*f+2 by omega]at hN;rw[rowsR_con hff,<-Gx az]at hN
         go_wp2
         refine⟨⟨m+1,_,by omega,by simp,by rw[show f*3+2=3*f+2 by omega];exact hN,wF (wr:=W4.drew) (o:=.cells #[.int .i64 (m:Int)] 3) hB5.drew (by omega) jD (λg hg=>(hT.lt hv hg).1) (dB _),?_⟩,by simp[intOf]<;>omega⟩;have h1:=jD.size;simp[World.setCell]at h1|-;omega
      ·obtain rfl:m=nc:=by omega
       clear hfd;have Lf:=iX hT.cell;have hdel:=ZQ hT (by rw[rowsR_length,pn]) hn
       go_wp2_with (go_at_call 37;refine(hdel Lf).mono ?_;rintro e w' ⟨rfl,MJ,hg⟩)
       go_ret
       exact⟨A,rfl,below_grown (hF2.below.trans (hB.mono (by omega))) hg (dB _) (λj hj=>by cases hj;omega),by omega,by have:=hg.size;omega,λp x hp t ht=>by
        obtain⟨v,xs,h1,h2,h3⟩:=MJ p x hp t ht;exact⟨v,xs,h1,h2,PX h3 (by omega)⟩⟩
end Go.Proofs.YtoocplpcbdemhaaGreat
namespace Go.Proofs.YtoocplpcbdemhaaGreat.Vm
section
open Go.RowKit
theorem pS {F:d_}{f m:Nat}{b p:AV}{rs:List RV}:∀(k i:Nat) (acc:List (Int×Nat)) (K:List (Int×Nat)->Ask),(E8 f b p m k i acc K).run F=some rs->
  ∃(b1:Nat->Nat) (pg:Nat->Bool),(∀j,i<=j->j<i+k->∃z:Int,F f [b,p,.t (.p (.int .i64 (j:Int)))] []=some ([.p (.int .i64 z),.p (.bool (pg j))],[])/\(pg j=true->z=(b1 j:Nat)/\b1 j<m))/\
   (K (acc++((List.range' i k).filter pg).map λ(j:Nat)=>((j:Int),b1 j))).run F=some rs
 |0,i,acc,K,h=>⟨λ_=>0,λ_=>false,λj h1 h2=>by omega,by simpa[E8]using h⟩
 |k+1,i,acc,K,h=>by
  simp only[E8,Ask.run]at h;split at h
  case h_2=>cases h
  rename_i r hr;split at h
  ·rename_i Li ok;cases ok with
   |false=>
    obtain⟨b1,pg,h1,h2⟩:=pS k (i+1) acc K h;refine⟨b1,λj=>if j=i then false else pg j,λj hj1 J2=> ?_,?_⟩
    ·by_cases OH:j=i
     ·subst OH;exact⟨Li,by simpa using hr,by simp⟩
     ·simp only[aC OH];exact h1 j (by omega) (by omega)
    ·rw[en,Bh (by simp)];have:(List.range' (i+1) k).filter (λj=>if j=i then false else pg j)=(List.range' (i+1) k).filter pg:=xg λj hj=>by
      have:=List.mem_range'_1.1 hj;rw[aC (by omega)]
     rw[this];exact h2
   |true=>
    simp only[sG]at h;cases hc:(bJ 0 Li&&Nat.blt Li.toNat m)with
    |false=>rw[hc]at h;cases h
    |true=>
     rw[hc]at h;simp only[sG]at h;simp only[bO,bJ,lR,CC]at hc;obtain⟨b1,pg,h1,h2⟩:=pS k (i+1) _ K h;refine⟨λj=>if j=i then Li.toNat else b1 j,λj=>if j=i then true else pg j,λj hj1 J2=> ?_,?_⟩
     ·by_cases OH:j=i
      ·subst OH;exact⟨Li,by simpa using hr,λ_=>⟨by simp;omega,by simpa using hc.2⟩⟩
      ·simp only[aC OH];exact h1 j (by omega) (by omega)
     ·have e1:(List.range' (i+1) k).filter (λj=>if j=i then true else pg j)=(List.range' (i+1) k).filter pg:=xg λj hj=>by
       have:=List.mem_range'_1.1 hj;rw[aC (by omega)]
      have e2:((List.range' (i+1) k).filter pg).map (λ(j:Nat)=>((j:Int),if j=i then Li.toNat else b1 j))=((List.range' (i+1) k).filter pg).map λ(j:Nat)=>((j:Int),b1 j):=rj λj hj=>by
       have:=List.mem_range'_1.1 (uO.1 hj).1;rw[aC (by omega)]
      rw[en,vT (by simp),qx];simp only[e1,e2,↓reduceIte];simpa using h2
  ·cases h
theorem adS:bH 31 E.v_=true:=by kernel_rfl
theorem adT:bH 34 E.v_=true:=by kernel_rfl
theorem adV:bH 35 E.v_=true:=by kernel_rfl
theorem adU:bH 36 E.v_=true:=by kernel_rfl
theorem Wu {F:d_}(hF:eI E F){f:Nat}(hf:bH f E.v_=true){args:List AV}{s:Int}(h:F f args []=some ([.p (.int .i64 s)],[])){C:Ctx}(az:Ok C)(hC:C.h=[]){W:World}(hg:Grow C.w W){us:Array Value}(hv:All2 (VA C) args us.toList):
  Calls E.P f us W λe w'=>e=.returned (.int .i64 s)/\Below W.heap.size W w':=by
 refine(K7.at (hF.fn f args [] _ _ h hf) az hC hg hv).mono λe w' ⟨u,he,D,hw,hx,_,_,hu⟩=> ?_;subst he;refine⟨congrArg _ (by cases hu;rfl),?_⟩;rw[<-hw];exact zS hx hC (dB _)
theorem Ky {F:d_}(hF:eI E F){f:Nat}(hf:bH f E.v_=true){args:List AV}{s:Int}{b:Bool}(h:F f args []=some ([.p (.int .i64 s),.p (.bool b)],[])){C:Ctx}(az:Ok C)(hC:C.h=[]){W:World}(hg:Grow C.w W){us:Array Value}(hv:All2 (VA C) args us.toList):
  Calls E.P f us W λe w'=>e=.returned (.tuple #[.int .i64 s,.bool b])/\Below W.heap.size W w':=by
 refine(K7.at (hF.fn f args [] _ _ h hf) az hC hg hv).mono λe w' ⟨u,he,D,hw,hx,_,_,hu⟩=> ?_;subst he;refine⟨?_,by rw[<-hw];exact zS hx hC (dB _)⟩;obtain⟨us,rfl,h1⟩:=hu
 match hl:us.toList,h1 with
 |[a,c],⟨g1,g2,_⟩=>
  cases g1;cases g2;rw[<-Cq (xs:=us),hl]
theorem QN {F:d_}(hF:eI E F){f:Nat}(hf:bH f E.v_=true){args:List AV}{es:List (List PV)}(hes:es.all wz=true)(h:F f args []=some ([.p (.sl 1 es)],[])){C:Ctx}(az:Ok C)(hC:C.h=[]){W:World}(hg:Grow C.w W){us:Array Value}(hv:All2 (VA C) args us.toList):
  Calls E.P f us W λe w'=>∃fv,e=.returned fv/\Below W.heap.size W w'/\K2 w' fv (gT es):=by
 refine(K7.at (hF.fn f args [] _ _ h hf) az hC hg hv).mono λe w' ⟨u,he,D,hw,hx,_,_,hu⟩=> ?_;subst he;subst hw;refine⟨u,rfl,zS hx hC (dB _),?_⟩;replace hu:D.P (.sl 1 es) u:=hu;cases hu with
 |yA _ a cap=>exact .inl ⟨a,cap,rfl,rfl⟩
 |sl _ _ b off cap f hb hO hc hz hcell hvp=>
  refine .inr ⟨b,off,cap,by simp[gT],hb,λj hj=> ?_⟩;have EF:j<es.length:=by simpa[gT]using hj
  have hi:=fk.1 hes es[j] (gH EF);have e1:es[j]? =some [.int .i64 (gT es)[j]!]:=by
   rw[dO EF];congr 1;have:(gT es)[j]! =(nth .bN es[j] 0).toInt:=by simp[gT,EF]
   rw[this];revert hi;generalize es[j]=e;intro hi;unfold wz at hi;split at hi
   ·rfl
   ·cases hi
  have h1:=hcell j 0 _ (.int .i64 (gT es)[j]!) e1 rfl;have h2:=hvp j 0 _ (.int .i64 (gT es)[j]!) e1 rfl;rw[show f j 0=.int .i64 (gT es)[j]! by generalize f j 0=q at h2;cases h2;rfl]at h1;simpa using h1
theorem sk {w:World}{O:Nat->Prop}{sz:Nat}{es:List (List PV)}{u:Value}(h:VP w O (.sl sz es) u):∃a c,u=.slice a es.length c:=by
 cases h with
 |yA _ a cap=>exact⟨a,cap,rfl⟩
 |sl _ _ b off cap f hb hO hc hz hcell hvp=>exact⟨_,cap,rfl⟩
theorem Va {first:List Int}{n:Nat}(hn:first.length=n)(aA cons:List (Int×Nat)):kept (Dh (rowsR first n aA cons)) n=(List.range n).filter λf=> !(Dl first f).isEmpty:=by
 unfold kept;refine xg λx hx=> ?_;have hx:=gR.1 hx;have e:(rowsR first n aA cons).getD (x*3) []=Dl first x:=by
  rw[dD,rowsR_get (by omega)];show rowAt first n aA cons (x*3)=_
  unfold rowAt;rw[aK (by omega),show x*3/3=x by omega,<-KL,hn]
 unfold Dh;rw[e];cases Dl first x<;>simp
theorem ZP {C:Ctx}(az:Ok C)(hC:C.h=[]){first:List Int}{n:Nat}(pn:first.length=n){aA cons:List (Int×Nat)}{u:Value}{w':World}(h:Xp C.w n (rowsR first n aA cons) (.returned u) w'):
  VA ((C.ke w').over C.w.heap.size) (.t (.p (.sl 3 (JQ first aA cons)))) u/\Grow C.w w':=by
 obtain⟨A,he,hB,hA1,hA2,hrow⟩:=h;cases he;have hg:=Grow.nk hB;refine⟨?_,hg⟩;have nO:∀g,C.w.heap.size<=g->¬((C.ke w').over C.w.heap.size).O g:=by
  intro g uu ho;rcases ho with(h1|h1)|⟨id,b,hl,_⟩
  ·have:=(az.x _ h1).1;omega
  ·omega
  ·unfold live at hl;rw[show((C.ke w').over C.w.heap.size).h=[] from hC]at hl;cases hl
 have hk:=Va pn aA cons;rw[hk]at hrow|-;have hlen:(JQ first aA cons).length=((List.range n).filter λf=> !(Dl first f).isEmpty).length:=by unfold JQ;rw[nS,pn]
 rw[<-hlen];have key:∀(i j:Nat) e c,(JQ first aA cons)[i]? =some e->e[j]? =some c->∃v,w'.cell? ⟨A,0+i*3+j,none⟩=some v/\VP w' ((C.ke w').over C.w.heap.size).O c v:=by
  intro i j e c hi hj;unfold JQ at hi;rw[uP,pn]at hi;obtain⟨x,hx,rfl⟩:=EO.1 hi;have hxn:x<n:=gR.1 (uO.1 (eC hx)).1;have hj3:j<3:=(ko.1 hj).1;obtain⟨v,xs,h1,h2,h3⟩:=hrow i x hx j hj3;refine⟨v,by rw[dy];exact h1,?_⟩;rw[rowsR_get (by omega)]at h2;have hc:c=.sl 1 (vB xs):=by
   have e2:rowAt first n aA cons (x*3+j)=xs:=pG h2
   rw[<-e2];unfold rowAt
   match j,hj3,hj with
   |0,_,hj=>
    simp at hj;rw[aK (by omega),show(x*3+0)/3=x by omega,<-pn,KL];exact hj.symm
   |1,_,hj=>
    simp at hj;rw[aC (by omega),aK (by omega),show(x*3+1)/3=x by omega];exact hj.symm
   |2,_,hj=>
    simp at hj;rw[aC (by omega),aC (by omega),show(x*3+2)/3=x by omega];exact hj.symm
  subst hc;obtain⟨hl,h4⟩:=h3;rcases h4 with⟨rfl,h0⟩|⟨g,cap,cur,rfl,uu,hw,j0,_,hsz,Vn⟩
  ·have:xs=[]:=List.eq_nil_of_length_eq_zero h0;subst this;exact .yA _ _ _
  ·have hlx:xs.length=(vB xs).length:=by simp[vB]
   rw[hlx];refine VP.sl 1 _ g 0 cap (λi _=>.int .i64 (xs.getD i 0)) (c_.1 hw).1 (nO g uu) (by rw[<-hlx];exact j0) (λe he=> ?_) (λi j e c he hc=> ?_) (λi j e c he hc=> ?_)
   ·obtain⟨y,_,rfl⟩:=kE.1 he;rfl
   ·unfold vB at he;rw[uP]at he;obtain⟨y,hy,rfl⟩:=EO.1 he;have hj0:j=0:=by have:=(ko.1 hc).1;simp at this;exact this
    subst hj0;have h5:(cur.toList.take (xs.length*1))[i]? =some (.int .i64 y):=by rw[Vn];unfold iv;rw[uP,hy];rfl
    have hi:i<xs.length:=(ko.1 hy).1;rw[kG,aK (by omega)]at h5;simp only[World.cell?,hw,dD,hy,y_];rw[<-Ak];simpa using h5
   ·unfold vB at he;rw[uP]at he;obtain⟨y,hy,rfl⟩:=EO.1 he;have hj0:j=0:=by have:=(ko.1 hc).1;simp at this;exact this
    subst hj0;simp at hc;subst hc;simp only[dD,hy,y_];exact .int _ _
 refine VP.sl 3 _ A 0 n (λi j=>(w'.cell? ⟨A,0+i*3+j,none⟩).getD Go.undef) hA2 (nO A hA1) ?_ (λe he=> ?_) (λi j e c he hc=> ?_) (λi j e c he hc=> ?_)
 ·rw[hlen];have:=oO (λf=> !(Dl first f).isEmpty) (List.range n);simpa using this
 ·unfold JQ at he;obtain⟨x,_,rfl⟩:=kE.1 he;rfl
 ·obtain⟨v,h1,_⟩:=key i j e c he hc;show w'.cell? _=_;rw[h1];rfl
 ·obtain⟨v,h1,h2⟩:=key i j e c he hc;simp only[h1,y_];exact h2
theorem Sa:∀F,eI E F->∀args rs,(Qw 31 34 35 36).run F args=some rs->QZ E 12 args rs:=by
 intro F hF args rs h;replace h:(Mt 31 34 35 36 args).run F=some rs:=h;unfold Mt at h;split at h
 case h_2=>cases h
 rename_i n bs ss cs x y q0 q1 q2 q3;simp only[Ask.run]at h;split at h
 case h_2=>cases h
 rename_i r hst;split at h
 case h_2=>cases h
 rename_i e;split at h
 case isFalse=>cases h
 rename_i he0;subst he0;simp only[Ask.run]at h;split at h
 case h_2=>cases h
 rename_i r hgr;split at h
 case h_2=>cases h
 rename_i es;cases hc:(es.all wz&&(bJ 0 n&&(Nat.beq es.length n.toNat&&(Nat.ble es.length 1000&&(Nat.ble ss.length 1000&&(Nat.ble cs.length 1000&&(gT es).all λf=>bJ 0 f&&Nat.blt f.toNat es.length))))))with
 |false=>rw[hc]at h;cases h
 |true=>
  rw[hc]at h;simp only[sG]at h;simp only[bO,bJ,lR,CC,fk (l:=gT es)]at hc;obtain⟨hes,r_,hlen,Dy,hl2,hl3,uv⟩:=hc;replace hlen:=gK hlen;replace Dy:=mD Dy;replace hl2:=mD hl2;replace hl3:=mD hl3;obtain⟨b1,pg,J5,h⟩:=pS _ _ _ _ h;obtain⟨b2,zk,hfd,h⟩:=pS _ _ _ _ h;simp only[gq,Ask.run,fZ]at h;subst h;refine⟨rfl,λC az hC us hv=> ?_⟩;obtain⟨u,v,rfl,hu,hv2⟩:=su hv;obtain⟨m,rfl⟩:=Int.eq_ofNat_of_zero_le r_;have hu0:=hu;have hv0:=hv2;obtain⟨ua,rfl,hua⟩:=hu;obtain⟨va,rfl,Vl⟩:=hv2
  match hul:ua.toList,hua with
  |[c0,c1,c2,c3,c4,c5],⟨g0,g1,g2,g3,g4,g5,_⟩=>
  match hvl:va.toList,Vl with
  |[d0,d1,d2,d3],⟨k0,k1,k2,k3,_⟩=>
   obtain⟨sa,sc,rfl⟩:=sk g2;obtain⟨ca,cc,rfl⟩:=sk g3;obtain rfl:c0=.int .i64 (m:Int):=by cases g0;rfl
   have eu:ua= #[.int .i64 (m:Int),c1,.slice sa ss.length sc,.slice ca cs.length cc,c4,c5]:=by rw[<-Cq (xs:=ua),hul]
   have ev:va= #[d0,d1,d2,d3]:=by rw[<-Cq (xs:=va),hvl]
   subst eu;subst ev;have hm:es.length=m:=by simpa using hlen
   have pn:(gT es).length=m:=by rw[<-hm];simp[gT]
   have hw:=U' m (by omega) c1 c4 c5 d0 d1 d2 d3 g1.eX g4.eX g5.eX k0.eX k1.eX k2.eX k3.eX sa ca ss.length sc cs.length cc hl2 hl3 (gT es) pn
    (λj hj=>by
     have Fc:(gT es).getD j (-1)∈gT es:=by rw[dD,dO (by omega)];exact gH _
     obtain⟨p1,p2⟩:=uv _ Fc;exact⟨((gT es).getD j (-1)).toNat,by omega,by omega⟩)
    b1 b2 pg zk (λi hi ho=>by obtain⟨z,_,hz⟩:=J5 i (by omega) (by omega);have:=(hz ho).2;omega) (λi hi ho=>by obtain⟨z,_,hz⟩:=hfd i (by omega) (by omega);have:=(hz ho).2;omega) C.w
    (λW hW=>Wu hF adS hst az hC (Grow.nk hW) ⟨hu0,hv0,trivial⟩)
    (λW hW=>QN hF adT hes hgr az hC (Grow.nk hW) ⟨hu0,hv0,trivial⟩)
    (λi hi W hW=>by
     obtain⟨z,hz1,hz2⟩:=J5 i (by omega) (by omega);refine(Ky hF adV hz1 az hC (Grow.nk hW) (us:= #[_,_,.int .i64 (i:Int)]) ⟨hu0,hv0,.int _ _,trivial⟩).mono ?_;rintro e w' ⟨rfl,hB⟩;exact⟨⟨z,λho=>(hz2 ho).1,rfl⟩,hB⟩)
    (λi hi W hW=>by
     obtain⟨z,hz1,hz2⟩:=hfd i (by omega) (by omega);refine(Ky hF adU hz1 az hC (Grow.nk hW) (us:= #[_,_,.int .i64 (i:Int)]) ⟨hu0,hv0,.int _ _,trivial⟩).mono ?_;rintro e w' ⟨rfl,hB⟩;exact⟨⟨z,λho=>(hz2 ho).1,rfl⟩,hB⟩)
   refine hw.mono λe w' he=> ?_;have he':=he;obtain⟨A,rfl,_⟩:=he';obtain⟨h1,h2⟩:=ZP az hC pn he;refine⟨C.ke w',rfl,(pZ C h2).m _,BG az h2,hC,?_⟩;rw[<-iC,<-iC];exact h1
theorem Ya:∀F,eI E F->∀args rs,(Qw 31 34 35 36).run F args=some rs->K7 E 12 args [] rs []:=by
 intro F hF args rs h;obtain⟨hr,h1⟩:=Sa F hF args rs h;have hsh:∃es,rs=[.p (.sl 3 es)]:=by
  replace h:(Mt 31 34 35 36 args).run F=some rs:=h;unfold Mt at h;split at h
  case h_2=>cases h
  simp only[Ask.run]at h;split at h
  case h_2=>cases h
  split at h
  case h_2=>cases h
  split at h
  case isFalse=>cases h
  simp only[Ask.run]at h;split at h
  case h_2=>cases h
  split at h
  case h_2=>cases h
  rename_i es hgr;cases hc:(es.all wz&&(bJ 0 _&&(Nat.beq es.length _&&(Nat.ble es.length 1000&&(Nat.ble _ 1000&&(Nat.ble _ 1000&&(gT es).all λf=>bJ 0 f&&Nat.blt f.toNat es.length))))))with
  |false=>rw[hc]at h;cases h
  |true=>
   rw[hc]at h;simp only[sG]at h;obtain⟨_,_,_,h⟩:=pS _ _ _ _ h;obtain⟨_,_,_,h⟩:=pS _ _ _ _ h;simp only[Ask.run,fZ]at h;exact⟨_,h.symm⟩
 obtain⟨es,rfl⟩:=hsh;intro C az hC us hv;refine(h1 C az hC us hv).mono λe w' he=> ?_;cases e with
 |returned u=>
  obtain⟨D,e1,e2,e3,e4,e5⟩:=he;refine⟨D,e1,e2,e3,by rw[e4];rfl,rfl,?_⟩;exact VP.sub (λb _ ho=>ho.elim (λh=>.inl (.inl h)) λh=>.inr h) e5
 |_=>exact he.elim
end
theorem brkGo_take {n:Int}:∀{l:List (Int×Int×Int)} {st Xt:List Int×List (List Int)},brkGo n l st=some Xt->∀k (hk:k<l.length),∃s1 s2,brkGo n (l.take k) st=some s1/\brkStep n s1 l[k]=some s2/\brkGo n (l.take (k+1)) st=some s2
 |[],st,Xt,h,k,hk=>by simp at hk
 |x::l,st,Xt,h,k,hk=>by
  simp only[brkGo]at h;split at h
  case h_2=>cases h
  rename_i bD hst;cases k with
  |zero=>exact⟨st,bD,rfl,hst,by simp[brkGo,hst]⟩
  |succ k=>
   obtain⟨s1,s2,h1,h2,h3⟩:=brkGo_take h k (by simpa using hk);exact⟨s1,s2,by simp[brkGo,hst,h1],by simpa using h2,by simp only[m_,brkGo,hst];exact h3⟩
theorem brkStep_len {n:Int}{st bD:List Int×List (List Int)}{x:Int×Int×Int}(h:brkStep n st x=some bD):bD.1.length=st.1.length/\bD.2.length=st.2.length/\∀j,(bD.2.getD j []).length<=(st.2.getD j []).length+1:=by
 unfold brkStep at h;split at h
 case isFalse=>cases h
 split at h
 ·split at h<;>cases h;exact⟨rfl,rfl,λj=>by omega⟩
 ·split at h
  ·split at h<;>cases h;exact⟨by simp,rfl,λj=>by simp⟩
  ·split at h
   ·split at h<;>cases h;refine⟨rfl,by simp,λj=> ?_⟩;simp only[dD,qy];rename_i hc;by_cases hj:x.2.2.toNat=j
    ·subst hj;rw[aK rfl,aK hc.2.1];simp
    ·rw[aC hj];omega
   ·cases h
theorem brkGo_len {n:Int}:∀{l:List (Int×Int×Int)} {st Xt:List Int×List (List Int)},brkGo n l st=some Xt->Xt.1.length=st.1.length/\Xt.2.length=st.2.length/\∀j,(Xt.2.getD j []).length<=(st.2.getD j []).length+l.length
 |[],st,Xt,h=>by cases h;exact⟨rfl,rfl,λj=>by simp⟩
 |x::l,st,Xt,h=>by
  simp only[brkGo]at h;split at h
  case h_2=>cases h
  rename_i bD hst;obtain⟨h1,h2,h3⟩:=brkStep_len hst;obtain⟨k1,k2,k3⟩:=brkGo_len h;exact⟨by omega,by omega,λj=>by have:=h3 j;have:=k3 j;simp only[cM];omega⟩
theorem brkStep_cases {n:Int}{s:List Int}{c:List (List Int)}{kd a q:Int}{bD:List Int×List (List Int)}(h:brkStep n (s,c) (kd,a,q)=some bD):(0<=a/\a<=n-1)/\
  ((kd=1/\(a+1<=q/\q<=n-1)/\bD=(s,c))\/(kd=2/\(∃Q:Nat,q=(Q:Int)/\Q<s.length/\s[Q]? =some 0/\bD=(s.set Q 1,c)))\/
   (kd=3/\∃Q:Nat,q=(Q:Int)/\Q<c.length/\∃r,c[Q]? =some r/\¬a∈r/\bD=(s,c.set Q (r++[a])))):=by
 unfold brkStep at h;simp only at h;by_cases ha:0<=a/\a<=n-1
 case neg=>rw[aC ha]at h;cases h
 rw[aK ha]at h;refine⟨ha,?_⟩;by_cases h1:kd=1
 ·rw[aK h1]at h;by_cases hq:a+1<=q/\q<=n-1
  ·rw[aK hq]at h;cases h;exact .inl ⟨h1,hq,rfl⟩
  ·rw[aC hq]at h;cases h
 ·rw[aC h1]at h;by_cases h2:kd=2
  ·rw[aK h2]at h;by_cases hq:0<=q/\q.toNat<s.length/\s.getD q.toNat 1=0
   ·rw[aK hq]at h;cases h;obtain⟨Q,rfl⟩:=Int.eq_ofNat_of_zero_le hq.1;simp only[bo]at hq|-;refine .inr (.inl ⟨h2,Q,rfl,hq.2.1,?_,rfl⟩);have:=hq.2.2;rw[dD,dO hq.2.1]at this;rw[dO hq.2.1];exact congrArg some this
   ·rw[aC hq]at h;cases h
  ·rw[aC h2]at h;by_cases h3:kd=3
   ·rw[aK h3]at h;by_cases hq:0<=q/\q.toNat<c.length/\¬a∈c.getD q.toNat []
    ·rw[aK hq]at h;cases h;obtain⟨Q,rfl⟩:=Int.eq_ofNat_of_zero_le hq.1;simp only[bo]at hq|-;refine .inr (.inr ⟨h3,Q,rfl,hq.2.1,c.getD Q [],?_,hq.2.2,rfl⟩);rw[dD,dO hq.2.1];rfl
    ·rw[aC hq]at h;cases h
   ·rw[aC h3]at h;cases h
theorem Gr:∀{es:List (List PV)} {l:List (Int×Int×Int)},A8 es=some l->es.length=l.length/\∀(j:Nat) x,l[j]? =some x->es[j]? =some [PV.int .i64 x.1,PV.int .i64 x.2.1,PV.int .i64 x.2.2]
 |[],l,h=>by
  simp only[A8,fZ]at h;subst h;exact⟨rfl,λj x h=>by simp at h⟩
 |e::es,l,h=>by
  simp only[A8]at h;split at h
  ·rename_i x r hx hr;simp only[fZ]at h;subst h;obtain⟨h1,h2⟩:=Gr hr;refine⟨by simp[h1],λj y hy=> ?_⟩
   match j,hy with
   |0,hy=>
    simp only[rT,fZ]at hy|-;subst hy;unfold afk at hx;split at hx
    ·simp only[fZ]at hx;subst hx;rfl
    ·cases hx
   |j+1,hy=>exact h2 j y (by simpa using hy)
  ·cases h
end Go.Proofs.YtoocplpcbdemhaaGreat.Vm
namespace Go.Proofs.YtoocplpcbdemhaaGreat
open Go Go.Proofs Go.RowKit
open Vm (brkGo brkStep brkGo_take brkGo_len brkStep_len brkStep_cases Nums1 contains_any)
theorem Qa (n:Nat)(hn:n<=1000):∃cs:Array Value,cs=(iv (List.replicate n 0)).toArray/\∀W,(Instr.makeSlice 22 (.int .i64 (n:Int)) (.int .i64 (n:Int))).run Tryz.prog W=.ok (.slice (some ⟨W.heap.size,0,none⟩) n n) (W.alloc (.cells cs 3)):=by
 have hi:(Tryz.prog.info? 3).map (λi=>(i.zero,i.size,i.bytes))=some (some (.int .i64 0),1,8):=by kernel_rfl
 cases h:Tryz.prog.info? 3 with
 |none=>rw[h]at hi;cases hi
 |some i=>
  rw[h]at hi;simp only[ru,fZ,iP]at hi;obtain⟨hz,hsz,hby⟩:=hi;refine⟨_,?_,λW=>run_make W 22 3 i _ Tryz.underlying22 h hz .i64 .i64 n n (by omega) (Cu _) (by rw[hby];omega) (by omega)⟩;rw[hsz,bo,Nat.mul_one];apply Array.ext';unfold madeCells iv;rw[G0,List.map_replicate,List.eq_replicate_iff];refine⟨by simp,λv hv=> ?_⟩;obtain⟨j,_,rfl⟩:=kE.1 hv;show((#[.int .i64 0]:Array Value)[j %1]!)=_;rw[Nat.mod_one];rfl
theorem Ub (n:Nat)(hn:n<=1000):∃cs:Array Value,cs.toList=List.replicate n (.slice none 0 0)/\∀W,(Instr.makeSlice 195 (.int .i64 (n:Int)) (.int .i64 (n:Int))).run Tryz.prog W=.ok (.slice (some ⟨W.heap.size,0,none⟩) n n) (W.alloc (.cells cs 22)):=by
 have hi:(Tryz.prog.info? 22).map (λi=>(i.zero,i.size,i.bytes))=some (some (.slice none 0 0),1,24):=by kernel_rfl
 cases h:Tryz.prog.info? 22 with
 |none=>rw[h]at hi;cases hi
 |some i=>
  rw[h]at hi;simp only[ru,fZ,iP]at hi;obtain⟨hz,hsz,hby⟩:=hi;refine⟨_,?_,λW=>run_make W 195 22 i _ Tryz.underlying195 h hz .i64 .i64 n n (by omega) (Cu _) (by rw[hby];omega) (by omega)⟩;rw[hsz,bo,Nat.mul_one];unfold madeCells;rw[G0,List.eq_replicate_iff];refine⟨by simp,λv hv=> ?_⟩;obtain⟨j,_,rfl⟩:=kE.1 hv;show((#[.slice none 0 0]:Array Value)[j %1]!)=_;rw[Nat.mod_one];rfl
set_option maxRecDepth 100000 in
theorem Ho (a lo hi:Int)(h1:lo<=a)(h2:a<=hi)(w:World):Calls Tryz.prog 78 #[.int .i64 a,.int .i64 lo,.int .i64 hi] w λe w'=>e=.returned (.bool true)/\w=w':=by
 go_enter Tryz.func78,Tryz.ntmps78
 go_wp2
 go_ret
 simp
theorem ZS (a lo hi:Int)(h1:lo<=a)(h2:a<=hi)(w:World):Calls Tryz.prog 78 #[.int .i64 a,.int .i64 lo,.int .i64 hi] w λe w'=>e=.returned (.bool true)/\w'=w:=(Ho a lo hi h1 h2 w).mono λe w' h=>⟨h.1,h.2.symm⟩
theorem below_drewN {w:World}{n:Nat}:Below w.heap.size w (w.drewN n):=⟨rfl,rfl,rfl,dB _,λ_ _=>rfl⟩
structure Bw (w:World)(bc:Array Value)(S K:Nat)(s:List Int)(c:List (List Int))(W:World):Prop where
 below:Below w.heap.size w W
 bx:W.heap[w.heap.size]? =some (.cells bc 29 (0,0))
 sc:W.heap[S]? =some (.cells (iv s).toArray 3 (0,0))
 sl:w.heap.size+1<=S
 ne:S≠K
 tb:∃vals,Tb (w.heap.size+1) K 22 vals c W/\∀(j:Nat) v,vals[j]? =some v->v.ownBlock≠some S
section
variable {w:World} {bc:Array Value} {S K:Nat} {s:List Int} {c:List (List Int)} {W W':World}
theorem Bw.step (h:Bw w bc S K s c W)(hB:Below W.heap.size W W'):Bw w bc S K s c W':=by
 have h1:=iX h.bx;have h2:=iX h.sc;obtain⟨vals,h3,h4⟩:=h.tb;exact⟨h.below.trans (hB.mono (by omega)),(hB.block _ h1).trans h.bx,(hB.block _ h2).trans h.sc,h.sl,h.ne,vals,h3.below hB,h4⟩
theorem Bw.alloc (h:Bw w bc S K s c W)(o:Obj):Bw w bc S K s c (W.alloc o):=h.step ((Below.refl _ W).alloc (dB _) o)
theorem Bw.drew (h:Bw w bc S K s c W):Bw w bc S K s c W.drew:=h.step (Below.refl _ W).drew
theorem Bw.b (h:Bw w bc S K s c W)(j:Nat):W.cell? ⟨w.heap.size,j,none⟩=bc[j]?:=by simp[World.cell?,h.bx]
theorem Bw.agh (h:Bw w bc S K s c W)(j:Nat):W.cell? ⟨S,j,none⟩=(iv s)[j]?/\W.frozen? ⟨S,j,none⟩=false:=by
 constructor
 ·simp[World.cell?,h.sc]
 ·simp[World.frozen?,h.sc]
theorem Gt {B:Nat}{b i:Nat}{u:Value}(h:Below B w W)(hB:B<=w.heap.size)(hb:B<=b):Below B w (W.setCell ⟨b,i,none⟩ u):=
 below_grown h (CF W b i u) hB (λk hk=>by cases hk;exact hb)
theorem Bw.kf (h:Bw w bc S K s c W)(i:Nat)(x:Int):Bw w bc S K (s.set i x) c (W.setCell ⟨S,i,none⟩ (.int .i64 x)):=by
 have h1:=iX h.bx;have ak:=h.sl;obtain⟨vals,h3,h4⟩:=h.tb;have hg:=CF W S i (.int .i64 x);refine⟨Gt h.below (dB _) (by omega),(hg.block _ h1 (by simp;omega)).trans h.bx,?_,h.sl,h.ne,vals,h3.Pr _ h.ne (λj v hv=>h4 j v hv),h4⟩;rw[IV h.sc];congr 2;apply Array.ext';simp[iv,List.map_set]
theorem Bw.push (h:Bw w bc S K s c W){vals:List Value}(hT:Tb (w.heap.size+1) K 22 vals c W)(hS:∀(j:Nat) v,vals[j]? =some v->v.ownBlock≠some S){i:Nat}{v v':Value}{xs:List Int}{x:Int}{w1:World}(hv:vals[i]? =some v)(hx:c[i]? =some xs)(hg:W.grownBy w1 v.ownBlock)
  (hown:w1.ownsRow (w.heap.size+1) 3 1 v' (xs.length+1) (iv xs++[.int .i64 x])) (hat:v'.ownBlock=v.ownBlock\/v'.ownBlock=some W.heap.size):Bw w bc S K s (c.set i (xs++[x])) (w1.setCell ⟨K,i,none⟩ v'):=by
 have h1:=iX h.bx;have h2:=iX h.sc;have ak:=h.sl;have hKl:=hT.low;have MB:=CF w1 K i v';have hgs:=hg.size;have vb:∀g,v.ownBlock=some g->w.heap.size+1<=g:=λg e=>(hT.lt hv e).1;refine⟨Gt (below_grown h.below hg (dB _) λk hk=>by have:=vb k hk;omega) (dB _) (by omega),?_,?_,ak,h.ne,_,hT.push hv hx hg hown hat,λj u hu=> ?_⟩
 ·rw[MB.block _ (by omega) (by simp;omega),hg.block _ h1 (λe=>by have:=vb _ e.symm;omega)];exact h.bx
 ·rw[MB.block _ (by omega) (by simpa using h.ne),hg.block _ h2 (λe=>hS i v hv e.symm)];exact h.sc
 ·rw[qy]at hu;split at hu
  ·split at hu
   ·cases hu;rcases hat with e|e
    ·rw[e];exact hS i v hv
    ·rw[e];simp;omega
   ·cases hu
  ·exact hS j u hu
end
set_option maxRecDepth 100000 in
theorem QA (a:Option Addr)(l c:Nat)(hl:0<l)(w:World):Calls Tryz.prog 140 #[.slice a l c] w λe w'=>e=.returned (.bool false)/\w=w':=by
 have hd:((l:Int)==0)=false:=by simp;omega
 go_enter Tryz.func140,Tryz.ntmps140
 go_wp2
 go_ret
 simp[hd]
set_option maxRecDepth 100000 in
set_option maxHeartbeats 1000000 in
theorem MU (K cap n:Nat)(A:Nat->Option Addr)(L C:Nat->Nat)(w:World)(hn:n<=1000)(hc:∀j,j<n->w.cell? ⟨K,j,none⟩=some (.slice (A j) (L j) (C j))/\0<L j):
  CallsIn Fence.wide 8 Tryz.prog 174 #[.slice (some ⟨K,0,none⟩) n cap,.func (.func 140) #[] #[]] w λe w'=>e=.returned (.int .i64 (-1))/\w=w':=by
 refine Cs Tryz.func174 rfl trivial ?_ rfl;simp only[Tryz.ntmps174,oa,cM,iD,Nat.reduceAdd,Nat.reduceSub,iO,CJ,Aj,FT,gq,rS]
 gi_wp2
 gi_loopw [8] (λi wr=>∃k:Nat,k<=n/\i=.int .i64 (k:Nat)/\w=wr) (λi _=>n-(intOf i).toNat)
 case atStart=>exact⟨0,rz _,rfl,rfl⟩
 case round=>
  obtain⟨k,hk,rfl,rfl⟩:=hrel;by_cases hlt:k<n
  ·obtain⟨c0,c1⟩:=hc k hlt
   gi_wp2
   refine⟨trivial,?_⟩;refine(callsIn_wide.2 (QA (A k) (L k) (C k) c1 w)).mono ?_;rintro e W3 ⟨rfl,rfl⟩
   gi_wp2
   go_roundw
   case rel=>exact⟨k+1,by omega,by simp,trivial⟩
   case measure=>simp[intOf]<;>omega
  ·obtain rfl:k=n:=by omega
   gi_wp2
   go_ret
   exact⟨rfl,rfl⟩
set_option maxRecDepth 100000 in
set_option maxHeartbeats 1000000 in
theorem Mf (K cap n:Nat)(A:Nat->Option Addr)(L C:Nat->Nat)(w:World)(hn:n<=1000)(hc:∀j,j<n->w.cell? ⟨K,j,none⟩=some (.slice (A j) (L j) (C j))/\0<L j):
  Calls Tryz.prog 139 #[.slice (some ⟨K,0,none⟩) n cap,.func (.func 140) #[] #[]] w λe w'=>e=.returned (.bool false)/\w'=w:=by
 have h1:=callsIn_wide.1 (MU K cap n A L C w hn hc);clear hc
 go_enter Tryz.func139,Tryz.ntmps139
 go_wp2_with (go_at_call 174;refine h1.mono ?_;rintro e w' ⟨rfl,rfl⟩)
 go_ret
 simp
theorem Jr {base:Nat}{va:Option Addr}{vc B:Nat}{r:List Int}{W W':World}(h:W.ownsRow base 3 1 (.slice va r.length vc) r.length (iv r))(hW:Below B W W')(hs:W.heap.size<=B):Nums1 W' (.slice va r.length vc) r:=by
 obtain⟨_,h|⟨g,cap,cur,e,hb,hg,hn,_,hsz,Vn⟩⟩:=h
 ·obtain⟨e,h0⟩:=h;have:r=[]:=List.eq_nil_of_length_eq_zero h0;subst this;exact .inl ⟨va,vc,rfl,rfl⟩
 ·cases e;refine .inr ⟨g,0,vc,rfl,λj hj=> ?_⟩;have h1:W'.heap[g]? =some (.cells cur 3 (0,0)):=(hW.block g (by have:=(c_.1 hg).1;omega)).trans hg;have h2:(cur.toList.take (r.length*1))[j]? =some (.int .i64 r[j]!):=by
   rw[Vn];unfold iv;rw[uP,dO hj];simp[hj]
  rw[kG,aK (by omega)]at h2;simp only[World.cell?,h1,dy];rw[<-Ak];simpa using h2
set_option maxRecDepth 100000 in
set_option maxHeartbeats 8000000 in
theorem W_ (n:Nat)(hn:n<=1000)(ba sa ca:Option Addr)(nb aaY ns sc nc cc:Nat)(hnb:nb<=1000)(Z5:ns<=1000)(hnc:nc<=1000)(xv yv:Value)(o2:xv.oneCell'=true)(o3:yv.oneCell'=true)(l:List (Int×Int×Int))(hl:l.length=nb)(w:World)
  (hbr:∀(j:Nat) x,l[j]? =some x->∃B off,ba=some ⟨B,off,none⟩/\B<w.heap.size/\w.cell? ⟨B,off+j*3,none⟩=some (.int .i64 x.1)/\w.cell? ⟨B,off+j*3+1,none⟩=some (.int .i64 x.2.1)/\w.cell? ⟨B,off+j*3+2,none⟩=some (.int .i64 x.2.2))
  (sf:List Int) (cf:List (List Int)) (hgo:brkGo (n:Int) l (List.replicate ns 0,List.replicate nc [])=some (sf,cf)) (Q9:∀x∈sf,x≠0) (hcf:∀x∈cf,x≠[]):
  Calls Tryz.prog 91 #[.agg #[.int .i64 (n:Int),.slice ba nb aaY,.slice sa ns sc,.slice ca nc cc,xv,yv]] w λe w'=>e=.returned (.bool true)/\Below w.heap.size w w':=by
 obtain⟨sI,hsI,hm1⟩:=Qa ns Z5;obtain⟨sT,hsT,hm2⟩:=Ub nc hnc;obtain⟨bc,hbc⟩:∃bc,bc= #[.int .i64 (n:Int),.slice ba nb aaY,.slice sa ns sc,.slice ca nc cc,xv,yv]:=⟨_,rfl⟩
 have rI:Bw w bc (w.heap.size+1) (w.heap.size+1+1) (List.replicate ns 0) (List.replicate nc []) ((((w.alloc (.cells bc 29)).alloc (.cells sI 3)).alloc (.cells sT 22)).drew):=by
  refine Bw.drew ⟨(((Below.refl _ w).alloc (dB _) _).alloc (by simp) _).alloc (by simp;omega) _,?_,?_,dB _,by omega,List.replicate nc (.slice none 0 0),?_,λj v hv=> ?_⟩
  ·rw[vQ _ _ (by simp;omega),vQ _ _ (by simp)];exact Cn w _
  ·rw[vQ _ _ (by simp),hsI];have:=Cn (w.alloc (.cells bc 29)) (.cells (iv (List.replicate ns 0)).toArray 3);simpa using this
  ·have:=Tb.make (base:=w.heap.size+1) (ty:=22) (W:=(w.alloc (.cells bc 29)).alloc (.cells sI 3)) nc (by simp) sT hsT;simpa using this
  ·rw[pI]at hv;split at hv
   ·cases hv;simp[Value.ownBlock]
   ·cases hv
 have OO:Bw w bc (w.heap.size+1+1) (w.heap.size+1) (List.replicate ns 0) (List.replicate nc []) ((((w.alloc (.cells bc 29)).alloc (.cells sT 22)).alloc (.cells sI 3)).drew):=by
  refine Bw.drew ⟨(((Below.refl _ w).alloc (dB _) _).alloc (by simp) _).alloc (by simp;omega) _,?_,?_,by omega,by omega,List.replicate nc (.slice none 0 0),Tb.alloc ?_ _,λj v hv=> ?_⟩
  ·rw[vQ _ _ (by simp;omega),vQ _ _ (by simp)];exact Cn w _
  ·rw[hsI];have:=Cn ((w.alloc (.cells bc 29)).alloc (.cells sT 22)) (.cells (iv (List.replicate ns 0)).toArray 3);simpa using this
  ·have:=Tb.make (base:=w.heap.size+1) (ty:=22) (W:=(w.alloc (.cells bc 29))) nc (by simp) sT hsT;simpa using this
  ·rw[pI]at hv;split at hv
   ·cases hv;simp[Value.ownBlock]
   ·cases hv
 rw[hbc]at rI OO;clear hbc;subst hsI;have mh:(Tryz.prog.info? 3).map (λi=>(i.zero,i.size,i.bytes))=some (some (.int .i64 0),1,8):=by kernel_rfl
 obtain⟨i0,hi,hz0,hz1,hz2⟩:∃i0,Tryz.prog.info? 3=some i0/\i0.zero=some (.int .i64 0)/\i0.size=1/\i0.bytes=8:=by
  cases h:Tryz.prog.info? 3 with
  |none=>rw[h]at mh;cases mh
  |some i=>
   rw[h]at mh;simp only[ru,fZ,iP]at mh;exact⟨i,rfl,mh.1,mh.2.1,mh.2.2⟩
 clear mh
 go_enter Tryz.func91,Tryz.ntmps91
 go_upto_region 1 with fail
 go_cut [3,4] (λs3 s4 wx=>∃S K,s3=.slice (some ⟨S,0,none⟩) ns ns/\s4=.slice (some ⟨K,0,none⟩) nc nc/\Bw w #[.int .i64 (n:Int),.slice ba nb aaY,.slice sa ns sc,.slice ca nc cc,xv,yv] S K (List.replicate ns 0) (List.replicate nc []) wx)
 case first=>
  go_region
  all_goals (go_wp2_with fail;go_meet)
  ·exact⟨_,_,rfl,rfl,rI⟩
  ·exact⟨_,_,rfl,rfl,OO⟩
 case rest=>
  clear hm1 hm2 rI OO;obtain⟨S,K,rfl,rfl,MM⟩:=hcut;have xx:=MM.b 1;simp only[Bj,rT,qA]at xx
  go_wp2
  clear xx
  go_loopw [18] (λt wr=>∃(k:Nat) (s:List Int) (c:List (List Int)),k<=nb/\t=.int .i64 (k:Nat)/\brkGo (n:Int) (l.take k) (List.replicate ns 0,List.replicate nc [])=some (s,c)/\Bw w #[.int .i64 (n:Int),.slice ba nb aaY,.slice sa ns sc,.slice ca nc cc,xv,yv] S K s c wr) (λt _=>nb-(intOf t).toNat)
  case atStart=>exact⟨0,_,_,rz _,rfl,rfl,MM⟩
  case round=>
   obtain⟨k,s,c,hk,rfl,hgk,hB⟩:=hrel;clear MM;by_cases hlt:k<nb
   ·obtain⟨x,hx⟩:∃x,l[k]? =some x:=⟨_,dO (by omega)⟩
    obtain⟨B,off,rfl,hBl,f0,f1,f2⟩:=hbr k x hx;replace f0:=(hB.below.cell (p:=⟨B,off+k*3,none⟩) hBl).trans f0;replace f1:=(hB.below.cell (p:=⟨B,off+k*3+1,none⟩) hBl).trans f1;replace f2:=(hB.below.cell (p:=⟨B,off+k*3+2,none⟩) hBl).trans f2;obtain⟨s1,s2,g1,g2,g3⟩:=brkGo_take hgo k (by omega);have BO:l[k]'(by omega)=x:=by rw[dO (by omega)]at hx;exact pG hx
    rw[BO]at g2;rw[hgk]at g1;cases g1;have hlen:=brkGo_len hgk;simp only[za]at hlen;clear hbr hgo hgk hx BO;obtain⟨kd,a,q⟩:=x;simp only at f0 f1 f2;have Hx:=hB.alloc (.cells #[.int .i64 kd,.int .i64 a,.int .i64 q] 84);have x0:=Hx.b 0;simp only[Bj,rT,qA]at x0;obtain⟨⟨ha1,ha2⟩,⟨rfl,⟨Vr,hq2⟩,rfl⟩|⟨rfl,Q,rfl,hQ,hq3,rfl⟩|⟨rfl,Q,rfl,hQ,r,hr,Fc,rfl⟩⟩:=brkStep_cases g2
    ·clear g2
     go_wp2_with (go_at_call 78;refine(Ho _ _ _ (by omega) (by omega) _).mono ?_;rintro e w' ⟨rfl,rfl⟩)
     go_roundw
     case rel=>exact⟨k+1,_,_,by omega,by simp,g3,Hx⟩
     case measure=>simp[intOf]<;>omega
    ·clear g2;have hsq:(iv s)[Q]? =some (.int .i64 0):=by
      unfold iv;rw[uP,hq3];rfl
     obtain⟨y0,y1⟩:=Hx.agh Q;rw[hsq]at y0
     go_wp2_with (go_at_call 78;refine(Ho _ _ _ (by omega) (by omega) _).mono ?_;rintro e w' ⟨rfl,rfl⟩)
     go_roundw
     case rel=>exact⟨k+1,_,_,by omega,by simp,g3,Hx.kf Q 1⟩
     case measure=>simp[intOf]<;>omega
    ·clear g2;obtain⟨vals,hTw,hS⟩:=hB.tb;have hT:=hTw.alloc (.cells #[.int .i64 3,.int .i64 a,.int .i64 (Q:Int)] 84);have hQv:Q<vals.length:=by rw[hT.len];exact hQ
     obtain⟨v,hv⟩:∃v,vals[Q]? =some v:=⟨vals[Q]'hQv,dO _⟩
     obtain⟨c2,c3⟩:=hT.at_ hv;have hown:=hT.row _ _ _ hv hr;have E9:=zf hown;obtain⟨va,vc,rfl⟩:∃va vc,v=.slice va r.length vc:=⟨_,_,E9⟩
     clear E9;have acO:∀N,Calls Tryz.prog 81 #[.slice va r.length vc,.int .i64 a] ((wr.alloc (.cells #[.int .i64 3,.int .i64 a,.int .i64 (Q:Int)] 84)).drewN N) λe w'=>e=.returned (.bool false)/\w'=(wr.alloc (.cells #[.int .i64 3,.int .i64 a,.int .i64 (Q:Int)] 84)).drewN N:=by
      intro N;have Z_:=hlen.2.2 Q;have h1:=contains_any (.slice va r.length vc) r a _ (Jr hown (below_drewN (n:=N)) (dB _)) (by
       rw[dD,hr]at Z_;simp only[y_,Cp,dD,pI]at Z_;split at Z_<;>simp at Z_<;>omega)
      rw[List.any_eq_false.2 (λy hy=>by simp;rintro rfl;exact Fc hy)]at h1;exact h1
     go_wp2_with (go_at_call 78;refine(Ho _ _ _ (by omega) (by omega) _).mono ?_;rintro e w' ⟨rfl,rfl⟩)
     have ZX:IntKind.i64.wrap ((nc:Int)-1)=(nc:Int)-1:=IntWalk.i64_in _ (by omega)
     go_quiet (first|(refine Calls.quiet_of_same (ZS _ _ _ (by omega) (by omega) _);done)|exact Calls.quiet_of_same (acO _))
     clear ZX acO;have hBV:=Hx.step (below_drewN (n:=nq));have hTV:=hT.below (below_drewN (n:=nq));have z1:((wr.alloc (.cells #[.int .i64 3,.int .i64 a,.int .i64 (Q:Int)] 84)).drewN nq).heap[wr.heap.size]? =some (.cells #[.int .i64 3,.int .i64 a,.int .i64 (Q:Int)] 84 (0,0)):=Cn wr _;have hVs:((wr.alloc (.cells #[.int .i64 3,.int .i64 a,.int .i64 (Q:Int)] 84)).drewN nq).heap.size>=wr.heap.size+1:=by simp[World.drewN]
     generalize (wr.alloc (.cells #[.int .i64 3,.int .i64 a,.int .i64 (Q:Int)] 84)).drewN nq=V at hBV hTV z1 hVs|-;have Xx:=hTV.ER _ _ hv;have Lf:=iX hTV.cell;have hKl:=hTV.low;have N7:∀g,(Value.slice va r.length vc).ownBlock=some g->w.heap.size+1<=g/\g<wr.heap.size:=λg hg=>hTw.lt hv hg;clear hT hTw Hx c2 c3 x0 hB hown;obtain⟨c2,f2⟩:=hTV.at_ hv;have VR:=(hTV.drew).alloc (.cells #[.int .i64 a] 3);have hown:=VR.row _ _ _ hv hr;have hrl:r.length<=1000:=by
      have Z_:=hlen.2.2 Q;rw[dD,hr]at Z_;simp only[y_,Cp,dD,pI]at Z_;split at Z_<;>simp at Z_<;>omega
     have b1:V.cell? ⟨wr.heap.size,1,none⟩=some (.int .i64 a):=by simp[World.cell?,z1]
     have b2:V.cell? ⟨wr.heap.size,2,none⟩=some (.int .i64 (Q:Int)):=by simp[World.cell?,z1]
     have Qx:Below V.heap.size V (V.alloc (.cells #[.int .i64 a] 3)).drew:=((Below.refl _ V).alloc (dB _) _).drew;have b1d:V.drew.cell? ⟨wr.heap.size,1,none⟩=some (.int .i64 a):=b1;have b2d:V.drew.cell? ⟨wr.heap.size,2,none⟩=some (.int .i64 (Q:Int)):=b2;have c2d:V.drew.cell? ⟨K,Q,none⟩=some (.slice va r.length vc):=c2;have b2a:(V.alloc (.cells #[.int .i64 a] 3)).drew.cell? ⟨wr.heap.size,2,none⟩=some (.int .i64 (Q:Int)):=(Qx.cell (p:=⟨wr.heap.size,2,none⟩) (show wr.heap.size<V.heap.size by omega)).trans b2;have c2a:(V.alloc (.cells #[.int .i64 a] 3)).drew.cell? ⟨K,Q,none⟩=some (.slice va r.length vc):=(Qx.cell (p:=⟨K,Q,none⟩) Lf).trans c2;have hQn:Q<nc:=by have:=hlen.2.1;omega
     have hQi:(Q:Int)<(nc:Int):=by omega
     go_wp2
     go_region_law (refine step_append_lies _ (by rfl) _ _ _ (by rfl) (w.heap.size+1) 3 i0 _ 1 8 Tryz.underlying22 hi hz0 hz1 hz2 rfl (by omega) (.slice va r.length vc) _ (iv r) (by rfl) hown ⟨V.heap.size,0,none⟩ 1 1 [.int .i64 a] (by rfl) (by rfl) (World.news_of_block (cs:= #[.int .i64 a]) (t:=3) (fr:=(0,0)) (Cn V.drew _)) (by intro u hu;simp only[gI,Ai,or_false]at hu;subst hu;rfl) (by omega) (by unfold maxLen;omega) (by omega) (by simp;omega) (V.heap.size+1) (by simp) ?_;intro gg cap w1 Dw jD hat aev;have K_:w1.heap[K]? =V.heap[K]?:=(jD.block _ (by simp;omega) (vd Xx)).trans (vQ V.drew _ Lf);have fz:=(pJ (a:=⟨K,Q,none⟩) K_).trans f2;have xz:=(nT (a:=⟨K,Q,none⟩) K_).trans c2;have xf:w1.cell? ⟨wr.heap.size,2,none⟩=some (.int .i64 (Q:Int)):=(nT (a:=⟨wr.heap.size,2,none⟩) ((jD.block wr.heap.size (by simp;omega) (λe=>by have:=(N7 _ e.symm).2;omega)).trans (vQ V.drew _ (show wr.heap.size<V.heap.size by omega)))).trans b2)
     all_goals
      have hN:=((hBV.drew).alloc (.cells #[.int .i64 a] 3)).push VR hS (x:=a) hv hr jD (v':=.slice (some ⟨gg,0,none⟩) (r.length+1) cap) Dw (BC hat)
      go_wp2
      refine⟨⟨k+1,_,_,by omega,by simp,g3,hN⟩,by simp[intOf]<;>omega⟩
   ·obtain rfl:k=nb:=by omega
    rw[<-hl,List.take_length,hgo]at hgk;cases hgk;have hlen:=brkGo_len hgo;simp only[za]at hlen;obtain⟨Dy,hl2,_⟩:=hlen;obtain⟨vals,hT,_⟩:=hB.tb;have ak5:Calls Tryz.prog 81 #[.slice (some ⟨S,0,none⟩) ns ns,.int .i64 0] wr λe w'=>e=.returned (.bool false)/\w'=wr:=by
     have h1:=contains_any (.slice (some ⟨S,0,none⟩) sf.length ns) sf 0 wr (.inr ⟨S,0,ns,rfl,λj hj=>by
      rw[dy,(hB.agh j).1];unfold iv;rw[uP,dO hj];simp[hj]⟩) (by omega)
     rw[List.any_eq_false.2 (λy hy=>by simp;rintro rfl;exact Q9 _ hy rfl),Dy]at h1;exact h1
    have alJ:=Mf K nc nc (λj=>LJ (vals.getD j undef)) (λj=>(cf.getD j []).length) (λj=>LI (vals.getD j undef)) wr hnc (λj hj=>by
     have hv:=dO (l:=vals) (i:=j) (by rw[hT.len];omega);have hx:=dO (l:=cf) (i:=j) (by omega);have h3:=zf (hT.row _ _ _ hv hx);have hm:=hcf _ (gH (show j<cf.length by omega));refine⟨?_,?_⟩
     ·rw[(hT.at_ hv).1,dD,dD,hv,hx];exact congrArg some h3
     ·rw[dD,hx];exact List.length_pos_iff.2 hm)
    have hBl:=hB.below;clear hT hB hgo hbr Q9 hcf Dy hl2
    go_wp2_with (first|(go_at_call 81;refine ak5.mono ?_;rintro e w' ⟨rfl,rfl⟩)|(go_at_call 139;refine alJ.mono ?_;rintro e w' ⟨rfl,rfl⟩))
    go_ret
    exact⟨rfl,hBl⟩
end Go.Proofs.YtoocplpcbdemhaaGreat
namespace Go.Proofs.YtoocplpcbdemhaaGreat.Vm
end Go.Proofs.YtoocplpcbdemhaaGreat.Vm
namespace Go.Proofs.YtoocplpcbdemhaaGreat
open Go Go.Proofs Go.RowKit
set_option maxRecDepth 100000 in
set_option maxHeartbeats 4000000 in
theorem Qf (b0 b1 b2 b3 b4 b5 p0 p1 p2 p3 z:Value)(o0:b0.oneCell'=true)(o1:b1.oneCell'=true)(o2:b2.oneCell'=true)(o3:b3.oneCell'=true)(o4:b4.oneCell'=true)(o5:b5.oneCell'=true)(q0:p0.oneCell'=true)(q1:p1.oneCell'=true)(q2:p2.oneCell'=true)(q3:p3.oneCell'=true)(B:Nat)(w:World)
  (x0:w.cell? ⟨B,0,none⟩=some b0) (x1:w.cell? ⟨B,1,none⟩=some b1) (x2:w.cell? ⟨B,2,none⟩=some b2) (x3:w.cell? ⟨B,3,none⟩=some b3) (x4:w.cell? ⟨B,4,none⟩=some b4) (x5:w.cell? ⟨B,5,none⟩=some b5) (y0:w.cell? ⟨B,6,none⟩=some p0) (y1:w.cell? ⟨B,7,none⟩=some p1) (y2:w.cell? ⟨B,8,none⟩=some p2) (y3:w.cell? ⟨B,9,none⟩=some p3)
  (v:Value) (hl:∀W,Below w.heap.size w W->Calls Tryz.prog 24 #[.agg #[b0,b1,b2,b3,b4,b5],.agg #[p0,p1,p2,p3],z] W λe w'=>e=.returned v/\Below W.heap.size W w'):
  Calls Tryz.prog 114 #[.pointer (some ⟨B,0,none⟩),z] w λe w'=>e=.returned v/\Below w.heap.size w w':=by
 have MM:Below w.heap.size w w:=Below.refl _ w;have X0:w.drew.cell? ⟨B,0,none⟩=some b0:=x0;have X1:w.drew.cell? ⟨B,1,none⟩=some b1:=x1;have X2:w.drew.cell? ⟨B,2,none⟩=some b2:=x2;have X3:w.drew.cell? ⟨B,3,none⟩=some b3:=x3;have X4:w.drew.cell? ⟨B,4,none⟩=some b4:=x4;have X5:w.drew.cell? ⟨B,5,none⟩=some b5:=x5;have Y0:w.drew.cell? ⟨B,6,none⟩=some p0:=y0;have Y1:w.drew.cell? ⟨B,7,none⟩=some p1:=y1;have Y2:w.drew.cell? ⟨B,8,none⟩=some p2:=y2;have Y3:w.drew.cell? ⟨B,9,none⟩=some p3:=y3
 go_enter Tryz.func114,Tryz.ntmps114
 go_wp2
 go_region_with (go_at_call 24;refine(hl _ ?_).mono ?_;exact MM.drew;rintro e W1 ⟨rfl,rI⟩)
 all_goals (go_wp2;go_ret;exact⟨rfl,MM.drew.trans rI⟩)
set_option maxRecDepth 100000 in
set_option maxHeartbeats 4000000 in
theorem V5 (b0 b1 b2 b3 b4 b5 p0 p1 p2 p3 z:Value)(o0:b0.oneCell'=true)(o1:b1.oneCell'=true)(o2:b2.oneCell'=true)(o3:b3.oneCell'=true)(o4:b4.oneCell'=true)(o5:b5.oneCell'=true)(q0:p0.oneCell'=true)(q1:p1.oneCell'=true)(q2:p2.oneCell'=true)(q3:p3.oneCell'=true)(B:Nat)(w:World)
  (x0:w.cell? ⟨B,0,none⟩=some b0) (x1:w.cell? ⟨B,1,none⟩=some b1) (x2:w.cell? ⟨B,2,none⟩=some b2) (x3:w.cell? ⟨B,3,none⟩=some b3) (x4:w.cell? ⟨B,4,none⟩=some b4) (x5:w.cell? ⟨B,5,none⟩=some b5) (y0:w.cell? ⟨B,6,none⟩=some p0) (y1:w.cell? ⟨B,7,none⟩=some p1) (y2:w.cell? ⟨B,8,none⟩=some p2) (y3:w.cell? ⟨B,9,none⟩=some p3)
  (x y:Int) (hl:∀W,Below w.heap.size w W->Calls Tryz.prog 40 #[.agg #[b0,b1,b2,b3,b4,b5],.agg #[p0,p1,p2,p3],z] W λe w'=>e=.returned (.int .i64 x)/\Below W.heap.size W w')
  (hr:∀W,Below w.heap.size w W->Calls Tryz.prog 41 #[.agg #[b0,b1,b2,b3,b4,b5],.agg #[p0,p1,p2,p3],z] W λe w'=>e=.returned (.int .i64 y)/\Below W.heap.size W w'):
  Calls Tryz.prog 147 #[.pointer (some ⟨B,0,none⟩),z] w λe w'=>e=.returned (.int .i64 (Vm.gu (IntKind.i64.wrap (x-y)) 0))/\Below w.heap.size w w':=by
 have hBw:B<w.heap.size:=by
  rcases y7 B w.heap.size with h|h
  ·exact h
  ·exact absurd x0 (by simp[World.cell?,Array.getElem?_eq_none h])
 have MM:Below w.heap.size w w:=Below.refl _ w;have X0:w.drew.cell? ⟨B,0,none⟩=some b0:=x0;have X1:w.drew.cell? ⟨B,1,none⟩=some b1:=x1;have X2:w.drew.cell? ⟨B,2,none⟩=some b2:=x2;have X3:w.drew.cell? ⟨B,3,none⟩=some b3:=x3;have X4:w.drew.cell? ⟨B,4,none⟩=some b4:=x4;have X5:w.drew.cell? ⟨B,5,none⟩=some b5:=x5;have Y0:w.drew.cell? ⟨B,6,none⟩=some p0:=y0;have Y1:w.drew.cell? ⟨B,7,none⟩=some p1:=y1;have Y2:w.drew.cell? ⟨B,8,none⟩=some p2:=y2;have Y3:w.drew.cell? ⟨B,9,none⟩=some p3:=y3
 go_enter Tryz.func147,Tryz.ntmps147
 go_wp2
 have hS0:∀W',W'=w.drew->(Below w.heap.size w W'/\W'.cell? ⟨B,0,none⟩=some b0/\W'.cell? ⟨B,1,none⟩=some b1/\W'.cell? ⟨B,2,none⟩=some b2/\W'.cell? ⟨B,3,none⟩=some b3/\W'.cell? ⟨B,4,none⟩=some b4/\W'.cell? ⟨B,5,none⟩=some b5/\W'.cell? ⟨B,6,none⟩=some p0/\W'.cell? ⟨B,7,none⟩=some p1/\W'.cell? ⟨B,8,none⟩=some p2/\W'.cell? ⟨B,9,none⟩=some p3):=λW' h=>by rw[h];exact⟨MM.drew,X0,X1,X2,X3,X4,X5,Y0,Y1,Y2,Y3⟩
 have hSk:∀{W' W1:World},(Below w.heap.size w W'/\W'.cell? ⟨B,0,none⟩=some b0/\W'.cell? ⟨B,1,none⟩=some b1/\W'.cell? ⟨B,2,none⟩=some b2/\W'.cell? ⟨B,3,none⟩=some b3/\W'.cell? ⟨B,4,none⟩=some b4/\W'.cell? ⟨B,5,none⟩=some b5/\W'.cell? ⟨B,6,none⟩=some p0/\W'.cell? ⟨B,7,none⟩=some p1/\W'.cell? ⟨B,8,none⟩=some p2/\W'.cell? ⟨B,9,none⟩=some p3)->Below W'.heap.size W' W1->(Below w.heap.size w W1/\W1.cell? ⟨B,0,none⟩=some b0/\W1.cell? ⟨B,1,none⟩=some b1/\W1.cell? ⟨B,2,none⟩=some b2/\W1.cell? ⟨B,3,none⟩=some b3/\W1.cell? ⟨B,4,none⟩=some b4/\W1.cell? ⟨B,5,none⟩=some b5/\W1.cell? ⟨B,6,none⟩=some p0/\W1.cell? ⟨B,7,none⟩=some p1/\W1.cell? ⟨B,8,none⟩=some p2/\W1.cell? ⟨B,9,none⟩=some p3):=λ{W' W1} h hb=>by
  obtain⟨k0,k1,k2,k3,k4,k5,k6,k7,k8,k9,k10⟩:=h;have Hx:B<W'.heap.size:=jK hBw k0.size;exact⟨k0.trans (hb.mono k0.size),(hb.cell Hx).trans k1,(hb.cell Hx).trans k2,(hb.cell Hx).trans k3,(hb.cell Hx).trans k4,(hb.cell Hx).trans k5,(hb.cell Hx).trans k6,(hb.cell Hx).trans k7,(hb.cell Hx).trans k8,(hb.cell Hx).trans k9,(hb.cell Hx).trans k10⟩
 go_region_held (λW'=>Below w.heap.size w W'/\W'.cell? ⟨B,0,none⟩=some b0/\W'.cell? ⟨B,1,none⟩=some b1/\W'.cell? ⟨B,2,none⟩=some b2/\W'.cell? ⟨B,3,none⟩=some b3/\W'.cell? ⟨B,4,none⟩=some b4/\W'.cell? ⟨B,5,none⟩=some b5/\W'.cell? ⟨B,6,none⟩=some p0/\W'.cell? ⟨B,7,none⟩=some p1/\W'.cell? ⟨B,8,none⟩=some p2/\W'.cell? ⟨B,9,none⟩=some p3) (first|assumption|exact hS0 _ rfl|(refine hSk ?_ (by assumption);assumption)|(refine hSk (by assumption) (by assumption))) (first
  |(go_at_call 40;refine(hl _ ?_).mono ?_;(first|exact MM.drew|simp only[*]);rintro e W1 ⟨rfl,rI⟩)
  |(go_at_call 41;refine(hr _ ?_).mono ?_;(first|exact MM.drew|exact MM.drew.trans rI|simp only[*]);rintro e W2 ⟨rfl,OO⟩))
 first
  |simp only[show∀a:Int,(if 0<a then a else 0)=Vm.gu a 0 from λ_=>rfl]
  |simp only[show∀a:Int,max 0 a=Vm.gu a 0 from λa=>by unfold Vm.gu;split<;>omega]
 go_wp2
 go_ret
 exact⟨rfl,MM.drew.trans (rI.trans (OO.mono rI.size))⟩
set_option maxRecDepth 100000 in
set_option maxHeartbeats 4000000 in
theorem PZ (b0 b1 b2 b3 b4 b5 p1 p2 p3 z:Value)(o0:b0.oneCell'=true)(o1:b1.oneCell'=true)(o2:b2.oneCell'=true)(o3:b3.oneCell'=true)(o4:b4.oneCell'=true)(o5:b5.oneCell'=true)(q1:p1.oneCell'=true)(q2:p2.oneCell'=true)(q3:p3.oneCell'=true)(B:Nat)(w:World)
  (x0:w.cell? ⟨B,0,none⟩=some b0) (x1:w.cell? ⟨B,1,none⟩=some b1) (x2:w.cell? ⟨B,2,none⟩=some b2) (x3:w.cell? ⟨B,3,none⟩=some b3) (x4:w.cell? ⟨B,4,none⟩=some b4) (x5:w.cell? ⟨B,5,none⟩=some b5)
  (A off len cap m:Nat) (hm:m<len) (hA:A<w.heap.size) (y0:w.cell? ⟨B,6,none⟩=some (.slice (some ⟨A,off,none⟩) len cap)) {c:Bool} (yc:w.cell? ⟨A,off+m,none⟩=some (.bool c))
  (hl:∀W,Below w.heap.size w W->Calls Tryz.prog 65 #[.agg #[b0,b1,b2,b3,b4,b5],z] W λe w'=>e=.returned (.int .i64 (m:Int))/\Below W.heap.size W w'):
  Calls Tryz.prog 182 #[.pointer (some ⟨B,0,none⟩),z] w λe w'=>e=.returned (.bool (!c))/\Below w.heap.size w w':=by
 have MM:Below w.heap.size w w:=Below.refl _ w;have X0:w.drew.cell? ⟨B,0,none⟩=some b0:=x0;have X1:w.drew.cell? ⟨B,1,none⟩=some b1:=x1;have X2:w.drew.cell? ⟨B,2,none⟩=some b2:=x2;have X3:w.drew.cell? ⟨B,3,none⟩=some b3:=x3;have X4:w.drew.cell? ⟨B,4,none⟩=some b4:=x4;have X5:w.drew.cell? ⟨B,5,none⟩=some b5:=x5;have Y0:w.drew.cell? ⟨B,6,none⟩=some (.slice (some ⟨A,off,none⟩) len cap):=y0;have hBw:B<w.heap.size:=by
  rcases y7 B w.heap.size with h|h
  ·exact h
  ·exact absurd x0 (by simp[World.cell?,Array.getElem?_eq_none h])
 go_enter Tryz.func182,Tryz.ntmps182
 go_wp2
 go_region_with (go_at_call 65;refine(hl _ ?_).mono ?_;exact MM.drew;rintro e W1 ⟨rfl,rI⟩;have Z0:W1.cell? ⟨B,6,none⟩=some (.slice (some ⟨A,off,none⟩) len cap):=(rI.cell (p:=⟨B,6,none⟩) hBw).trans Y0;have Zc:=(rI.cell (p:=⟨A,off+m,none⟩) hA).trans yc)
 all_goals (go_wp2;go_ret;exact⟨rfl,MM.drew.trans rI⟩)
end Go.Proofs.YtoocplpcbdemhaaGreat
namespace Go.Proofs.YtoocplpcbdemhaaGreat.Vm
theorem Yf:QY E.P 114 ⟨[(24,true,.bool)],P4,RJ⟩:=by
 intro b0 b1 b2 b3 b4 b5 p0 p1 p2 p3 z B w vs ds hc XE hlen Bp iE
 match vs,hlen with
 |[v],_=>
  obtain⟨h1,h2⟩:=iE 0 _ _ _ v rfl rfl;have hv:∃c,v=.bool c:=by cases v<;>first|exact⟨_,rfl⟩|cases h1
  obtain⟨c,rfl⟩:=hv;exact⟨rfl,Qf b0 b1 b2 b3 b4 b5 p0 p1 p2 p3 z (hc 0 _ rfl).2 (hc 1 _ rfl).2 (hc 2 _ rfl).2 (hc 3 _ rfl).2 (hc 4 _ rfl).2 (hc 5 _ rfl).2 (hc 6 _ rfl).2 (hc 7 _ rfl).2 (hc 8 _ rfl).2 (hc 9 _ rfl).2 B w (hc 0 _ rfl).1 (hc 1 _ rfl).1 (hc 2 _ rfl).1 (hc 3 _ rfl).1 (hc 4 _ rfl).1 (hc 5 _ rfl).1 (hc 6 _ rfl).1 (hc 7 _ rfl).1 (hc 8 _ rfl).1 (hc 9 _ rfl).1 _ h2⟩
theorem adH:QY E.P 147 ⟨[(40,true,.int .i64),(41,true,.int .i64)],P4,Ln⟩:=by
 intro b0 b1 b2 b3 b4 b5 p0 p1 p2 p3 z B w vs ds hc XE hlen Bp iE
 match vs,hlen with
 |[x,y],_=>
  obtain⟨h1,h2⟩:=iE 0 _ _ _ x rfl rfl;obtain⟨h3,h4⟩:=iE 1 _ _ _ y rfl rfl;have hi:∀{v:PV},xp (.int .i64) v=true->∃c,v=.int .i64 c:=λ{v} h=>by
   cases v with
   |int k c=>have:=fe _ _ h;subst this;exact⟨c,rfl⟩
   |_=>cases h
  obtain⟨c,rfl⟩:=hi h1;obtain⟨d,rfl⟩:=hi h3;exact⟨rfl,V5 b0 b1 b2 b3 b4 b5 p0 p1 p2 p3 z (hc 0 _ rfl).2 (hc 1 _ rfl).2 (hc 2 _ rfl).2 (hc 3 _ rfl).2 (hc 4 _ rfl).2 (hc 5 _ rfl).2 (hc 6 _ rfl).2 (hc 7 _ rfl).2 (hc 8 _ rfl).2 (hc 9 _ rfl).2 B w (hc 0 _ rfl).1 (hc 1 _ rfl).1 (hc 2 _ rfl).1 (hc 3 _ rfl).1 (hc 4 _ rfl).1 (hc 5 _ rfl).1 (hc 6 _ rfl).1 (hc 7 _ rfl).1 (hc 8 _ rfl).1 (hc 9 _ rfl).1 c d h2 h4⟩
theorem Ye:QY E.P 182 ⟨[(65,false,.int .i64)],CY,tM⟩:=by
 intro b0 b1 b2 b3 b4 b5 p0 p1 p2 p3 z B w vs ds hc XE hlen Bp iE
 match vs,hlen with
 |[x],_=>
  obtain⟨h1,h2⟩:=iE 0 _ _ _ x rfl rfl;have hi:∀{v:PV},xp (.int .i64) v=true->∃c,v=.int .i64 c:=λ{v} h=>by
   cases v with
   |int k c=>have:=fe _ _ h;subst this;exact⟨c,rfl⟩
   |_=>cases h
  obtain⟨n,rfl⟩:=hi h1
  match ds,XE with
  |d0::Ij,hd=>
   have hp0:VP w (λ_=>False) d0 p0:=hd.1;have Bp:CY [.int .i64 n] (d0::Ij)=true:=Bp;unfold CY at Bp;simp only[nth,PV.toInt,bO]at Bp;obtain⟨⟨g0,g1⟩,g2⟩:=Bp;have h0:0<=n:=by simpa using g0
   obtain⟨m,rfl⟩:∃m:Nat,n=(m:Int):=⟨n.toNat,by omega⟩
   rw[bo]at g2;show G1 (tM [.int .i64 (m:Int)] (d0::Ij))=true/\Calls Tryz.prog _ _ _ λe w'=>e=.returned (pvU (tM [.int .i64 (m:Int)] (d0::Ij)))/\_;unfold tM;simp only[nth,PV.toInt,bo];cases hp0 with
   |yA=>simp[PV.di]at g1;omega
   |sl sz es b off cap f hb hO j0 hz hcell hval=>
    have g1:aT (m:Int) (es.length:Int)=true:=g1;have g2:bL [.bool] (nth [] es m)=true:=g2;have hm0:(m:Int)<(es.length:Int):=by simpa using g1
    have hm:m<es.length:=by omega
    obtain⟨c,hcc⟩:∃c,es[m]? =some [.bool c]:=by
     rw[dp]at g2;have:es.getD m []=es[m]:=by simp[dD,hm]
     rw[this]at g2;rw[dO hm];generalize es[m]=e at g2
     match e,g2 with
     |[.bool c],_=>exact⟨c,rfl⟩
    have hn:nth [] es m=[.bool c]:=by rw[dp,dD,hcc];rfl
    have ot:nth [] (PV.sl sz es).di m=[.bool c]:=hn;rw[ot];refine⟨rfl,?_⟩;show Calls Tryz.prog _ _ _ λe w'=>e=.returned (.bool (!c))/\_;have hx:=hcell m 0 _ _ hcc rfl;have hy:=hval m 0 _ _ hcc rfl;have hz1:sz=1:=by have:=hz _ (eC hcc);simpa using this.symm
    subst hz1;cases XC:f m 0<;>rw[XC]at hy<;>first|cases hy|skip
    rw[XC]at hx;exact PZ b0 b1 b2 b3 b4 b5 p1 p2 p3 z (hc 0 _ rfl).2 (hc 1 _ rfl).2 (hc 2 _ rfl).2 (hc 3 _ rfl).2 (hc 4 _ rfl).2 (hc 5 _ rfl).2 (hc 7 _ rfl).2 (hc 8 _ rfl).2 (hc 9 _ rfl).2 B w (hc 0 _ rfl).1 (hc 1 _ rfl).1 (hc 2 _ rfl).1 (hc 3 _ rfl).1 (hc 4 _ rfl).1 (hc 5 _ rfl).1 b off es.length cap m hm hb (hc 6 _ rfl).1 (by rw[Nat.mul_one,I7]at hx;exact hx) h2
   |_=>first|(simp[PV.di]at g1;omega)|cases g2
theorem ajt (f:Nat)(p:Ey)(h:iA f E.ro=some p):QY E.P f p:=by
 have h:iA f [(147,(⟨[(40,true,.int .i64),(41,true,.int .i64)],P4,Ln⟩:Ey)),(114,⟨[(24,true,.bool)],P4,RJ⟩),(182,⟨[(65,false,.int .i64)],CY,tM⟩)]=some p:=h;unfold iA at h;cases h1:Nat.beq f 147 with
 |true=>rw[h1,sG]at h;cases h;rw[gK h1];exact adH
 |false=>
  rw[h1,oP]at h;unfold iA at h;cases h2:Nat.beq f 114 with
  |true=>rw[h2,sG]at h;cases h;rw[gK h2];exact Yf
  |false=>
   rw[h2,oP]at h;unfold iA at h;cases h3:Nat.beq f 182 with
   |true=>rw[h3,sG]at h;cases h;rw[gK h3];exact Ye
   |false=>rw[h3,oP]at h;cases h
section
open Go.RowKit
theorem adD:∀args rs,L5 args=some rs->K7 E 91 args [] rs []:=by
 intro args rs h;unfold L5 at h;split at h
 case h_2=>cases h
 rename_i n bs ss cs x y;split at h
 case h_2=>cases h
 rename_i l hl;split at h
 case isFalse=>cases h
 rename_i hc;obtain⟨r_,hn,hbl,ak,jO,JX⟩:=hc;cases h;unfold KO at JX;split at JX
 case h_2=>cases JX
 rename_i sf cf hgo;simp only[bO,fk]at JX;obtain⟨Q9,hcf⟩:=JX;refine YI rfl λC az us hv=> ?_;obtain⟨u,rfl,hu⟩:=Oh hv;obtain⟨ua,rfl,hua⟩:=hu;obtain⟨m,rfl⟩:=Int.eq_ofNat_of_zero_le r_
 match hul:ua.toList,hua with
 |[c0,c1,c2,c3,c4,c5],⟨g0,g1,g2,g3,g4,g5,_⟩=>
  obtain⟨ba,bc,rfl⟩:=sk g1;obtain⟨sa,sc,rfl⟩:=sk g2;obtain⟨ca,cc,rfl⟩:=sk g3;obtain rfl:c0=.int .i64 (m:Int):=by cases g0;rfl
  have eu:ua= #[.int .i64 (m:Int),.slice ba bs.length bc,.slice sa ss.length sc,.slice ca cs.length cc,c4,c5]:=by rw[<-Cq (xs:=ua),hul]
  subst eu;obtain⟨al1,ahX⟩:=Gr hl;have hw:=W_ m (by omega) ba sa ca bs.length bc ss.length sc cs.length cc hbl ak jO c4 c5 g4.eX g5.eX l al1.symm C.w (λj x hx=>by
   have he:=ahX j x hx;cases g1 with
   |yA=>simp at he
   |sl _ _ b off cap f hb hO j0 hz hcell hvp=>
    have c0:=hcell j 0 _ (.int .i64 x.1) he rfl;have c1:=hcell j 1 _ (.int .i64 x.2.1) he rfl;have c2:=hcell j 2 _ (.int .i64 x.2.2) he rfl;have v0:=hvp j 0 _ (.int .i64 x.1) he rfl;have v1:=hvp j 1 _ (.int .i64 x.2.1) he rfl;have v2:=hvp j 2 _ (.int .i64 x.2.2) he rfl;rw[show f j 0=.int .i64 x.1 by generalize f j 0=q at v0;cases v0;rfl]at c0;rw[show f j 1=.int .i64 x.2.1 by generalize f j 1=q at v1;cases v1;rfl]at c1;rw[show f j 2=.int .i64 x.2.2 by generalize f j 2=q at v2;cases v2;rfl]at c2;exact⟨b,off,rfl,hb,c0,c1,c2⟩) sf cf hgo (λy hy=>by simpa using Q9 y hy) (λy hy=>by simpa using hcf y hy)
  refine hw.mono λe w' he=> ?_;obtain⟨rfl,hB⟩:=he;exact⟨_,rfl,Grow.nk hB,.bool _⟩
theorem VO {x y:Nat}(h:bH x [y]=true):x=y:=by
 unfold bH at h;simp only[bH,Jd]at h;exact gK h
theorem jk {α:Type}{f x:Nat}{v p:α}{l:List (Nat×α)}(h:iA f ((x,v)::l)=some p):(f=x/\p=v)\/iA f l=some p:=by
 unfold iA at h;cases hb:Nat.beq f x with
 |true=>
  rw[hb]at h;cases h;exact .inl ⟨gK hb,rfl⟩
 |false=>rw[hb]at h;exact .inr h
theorem YP:bH 101 E.v_=true:=by kernel_rfl
theorem TR:bH 116 E.v_=true:=by kernel_rfl
theorem ahd:Xr E:=by
 intro g k hk;replace hk:iA g [(101,EB.aam 103 D2 D3),(116,EB.rev 149)]=some k:=hk;rcases jk hk with⟨rfl,rfl⟩|hk
 ·refine⟨YP,λC look nid args v us et az hl hn ha h=> ?_⟩;exact MZ az hl (hn nid (dB _) (by unfold ly;omega)) ha h
 rcases jk hk with⟨rfl,rfl⟩|hk
 ·refine⟨TR,λC look nid args v us et az hl hn ha h=> ?_⟩;obtain⟨ua,rfl,ho,hg⟩:=PN az hl ha h;refine(callsIn_wide.1 (aaZ ua ho C.w)).mono ?_;rintro e w' ⟨rfl,rfl⟩;exact hg _
 ·cases hk
theorem YH:yx E where
 pr f p hp F hF args rs h:=by
  replace hp:iA f [(12,Qw 31 34 35 36),(88,vI.pure BD),(91,vI.pure L5),(115,vI.pure qB),(137,vI.pure tY)]=some p:=hp;rcases jk hp with⟨rfl,rfl⟩|hp
  ·exact Ya F hF args rs h
  rcases jk hp with⟨rfl,rfl⟩|hp
  ·exact Pz args rs h
  rcases jk hp with⟨rfl,rfl⟩|hp
  ·exact adD args rs h
  rcases jk hp with⟨rfl,rfl⟩|hp
  ·exact PB args rs h
  rcases jk hp with⟨rfl,rfl⟩|hp
  ·exact PA args rs h
  ·cases hp
 fr f hf:=by
  have:f=12:=VO hf;subst this;exact⟨_,rfl,λF hF args rs h=>Sa F hF args rs h⟩
 hp:=ahd
 rv f hf:=by
  have:f=149:=by
   have h2:(Nat.beq 149 f||false)=true:=hf;rw[Jd]at h2;exact(gK h2).symm
  subst this;exact Sl
 ro:=ajt
end
section
open Go
abbrev P:=Ex×Pack
abbrev LE:=List (List PV)
theorem lu {F:d_}{f m:Nat}{fa:List AV}{blk:Nat}{pk:Pack}{y}(h:(yV E F f m fa blk pk λp=>ctl (p.fst.iI Ex.eF) (lp E F f m fa blk p.snd) (some p))=y):lp E F f m fa blk pk=y:=(Qb ..).trans h
instance (n:Int):CoeT Int n AV:=⟨.int .i64 n⟩
instance (n:Int):CoeT Int n PV:=⟨.int .i64 n⟩
inductive M where
 |vi (p:P) (i j:Nat)
 |ve (p:P) (i j:Nat)
 |vb (p:P) (i j:Nat)
 |wi (p:gv) (i j:Nat)
 |we (p:gv) (i j:Nat)
 |wb (p:gv) (i j:Nat)
 |xi (p:P) (i:Nat)
 |xe (p:P) (i:Nat)
 |xb (p:P) (i:Nat)
 |ri (p:gv) (i:Nat)
 |re (p:gv) (i:Nat)
 |rb (p:gv) (i:Nat)
 |ae (p:P) (i:Nat)
 |he (p:gv) (i:Nat)
 |ci (c:List PV) (i:Nat)
 |ce (c:List PV) (i:Nat)
 |cb (c:List PV) (i:Nat)
 |si (p:gv) (j i:Nat)
 |se (p:gv) (j i:Nat)
 |sb (p:gv) (j i:Nat)
 |oe (p:gv) (j i:Nat)
 |qi (p:gv) (j i:Nat)
 |qe (p:gv) (j i:Nat)
 |qb (p:gv) (j i:Nat)
 |kb (p:gv)
 |ki (p:gv)
 |k0 (s:List uI) (p:gv)
 |po (s:List (Nat×yw)) (b:List (List wH⊕Nat)) (p:P)
 |e1 (k:Nat) (p:P)
 |e2 (k:Nat) (p:P)
 |n (k:Int)
 |x (i:Nat) (p:P)
 |G (a:Int) (b c d:LE) (e f:Int)
 |W (a b c d:LE)
 |a1 (l:LE)
 |a2 (l:LE)
 |a3 (l:LE)
 |a4 (l:LE)
 |a5 (l:LE)
 |sp (k i:Nat)
 |sh (k i:Nat)
 |sj (k:Nat)
 |sl (k i:Nat)
 |c0 (c:List PV)
 |c1 (c:List PV)
 |c3 (c:List PV)
 |c4 (c:List PV)
 |t (i:Nat)
 |kS (p:gv)
 |kT (s:List uI) (p:gv)
 |wr (n:Int)
 |ln (l:LE)
 |h4 (a b c d:Nat) (t:List AV)
 |g4 (a b c d:Nat) (t:List wH)
 |bd (a:Int) (b c d:LE) (e f:Int) (t:List AV)
 |pw (a b c d:LE) (t:List AV)
 |Oe (a:Int) (b c d:LE) (e f:Int)
 |rC (a b c d:LE)
 |kh (p:P) (i:Nat) (t:List AV)
 |rM (p:gv) (i:Nat) (t:List AV)
 |EP (p:P) (i:Nat) (t:List AV)
 |pwr (p:gv) (i:Nat) (t:List AV)
 |CQ (p:P) (i:Nat)
 |agJ (p:gv) (i:Nat)
 |YJ (p:P) (i:Nat)
 |akB (p:gv) (i:Nat)
 |bs (t:List wH)
 |ps (t:List wH)
open M
instance (p:P)(i j:Nat):CoeT M (.vi p i j) (Int):=⟨(nth .undef (nth (.box []) p.snd.aq i).gl j).dC.toInt⟩
instance (p:P)(i j:Nat):CoeT M (.ve p i j) (LE):=⟨(nth .undef (nth (.box []) p.snd.aq i).gl j).dC.di⟩
instance (p:P)(i j:Nat):CoeT M (.vb p i j) (Bool):=⟨(nth .undef (nth (.box []) p.snd.aq i).gl j).dC.toBool⟩
instance (p:gv)(i j:Nat):CoeT M (.wi p i j) (Int):=⟨(nth .undef (nth (.box []) p.snd i).gl j).dC.toInt⟩
instance (p:gv)(i j:Nat):CoeT M (.we p i j) (LE):=⟨(nth .undef (nth (.box []) p.snd i).gl j).dC.di⟩
instance (p:gv)(i j:Nat):CoeT M (.wb p i j) (Bool):=⟨(nth .undef (nth (.box []) p.snd i).gl j).dC.toBool⟩
instance (p:P)(i:Nat):CoeT M (.xi p i) (Int):=⟨(nth .undef p.snd.vals i).dC.toInt⟩
instance (p:P)(i:Nat):CoeT M (.xe p i) (LE):=⟨(nth .undef p.snd.vals i).dC.di⟩
instance (p:P)(i:Nat):CoeT M (.xb p i) (Bool):=⟨(nth .undef p.snd.vals i).dC.toBool⟩
instance (p:gv)(i:Nat):CoeT M (.ri p i) (Int):=⟨(nth (.p .aM) p.fst i).dC.toInt⟩
instance (p:gv)(i:Nat):CoeT M (.re p i) (LE):=⟨(nth (.p .aM) p.fst i).dC.di⟩
instance (p:gv)(i:Nat):CoeT M (.rb p i) (Bool):=⟨(nth (.p .aM) p.fst i).dC.toBool⟩
instance (p:P)(i:Nat):CoeT M (.ae p i) (LE):=⟨(nth (.box []) p.snd.aq i).di⟩
instance (p:gv)(i:Nat):CoeT M (.he p i) (LE):=⟨(nth (.box []) p.snd i).di⟩
instance (c:List PV)(i:Nat):CoeT M (.ci c i) (Int):=⟨(nth .aM c i).toInt⟩
instance (c:List PV)(i:Nat):CoeT M (.ce c i) (LE):=⟨(nth .aM c i).di⟩
instance (c:List PV)(i:Nat):CoeT M (.cb c i) (Bool):=⟨(nth .aM c i).toBool⟩
instance (p:gv)(j i:Nat):CoeT M (.si p j i) (Int):=⟨(nth .aM (nth (.p .aM) p.fst j).gl i).toInt⟩
instance (p:gv)(j i:Nat):CoeT M (.se p j i) (LE):=⟨(nth .aM (nth (.p .aM) p.fst j).gl i).di⟩
instance (p:gv)(j i:Nat):CoeT M (.sb p j i) (Bool):=⟨(nth .aM (nth (.p .aM) p.fst j).gl i).toBool⟩
instance (p:gv)(j i:Nat):CoeT M (.oe p j i) (LE):=⟨(nth (.p .aM) (nth (.p .aM) p.fst j).sw i).di⟩
instance (p:gv)(j i:Nat):CoeT M (.qi p j i) (Int):=⟨(nth (.p .aM) (nth (.p .aM) p.fst j).sw i).dC.toInt⟩
instance (p:gv)(j i:Nat):CoeT M (.qe p j i) (LE):=⟨(nth (.p .aM) (nth (.p .aM) p.fst j).sw i).dC.di⟩
instance (p:gv)(j i:Nat):CoeT M (.qb p j i) (Bool):=⟨(nth (.p .aM) (nth (.p .aM) p.fst j).sw i).dC.toBool⟩
instance (p:gv):CoeT M (.kb p) (Bool):=⟨cC [.one .bool] p.fst&&okB [] p.snd⟩
instance (p:gv):CoeT M (.ki p) (Bool):=⟨cC [.one (.int .i64)] p.fst&&okB [] p.snd⟩
instance (s:List uI)(p:gv):CoeT M (.k0 s p) (Bool):=⟨cC s p.fst&&okB [] p.snd⟩
instance (s:List (Nat×yw))(b:List (List wH⊕Nat))(p:P):CoeT M (.po s b p) (Bool):=⟨ni ⟨s,b⟩ p.snd⟩
instance (k:Nat)(p:P):CoeT M (.e1 k p) (Option gv):=⟨ctl (p.fst.iI .ret) (ctl (ni ⟨[(k,.inl (.int .i64))],[]⟩ p.snd) (some ([.p (.int .i64 (nth .undef p.snd.vals 0).dC.toInt)],[])) none) none⟩
instance (k:Nat)(p:P):CoeT M (.e2 k p) (Option gv):=⟨ctl (p.fst.iI .ret) (ctl (ni ⟨[(k,.inl .bool)],[]⟩ p.snd) (some ([.p (.bool (nth .undef p.snd.vals 0).dC.toBool)],[])) none) none⟩
instance (k:Int):CoeT M (.n k) (AV):=⟨.int .i64 k⟩
instance (i:Nat)(p:P):CoeT M (.x i p) (Bool):=⟨p.fst.iI (.exit i)⟩
instance (a:Int)(b c d:LE)(e f:Int):CoeT M (.G a b c d e f) (AV):=⟨.agg [.int .i64 a,.sl 3 b,.sl 3 c,.sl 5 d,.int .i64 e,.int .i64 f]⟩
instance (a b c d:LE):CoeT M (.W a b c d) (AV):=⟨.agg [.sl 1 a,.sl 4 b,.sl 1 c,.sl 2 d]⟩
instance (l:LE):CoeT M (.a1 l) (au):=⟨.arr 1 l⟩
instance (l:LE):CoeT M (.a2 l) (au):=⟨.arr 2 l⟩
instance (l:LE):CoeT M (.a3 l) (au):=⟨.arr 3 l⟩
instance (l:LE):CoeT M (.a4 l) (au):=⟨.arr 4 l⟩
instance (l:LE):CoeT M (.a5 l) (au):=⟨.arr 5 l⟩
instance (k i:Nat):CoeT M (.sp k i) (Nat×yw):=⟨(k,.inr (.inr (.t (.ptr i 0))))⟩
instance (k i:Nat):CoeT M (.sh k i) (Nat×yw):=⟨(k,.inr (.inr (.t (.ak i))))⟩
instance (k:Nat):CoeT M (.sj k) (Nat×yw):=⟨(k,.inl (.int .i64))⟩
instance (k i:Nat):CoeT M (.sl k i) (Nat×yw):=⟨(k,.inl (.sl i))⟩
instance (c:List PV):CoeT M (.c0 c) (Bool):=⟨bL [.bool] c⟩
instance (c:List PV):CoeT M (.c1 c) (Bool):=⟨bL [.int .i64] c⟩
instance (c:List PV):CoeT M (.c3 c) (Bool):=⟨bL [.int .i64,.int .i64,.int .i64] c⟩
instance (c:List PV):CoeT M (.c4 c) (Bool):=⟨bL [.int .i64,.int .i64,.int .i64,.int .i64] c⟩
instance (i:Nat):CoeT M (.t i) (AV):=⟨.t (.ak i)⟩
instance (p:gv):CoeT M (.kS p) (Bool):=⟨cC [.one (.int .i64)] p.fst&&okB [.inl [.inl (.sl 1),.inl (.int .i64)]] p.snd⟩
instance (s:List uI)(p:gv):CoeT M (.kT s p) (Bool):=⟨cC s p.fst&&okB [.inl [.inl (.sl 1),.inl (.int .i64)]] p.snd⟩
instance (n:Int):CoeT M (.wr n) (AV):=⟨.int .i64 (IntKind.i64.wrap n)⟩
instance (l:LE):CoeT M (.ln l) (AV):=⟨.int .i64 (l.length:Int)⟩
instance (a b c d:Nat)(t:List AV):CoeT M (.h4 a b c d t) (List AV):=⟨.t (.ak a)::.t (.ak b)::.t (.ak c)::.t (.ak d)::t⟩
instance (a b c d:Nat)(t:List wH):CoeT M (.g4 a b c d t) (List wH):=⟨.inr (.t (.ak a))::.inr (.t (.ak b))::.inr (.t (.ak c))::.inr (.t (.ak d))::t⟩
instance (a:Int)(b c d:LE)(e f:Int)(t:List AV):CoeT M (.bd a b c d e f t) (List AV):=⟨.int .i64 a::.sl 3 b::.sl 3 c::.sl 5 d::.int .i64 e::.int .i64 f::t⟩
instance (a b c d:LE)(t:List AV):CoeT M (.pw a b c d t) (List AV):=⟨.sl 1 a::.sl 4 b::.sl 1 c::.sl 2 d::t⟩
instance (a:Int)(b c d:LE)(e f:Int):CoeT M (.Oe a b c d e f) (List PV):=⟨[.int .i64 a,.sl 3 b,.sl 3 c,.sl 5 d,.int .i64 e,.int .i64 f]⟩
instance (a b c d:LE):CoeT M (.rC a b c d) (List PV):=⟨[.sl 1 a,.sl 4 b,.sl 1 c,.sl 2 d]⟩
instance (p:P)(i:Nat)(t:List AV):CoeT M (.kh p i t) (List AV):=⟨bd (vi p i 0) (ve p i 1) (ve p i 2) (ve p i 3) (vi p i 4) (vi p i 5) t⟩
instance (p:gv)(i:Nat)(t:List AV):CoeT M (.rM p i t) (List AV):=⟨bd (wi p i 0) (we p i 1) (we p i 2) (we p i 3) (wi p i 4) (wi p i 5) t⟩
instance (p:P)(i:Nat)(t:List AV):CoeT M (.EP p i t) (List AV):=⟨pw (ve p i 0) (ve p i 1) (ve p i 2) (ve p i 3) t⟩
instance (p:gv)(i:Nat)(t:List AV):CoeT M (.pwr p i t) (List AV):=⟨pw (we p i 0) (we p i 1) (we p i 2) (we p i 3) t⟩
instance (p:P)(i:Nat):CoeT M (.CQ p i) (List PV):=⟨Oe (vi p i 0) (ve p i 1) (ve p i 2) (ve p i 3) (vi p i 4) (vi p i 5)⟩
instance (p:gv)(i:Nat):CoeT M (.agJ p i) (List PV):=⟨Oe (wi p i 0) (we p i 1) (we p i 2) (we p i 3) (wi p i 4) (wi p i 5)⟩
instance (p:P)(i:Nat):CoeT M (.YJ p i) (List PV):=⟨rC (ve p i 0) (ve p i 1) (ve p i 2) (ve p i 3)⟩
instance (p:gv)(i:Nat):CoeT M (.akB p i) (List PV):=⟨rC (we p i 0) (we p i 1) (we p i 2) (we p i 3)⟩
instance (t:List wH):CoeT M (.bs t) (List wH):=⟨.inl (.int .i64)::.inl (.sl 3)::.inl (.sl 3)::.inl (.sl 5)::.inl (.int .i64)::.inl (.int .i64)::t⟩
instance (t:List wH):CoeT M (.ps t) (List wH):=⟨.inl (.sl 1)::.inl (.sl 4)::.inl (.sl 1)::.inl (.sl 2)::t⟩
instance (p:P)(i j:Nat):CoeT M (.vi p i j) AV:=⟨.int .i64 ((nth .undef (nth (.box []) p.snd.aq i).gl j).dC.toInt)⟩
instance (p:P)(i j:Nat):CoeT M (.vi p i j) PV:=⟨.int .i64 ((nth .undef (nth (.box []) p.snd.aq i).gl j).dC.toInt)⟩
instance (p:gv)(i j:Nat):CoeT M (.wi p i j) AV:=⟨.int .i64 ((nth .undef (nth (.box []) p.snd i).gl j).dC.toInt)⟩
instance (p:gv)(i j:Nat):CoeT M (.wi p i j) PV:=⟨.int .i64 ((nth .undef (nth (.box []) p.snd i).gl j).dC.toInt)⟩
instance (p:P)(i:Nat):CoeT M (.xi p i) AV:=⟨.int .i64 ((nth .undef p.snd.vals i).dC.toInt)⟩
instance (p:P)(i:Nat):CoeT M (.xi p i) PV:=⟨.int .i64 ((nth .undef p.snd.vals i).dC.toInt)⟩
instance (p:gv)(i:Nat):CoeT M (.ri p i) AV:=⟨.int .i64 ((nth (.p .aM) p.fst i).dC.toInt)⟩
instance (p:gv)(i:Nat):CoeT M (.ri p i) PV:=⟨.int .i64 ((nth (.p .aM) p.fst i).dC.toInt)⟩
instance (c:List PV)(i:Nat):CoeT M (.ci c i) AV:=⟨.int .i64 ((nth .aM c i).toInt)⟩
instance (c:List PV)(i:Nat):CoeT M (.ci c i) PV:=⟨.int .i64 ((nth .aM c i).toInt)⟩
instance (p:gv)(j i:Nat):CoeT M (.si p j i) AV:=⟨.int .i64 ((nth .aM (nth (.p .aM) p.fst j).gl i).toInt)⟩
instance (p:gv)(j i:Nat):CoeT M (.si p j i) PV:=⟨.int .i64 ((nth .aM (nth (.p .aM) p.fst j).gl i).toInt)⟩
instance (p:gv)(j i:Nat):CoeT M (.qi p j i) AV:=⟨.int .i64 ((nth (.p .aM) (nth (.p .aM) p.fst j).sw i).dC.toInt)⟩
instance (p:gv)(j i:Nat):CoeT M (.qi p j i) PV:=⟨.int .i64 ((nth (.p .aM) (nth (.p .aM) p.fst j).sw i).dC.toInt)⟩
instance (k:Int):CoeT M (.n k) PV:=⟨.int .i64 k⟩
end
section
open Go M
set_option maxRecDepth 100000
theorem r78 (F)(a b d:Int):Eq (aI E F 78 [a,b,d] []) (aj (ctl (bJ b a) (some (bJ a d)) (some false)) λv=>some ([.p (.bool v)],[])):=by kernel_rfl
theorem r92 (F)(a b d:Int):Eq (aI E F 92 [.agg [a,b,d]] []) (aj (F 78 [a,n 1,n 50000] []) λr=>ctl (kb r) (aj (ctl (rb r 0) (aj (F 78 [b,n 0,a] []) λr=>ctl (kb r) (some (rb r 0:Bool)) none) (some false)) λv=>aj (ctl v (aj (F 78 [d,n 0,n 600] []) λr=>ctl (kb r) (some (rb r 0:Bool)) none) (some false)) λv=>some ([.p (.bool v)],[])) none):=by kernel_rfl
theorem abt (F b j)(a d e f g h i:Int):Eq (lp E F 93 0 [] 0 ⟨[a,.sl 1 b,d,e],[.box [f,g,h,i,.sl 1 j]]⟩) (ctl (aT e d) (aG b e λc=>ctl (c1 c) (aj (F 78 [ci c 0,n 0,(wr (a-1))] []) λr=>ctl (kb r) (aj (ctl (!!(rb r 0)) (ctl (aT 0 e) (aG j (IntKind.i64.wrap (e-1)) λdP=>ctl (c1 dP) (some (bJ (ci c 0) (ci dP 0:Int))) none) (some false)) (some true)) λv=>ctl v (some (.ret,⟨[.bool false],[]⟩)) (lp E F 93 0 [] 0 ⟨[a,.sl 1 b,d,(wr (e+1))],[.box [f,g,h,i,.sl 1 j]]⟩)) none) none) (some (.exit 0,⟨[],[.box [f,g,h,i,.sl 1 j]]⟩))):=lu (by kernel_rfl)
theorem r93 (F f)(a b d e g:Int):Eq (aI E F 93 [.agg [a,b,d,e,.sl 1 f],g] []) (aj (lp E F 93 0 [] 0 ⟨[g,.sl 1 f,(ln f),n 0],[.box [a,b,d,e,.sl 1 f]]⟩) λp=>ctl (x 0 p) (ctl ((po [(sp 2 0)] [.inl [.inl (.int .i64),.inl (.int .i64),.inl (.int .i64),.inl (.int .i64),.inl (.sl 1)]] p)) (aj (F 78 [vi p 0 0,n 0,n 50000] []) λr=>ctl (kb r) (aj (ctl (rb r 0) (aj (F 78 [vi p 0 1,n 0,vi p 0 0] []) λr=>ctl (kb r) (some (rb r 0:Bool)) none) (some false)) λv=>aj (ctl v (aj (F 78 [vi p 0 2,n 0,n 15] []) λr=>ctl (kb r) (some (rb r 0:Bool)) none) (some false)) λv=>aj (ctl v (aj (F 78 [vi p 0 3,n (-1),n 7] []) λr=>ctl (kb r) (some (rb r 0:Bool)) none) (some false)) λv=>aj (ctl v (some (bJ (↑(ve p 0 4:LE).length:Int) 4)) (some false)) λv=>some ([.p (.bool v)],[])) none) none) (e2 4 p)):=by kernel_rfl
theorem abP (F a b g h i)(d e f j k:Int):Eq (lp E F 47 0 [] 0 ⟨[.bool a,.sl 3 b,d,e],[.box (bd f g h i j k [])]⟩) (ctl (aT e d) (aG b e λc=>ctl (c3 c) (aj (ctl a (aj (F 92 [.agg [ci c 0,ci c 1,ci c 2]] []) λr=>ctl (kb r) (some (rb r 0:Bool)) none) (some false)) λv=>lp E F 47 0 [] 0 ⟨[.bool v,.sl 3 b,d,(wr (e+1))],[.box (bd f g h i j k [])]⟩) none) (some (.exit 0,⟨[.bool a],[.box (bd f g h i j k [])]⟩))):=lu (by kernel_rfl)
theorem abO (F a b)(d e:Int):Eq (lp E F 47 0 [] 2 ⟨[.bool a,.sl 5 b,d,e],[]⟩) (ctl (aT e d) (aG b e λc=>ctl (bL [.int .i64,.int .i64,.int .i64,.int .i64,.sl 1] c) (aj (ctl a (aj (F 93 [.agg [ci c 0,ci c 1,ci c 2,ci c 3,.sl 1 (ce c 4)],e] []) λr=>ctl (kb r) (some (rb r 0:Bool)) none) (some false)) λv=>lp E F 47 0 [] 2 ⟨[.bool v,.sl 5 b,d,(wr (e+1))],[]⟩) none) (some (.exit 2,⟨[.bool a],[]⟩))):=lu (by kernel_rfl)
theorem r47 (F b d e)(a f g:Int):Eq (aI E F 47 [G a b d e f g] []) (aj (F 78 [a,n 1,n 6] []) λr=>ctl (kb r) (aj (ctl (!!(rb r 0)) (some (aT 24 (↑b.length:Int))) (some true)) λv=>aj (ctl (!v) (some (aT 8 (↑d.length:Int))) (some true)) λv=>aj (ctl (!v) (some (aT 16 (↑e.length:Int))) (some true)) λv=>ctl v (some ([.p (n 2)],[])) (aj (F 91 [G a b d e f g] []) λr=>ctl (kb r) (aj (ctl (rb r 0) (aj (F 78 [f,n 0,n 1800] []) λr=>ctl (kb r) (some (rb r 0:Bool)) none) (some false)) λv=>aj (ctl v (aj (F 78 [g,n 0,n 6000] []) λr=>ctl (kb r) (some (rb r 0:Bool)) none) (some false)) λv=>aj (lp E F 47 0 [] 0 ⟨[.bool v,.sl 3 d,(ln d),n 0],[.box (bd a b d e f g [])]⟩) λp=>ctl (x 0 p) (ctl ((po [(sp 1 0),(3,.inl .bool)] [.inl (bs [])] p)) (aj (lp E F 47 0 [] 2 ⟨[.bool (xb p 0),.sl 5 (ve p 0 3),n (↑(ve p 0 3:LE).length:Int),n 0],[]⟩) λp=>ctl (x 2 p) (ctl ((po [(3,.inl .bool)] [] p)) (ctl (!(xb p 0)) (some ([.p (n 14)],[])) (some ([.p (n 0)],[]))) none) none) none) none) none)) none):=by kernel_rfl
theorem aki (F b d e)(a f g h:Int):Eq (aI E F 129 [G a b d e f g,h] []) (ctl (h==1) (some ([.p (n (↑d.length:Int))],[])) (ctl (h==2) (some ([.p (n (↑b.length:Int))],[])) (ctl (h==3) (some ([.p (.int .i64 a)],[])) (ctl (h==4) (some ([.p (n (↑e.length:Int))],[])) (some ([.p (n 0)],[])))))):=by kernel_rfl
theorem LY (F b)(a d e:Int):Eq (lp E F 130 0 [] 0 ⟨[a,.sl 1 b,d,e],[]⟩) (ctl (aT e d) (aG b e λc=>ctl (c1 c) (ctl ((ci c 0:Int) !=a) (some (.ret,⟨[ci c 0],[]⟩)) (lp E F 130 0 [] 0 ⟨[a,.sl 1 b,d,(wr (e+1))],[]⟩)) none) (some (.exit 0,⟨[a],[]⟩))):=lu (by kernel_rfl)
theorem akh (F a):Eq (aI E F 130 [.sl 1 a] []) (aj (lp E F 130 0 [] 0 ⟨[n 0,.sl 1 a,(ln a),n 0],[]⟩) λp=>ctl (x 0 p) (ctl ((po [(sj 3)] [] p)) (some ([.p (xi p 0)],[])) none) (e1 2 p)):=by kernel_rfl
theorem akg (F)(a b:Int):Eq (aI E F 131 [a,b] []) (aj (F 170 [a] []) λr=>ctl (kb r) (aj (F 170 [b] []) λaV=>ctl (k0 [.one .bool] aV) (ctl (rb r 0) (ctl (rb aV 0) (some ([.p (n 0)],[])) (some ([.p (n (-1))],[]))) (ctl (rb aV 0) (some ([.p (n 1)],[])) (ctl (aT a b) (some ([.p (n (-1))],[])) (ctl (aT b a) (some ([.p (n 1)],[])) (some ([.p (n 0)],[])))))) none) none):=by kernel_rfl
theorem ajS (F)(a:Int):Eq (aI E F 170 [a] []) (some ([.p (.bool (a !=a))],[])):=by kernel_rfl
theorem abw (F a b g h i)(d e f j k:Int):Eq (lp E F 74 0 [] 0 ⟨[.sl 2 a,.sl 2 b,d,e],[.box (bd f g h i j k [])]⟩) (ctl (aT e d) (aG b e λc=>ctl (bL [.int .i64,.int .i64] c) (aj (F 129 [G f g h i j k,ci c 0] []) λr=>ctl (ki r) (aj (F 78 [ci c 1,n 0,(wr ((ri r 0:Int)-1))] []) λr=>ctl (kb r) (ctl (!!(rb r 0)) (ctl (aT 0 e) (aG a (IntKind.i64.wrap (e-1)) λdP=>ctl (bL [.int .i64,.int .i64] dP) (aj (F 131 [ci dP 0,ci c 0] []) λr=>ctl (ki r) (aG a (IntKind.i64.wrap (e-1)) λNh=>ctl (bL [.int .i64,.int .i64] Nh) (aj (F 131 [ci Nh 1,ci c 1] []) λaV=>ctl (k0 [.one (.int .i64)] aV) (aj (F 130 [.sl 1 [[ri r 0],[ri aV 0]]] []) λr=>ctl (cC [.one (.int .i64)] r.fst&&okB [] r.snd&&(bM r.fst&&cr r.snd)) (ctl (bJ 0 (ri r 0)) (some (.ret,⟨[.bool false],[]⟩)) (lp E F 74 0 [] 0 ⟨[.sl 2 a,.sl 2 b,d,(wr (e+1))],[.box (bd f g h i j k [])]⟩)) none) none) none) none) none) (lp E F 74 0 [] 0 ⟨[.sl 2 a,.sl 2 b,d,(wr (e+1))],[.box (bd f g h i j k [])]⟩)) (some (.ret,⟨[.bool false],[]⟩))) none) none) none) (some (.exit 0,⟨[.sl 2 a],[]⟩))):=lu (by kernel_rfl)
theorem r74 (F b d e h)(a f g:Int):Eq (aI E F 74 [G a b d e f g,.sl 2 h] []) (aj (lp E F 74 0 [] 0 ⟨[.sl 2 h,.sl 2 h,(ln h),n 0],[.box (bd a b d e f g [])]⟩) λp=>ctl (x 0 p) (ctl ((po [(sl 1 2)] [] p)) (some ([.p (.bool (bJ (↑(xe p 0:LE).length:Int) 32))],[])) none) (e2 4 p)):=by kernel_rfl
theorem ajB (F a):Eq (aI E F 75 [.sl 4 a,.fn 76 []] []) (aj (F 132 [.sl 4 a,.fn 76 []] []) λr=>ctl (ki r) (some ([.p (.bool (bJ 0 (ri r 0)))],[])) none):=by kernel_rfl
theorem r76 (F)(a b d e:Int):Eq (aI E F 76 [.agg [a,b,d,e]] []) (aj (F 77 [.agg [a,b,d,e]] []) λr=>ctl (kb r) (some ([.p (.bool !(rb r 0))],[])) none):=by kernel_rfl
theorem r77 (F)(a b d e:Int):Eq (aI E F 77 [.agg [a,b,d,e]] []) (aj (F 78 [a,n 0,n 3] []) λr=>ctl (kb r) (aj (ctl (rb r 0) (aj (F 78 [b,n 0,n 2147483648] []) λr=>ctl (kb r) (some (rb r 0:Bool)) none) (some false)) λv=>aj (ctl v (aj (F 78 [d,n 0,n 6000] []) λr=>ctl (kb r) (some (rb r 0:Bool)) none) (some false)) λv=>aj (ctl v (aj (F 78 [e,n 0,n 3599] []) λr=>ctl (kb r) (some (rb r 0:Bool)) none) (some false)) λv=>some ([.p (.bool v)],[])) none):=by kernel_rfl
theorem N4 (F a)(b d:Int):Eq (lp E F 132 0 [AV.undef,.fn 76 []] 0 ⟨[.sl 4 a,b,d],[]⟩) (ctl (aT d b) (aG a d λc=>ctl (c4 c) (aj (F 76 [.agg [ci c 0,ci c 1,ci c 2,ci c 3]] []) λr=>ctl (kb r) (ctl (rb r 0) (some (.ret,⟨[d],[]⟩)) (lp E F 132 0 [AV.undef,.fn 76 []] 0 ⟨[.sl 4 a,b,(wr (d+1))],[]⟩)) none) none) (some (.exit 0,⟨[],[]⟩))):=lu (by kernel_rfl)
theorem agx (F a):Eq (aI E F 132 [.sl 4 a,.fn 76 []] []) (aj (lp E F 132 0 [AV.undef,.fn 76 []] 0 ⟨[.sl 4 a,(ln a),n 0],[]⟩) λp=>ctl (x 0 p) (some ([.p (n (-1))],[])) (e1 4 p)):=by kernel_rfl
theorem abv (F d g h i j)(a b e f:Int):Eq (lp E F 79 0 [] 0 ⟨[a,b,.sl 3 d,e,f],[.box (pw g h i j [])]⟩) (ctl (aT f e) (aG d f λc=>ctl (c3 c) (aj (ctl ((ci c 0:Int)==3) (some ((ci c 2:Int)==a)) (some false)) λv=>aj (ctl v (aG g f λc=>ctl (c0 c) (some (cb c 0:Bool)) none) (some false)) λv=>ctl v (lp E F 79 0 [] 0 ⟨[a,(wr (b+1)),.sl 3 d,e,(wr (f+1))],[.box (pw g h i j [])]⟩) (lp E F 79 0 [] 0 ⟨[a,b,.sl 3 d,e,(wr (f+1))],[.box (pw g h i j [])]⟩)) none) (some (.exit 0,⟨[b],[]⟩))):=lu (by kernel_rfl)
theorem r79 (F b d e h i j k)(a f g l:Int):Eq (aI E F 79 [G a b d e f g,W h i j k,l] []) (aj (lp E F 79 0 [] 0 ⟨[l,n 0,.sl 3 b,(ln b),n 0],[.box (pw h i j k [])]⟩) λp=>ctl (x 0 p) (ctl ((po [(sj 7)] [] p)) (some ([.p (xi p 0)],[])) none) none):=by kernel_rfl
theorem abU (F a b g h i l m o q)(d e f j k:Int):Eq (lp E F 31 0 [] 0 ⟨[.bool a,.sl 1 b,d,e],[.box (bd f g h i j k []),.box (pw l m o q [])]⟩) (ctl (aT e d) (aG b e λc=>ctl (c1 c) (aj (ctl a (aG i e λdP=>ctl (bL [.int .i64,.int .i64,.int .i64,.int .i64,.sl 1] dP) (aj (F 78 [ci c 0,n 0,ci dP 0] []) λr=>ctl (kb r) (some (rb r 0:Bool)) none) none) (some false)) λv=>aj (ctl v (aj (F 79 [G f g h i j k,W l m o q,e] []) λr=>ctl (ki r) (some (bJ (ri r 0) 1)) none) (some false)) λv=>lp E F 31 0 [] 0 ⟨[.bool v,.sl 1 b,d,(wr (e+1))],[.box (bd f g h i j k []),.box (pw l m o q [])]⟩) none) (some (.exit 0,⟨[.bool a],[]⟩))):=lu (by kernel_rfl)
theorem r31 (F b d e h i j k)(a f g:Int):Eq (aI E F 31 [G a b d e f g,W h i j k] []) (aj (F 47 [G a b d e f g] []) λr=>ctl (ki r) (ctl ((ri r 0:Int) !=0) (some ([.p (ri r 0)],[])) (aj (ctl (!(↑h.length:Int) !=(↑b.length:Int)) (some ((↑i.length:Int) !=(↑d.length:Int))) (some true)) λv=>aj (ctl (!v) (some ((↑j.length:Int) !=(↑e.length:Int))) (some true)) λv=>ctl v (some ([.p (n 8)],[])) (aj (F 74 [G a b d e f g,.sl 2 k] []) λr=>ctl (kb r) (ctl (rb r 0) (aj (F 75 [.sl 4 i,.fn 76 []] []) λr=>ctl (kb r) (aj (lp E F 31 0 [] 0 ⟨[.bool !(rb r 0),.sl 1 j,(ln j),n 0],[.box (bd a b d e f g []),.box (pw h i j k [])]⟩) λp=>ctl (x 0 p) (ctl ((po [(6,.inl .bool)] [] p)) (ctl (!(xb p 0)) (some ([.p (n 11)],[])) (some ([.p (n 0)],[]))) none) none) none) (aj (lp E F 31 0 [] 0 ⟨[.bool false,.sl 1 j,(ln j),n 0],[.box (bd a b d e f g []),.box (pw h i j k [])]⟩) λp=>ctl (x 0 p) (ctl ((po [(6,.inl .bool)] [] p)) (ctl (!(xb p 0)) (some ([.p (n 11)],[])) (some ([.p (n 0)],[]))) none) none)) none))) none):=by kernel_rfl
theorem r86 (F a b d e)(f g:Int):Eq (aI E F 86 [W a b d e,f,g] []) (aj (F 136 [.sl 2 e,.agg [f,g]] []) λr=>ctl (kb r) (some ([.p (.bool (rb r 0))],[])) none):=by kernel_rfl
theorem akc (F a)(b d:Int):Eq (aI E F 136 [.sl 2 a,.agg [b,d]] []) (aj (F 171 [.sl 2 a,.agg [b,d]] []) λr=>ctl (ki r) (some ([.p (.bool (bJ 0 (ri r 0)))],[])) none):=by kernel_rfl
theorem S8 (F a)(b d e f:Int):Eq (lp E F 171 0 [] 0 ⟨[.sl 2 a,b,d],[.box [e,f]]⟩) (ctl (aT d b) (aG a d λc=>ctl (bL [.int .i64,.int .i64] c) (ctl (e==(ci c 0:Int)&&(f==(ci c 1:Int)&&true)) (some (.ret,⟨[d],[]⟩)) (lp E F 171 0 [] 0 ⟨[.sl 2 a,b,(wr (d+1))],[.box [e,f]]⟩)) none) (some (.exit 0,⟨[],[]⟩))):=lu (by kernel_rfl)
theorem ajR (F a)(b d:Int):Eq (aI E F 171 [.sl 2 a,.agg [b,d]] []) (aj (lp E F 171 0 [] 0 ⟨[.sl 2 a,(ln a),n 0],[.box [b,d]]⟩) λp=>ctl (x 0 p) (some ([.p (n (-1))],[])) (e1 4 p)):=by kernel_rfl
theorem abT (F e f g j k l m o)(a b d h i:Int):Eq (lp E F 34 0 [] 0 ⟨[a,b],[.box (bd d e f g h i []),.box (pw j k l m []),a1 o]⟩) (ctl (aT b a) (ctl (bJ 0 b&&aT b (↑o.length:Int)) (lp E F 34 0 [] 0 ⟨[a,(wr (b+1))],[.box (bd d e f g h i []),.box (pw j k l m []),a1 (bg o b.toNat 0 [b])]⟩) none) (some (.exit 0,⟨[],[.box (bd d e f g h i []),.box (pw j k l m []),a1 o]⟩))):=lu (by kernel_rfl)
theorem abS (F e f g j k l m o)(a b d h i:Int):Eq (lp E F 34 0 [] 2 ⟨[a,b],[.box (bd d e f g h i []),.box (pw j k l m []),a1 o]⟩) (ctl (aT b a) (aj (lp E F 34 0 [] 4 ⟨[a,b,.sl 3 e,(ln e),n 0],[.box (bd d e f g h i []),.box (pw j k l m []),a1 o]⟩) λp=>ctl (x 4 p) (ctl ((po [(sp 2 0),(sp 3 1),(sh 5 2),(sj 24),(sj 25)] [.inl (bs []),.inl (ps []),.inr 1] p)) (lp E F 34 0 [] 2 ⟨[xi p 0,(wr ((xi p 1:Int)+1))],[.box (kh p 0 []),.box (EP p 1 []),a1 (ae p 2)]⟩) none) none) (some (.exit 2,⟨[],[a1 o]⟩))):=lu (by kernel_rfl)
theorem abR (F d h i j m o q s u)(a b e f g k l:Int):Eq (lp E F 34 0 [] 4 ⟨[a,b,.sl 3 d,e,f],[.box (bd g h i j k l []),.box (pw m o q s []),a1 u]⟩) (ctl (aT f e) (aG d f λc=>ctl (c3 c) (aj (ctl ((ci c 0:Int)==1) (aG m f λc=>ctl (c0 c) (some (cb c 0:Bool)) none) (some false)) λv=>ctl v (ctl (bJ 0 (ci c 1)&&aT (ci c 1) (↑u.length:Int)) (ctl (bL [.int .i64] (List.take 1 (List.drop 0 (nth [] u (ci c 1:Int).toNat)))) (ctl (bJ 0 (ci c 2)&&aT (ci c 2) (↑u.length:Int)) (ctl (bL [.int .i64] (List.take 1 (List.drop 0 (nth [] u (ci c 2:Int).toNat)))) (ctl (bJ 0 (ci c 1)&&aT (ci c 1) (↑u.length:Int)) (ctl (bJ 0 (ci c 2)&&aT (ci c 2) (↑(bg u (ci c 1:Int).toNat 0 [.int .i64 (lC (nth .aM (nth [] u (ci c 2:Int).toNat) 0).toInt (nth .aM (nth [] u (ci c 1:Int).toNat) 0).toInt)]).length:Int)) (lp E F 34 0 [] 4 ⟨[a,b,.sl 3 d,e,(wr (f+1))],[.box (bd g h i j k l []),.box (pw m o q s []),a1 (bg (bg u (ci c 1:Int).toNat 0 [.int .i64 (lC (nth .aM (nth [] u (ci c 2:Int).toNat) 0).toInt (nth .aM (nth [] u (ci c 1:Int).toNat) 0).toInt)]) (ci c 2:Int).toNat 0 [.int .i64 (lC (nth .aM (nth [] u (ci c 2:Int).toNat) 0).toInt (nth .aM (nth [] u (ci c 1:Int).toNat) 0).toInt)])]⟩) none) none) none) none) none) none) (lp E F 34 0 [] 4 ⟨[a,b,.sl 3 d,e,(wr (f+1))],[.box (bd g h i j k l []),.box (pw m o q s []),a1 u]⟩)) none) (some (.exit 4,⟨[a,b],[.box (bd g h i j k l []),.box (pw m o q s []),a1 u]⟩))):=lu (by kernel_rfl)
theorem r34 (F b d e h i j k)(a f g:Int):Eq (aI E F 34 [G a b d e f g,W h i j k] []) (ctl (bJ 0 a&&(bJ a a&&(bJ a 9223372036854775807&&bJ (a*8) 140737488355328))) (aj (lp E F 34 0 [] 0 ⟨[.int .i64 (↑(dm ([n 0]:List PV) a.toNat).length:Int),n 0],[.box (bd a b d e f g []),.box (pw h i j k []),a1 (dm ([n 0]:List PV) a.toNat)]⟩) λp=>ctl (x 0 p) (ctl ((po [(sp 2 0),(sp 3 1),(sh 5 2)] [.inl (bs []),.inl (ps []),.inr 1] p)) (aj (lp E F 34 0 [] 2 ⟨[n (↑(ae p 2:LE).length:Int),n 0],[.box (kh p 0 []),.box (EP p 1 []),a1 (ae p 2)]⟩) λp=>ctl (x 2 p) (ctl ((po [(sh 5 0)] [.inr 1] p)) (some ([.p (.sl 1 (ae p 0))],[])) none) none) none) none) none):=by kernel_rfl
theorem abu (F d g h i j)(a b e f:Int):Eq (lp E F 83 0 [] 0 ⟨[a,b,.sl 3 d,e,f],[.box (pw g h i j [])]⟩) (ctl (aT f e) (aG d f λc=>ctl (c3 c) (aj (ctl ((ci c 0:Int)==a) (some ((ci c 2:Int)==b)) (some false)) λv=>aj (ctl v (aG g f λc=>ctl (c0 c) (some (cb c 0:Bool)) none) (some false)) λv=>ctl v (some (.ret,⟨[ci c 1,.bool true],[]⟩)) (lp E F 83 0 [] 0 ⟨[a,b,.sl 3 d,e,(wr (f+1))],[.box (pw g h i j [])]⟩)) none) (some (.exit 0,⟨[],[]⟩))):=lu (by kernel_rfl)
theorem r83 (F b d e h i j k)(a f g l m:Int):Eq (aI E F 83 [G a b d e f g,W h i j k,l,m] []) (aj (lp E F 83 0 [] 0 ⟨[l,m,.sl 3 b,(ln b),n 0],[.box (pw h i j k [])]⟩) λp=>ctl (x 0 p) (some ([.p (n 0),.p (.bool false)],[])) (ctl (p.fst.iI .ret) (ctl ((po [(sj 8),(9,.inl .bool)] [] p)) (some ([.p (xi p 0),.p (.bool (xb p 1))],[])) none) none)):=by kernel_rfl
theorem r35 (F b d e h i j k)(a f g l:Int):Eq (aI E F 35 [G a b d e f g,W h i j k,l] []) (aj (F 78 [l,n 0,(wr ((↑i.length:Int)-1))] []) λr=>ctl (kb r) (aj (ctl (!!(rb r 0)) (aG i l λc=>ctl (c4 c) (some ((ci c 0:Int) !=2)) none) (some true)) λv=>ctl v (some ([.p (n 0),.p (.bool false)],[])) (aj (F 83 [G a b d e f g,W h i j k,n 2,l] []) λr=>ctl (k0 [.one (.int .i64),.one .bool] r) (some ([.p (ri r 0),.p (.bool (rb r 1))],[])) none)) none):=by kernel_rfl
theorem r36 (F b d e h i j k)(a f g l:Int):Eq (aI E F 36 [G a b d e f g,W h i j k,l] []) (aj (F 83 [G a b d e f g,W h i j k,n 3,l] []) λr=>ctl (k0 [.one (.int .i64),.one .bool] r) (some ([.p (ri r 0),.p (.bool (rb r 1))],[])) none):=by kernel_rfl
theorem agq (F b f g h)(a d e:Int):Eq (lp E F 42 0 [] 0 ⟨[a,.sl 3 b,d,e],[.box [.sl 1 f,.sl 1 g,.sl 1 h]]⟩) (ctl (aT e d) (aG b e λc=>ctl (bL [.sl 1,.sl 1,.sl 1] c) (aj (F 81 [.sl 1 (ce c 0),a] []) λr=>ctl (kb r) (ctl (rb r 0) (some (.ret,⟨[.bool true],[.box [.sl 1 (ce c 0),.sl 1 (ce c 1),.sl 1 (ce c 2)]]⟩)) (lp E F 42 0 [] 0 ⟨[a,.sl 3 b,d,(wr (e+1))],[.box [.sl 1 f,.sl 1 g,.sl 1 h]]⟩)) none) none) (some (.exit 0,⟨[],[.box [.sl 1 f,.sl 1 g,.sl 1 h]]⟩))):=lu (by kernel_rfl)
theorem r42 (F b d e h i j k)(a f g l:Int):Eq (aI E F 42 [G a b d e f g,W h i j k,l] []) (aj (F 12 [G a b d e f g,W h i j k] []) λr=>ctl (k0 [.one (.sl 3)] r) (aj (lp E F 42 0 [] 0 ⟨[l,.sl 3 (re r 0),n (↑(re r 0:LE).length:Int),n 0],[.box [.sl 1 [],.sl 1 [],.sl 1 []]]⟩) λp=>ctl (x 0 p) (ctl ((po [(sp 6 0)] [.inl [.inl (.sl 1),.inl (.sl 1),.inl (.sl 1)]] p)) (some ([.agg [PV.bN,PV.bN,PV.bN],.p (.bool false)],[])) none) (ctl (p.fst.iI .ret) (ctl ((po [(sp 6 0),(7,.inl .bool)] [.inl [.inl (.sl 1),.inl (.sl 1),.inl (.sl 1)]] p)) (some ([.agg [.sl 1 (ve p 0 0),.sl 1 (ve p 0 1),.sl 1 (ve p 0 2)],.p (.bool (xb p 0))],[])) none) none)) none):=by kernel_rfl
theorem r81 (F a)(b:Int):Eq (aI E F 81 [.sl 1 a,b] []) (aj (F 133 [.sl 1 a,b] []) λr=>ctl (ki r) (some ([.p (.bool (bJ 0 (ri r 0)))],[])) none):=by kernel_rfl
theorem Tc (F a)(b d e:Int):Eq (lp E F 133 0 [] 0 ⟨[.sl 1 a,b,d,e],[]⟩) (ctl (aT e d) (aG a e λc=>ctl (c1 c) (ctl (b==(ci c 0:Int)) (some (.ret,⟨[e],[]⟩)) (lp E F 133 0 [] 0 ⟨[.sl 1 a,b,d,(wr (e+1))],[]⟩)) none) (some (.exit 0,⟨[],[]⟩))):=lu (by kernel_rfl)
theorem akf (F a)(b:Int):Eq (aI E F 133 [.sl 1 a,b] []) (aj (lp E F 133 0 [] 0 ⟨[.sl 1 a,b,(ln a),n 0],[]⟩) λp=>ctl (x 0 p) (some ([.p (n (-1))],[])) (e1 4 p)):=by kernel_rfl
theorem r80 (F b d e h i j k)(a f g l:Int):Eq (aI E F 80 [G a b d e f g,W h i j k,l] []) (aj (F 31 [G a b d e f g,W h i j k] []) λr=>ctl (ki r) (ctl ((ri r 0:Int) !=0) (some ([.p (n 0),.p (.bool false)],[])) (aj (F 35 [G a b d e f g,W h i j k,l] []) λr=>ctl (k0 [.one (.int .i64),.one .bool] r) (some ([.p (ri r 0),.p (.bool (rb r 1))],[])) none)) none):=by kernel_rfl
theorem akq (F b d e h i j k)(a f g l:Int):Eq (aI E F 117 [G a b d e f g,W h i j k,l] []) (aj (F 31 [G a b d e f g,W h i j k] []) λr=>ctl (ki r) (ctl ((ri r 0:Int) !=0) (some ([.p (n 0),.p (.bool false)],[])) (aj (F 36 [G a b d e f g,W h i j k,l] []) λr=>ctl (k0 [.one (.int .i64),.one .bool] r) (some ([.p (ri r 0),.p (.bool (rb r 1))],[])) none)) none):=by kernel_rfl
theorem r24 (F b d e h i j k)(a f g l:Int):Eq (aI E F 24 [G a b d e f g,W h i j k,l] []) (aj (F 42 [G a b d e f g,W h i j k,l] []) λr=>ctl (k0 [.agg [.sl 1,.sl 1,.sl 1],.one .bool] r) (some ([.p (.bool (aT 0 (↑(se r 0 1:LE).length:Int)))],[])) none):=by kernel_rfl
theorem afH (F d g)(a b e f:Int):Eq (lp E F 17 0 [] 0 ⟨[a,b,.sl 3 d,e,f],[a1 g]⟩) (ctl (aT f e) (aG d f λc=>ctl (c3 c) (aj (ctl ((ci c 0:Int)==a) (ctl (!(ci c 2:Int)==b) (ctl (a==1) (some ((ci c 1:Int)==b)) (some false)) (some true)) (some false)) λv=>ctl v (ctl (iW ((g.length+1)*8) 140737488355328) (lp E F 17 0 [] 0 ⟨[a,b,.sl 3 d,e,(wr (f+1))],[a1 (g++([[f]]:LE))]⟩) none) (lp E F 17 0 [] 0 ⟨[a,b,.sl 3 d,e,(wr (f+1))],[a1 g]⟩)) none) (some (.exit 0,⟨[],[a1 g]⟩))):=lu (by kernel_rfl)
theorem r17 (F b d e)(a f g h i:Int):Eq (aI E F 17 [G a b d e f g,h,i] []) (aj (F 47 [G a b d e f g] []) λr=>ctl (ki r) (ctl ((ri r 0:Int) !=0) (some ([.p (.sl 1 [])],[])) (aj (lp E F 17 0 [] 0 ⟨[h,i,.sl 3 b,(ln b),n 0],[a1 []]⟩) λp=>ctl (x 0 p) (ctl ((po [(sh 7 0)] [.inr 1] p)) (some ([.p (.sl 1 (ae p 0))],[])) none) none)) none):=by kernel_rfl
theorem r54 (F a b d e f g h i):Eq (aI E F 54 [W a b d e,W f g h i] []) (aj (F 106 [.sl 1 a,.sl 1 f] []) λr=>ctl (kb r) (aj (ctl (rb r 0) (aj (F 107 [.sl 4 b,.sl 4 g] []) λr=>ctl (kb r) (some (rb r 0:Bool)) none) (some false)) λv=>aj (ctl v (aj (F 108 [.sl 1 d,.sl 1 h] []) λr=>ctl (kb r) (some (rb r 0:Bool)) none) (some false)) λv=>aj (ctl v (aj (F 109 [.sl 2 e,.sl 2 i] []) λr=>ctl (kb r) (some (rb r 0:Bool)) none) (some false)) λv=>some ([.p (.bool v)],[])) none):=by kernel_rfl
theorem Tm (F a b)(d e:Int):Eq (lp E F 106 0 [] 0 ⟨[.sl 1 a,.sl 1 b,d,e],[]⟩) (ctl (aT e d) (aG a e λc=>ctl (c0 c) (aG b e λdP=>ctl (c0 dP) (ctl (!(cb c 0:Bool)==(cb dP 0:Bool)) (some (.ret,⟨[.bool false],[]⟩)) (lp E F 106 0 [] 0 ⟨[.sl 1 a,.sl 1 b,d,(wr (e+1))],[]⟩)) none) none) (some (.exit 0,⟨[],[]⟩))):=lu (by kernel_rfl)
theorem akv (F a b):Eq (aI E F 106 [.sl 1 a,.sl 1 b] []) (ctl ((↑a.length:Int) !=(↑b.length:Int)) (some ([.p (.bool false)],[])) (aj (lp E F 106 0 [] 0 ⟨[.sl 1 a,.sl 1 b,(ln a),n 0],[]⟩) λp=>ctl (x 0 p) (some ([.p (.bool true)],[])) (e2 4 p))):=by kernel_rfl
theorem Tl (F a b)(d e:Int):Eq (lp E F 107 0 [] 0 ⟨[.sl 4 a,.sl 4 b,d,e],[]⟩) (ctl (aT e d) (aG a e λc=>ctl (c4 c) (aG b e λdP=>ctl (c4 dP) (ctl (!((ci c 0:Int)==(ci dP 0:Int)&&((ci c 1:Int)==(ci dP 1:Int)&&((ci c 2:Int)==(ci dP 2:Int)&&((ci c 3:Int)==(ci dP 3:Int)&&true))))) (some (.ret,⟨[.bool false],[]⟩)) (lp E F 107 0 [] 0 ⟨[.sl 4 a,.sl 4 b,d,(wr (e+1))],[]⟩)) none) none) (some (.exit 0,⟨[],[]⟩))):=lu (by kernel_rfl)
theorem aku (F a b):Eq (aI E F 107 [.sl 4 a,.sl 4 b] []) (ctl ((↑a.length:Int) !=(↑b.length:Int)) (some ([.p (.bool false)],[])) (aj (lp E F 107 0 [] 0 ⟨[.sl 4 a,.sl 4 b,(ln a),n 0],[]⟩) λp=>ctl (x 0 p) (some ([.p (.bool true)],[])) (e2 4 p))):=by kernel_rfl
theorem Tk (F a b)(d e:Int):Eq (lp E F 108 0 [] 0 ⟨[.sl 1 a,.sl 1 b,d,e],[]⟩) (ctl (aT e d) (aG a e λc=>ctl (c1 c) (aG b e λdP=>ctl (c1 dP) (ctl ((ci c 0:Int) !=(ci dP 0:Int)) (some (.ret,⟨[.bool false],[]⟩)) (lp E F 108 0 [] 0 ⟨[.sl 1 a,.sl 1 b,d,(wr (e+1))],[]⟩)) none) none) (some (.exit 0,⟨[],[]⟩))):=lu (by kernel_rfl)
theorem akt (F a b):Eq (aI E F 108 [.sl 1 a,.sl 1 b] []) (ctl ((↑a.length:Int) !=(↑b.length:Int)) (some ([.p (.bool false)],[])) (aj (lp E F 108 0 [] 0 ⟨[.sl 1 a,.sl 1 b,(ln a),n 0],[]⟩) λp=>ctl (x 0 p) (some ([.p (.bool true)],[])) (e2 4 p))):=by kernel_rfl
theorem Tj (F a b)(d e:Int):Eq (lp E F 109 0 [] 0 ⟨[.sl 2 a,.sl 2 b,d,e],[]⟩) (ctl (aT e d) (aG a e λc=>ctl (bL [.int .i64,.int .i64] c) (aG b e λdP=>ctl (bL [.int .i64,.int .i64] dP) (ctl (!((ci c 0:Int)==(ci dP 0:Int)&&((ci c 1:Int)==(ci dP 1:Int)&&true))) (some (.ret,⟨[.bool false],[]⟩)) (lp E F 109 0 [] 0 ⟨[.sl 2 a,.sl 2 b,d,(wr (e+1))],[]⟩)) none) none) (some (.exit 0,⟨[],[]⟩))):=lu (by kernel_rfl)
theorem aks (F a b):Eq (aI E F 109 [.sl 2 a,.sl 2 b] []) (ctl ((↑a.length:Int) !=(↑b.length:Int)) (some ([.p (.bool false)],[])) (aj (lp E F 109 0 [] 0 ⟨[.sl 2 a,.sl 2 b,(ln a),n 0],[]⟩) λp=>ctl (x 0 p) (some ([.p (.bool true)],[])) (e2 4 p))):=by kernel_rfl
theorem r57 (F a b d e):Eq (aI E F 57 [W a b d e] []) (aj (F 111 [.sl 1 a] []) λr=>ctl (k0 [.own 1] r) (aj (F 112 [.sl 4 b] []) λaV=>ctl (k0 [.own 4] aV) (aj (F 102 [.sl 1 d] []) λej=>ctl (k0 [.own 1] ej) (aj (F 113 [.sl 2 e] []) λia=>ctl (k0 [.own 2] ia) (some ([.bm [.own 1 (nth (.p .aM) r.fst 0).di,.own 4 (nth (.p .aM) aV.fst 0).di,.own 1 (nth (.p .aM) ej.fst 0).di,.own 2 (nth (.p .aM) ia.fst 0).di]],[])) none) none) none) none):=by kernel_rfl
theorem agD (F a b):Eq (aI E F 111 [.sl 1 (a::b)] []) (ctl (iW ((0+(a::b).length)*1) 140737488355328) (some ([.own 1 ([]++a::b)],[])) none):=by kernel_rfl
theorem agC (F a b):Eq (aI E F 112 [.sl 4 (a::b)] []) (ctl (iW ((0+(a::b).length)*32) 140737488355328) (some ([.own 4 ([]++a::b)],[])) none):=by kernel_rfl
theorem agB (F a b):Eq (aI E F 113 [.sl 2 (a::b)] []) (ctl (iW ((0+(a::b).length)*16) 140737488355328) (some ([.own 2 ([]++a::b)],[])) none):=by kernel_rfl
theorem r33 (F b d e)(a f g h i j k l m o q:Int):Eq (aI E F 33 [G a b d e f g,.agg [h,i,j,k],.agg [l,m,o,q]] []) (aj (ctl (!aT (lC o j) 0) (some (aT 6000 (gu o j))) (some true)) λv=>ctl v (some ([.p (.bool false)],[])) (aj (F 82 [k,q] []) λr=>ctl (ki r) (aj (ctl (bJ (gu (IntKind.i64.wrap (o-j)) (IntKind.i64.wrap (j-o))) g) (some (bJ (gu (IntKind.i64.wrap (0-(ri r 0:Int))) (ri r 0:Int)) f)) (some false)) λv=>some ([.p (.bool v)],[])) none)):=by kernel_rfl
theorem r82 (F)(a b:Int):Eq (aI E F 82 [a,b] []) (aj (F 134 [b] []) λr=>ctl (ki r) (aj (F 134 [a] []) λaV=>ctl (k0 [.one (.int .i64)] aV) (aj (F 134 [(wr ((ri r 0:Int)-(ri aV 0:Int)))] []) λr=>ctl (ki r) (ctl (aT 1800 (ri r 0)) (some ([.p (.int .i64 (IntKind.i64.wrap ((ri r 0:Int)-3600)))],[])) (some ([.p (ri r 0)],[]))) none) none) none):=by kernel_rfl
theorem ake (F)(a:Int):Eq (aI E F 134 [a] []) (ctl (aT (a.tmod 3600) 0) (some ([.p (n (IntKind.i64.wrap (a.tmod 3600+3600)))],[])) (some ([.p (n (a.tmod 3600))],[]))):=by kernel_rfl
theorem ajM (F b d e h i j k)(a f g l:Int):Eq (aI E F 180 [G a b d e f g,W h i j k,l] []) (aj (F 42 [G a b d e f g,W h i j k,l] []) λr=>ctl (k0 [.agg [.sl 1,.sl 1,.sl 1],.one .bool] r) (ctl ((↑(se r 0 1:LE).length:Int)==0) (some ([.p (n 0),.p (.bool false)],[])) (aG (se r 0 1) 0 λc=>ctl (c1 c) (some ([.p (ci c 0),.p (.bool true)],[])) none)) none):=by kernel_rfl
theorem ajF (F b d e h i j k)(a f g l:Int):Eq (aI E F 194 [G a b d e f g,W h i j k,l] []) (aG b l λc=>ctl (c3 c) (aG h l λdP=>ctl (c0 dP) (aj (ctl (!(cb dP 0)) (aj (F 86 [W h i j k,n 2,l] []) λr=>ctl (kb r) (some (rb r 0:Bool)) none) (some true)) λv=>aj (ctl (!v) (aj (F 86 [W h i j k,n 3,ci c 1] []) λr=>ctl (kb r) (some (rb r 0:Bool)) none) (some true)) λv=>ctl v (some ([.p (.bool false)],[])) (ctl ((ci c 0:Int)==1) (aj (F 86 [W h i j k,n 3,ci c 2] []) λr=>ctl (kb r) (some ([.p (.bool !(rb r 0))],[])) none) (ctl ((ci c 0:Int)==2) (aj (F 86 [W h i j k,n 1,ci c 2] []) λr=>ctl (kb r) (aj (ctl (!(rb r 0)) (aG i (ci c 2) λc=>ctl (c4 c) (some ((ci c 0:Int)==2)) none) (some false)) λv=>some ([.p (.bool v)],[])) none) (aj (F 117 [G a b d e f g,W h i j k,ci c 2] []) λr=>ctl (k0 [.one (.int .i64),.one .bool] r) (aj (F 86 [W h i j k,n 4,ci c 2] []) λaV=>ctl (k0 [.one .bool] aV) (aj (ctl (!(rb aV 0)) (some !(rb r 1)) (some false)) λv=>some ([.p (.bool v)],[])) none) none)))) none) none):=by kernel_rfl
theorem ajE (F b d e h i j k)(a f g l m o:Int):Eq (aI E F 195 [G a b d e f g,W h i j k,.agg [l,m,o]] []) (aj (F 180 [G a b d e f g,W h i j k,m] []) λr=>ctl (k0 [.one (.int .i64),.one .bool] r) (ctl (!(rb r 1)) (some ([.p (.bool true)],[])) (ctl (l==1) (aj (F 180 [G a b d e f g,W h i j k,o] []) λaV=>ctl (k0 [.one (.int .i64),.one .bool] aV) (aj (ctl (!!(rb aV 1)) (aG i (ri r 0) λc=>ctl (c4 c) (aG i (ri aV 0) λdP=>ctl (c4 dP) (aj (F 33 [G a b d e f g,.agg [ci c 0,ci c 1,ci c 2,ci c 3],.agg [ci dP 0,ci dP 1,ci dP 2,ci dP 3]] []) λr=>ctl (kb r) (some (rb r 0:Bool)) none) none) none) (some true)) λv=>some ([.p (.bool v)],[])) none) (ctl (l==2) (aG i (ri r 0) λc=>ctl (c4 c) (aG i o λdP=>ctl (c4 dP) (aj (F 33 [G a b d e f g,.agg [ci c 0,ci c 1,ci c 2,ci c 3],.agg [ci dP 0,ci dP 1,ci dP 2,ci dP 3]] []) λr=>ctl (kb r) (some ([.p (.bool (rb r 0))],[])) none) none) none) (some ([.p (.bool true)],[]))))) none):=by kernel_rfl
theorem ajL (F b d e h i j k)(a f g l:Int):Eq (aI E F 181 [G a b d e f g,W h i j k,l] []) (aj (F 31 [G a b d e f g,W h i j k] []) λr=>ctl (ki r) (ctl ((ri r 0:Int) !=0) (some ([.p (ri r 0)],[])) (aj (ctl (!aT l 0) (some (bJ (↑b.length:Int) l)) (some true)) λv=>ctl v (some ([.p (n 10)],[])) (aj (F 194 [G a b d e f g,W h i j k,l] []) λr=>ctl (kb r) (ctl (!(rb r 0)) (some ([.p (n 11)],[])) (aG b l λc=>ctl (c3 c) (aj (F 42 [G a b d e f g,W h i j k,ci c 1] []) λr=>ctl (k0 [.agg [.sl 1,.sl 1,.sl 1],.one .bool] r) (aj (ctl ((ci c 0:Int)==1) (aj (F 81 [.sl 1 (se r 0 0),ci c 2] []) λr=>ctl (kb r) (some (rb r 0:Bool)) none) (some false)) λv=>aj (ctl (!v) (aj (F 195 [G a b d e f g,W h i j k,.agg [ci c 0,ci c 1,ci c 2]] []) λr=>ctl (kb r) (some !(rb r 0)) none) (some false)) λv=>ctl v (some ([.p (n 12)],[])) (some ([.p (n 0)],[]))) none) none)) none))) none):=by kernel_rfl
theorem Ta (F a e f g h)(b d i j k l:Int):Eq (lp E F 143 4 [] 0 ⟨[.sl 1 a,b,d],[a1 e,a4 f,a1 g,a2 h,.box (h4 0 1 2 3 []),.box [i,j,k,l]]⟩) (ctl (aT d b) (aG a d λc=>ctl (c1 c) (ctl (bJ 0 (ci c 0)&&aT (ci c 0) (↑f.length:Int)) (ctl (bJ 0 (ci c 0)&&aT (ci c 0) (↑(bg f (ci c 0:Int).toNat 2 [k]).length:Int)) (lp E F 143 4 [] 0 ⟨[.sl 1 a,b,(wr (d+1))],[a1 e,a4 (bg (bg f (ci c 0:Int).toNat 2 [k]) (ci c 0:Int).toNat 3 [l]),a1 g,a2 h,.box (h4 0 1 2 3 []),.box [i,j,k,l]]⟩) none) none) none) (some (.exit 0,⟨[],[a1 e,a4 f,a1 g,a2 h]⟩))):=lu (by kernel_rfl)
theorem aj' (F a g h i j)(b d e f:Int):Eq (aI E F 143 [AV.bm [.ak 0,.ak 1,.ak 2,.ak 3],.sl 1 a,.agg [b,d,e,f]] [a1 g,a4 h,a1 i,a2 j]) (aj (lp E F 143 4 [] 0 ⟨[.sl 1 a,(ln a),n 0],[a1 g,a4 h,a1 i,a2 j,.box (h4 0 1 2 3 []),.box [b,d,e,f]]⟩) λp=>ctl (x 0 p) (ctl ((po [] [.inr 1,.inr 4,.inr 1,.inr 2] p)) (some ([],[a1 (ae p 0),a4 (ae p 1),a1 (ae p 2),a2 (ae p 3)])) none) none):=by kernel_rfl
theorem abr (F a e f g h i j k l m o q s)(b d:Int):Eq (lp E F 99 0 [] 0 ⟨[.sl 3 a,b,d],[.box (pw e f g h []),.box (pw i j k l []),.box (h4 3 4 5 6 []),a1 m,a4 o,a1 q,a2 s]⟩) (ctl (aT d b) (aG a d λc=>ctl (bL [.sl 1,.sl 1,.sl 1] c) (ctl (aT 0 (↑(ce c 1:LE).length:Int)) (aG (ce c 1) 0 λdP=>ctl (c1 dP) (aG f (ci dP 0) λNh=>ctl (c4 Nh) (aj (F 143 [AV.bm [.ak 0,.ak 1,.ak 2,.ak 3],.sl 1 (ce c 1),.agg [ci Nh 0,ci Nh 1,ci Nh 2,ci Nh 3]] [a1 m,a4 o,a1 q,a2 s]) λr=>ctl (cC [] r.fst&&okB [.inr 1,.inr 4,.inr 1,.inr 2] r.snd) (lp E F 99 0 [] 0 ⟨[.sl 3 a,b,(wr (d+1))],[.box (pw e f g h []),.box (pw i j k l []),.box (h4 3 4 5 6 []),a1 (he r 0),a4 (he r 1),a1 (he r 2),a2 (he r 3)]⟩) none) none) none) (lp E F 99 0 [] 0 ⟨[.sl 3 a,b,(wr (d+1))],[.box (pw e f g h []),.box (pw i j k l []),.box (h4 3 4 5 6 []),a1 m,a4 o,a1 q,a2 s]⟩)) none) (some (.exit 0,⟨[],[.box (pw i j k l []),.box (h4 2 3 4 5 []),a1 m,a4 o,a1 q,a2 s]⟩))):=lu (by kernel_rfl)
theorem r99 (F b d e h i j k)(a f g:Int):Eq (aI E F 99 [G a b d e f g,W h i j k] []) (aj (F 31 [G a b d e f g,W h i j k] []) λr=>ctl (ki r) (ctl ((ri r 0:Int) !=0) (some ([.bm [.own 1 [],.own 4 [],.own 1 [],.own 2 []],.p (ri r 0)],[])) (aj (F 57 [W h i j k] []) λr=>ctl (k0 [.bm [.ow 1,.ow 4,.ow 1,.ow 2]] r) (aj (F 12 [G a b d e f g,W h i j k] []) λaV=>ctl (k0 [.one (.sl 3)] aV) (aj (lp E F 99 0 [] 0 ⟨[.sl 3 (re aV 0),n (↑(re aV 0:LE).length:Int),n 0],[.box (pw h i j k []),.box (pw ([]) ([]) ([]) ([]) []),.box (h4 3 4 5 6 []),a1 (oe r 0 0),a4 (oe r 0 1),a1 (oe r 0 2),a2 (oe r 0 3)]⟩) λp=>ctl (x 0 p) (ctl ((po [(sp 4 0),(sp 7 1)] [.inl (ps []),.inl (g4 2 3 4 5 []),.inr 1,.inr 4,.inr 1,.inr 2] p)) (some ([.bm [.own 1 (ae p 2:LE),.own 4 (ae p 3:LE),.own 1 (ae p 4:LE),.own 2 (ae p 5:LE)],.p (n 0)],[])) none) none) none) none)) none):=by kernel_rfl
theorem ajY (F b d e h i j k)(a f g l:Int):Eq (aI E F 162 [G a b d e f g,W h i j k,l] []) (aj (F 181 [G a b d e f g,W h i j k,l] []) λr=>ctl (ki r) (ctl ((ri r 0:Int) !=0) (some ([.bm [.own 1 [],.own 4 [],.own 1 [],.own 2 []],.p (ri r 0)],[])) (aj (F 57 [W h i j k] []) λr=>ctl (k0 [.bm [.ow 1,.ow 4,.ow 1,.ow 2]] r) (ctl (bJ 0 l&&aT l (↑(oe r 0 0:LE).length:Int)) (aj (F 99 [G a b d e f g,.agg (rC (bg (oe r 0 0) l.toNat 0 [.bool true]) (oe r 0 1) (oe r 0 2) (oe r 0 3))] []) λr=>ctl (cC [.bm [.ow 1,.ow 4,.ow 1,.ow 2],.one (.int .i64)] r.fst&&okB [] r.snd&&(bM r.fst&&cr r.snd)) (some ([.bm [.own 1 (oe r 0 0:LE),.own 4 (oe r 0 1:LE),.own 1 (oe r 0 2:LE),.own 2 (oe r 0 3:LE)],.p (ri r 1)],[])) none) none) none)) none):=by kernel_rfl
theorem ajX (F b d e h i j k)(a f g l:Int):Eq (aI E F 163 [G a b d e f g,W h i j k,l] []) (aj (F 31 [G a b d e f g,W h i j k] []) λr=>ctl (ki r) (ctl ((ri r 0:Int) !=0) (some ([.bm [.own 1 [],.own 4 [],.own 1 [],.own 2 []],.p (ri r 0)],[])) (aj (ctl (!aT l 0) (some (bJ (↑b.length:Int) l)) (some true)) λv=>ctl v (some ([.bm [.own 1 [],.own 4 [],.own 1 [],.own 2 []],.p (n 10)],[])) (aG h l λc=>ctl (c0 c) (aj (ctl (!!(cb c 0)) (aj (F 86 [W h i j k,n 2,l] []) λr=>ctl (kb r) (some (rb r 0:Bool)) none) (some true)) λv=>ctl v (some ([.bm [.own 1 [],.own 4 [],.own 1 [],.own 2 []],.p (n 11)],[])) (aj (F 57 [W h i j k] []) λr=>ctl (k0 [.bm [.ow 1,.ow 4,.ow 1,.ow 2]] r) (ctl (bJ 0 l&&aT l (↑(oe r 0 0:LE).length:Int)) (some ([.bm [.own 1 (bg (oe r 0 0) l.toNat 0 [.bool false]),.own 4 (oe r 0 1:LE),.own 1 (oe r 0 2:LE),.own 2 (oe r 0 3:LE)],.p (n 0)],[])) none) none)) none))) none):=by kernel_rfl
theorem ajW (F b d e h i j k)(a f g l m:Int):Eq (aI E F 164 [G a b d e f g,W h i j k,l,m] []) (aj (F 31 [G a b d e f g,W h i j k] []) λr=>ctl (ki r) (ctl ((ri r 0:Int) !=0) (some ([.bm [.own 1 [],.own 4 [],.own 1 [],.own 2 []],.p (ri r 0)],[])) (aj (ctl (!aT l 0) (some (bJ (↑d.length:Int) l)) (some true)) λv=>aj (ctl (!v) (some (aT m 0)) (some true)) λv=>aj (ctl (!v) (some (bJ a m)) (some true)) λv=>ctl v (some ([.bm [.own 1 [],.own 4 [],.own 1 [],.own 2 []],.p (n 10)],[])) (aj (F 180 [G a b d e f g,W h i j k,m] []) λr=>ctl (k0 [.one (.int .i64),.one .bool] r) (aj (ctl (!!(rb r 1)) (aG i l λc=>ctl (c4 c) (some ((ci c 0:Int) !=2)) none) (some true)) λv=>ctl v (some ([.bm [.own 1 [],.own 4 [],.own 1 [],.own 2 []],.p (n 11)],[])) (aj (F 57 [W h i j k] []) λaV=>ctl (k0 [.bm [.ow 1,.ow 4,.ow 1,.ow 2]] aV) (aj (F 80 [G a b d e f g,W h i j k,l] []) λej=>ctl (k0 [.one (.int .i64),.one .bool] ej) (ctl (rb ej 1) (aj (F 42 [G a b d e f g,W h i j k,ri ej 0] []) λia=>ctl (k0 [.agg [.sl 1,.sl 1,.sl 1],.one .bool] ia) (aG i (ri r 0) λc=>ctl (c4 c) (aj (F 143 [AV.bm [.ak 0,.ak 1,.ak 2,.ak 3],.sl 1 (se ia 0 1),.agg [ci c 0,ci c 1,ci c 2,ci c 3]] [a1 (oe aV 0 0),a4 (oe aV 0 1),a1 (oe aV 0 2),a2 (oe aV 0 3)]) λr=>ctl (cC [] r.fst&&okB [.inr 1,.inr 4,.inr 1,.inr 2] r.snd) (some ([.bm [.own 1 (he r 0:LE),.own 4 (he r 1:LE),.own 1 (he r 2:LE),.own 2 (he r 3:LE)],.p (n 0)],[])) none) none) none) (aG i (ri r 0) λc=>ctl (c4 c) (aj (F 143 [AV.bm [.ak 0,.ak 1,.ak 2,.ak 3],.sl 1 [[l]],.agg [ci c 0,ci c 1,ci c 2,ci c 3]] [a1 (oe aV 0 0),a4 (oe aV 0 1),a1 (oe aV 0 2),a2 (oe aV 0 3)]) λr=>ctl (cC [] r.fst&&okB [.inr 1,.inr 4,.inr 1,.inr 2] r.snd&&(bM r.fst&&cr r.snd)) (some ([.bm [.own 1 (he r 0:LE),.own 4 (he r 1:LE),.own 1 (he r 2:LE),.own 2 (he r 3:LE)],.p (n 0)],[])) none) none)) none) none)) none))) none):=by kernel_rfl
theorem SX (F a e f g h i j k l)(b d:Int):Eq (lp E F 183 0 [] 0 ⟨[.sl 4 a,b,d],[.box (pw e f g h []),.box (h4 2 3 4 5 []),a1 i,a4 j,a1 k,a2 l]⟩) (ctl (aT d b) (aG a d λc=>ctl (c4 c) (ctl ((ci c 0:Int)==2) (aj (F 134 [.int .i64 (IntKind.i64.wrap ((ci c 3:Int)+IntKind.i64.wrap (36*IntKind.i64.wrap ((ci c 2:Int)-5000))))] []) λr=>ctl (ki r) (ctl (bJ 0 d&&aT d (↑j.length:Int)) (lp E F 183 0 [] 0 ⟨[.sl 4 a,b,(wr (d+1))],[.box (pw e f g h []),.box (h4 2 3 4 5 []),a1 i,a4 (bg j d.toNat 3 [ri r 0]),a1 k,a2 l]⟩) none) none) (lp E F 183 0 [] 0 ⟨[.sl 4 a,b,(wr (d+1))],[.box (pw e f g h []),.box (h4 2 3 4 5 []),a1 i,a4 j,a1 k,a2 l]⟩)) none) (some (.exit 0,⟨[],[.box (pw e f g h []),.box (h4 2 3 4 5 []),a1 i,a4 j,a1 k,a2 l]⟩))):=lu (by kernel_rfl)
theorem ajK (F b d e h i j k)(a f g:Int):Eq (aI E F 183 [G a b d e f g,W h i j k] []) (aj (F 31 [G a b d e f g,W h i j k] []) λr=>ctl (ki r) (ctl ((ri r 0:Int) !=0) (some ([.bm [.own 1 [],.own 4 [],.own 1 [],.own 2 []],.p (ri r 0)],[])) (aj (F 57 [W h i j k] []) λr=>ctl (k0 [.bm [.ow 1,.ow 4,.ow 1,.ow 2]] r) (aj (lp E F 183 0 [] 0 ⟨[.sl 4 i,(ln i),n 0],[.box (pw ([]) ([]) ([]) ([]) []),.box (h4 2 3 4 5 []),a1 (oe r 0 0),a4 (oe r 0 1),a1 (oe r 0 2),a2 (oe r 0 3)]⟩) λp=>ctl (x 0 p) (ctl ((po [(sp 4 0),(sp 7 1)] [.inl (ps []),.inl (g4 2 3 4 5 []),.inr 1,.inr 4,.inr 1,.inr 2] p)) (some ([.bm [.own 1 (ae p 2:LE),.own 4 (ae p 3:LE),.own 1 (ae p 4:LE),.own 2 (ae p 5:LE)],.p (n 0)],[])) none) none) none)) none):=by kernel_rfl
theorem N0 (F b f g h i j k l)(a d e:Int):Eq (lp E F 40 0 [] 0 ⟨[a,.sl 1 b,d,e],[.box (pw f g h i []),.box [.sl 1 j,.sl 1 k,.sl 1 l]]⟩) (ctl (aT e d) (aG b e λc=>ctl (c1 c) (ctl (aT 0 (↑k.length:Int)) (aG h (ci c 0) λc=>ctl (c1 c) (lp E F 40 0 [] 0 ⟨[(wr (a+(ci c 0:Int))),.sl 1 b,d,(wr (e+1))],[.box (pw f g h i []),.box [.sl 1 j,.sl 1 k,.sl 1 l]]⟩) none) (lp E F 40 0 [] 0 ⟨[a,.sl 1 b,d,(wr (e+1))],[.box (pw f g h i []),.box [.sl 1 j,.sl 1 k,.sl 1 l]]⟩)) none) (some (.exit 0,⟨[a],[]⟩))):=lu (by kernel_rfl)
theorem r40 (F b d e h i j k)(a f g l:Int):Eq (aI E F 40 [G a b d e f g,W h i j k,l] []) (aj (F 42 [G a b d e f g,W h i j k,l] []) λr=>ctl (k0 [.agg [.sl 1,.sl 1,.sl 1],.one .bool] r) (aj (lp E F 40 0 [] 0 ⟨[n 0,.sl 1 (se r 0 2),n (↑(se r 0 2:LE).length:Int),n 0],[.box (pw h i j k []),.box [.sl 1 (se r 0 0),.sl 1 (se r 0 1),.sl 1 (se r 0 2)]]⟩) λp=>ctl (x 0 p) (ctl ((po [(sj 9)] [] p)) (some ([.p (xi p 0)],[])) none) none) none):=by kernel_rfl
theorem abQ (F b g h i)(a d e f j k:Int):Eq (lp E F 41 0 [] 0 ⟨[a,.sl 1 b,d,e],[.box (bd f g h i j k [])]⟩) (ctl (aT e d) (aG b e λc=>ctl (c1 c) (aG h (ci c 0) λc=>ctl (c3 c) (lp E F 41 0 [] 0 ⟨[(wr (a+(ci c 0:Int))),.sl 1 b,d,(wr (e+1))],[.box (bd f g h i j k [])]⟩) none) none) (some (.exit 0,⟨[a],[]⟩))):=lu (by kernel_rfl)
theorem r41 (F b d e h i j k)(a f g l:Int):Eq (aI E F 41 [G a b d e f g,W h i j k,l] []) (aj (F 42 [G a b d e f g,W h i j k,l] []) λr=>ctl (k0 [.agg [.sl 1,.sl 1,.sl 1],.one .bool] r) (aj (lp E F 41 0 [] 0 ⟨[n 0,.sl 1 (se r 0 1),n (↑(se r 0 1:LE).length:Int),n 0],[.box (bd a b d e f g [])]⟩) λp=>ctl (x 0 p) (ctl ((po [(sj 9)] [] p)) (some ([.p (xi p 0)],[])) none) none) none):=by kernel_rfl
end
section
open Go M
set_option maxRecDepth 100000
theorem r39 (F)(a b d:Int):Eq (aI E F 39 [.agg [a,b,d]] []) (aj (ctl (bJ 1 b) (some (bJ b 99)) (some false)) λv=>aj (ctl v (some (aT b a)) (some false)) λv=>aj (ctl v (some (bJ a 100)) (some false)) λv=>aj (ctl v (some (bJ 0 d)) (some false)) λv=>aj (ctl v (some (bJ d 600)) (some false)) λv=>some ([.p (.bool v)],[])):=by kernel_rfl
theorem r13 (F b d e k l m o)(a f g h i j q:Int):Eq (aI E F 13 [G a b d e f g,.agg [h,i,j],W k l m o,q] []) (aj (F 39 [.agg [h,i,j]] []) λr=>ctl (kb r) (aj (ctl (rb r 0) (aj (F 24 [G a b d e f g,W k l m o,q] []) λr=>ctl (kb r) (some (rb r 0:Bool)) none) (some false)) λv=>aj (ctl v (aj (F 40 [G a b d e f g,W k l m o,q] []) λr=>ctl (ki r) (aj (F 41 [G a b d e f g,W k l m o,q] []) λaV=>ctl (k0 [.one (.int .i64)] aV) (some (aT (IntKind.i64.wrap (h*(ri aV 0:Int))) (IntKind.i64.wrap (100*(ri r 0:Int))))) none) none) (some false)) λv=>some ([.p (.bool v)],[])) none):=by kernel_rfl
theorem r85 (F b d e)(a f g h:Int):Eq (aI E F 85 [G a b d e f g,h] []) (aj (F 118 [.sl 3 b,.fn 135 [.ptr 0 0]] [.box [h]]) λr=>ctl (cC [.one (.int .i64)] r.fst&&okB [.inl [.inl (.int .i64)]] r.snd) (some ([.p (ri r 0)],[])) none):=by kernel_rfl
theorem N6 (F a)(b d e:Int):Eq (lp E F 118 1 [AV.undef,.fn 119 [.ptr 0 0]] 0 ⟨[.sl 3 a,b,d],[.box [e]]⟩) (ctl (aT d b) (aG a d λc=>ctl (c3 c) (aj (F 119 [.agg [ci c 0,ci c 1,ci c 2],.t (.ptr 0 0)] [.box [e]]) λr=>ctl (cC [.one .bool] r.fst&&okB [.inl [.inl (.int .i64)]] r.snd) (ctl (rb r 0) (some (.ret,⟨[d],[.box [wi r 0 0]]⟩)) (lp E F 118 1 [AV.undef,.fn 119 [.ptr 0 0]] 0 ⟨[.sl 3 a,b,(wr (d+1))],[.box [wi r 0 0]]⟩)) none) none) (some (.exit 0,⟨[],[.box [e]]⟩))):=lu (by kernel_rfl)
theorem agA (F a)(b:Int):Eq (aI E F 118 [.sl 3 a,.fn 119 [.ptr 0 0]] [.box [b]]) (aj (lp E F 118 1 [AV.undef,.fn 119 [.ptr 0 0]] 0 ⟨[.sl 3 a,(ln a),n 0],[.box [b]]⟩) λp=>ctl (x 0 p) (ctl ((po [] [.inl [.inl (.int .i64)]] p)) (some ([.p (n (-1))],[.box [vi p 0 0]])) none) (ctl (p.fst.iI .ret) (ctl ((po [(sj 4)] [.inl [.inl (.int .i64)]] p)) (some ([.p (xi p 0)],[.box [vi p 0 0]])) none) none)):=by kernel_rfl
theorem N5 (F a)(b d e:Int):Eq (lp E F 118 1 [AV.undef,.fn 135 [.ptr 0 0]] 0 ⟨[.sl 3 a,b,d],[.box [e]]⟩) (ctl (aT d b) (aG a d λc=>ctl (c3 c) (aj (F 135 [.agg [ci c 0,ci c 1,ci c 2],.t (.ptr 0 0)] [.box [e]]) λr=>ctl (cC [.one .bool] r.fst&&okB [.inl [.inl (.int .i64)]] r.snd) (ctl (rb r 0) (some (.ret,⟨[d],[.box [wi r 0 0]]⟩)) (lp E F 118 1 [AV.undef,.fn 135 [.ptr 0 0]] 0 ⟨[.sl 3 a,b,(wr (d+1))],[.box [wi r 0 0]]⟩)) none) none) (some (.exit 0,⟨[],[.box [e]]⟩))):=lu (by kernel_rfl)
theorem agz (F a)(b:Int):Eq (aI E F 118 [.sl 3 a,.fn 135 [.ptr 0 0]] [.box [b]]) (aj (lp E F 118 1 [AV.undef,.fn 135 [.ptr 0 0]] 0 ⟨[.sl 3 a,(ln a),n 0],[.box [b]]⟩) λp=>ctl (x 0 p) (ctl ((po [] [.inl [.inl (.int .i64)]] p)) (some ([.p (n (-1))],[.box [vi p 0 0]])) none) (ctl (p.fst.iI .ret) (ctl ((po [(sj 4)] [.inl [.inl (.int .i64)]] p)) (some ([.p (xi p 0)],[.box [vi p 0 0]])) none) none)):=by kernel_rfl
theorem akd (F)(a b d e:Int):Eq (aI E F 135 [.agg [a,b,d],.t (.ptr 0 0)] [.box [e]]) (aj (ctl (a==2) (some (d==e)) (some false)) λv=>some ([.p (.bool v)],[.box [e]])):=by kernel_rfl
theorem r43 (F b d e h i j k l m o)(a f g q:Int):Eq (aI E F 43 [G a b d e f g,W h i j k,.agg [.sl 1 l,.sl 1 m,.sl 1 o],q] []) (aj (F 85 [G a b d e f g,q] []) λr=>ctl (ki r) (aG b (ri r 0) λc=>ctl (c3 c) (aj (F 86 [W h i j k,n 1,q] []) λaV=>ctl (k0 [.one .bool] aV) (aj (ctl (!(rb aV 0)) (aj (F 86 [W h i j k,n 2,ri r 0] []) λr=>ctl (kb r) (some (rb r 0:Bool)) none) (some true)) λv=>aj (ctl (!v) (aj (F 86 [W h i j k,n 3,ci c 1] []) λr=>ctl (kb r) (some (rb r 0:Bool)) none) (some true)) λv=>aj (ctl (!v) (aj (F 81 [.sl 1 l,ci c 1] []) λr=>ctl (kb r) (some (rb r 0:Bool)) none) (some false)) λv=>aj (ctl v (aj (F 81 [.sl 1 m,q] []) λr=>ctl (kb r) (some !(rb r 0)) none) (some false)) λv=>aj (ctl v (aG i q λc=>ctl (c4 c) (some ((ci c 0:Int) !=3)) none) (some false)) λv=>some ([.p (.bool v)],[])) none) none) none):=by kernel_rfl
theorem N3 (F a f g h k l m o q s u)(b d e i j:Int):Eq (lp E F 14 0 [] 0 ⟨[.sl 1 a,b,d],[.box (bd e f g h i j []),.box (pw k l m o []),.box [.sl 1 q,.sl 1 s,.sl 1 u]]⟩) (ctl (aT d b) (aG a d λc=>ctl (c1 c) (aj (lp E F 14 0 [] 2 ⟨[ci c 0,.sl 1 a,b,d,.sl 4 l,(ln l),n 0],[.box (bd e f g h i j []),.box (pw k l m o []),.box [.sl 1 q,.sl 1 s,.sl 1 u]]⟩) λp=>ctl (x 2 p) (ctl ((po [(sp 3 0),(sp 4 1),(sp 8 2),(sl 23 1),(sj 24),(sj 25)] [.inl (bs []),.inl (ps []),.inl [.inl (.sl 1),.inl (.sl 1),.inl (.sl 1)]] p)) (lp E F 14 0 [] 0 ⟨[.sl 1 (xe p 0),xi p 1,(wr ((xi p 2:Int)+1))],[.box (kh p 0 []),.box (EP p 1 []),.box [.sl 1 (ve p 2 0),.sl 1 (ve p 2 1),.sl 1 (ve p 2 2)]]⟩) none) (ctl (p.fst.iI .ret) (ctl ((po [(sj 6),(7,.inl .bool)] [] p)) (some (.ret,⟨[xi p 0,.bool (xb p 1)],[]⟩)) none) none)) none) (some (.exit 0,⟨[],[]⟩))):=lu (by kernel_rfl)
theorem ab1 (F b f j k l q s u w y z A)(a d e g h i m o:Int):Eq (lp E F 14 0 [] 2 ⟨[a,.sl 1 b,d,e,.sl 4 f,g,h],[.box (bd i j k l m o []),.box (pw q s u w []),.box [.sl 1 y,.sl 1 z,.sl 1 A]]⟩) (ctl (aT h g) (aG f h λc=>ctl (c4 c) (aj (ctl ((ci c 0:Int)==a) (aj (F 43 [G i j k l m o,W q s u w,.agg [.sl 1 y,.sl 1 z,.sl 1 A],h] []) λr=>ctl (kb r) (some (rb r 0:Bool)) none) (some false)) λv=>ctl v (some (.ret,⟨[h,.bool true],[]⟩)) (lp E F 14 0 [] 2 ⟨[a,.sl 1 b,d,e,.sl 4 f,g,(wr (h+1))],[.box (bd i j k l m o []),.box (pw q s u w []),.box [.sl 1 y,.sl 1 z,.sl 1 A]]⟩)) none) (some (.exit 2,⟨[.sl 1 b,d,e],[.box (bd i j k l m o []),.box (pw q s u w []),.box [.sl 1 y,.sl 1 z,.sl 1 A]]⟩))):=lu (by kernel_rfl)
theorem r14 (F b d e h i j k)(a f g l:Int):Eq (aI E F 14 [G a b d e f g,W h i j k,l] []) (aj (F 42 [G a b d e f g,W h i j k,l] []) λr=>ctl (k0 [.agg [.sl 1,.sl 1,.sl 1],.one .bool] r) (ctl (!(rb r 1)) (some ([.p (n 0),.p (.bool false)],[])) (aj (lp E F 14 0 [] 0 ⟨[.sl 1 [[n 2],[n 1],[n 0]],n 3,n 0],[.box (bd a b d e f g []),.box (pw h i j k []),.box [.sl 1 (se r 0 0),.sl 1 (se r 0 1),.sl 1 (se r 0 2)]]⟩) λp=>ctl (x 0 p) (some ([.p (n 0),.p (.bool false)],[])) (ctl (p.fst.iI .ret) (ctl ((po [(sj 6),(7,.inl .bool)] [] p)) (some ([.p (xi p 0),.p (.bool (xb p 1))],[])) none) none))) none):=by kernel_rfl
theorem adN (F a e f g m o q s y)(b d h i j k l u w:Int):Eq (qp E F 158 0 [] 0 (a,[b]) ⟨[],[.box (bd d e f g h i []),.box [j,k,l],.box (pw m o q s []),.box [u],.box [w],.box [.bool y]]⟩ some) (aj (F 85 [G d e f g h i,b] []) λr=>ctl (ki r) (aj (F 86 [W m o q s,n 2,ri r 0] []) λr=>ctl (kb r) (ctl (rb r 0) (some (Ex.eF,⟨[],[.box (bd d e f g h i []),.box [j,k,l],.box (pw m o q s []),.box [u],.box [w],.box [.bool y]]⟩)) (aj (F 41 [G d e f g h i,W m o q s,u] []) λr=>ctl (ki r) (aG f b λc=>ctl (c3 c) (aj (F 40 [G d e f g h i,W m o q s,u] []) λaV=>ctl (k0 [.one (.int .i64)] aV) (ctl (bJ (IntKind.i64.wrap (100*(ri aV 0:Int))) (IntKind.i64.wrap (k*IntKind.i64.wrap ((ri r 0:Int)-(ci c 0:Int))))) (some (.ret,⟨[],[.box [b],.box [.bool true]]⟩)) (some (Ex.eF,⟨[],[.box (bd d e f g h i []),.box [j,k,l],.box (pw m o q s []),.box [u],.box [w],.box [.bool y]]⟩))) none) none) none)) none) none):=by kernel_rfl
theorem aj1 (F b d e k l m o)(a f g h i j q:Int):Eq (aI E F 158 [G a b d e f g,.agg [h,i,j],W k l m o,q] []) (aj (F 42 [G a b d e f g,W k l m o,q] []) λr=>ctl (k0 [.agg [.sl 1,.sl 1,.sl 1],.one .bool] r) (aj (F 39 [.agg [h,i,j]] []) λaV=>ctl (k0 [.one .bool] aV) (aj (ctl (!!(rb aV 0)) (some (aT (↑(se r 0 1:LE).length:Int) 2)) (some true)) λv=>ctl v (some ([.p (n 0),.p (.bool false)],[])) (ctl (iW (se r 0 1:LE).length 140737488351232&&Ju (se r 0 1:LE)) (aj (rg E F 158 0 [] 0 (nV 0 (se r 0 1:LE)).reverse ⟨[],[.box (bd a b d e f g []),.box [h,i,j],.box (pw k l m o []),.box [q],.box [n 0],.box [.bool false]]⟩) λp=>ctl (p.fst.iI Ex.eF) (ctl ((po [(sp 4 0),(sp 5 1),(sp 6 2),(sp 7 3),(sp 8 4),(sp 9 5)] [.inl (bs []),.inl [.inl (.int .i64),.inl (.int .i64),.inl (.int .i64)],.inl (ps []),.inl [.inl (.int .i64)],.inl [.inl (.int .i64)],.inl [.inl .bool]] p)) (some ([.p (n 0),.p (.bool false)],[])) none) (ctl (p.fst.iI .ret) (ctl ((po [(sp 8 0),(sp 9 1)] [.inl [.inl (.int .i64)],.inl [.inl .bool]] p)) (some ([.p (vi p 0 0),.p (.bool (vb p 1 0))],[])) none) none)) none)) none) none):=by kernel_rfl
theorem aj0 (F b)(a d:Int):Eq (aI E F 159 [a,.bool b,d] []) (ctl (!b) (some ([.p (n (-1))],[])) (ctl (a==-1) (some ([.p (.int .i64 d)],[])) (some ([.p (.int .i64 a)],[])))):=by kernel_rfl
theorem ajZ (F b d e h i j k)(a f g l m:Int):Eq (aI E F 160 [G a b d e f g,W h i j k,l,m] []) (aG i m λc=>ctl (c4 c) (ctl ((ci c 0:Int)==0) (some ([.own 3 [[n 3,m,n 0]],.p (.bool false)],[])) (ctl ((ci c 0:Int)==2) (aj (F 180 [G a b d e f g,W h i j k,l] []) λr=>ctl (k0 [.one (.int .i64),.one .bool] r) (aj (F 80 [G a b d e f g,W h i j k,ri r 0] []) λr=>ctl (k0 [.one (.int .i64),.one .bool] r) (aj (F 85 [G a b d e f g,m] []) λaV=>ctl (k0 [.one (.int .i64)] aV) (some ([.own 3 [[n 6,m,ri r 0],[n 1,ri aV 0,n 0]],.p (.bool true)],[])) none) none) none) (some ([.own 3 [],.p (.bool false)],[])))) none):=by kernel_rfl
theorem aj2 (F)(a b:Int):Eq (aI E F 157 [a,.t (.ptr 0 0)] [.box [b]]) (aj (ctl (bJ (-1) a) (some (bJ a b)) (some false)) λv=>some ([.p (.bool v)],[.box [b]])):=by kernel_rfl
theorem akj (F b d e k l m o)(a f g h i j q s u w:Int):Eq (aI E F 126 [G a b d e f g,.agg [h,i,j],W k l m o,q,s,.agg [u,w]] []) (aj (F 31 [G a b d e f g,W k l m o] []) λr=>ctl (ki r) (ctl ((ri r 0:Int) !=0) (some ([.agg [n 0,n 0],.own 3 [],.p (ri r 0)],[])) (aj (F 39 [.agg [h,i,j]] []) λr=>ctl (kb r) (aj (ctl (!!(rb r 0)) (some (aT s 0)) (some true)) λv=>aj (ctl (!v) (some (aT 2147483648 s)) (some true)) λv=>ctl (!v) (aj (F 157 [u,.t (.ptr 0 0)] [.box [s]]) λr=>ctl (cC [.one .bool] r.fst&&okB [.inl [.inl (.int .i64)]] r.snd) (ctl (!!(rb r 0)) (aj (F 157 [w,.t (.ptr 0 0)] [.box [wi r 0 0]]) λr=>ctl (cC [.one .bool] r.fst&&okB [.inl [.inl (.int .i64)]] r.snd) (ctl (!(rb r 0)) (some ([.agg [n 0,n 0],.own 3 [],.p (n 1)],[])) (aj (ctl (!aT q 0) (some (bJ a q)) (some true)) λv=>ctl v (some ([.agg [n 0,n 0],.own 3 [],.p (n 10)],[])) (aj (F 158 [G a b d e f g,.agg [h,i,j],W k l m o,q] []) λaV=>ctl (k0 [.one (.int .i64),.one .bool] aV) (aj (F 13 [G a b d e f g,.agg [h,i,j],W k l m o,q] []) λej=>ctl (k0 [.one .bool] ej) (aj (F 159 [u,.bool (rb ej 0),wi r 0 0] []) λia=>ctl (k0 [.one (.int .i64)] ia) (aj (F 159 [w,.bool (rb aV 1),wi r 0 0] []) λrY=>ctl (k0 [.one (.int .i64)] rY) (aj (F 14 [G a b d e f g,W k l m o,q] []) λvP=>ctl (k0 [.one (.int .i64),.one .bool] vP) (aj (ctl (rb vP 1) (some ((ri ia 0:Int) !=-1)) (some false)) λv=>aj (ctl v (some (bJ j (IntKind.i64.wrap ((wi r 0 0:Int)-(ri ia 0:Int))))) (some false)) λv=>ctl v (aj (F 160 [G a b d e f g,W k l m o,q,ri vP 0] []) λr=>ctl (k0 [.own 3,.one .bool] r) (ctl (rb r 1) (some ([.agg [n (-1),ri rY 0],.own 3 (nth (.p .aM) r.fst 0).di,.p (n 0)],[])) (some ([.agg [ri ia 0,ri rY 0],.own 3 (nth (.p .aM) r.fst 0).di,.p (n 0)],[]))) none) (aj (ctl ((ri rY 0:Int) !=-1) (some (bJ j (IntKind.i64.wrap ((wi r 0 0:Int)-(ri rY 0:Int))))) (some false)) λv=>ctl v (aj (F 85 [G a b d e f g,ri aV 0] []) λr=>ctl (ki r) (some ([.agg [ri ia 0,n (-1)],.own 3 [[n 2,ri r 0,n 0],[n 4,ri aV 0,n 0]],.p (n 0)],[])) none) (some ([.agg [ri ia 0,ri rY 0],.own 3 [],.p (n 0)],[])))) none) none) none) none) none))) none) (some ([.agg [n 0,n 0],.own 3 [],.p (n 1)],[]))) none) (some ([.agg [n 0,n 0],.own 3 [],.p (n 1)],[]))) none)) none):=by kernel_rfl
theorem ajy (F a b):Eq (aI E F 94 [.sl 2 (a::b)] []) (ctl (iW ((0+(a::b).length)*16) 140737488355328) (some ([.own 2 ([]++a::b)],[])) none):=by kernel_rfl
theorem ajC (F a b):Eq (aI E F 73 [.sl 5 (a::b)] []) (ctl (iW ((0+(a::b).length)*40) 140737488355328) (some ([.own 5 ([]++a::b)],[])) none):=by kernel_rfl
theorem agE (F a b):Eq (aI E F 102 [.sl 1 (a::b)] []) (ctl (iW ((0+(a::b).length)*8) 140737488355328) (some ([.own 1 ([]++a::b)],[])) none):=by kernel_rfl
theorem agw (F a d e f)(b g h:Int):Eq (aI E F 144 [(t 0),.fn 145 [.ptr 1 0]] [a1 a,.box (bd b d e f g h [])]) (aj (F 175 [(t 0),(ln a),.fn 145 [.ptr 1 0]] [a1 a,.box (bd b d e f g h [])]) λr=>ctl (cC [] r.fst&&okB [.inr 1,.inl (bs [])] r.snd) (some ([],[a1 (he r 0),.box (rM r 1 [])])) none):=by kernel_rfl
theorem aj_ (F e f g)(a b d h i:Int):Eq (aI E F 145 [a,b,.t (.ptr 0 0)] [.box (bd d e f g h i [])]) (aG g a λc=>ctl (bL [.int .i64,.int .i64,.int .i64,.int .i64,.sl 1] c) (aG g b λdP=>ctl (bL [.int .i64,.int .i64,.int .i64,.int .i64,.sl 1] dP) (aj (F 131 [ci c 2,ci dP 2] []) λr=>ctl (ki r) (some ([.p (ri r 0)],[.box (bd d e f g h i [])])) none) none) none):=by kernel_rfl
theorem YD (F f h i j)(a b d e g k l:Int):Eq (lp E F 175 2 [AV.undef,AV.undef,.fn 145 [.ptr 1 0]] 0 ⟨[a,b,d,e],[a1 f,.box (bd g h i j k l [])]⟩) (ctl (bJ e a) (aj (F 188 [(t 0),d,e,.fn 145 [.ptr 1 0]] [a1 f,.box (bd g h i j k l [])]) λr=>ctl (cC [] r.fst&&okB [.inr 1,.inl (bs [])] r.snd) (lp E F 175 2 [AV.undef,AV.undef,.fn 145 [.ptr 1 0]] 0 ⟨[a,b,e,(wr (e+b))],[a1 (he r 0),.box (rM r 1 [])]⟩) none) (some (.exit 0,⟨[a,b,d],[a1 f,.box (bd g h i j k l [])]⟩))):=lu (by kernel_rfl)
theorem YC (F d f g h)(a b e i j:Int):Eq (lp E F 175 2 [AV.undef,AV.undef,.fn 145 [.ptr 1 0]] 2 ⟨[a,b],[a1 d,.box (bd e f g h i j [])]⟩) (ctl (aT b a) (aj (lp E F 175 2 [AV.undef,AV.undef,.fn 145 [.ptr 1 0]] 4 ⟨[a,b,n 0,(wr (2*b))],[a1 d,.box (bd e f g h i j [])]⟩) λp=>ctl (x 4 p) (ctl ((po [(sh 0 0),(sj 1),(2,.inr (.inr (.fn 145 [.ptr 1 0]))),(sj 6),(sj 7)] [.inr 1,.inl (bs [])] p)) (ctl (aT (IntKind.i64.wrap ((xi p 2:Int)+(xi p 1:Int))) (xi p 0:Int)) (aj (F 189 [(t 0),xi p 2,(wr ((xi p 2:Int)+(xi p 1:Int))),xi p 0,.fn 145 [.ptr 1 0]] [a1 (ae p 0),.box (kh p 1 [])]) λr=>ctl (cC [] r.fst&&okB [.inr 1,.inl (bs [])] r.snd) (lp E F 175 2 [AV.undef,AV.undef,.fn 145 [.ptr 1 0]] 2 ⟨[xi p 0,(wr ((xi p 1:Int)*2))],[a1 (he r 0),.box (rM r 1 [])]⟩) none) (lp E F 175 2 [AV.undef,AV.undef,.fn 145 [.ptr 1 0]] 2 ⟨[xi p 0,(wr ((xi p 1:Int)*2))],[a1 (ae p 0),.box (kh p 1 [])]⟩)) none) none) (some (.exit 2,⟨[],[a1 d,.box (bd e f g h i j [])]⟩))):=lu (by kernel_rfl)
theorem agu (F b e f g)(a d h i:Int):Eq (aI E F 175 [(t 0),a,.fn 145 [.ptr 1 0]] [a1 b,.box (bd d e f g h i [])]) (aj (lp E F 175 2 [AV.undef,AV.undef,.fn 145 [.ptr 1 0]] 0 ⟨[a,n 20,n 0,n 20],[a1 b,.box (bd d e f g h i [])]⟩) λp=>ctl (x 0 p) (ctl ((po [(sh 0 0),(sj 1),(2,.inr (.inr (.fn 145 [.ptr 1 0]))),(sj 6),(sj 7)] [.inr 1,.inl (bs [])] p)) (aj (F 188 [(t 0),xi p 2,xi p 0,.fn 145 [.ptr 1 0]] [a1 (ae p 0),.box (kh p 1 [])]) λr=>ctl (cC [] r.fst&&okB [.inr 1,.inl (bs [])] r.snd) (aj (lp E F 175 2 [AV.undef,AV.undef,.fn 145 [.ptr 1 0]] 2 ⟨[xi p 0,xi p 1],[a1 (he r 0),.box (rM r 1 [])]⟩) λp=>ctl (x 2 p) (ctl ((po [] [.inr 1,.inl (bs [])] p)) (some ([],[a1 (ae p 0),.box (kh p 1 [])])) none) none) none) none) none):=by kernel_rfl
theorem GY (F e g h i)(a b d f j k:Int):Eq (lp E F 188 2 [AV.undef,AV.undef,AV.undef,.fn 145 [.ptr 1 0]] 0 ⟨[a,b,d],[a1 e,.box (bd f g h i j k [])]⟩) (ctl (aT d b) (aj (lp E F 188 2 [AV.undef,AV.undef,AV.undef,.fn 145 [.ptr 1 0]] 2 ⟨[a,b,d,d],[a1 e,.box (bd f g h i j k [])]⟩) λp=>ctl (x 2 p) (ctl ((po [(sh 0 0),(sj 1),(sj 2),(3,.inr (.inr (.fn 145 [.ptr 1 0]))),(sj 8)] [.inr 1,.inl (bs [])] p)) (lp E F 188 2 [AV.undef,AV.undef,AV.undef,.fn 145 [.ptr 1 0]] 0 ⟨[xi p 0,xi p 1,(wr ((xi p 2:Int)+1))],[a1 (ae p 0),.box (kh p 1 [])]⟩) none) none) (some (.exit 0,⟨[],[a1 e,.box (bd f g h i j k [])]⟩))):=lu (by kernel_rfl)
theorem N1 (F f h i j)(a b d e g k l:Int):Eq (lp E F 188 2 [AV.undef,AV.undef,AV.undef,.fn 145 [.ptr 1 0]] 2 ⟨[a,b,d,e],[a1 f,.box (bd g h i j k l [])]⟩) (ctl (aT a e) (ctl (bJ 0 e&&aT e (↑f.length:Int)) (ctl (bL [.int .i64] (List.take 1 (List.drop 0 (nth [] f e.toNat)))) (ctl (bJ 0 (IntKind.i64.wrap (e-1))&&aT (IntKind.i64.wrap (e-1)) (↑f.length:Int)) (ctl (bL [.int .i64] (List.take 1 (List.drop 0 (nth [] f (IntKind.i64.wrap (e-1)).toNat)))) (aj (F 145 [.int .i64 (nth .aM (nth [] f e.toNat) 0).toInt,.int .i64 (nth .aM (nth [] f (IntKind.i64.wrap (e-1)).toNat) 0).toInt,.t (.ptr 0 0)] [.box (bd g h i j k l [])]) λr=>ctl (cC [.one (.int .i64)] r.fst&&okB [.inl (bs [])] r.snd) (ctl (aT (ri r 0) 0) (ctl (bJ 0 (IntKind.i64.wrap (e-1))&&aT (IntKind.i64.wrap (e-1)) (↑f.length:Int)) (ctl (bL [.int .i64] (List.take 1 (List.drop 0 (nth [] f (IntKind.i64.wrap (e-1)).toNat)))) (ctl (bJ 0 e&&aT e (↑f.length:Int)) (ctl (bL [.int .i64] (List.take 1 (List.drop 0 (nth [] f e.toNat)))) (ctl (bJ 0 e&&aT e (↑f.length:Int)) (ctl (bJ 0 (IntKind.i64.wrap (e-1))&&aT (IntKind.i64.wrap (e-1)) (↑(bg f e.toNat 0 [.int .i64 (nth .aM (nth [] f (IntKind.i64.wrap (e-1)).toNat) 0).toInt]).length:Int)) (lp E F 188 2 [AV.undef,AV.undef,AV.undef,.fn 145 [.ptr 1 0]] 2 ⟨[a,b,d,(wr (e-1))],[a1 (bg (bg f e.toNat 0 [.int .i64 (nth .aM (nth [] f (IntKind.i64.wrap (e-1)).toNat) 0).toInt]) (IntKind.i64.wrap (e-1)).toNat 0 [.int .i64 (nth .aM (nth [] f e.toNat) 0).toInt]),.box (rM r 0 [])]⟩) none) none) none) none) none) none) (some (.exit 2,⟨[a,b,d],[a1 f,.box (rM r 0 [])]⟩))) none) none) none) none) none) (some (.exit 2,⟨[a,b,d],[a1 f,.box (bd g h i j k l [])]⟩))):=lu (by kernel_rfl)
theorem ab0 (F d f g h)(a b e i j:Int):Eq (aI E F 188 [(t 0),a,b,.fn 145 [.ptr 1 0]] [a1 d,.box (bd e f g h i j [])]) (aj (lp E F 188 2 [AV.undef,AV.undef,AV.undef,.fn 145 [.ptr 1 0]] 0 ⟨[a,b,(wr (a+1))],[a1 d,.box (bd e f g h i j [])]⟩) λp=>ctl (x 0 p) (ctl ((po [] [.inr 1,.inl (bs [])] p)) (some ([],[a1 (ae p 0),.box (kh p 1 [])])) none) none):=by kernel_rfl
theorem Tp (F e f g j)(a b d h i:Int):Eq (lp E F 100 0 [] 0 ⟨[a,b],[.box (bd d e f g h i []),a1 j]⟩) (ctl (aT b a) (ctl (iW ((j.length+1)*8) 140737488355328) (lp E F 100 0 [] 0 ⟨[a,(wr (b+1))],[.box (bd d e f g h i []),a1 (j++([[b]]:LE))]⟩) none) (some (.exit 0,⟨[],[.box (bd d e f g h i []),a1 j]⟩))):=lu (by kernel_rfl)
theorem aky (F b d e)(a f g:Int):Eq (aI E F 100 [G a b d e f g] []) (aj (F 47 [G a b d e f g] []) λr=>ctl (ki r) (ctl ((ri r 0:Int) !=0) (some ([.p (.sl 1 [])],[])) (aj (lp E F 100 0 [] 0 ⟨[(ln e),n 0],[.box (bd a b d e f g []),a1 []]⟩) λp=>ctl (x 0 p) (ctl ((po [(sp 1 0),(sh 3 1)] [.inl (bs []),.inr 1] p)) (aj (F 144 [(t 0),.fn 145 [.ptr 1 0]] [a1 (ae p 1),.box (kh p 0 [])]) λr=>ctl (cC [] r.fst&&okB [.inr 1,.inl (bs [])] r.snd) (some ([.p (.sl 1 (he r 0))],[])) none) none) none)) none):=by kernel_rfl
theorem SK (F a f g h k l m o q s)(b d e i j:Int):Eq (lp E F 96 1 [AV.undef,AV.iG 97 0 0] 0 ⟨[.sl 3 a,b,d],[.box (bd e f g h i j (h4 1 2 3 4 [(t 5)])),a1 k,a4 l,a1 m,a2 o,a3 q,a1 s]⟩) (ctl (aT d b) (aG a d λc=>ctl (c3 c) (ctl (bJ 0 d&&aT d (↑k.length:Int)) (ctl (bL [.bool] (List.take 1 (List.drop 0 (nth [] k d.toNat)))) (ctl (nth .aM (nth [] k d.toNat) 0).toBool (aj (F 97 [.t (.ptr 0 0),.agg [ci c 0,ci c 1,ci c 2]] [.box (bd e f g h i j (h4 1 2 3 4 [(t 5)])),a1 k,a4 l,a1 m,a2 o,a3 q]) λr=>ctl (cC [.one .bool] r.fst&&okB [.inl (bs (g4 1 2 3 4 [.inr (.t (.ak 5))])),.inr 1,.inr 4,.inr 1,.inr 2,.inr 3] r.snd) (ctl (rb r 0) (ctl (iW ((s.length+1)*8) 140737488355328) (lp E F 96 1 [AV.undef,AV.iG 97 0 0] 0 ⟨[.sl 3 a,b,(wr (d+1))],[.box (rM r 0 (h4 1 2 3 4 [(t 5)])),a1 (he r 1),a4 (he r 2),a1 (he r 3),a2 (he r 4),a3 (he r 5),a1 (s++([[d]]:LE))]⟩) none) (lp E F 96 1 [AV.undef,AV.iG 97 0 0] 0 ⟨[.sl 3 a,b,(wr (d+1))],[.box (rM r 0 (h4 1 2 3 4 [(t 5)])),a1 (he r 1),a4 (he r 2),a1 (he r 3),a2 (he r 4),a3 (he r 5),a1 s]⟩)) none) (lp E F 96 1 [AV.undef,AV.iG 97 0 0] 0 ⟨[.sl 3 a,b,(wr (d+1))],[.box (bd e f g h i j (h4 1 2 3 4 [(t 5)])),a1 k,a4 l,a1 m,a2 o,a3 q,a1 s]⟩)) none) none) none) (some (.exit 0,⟨[],[.box (bd e f g h i j (h4 1 2 3 4 [(t 5)])),a1 k,a4 l,a1 m,a2 o,a3 q,a1 s]⟩))):=lu (by kernel_rfl)
theorem SH (F a f g h k l m o q)(b d e i j:Int):Eq (lp E F 96 1 [AV.undef,AV.iG 97 0 0] 2 ⟨[.sl 1 a,b,d],[.box (bd e f g h i j (h4 1 2 3 4 [(t 5)])),a1 k,a4 l,a1 m,a2 o,a3 q]⟩) (ctl (aT d b) (aG a d λc=>ctl (c1 c) (aj (F 141 [.t (.ptr 0 0),ci c 0] [.box (bd e f g h i j (h4 1 2 3 4 [(t 5)])),a1 k,a4 l,a1 m,a2 o,a3 q]) λr=>ctl (cC [] r.fst&&okB [.inl (bs (g4 1 2 3 4 [.inr (.t (.ak 5))])),.inr 1,.inr 4,.inr 1,.inr 2,.inr 3] r.snd) (lp E F 96 1 [AV.undef,AV.iG 97 0 0] 2 ⟨[.sl 1 a,b,(wr (d+1))],[.box (rM r 0 (h4 1 2 3 4 [(t 5)])),a1 (he r 1),a4 (he r 2),a1 (he r 3),a2 (he r 4),a3 (he r 5)]⟩) none) none) (some (.exit 2,⟨[],[.box (bd e f g h i j (h4 1 2 3 4 [(t 5)])),a1 k,a4 l,a1 m,a2 o,a3 q]⟩))):=lu (by kernel_rfl)
theorem ajx (F b d e h i j k l)(a f g:Int):Eq (aI E F 96 [.t (.ptr 0 0),AV.iG 97 0 0] [.box (bd a b d e f g (h4 1 2 3 4 [(t 5)])),a1 h,a4 i,a1 j,a2 k,a3 l]) (aj (lp E F 96 1 [AV.undef,AV.iG 97 0 0] 0 ⟨[.sl 3 b,(ln b),n 0],[.box (bd a b d e f g (h4 1 2 3 4 [(t 5)])),a1 h,a4 i,a1 j,a2 k,a3 l,a1 []]⟩) λp=>ctl (x 0 p) (ctl ((po [(sp 0 0),(sh 4 6)] [.inl (bs (g4 1 2 3 4 [.inr (.t (.ak 5))])),.inr 1,.inr 4,.inr 1,.inr 2,.inr 3,.inr 1] p)) (aj (lp E F 96 1 [AV.undef,AV.iG 97 0 0] 2 ⟨[.sl 1 (ae p 6),n (↑(ae p 6:LE).length:Int),n 0],[.box (kh p 0 (h4 1 2 3 4 [(t 5)])),a1 (ae p 1),a4 (ae p 2),a1 (ae p 3),a2 (ae p 4),a3 (ae p 5)]⟩) λp=>ctl (x 2 p) (ctl ((po [] [.inl (bs (g4 1 2 3 4 [.inr (.t (.ak 5))])),.inr 1,.inr 4,.inr 1,.inr 2,.inr 3] p)) (some ([],[.box (kh p 0 (h4 1 2 3 4 [(t 5)])),a1 (ae p 1),a4 (ae p 2),a1 (ae p 3),a2 (ae p 4),a3 (ae p 5)])) none) none) none) none):=by kernel_rfl
theorem SJ (F a f g h k l m o q s)(b d e i j:Int):Eq (lp E F 96 2 [AV.undef,.fn 98 [.ptr 1 0]] 0 ⟨[.sl 3 a,b,d],[.box (bd e f g h i j (h4 2 3 4 5 [(t 6)])),.box [.t (.ptr 0 0)],a1 k,a4 l,a1 m,a2 o,a3 q,a1 s]⟩) (ctl (aT d b) (aG a d λc=>ctl (c3 c) (ctl (bJ 0 d&&aT d (↑k.length:Int)) (ctl (bL [.bool] (List.take 1 (List.drop 0 (nth [] k d.toNat)))) (ctl (nth .aM (nth [] k d.toNat) 0).toBool (aj (F 98 [.agg [ci c 0,ci c 1,ci c 2],.t (.ptr 0 0)] [.box [.t (.ptr 1 0)],.box (bd e f g h i j (h4 2 3 4 5 [(t 6)])),a1 k,a4 l,a1 m,a2 o,a3 q]) λr=>ctl (cC [.one .bool] r.fst&&okB [.inl [.inr (.t (.ptr 1 0))],.inl (bs (g4 2 3 4 5 [.inr (.t (.ak 6))])),.inr 1,.inr 4,.inr 1,.inr 2,.inr 3] r.snd) (ctl (rb r 0) (ctl (iW ((s.length+1)*8) 140737488355328) (lp E F 96 2 [AV.undef,.fn 98 [.ptr 1 0]] 0 ⟨[.sl 3 a,b,(wr (d+1))],[.box (rM r 1 (h4 2 3 4 5 [(t 6)])),.box [.t (.ptr 0 0)],a1 (he r 2),a4 (he r 3),a1 (he r 4),a2 (he r 5),a3 (he r 6),a1 (s++([[d]]:LE))]⟩) none) (lp E F 96 2 [AV.undef,.fn 98 [.ptr 1 0]] 0 ⟨[.sl 3 a,b,(wr (d+1))],[.box (rM r 1 (h4 2 3 4 5 [(t 6)])),.box [.t (.ptr 0 0)],a1 (he r 2),a4 (he r 3),a1 (he r 4),a2 (he r 5),a3 (he r 6),a1 s]⟩)) none) (lp E F 96 2 [AV.undef,.fn 98 [.ptr 1 0]] 0 ⟨[.sl 3 a,b,(wr (d+1))],[.box (bd e f g h i j (h4 2 3 4 5 [(t 6)])),.box [.t (.ptr 0 0)],a1 k,a4 l,a1 m,a2 o,a3 q,a1 s]⟩)) none) none) none) (some (.exit 0,⟨[],[.box (bd e f g h i j (h4 2 3 4 5 [(t 6)])),.box [.t (.ptr 0 0)],a1 k,a4 l,a1 m,a2 o,a3 q,a1 s]⟩))):=lu (by kernel_rfl)
theorem SG (F a f g h k l m o q)(b d e i j:Int):Eq (lp E F 96 2 [AV.undef,.fn 98 [.ptr 1 0]] 2 ⟨[.sl 1 a,b,d],[.box (bd e f g h i j (h4 2 3 4 5 [(t 6)])),.box [.t (.ptr 0 0)],a1 k,a4 l,a1 m,a2 o,a3 q]⟩) (ctl (aT d b) (aG a d λc=>ctl (c1 c) (aj (F 141 [.t (.ptr 0 0),ci c 0] [.box (bd e f g h i j (h4 1 2 3 4 [(t 5)])),a1 k,a4 l,a1 m,a2 o,a3 q]) λr=>ctl (cC [] r.fst&&okB [.inl (bs (g4 1 2 3 4 [.inr (.t (.ak 5))])),.inr 1,.inr 4,.inr 1,.inr 2,.inr 3] r.snd) (lp E F 96 2 [AV.undef,.fn 98 [.ptr 1 0]] 2 ⟨[.sl 1 a,b,(wr (d+1))],[.box (rM r 0 (h4 2 3 4 5 [(t 6)])),.box [.t (.ptr 0 0)],a1 (he r 1),a4 (he r 2),a1 (he r 3),a2 (he r 4),a3 (he r 5)]⟩) none) none) (some (.exit 2,⟨[],[.box (bd e f g h i j (h4 2 3 4 5 [(t 6)])),.box [.t (.ptr 0 0)],a1 k,a4 l,a1 m,a2 o,a3 q]⟩))):=lu (by kernel_rfl)
theorem ajw (F b d e h i j k l)(a f g:Int):Eq (aI E F 96 [.t (.ptr 0 0),.fn 98 [.ptr 1 0]] [.box (bd a b d e f g (h4 2 3 4 5 [(t 6)])),.box [.t (.ptr 0 0)],a1 h,a4 i,a1 j,a2 k,a3 l]) (aj (lp E F 96 2 [AV.undef,.fn 98 [.ptr 1 0]] 0 ⟨[.sl 3 b,(ln b),n 0],[.box (bd a b d e f g (h4 2 3 4 5 [(t 6)])),.box [.t (.ptr 0 0)],a1 h,a4 i,a1 j,a2 k,a3 l,a1 []]⟩) λp=>ctl (x 0 p) (ctl ((po [(sp 0 0),(sh 4 7)] [.inl (bs (g4 2 3 4 5 [.inr (.t (.ak 6))])),.inl [.inr (.t (.ptr 0 0))],.inr 1,.inr 4,.inr 1,.inr 2,.inr 3,.inr 1] p)) (aj (lp E F 96 2 [AV.undef,.fn 98 [.ptr 1 0]] 2 ⟨[.sl 1 (ae p 7),n (↑(ae p 7:LE).length:Int),n 0],[.box (kh p 0 (h4 2 3 4 5 [(t 6)])),.box [.t (.ptr 0 0)],a1 (ae p 2),a4 (ae p 3),a1 (ae p 4),a2 (ae p 5),a3 (ae p 6)]⟩) λp=>ctl (x 2 p) (ctl ((po [] [.inl (bs (g4 2 3 4 5 [.inr (.t (.ak 6))])),.inl [.inr (.t (.ptr 0 0))],.inr 1,.inr 4,.inr 1,.inr 2,.inr 3] p)) (some ([],[.box (kh p 0 (h4 2 3 4 5 [(t 6)])),.box [.t (.ptr 0 0)],a1 (ae p 2),a4 (ae p 3),a1 (ae p 4),a2 (ae p 5),a3 (ae p 6)])) none) none) none) none):=by kernel_rfl
theorem SI (F a f g h l m o q s u)(b d e i j k:Int):Eq (lp E F 96 2 [AV.undef,.fn 148 [.ptr 1 0]] 0 ⟨[.sl 3 a,b,d],[.box (bd e f g h i j (h4 2 3 4 5 [(t 6)])),.box [k],a1 l,a4 m,a1 o,a2 q,a3 s,a1 u]⟩) (ctl (aT d b) (aG a d λc=>ctl (c3 c) (ctl (bJ 0 d&&aT d (↑l.length:Int)) (ctl (bL [.bool] (List.take 1 (List.drop 0 (nth [] l d.toNat)))) (ctl (nth .aM (nth [] l d.toNat) 0).toBool (aj (F 148 [.agg [ci c 0,ci c 1,ci c 2],.t (.ptr 0 0)] [.box [k]]) λr=>ctl (cC [.one .bool] r.fst&&okB [.inl [.inl (.int .i64)]] r.snd) (ctl (rb r 0) (ctl (iW ((u.length+1)*8) 140737488355328) (lp E F 96 2 [AV.undef,.fn 148 [.ptr 1 0]] 0 ⟨[.sl 3 a,b,(wr (d+1))],[.box (bd e f g h i j (h4 2 3 4 5 [(t 6)])),.box [wi r 0 0],a1 l,a4 m,a1 o,a2 q,a3 s,a1 (u++([[d]]:LE))]⟩) none) (lp E F 96 2 [AV.undef,.fn 148 [.ptr 1 0]] 0 ⟨[.sl 3 a,b,(wr (d+1))],[.box (bd e f g h i j (h4 2 3 4 5 [(t 6)])),.box [wi r 0 0],a1 l,a4 m,a1 o,a2 q,a3 s,a1 u]⟩)) none) (lp E F 96 2 [AV.undef,.fn 148 [.ptr 1 0]] 0 ⟨[.sl 3 a,b,(wr (d+1))],[.box (bd e f g h i j (h4 2 3 4 5 [(t 6)])),.box [k],a1 l,a4 m,a1 o,a2 q,a3 s,a1 u]⟩)) none) none) none) (some (.exit 0,⟨[],[.box (bd e f g h i j (h4 2 3 4 5 [(t 6)])),.box [k],a1 l,a4 m,a1 o,a2 q,a3 s,a1 u]⟩))):=lu (by kernel_rfl)
theorem SF (F a f g h l m o q s)(b d e i j k:Int):Eq (lp E F 96 2 [AV.undef,.fn 148 [.ptr 1 0]] 2 ⟨[.sl 1 a,b,d],[.box (bd e f g h i j (h4 2 3 4 5 [(t 6)])),.box [k],a1 l,a4 m,a1 o,a2 q,a3 s]⟩) (ctl (aT d b) (aG a d λc=>ctl (c1 c) (aj (F 141 [.t (.ptr 0 0),ci c 0] [.box (bd e f g h i j (h4 1 2 3 4 [(t 5)])),a1 l,a4 m,a1 o,a2 q,a3 s]) λr=>ctl (cC [] r.fst&&okB [.inl (bs (g4 1 2 3 4 [.inr (.t (.ak 5))])),.inr 1,.inr 4,.inr 1,.inr 2,.inr 3] r.snd) (lp E F 96 2 [AV.undef,.fn 148 [.ptr 1 0]] 2 ⟨[.sl 1 a,b,(wr (d+1))],[.box (rM r 0 (h4 2 3 4 5 [(t 6)])),.box [k],a1 (he r 1),a4 (he r 2),a1 (he r 3),a2 (he r 4),a3 (he r 5)]⟩) none) none) (some (.exit 2,⟨[],[.box (bd e f g h i j (h4 2 3 4 5 [(t 6)])),.box [k],a1 l,a4 m,a1 o,a2 q,a3 s]⟩))):=lu (by kernel_rfl)
theorem ajv (F b d e i j k l m)(a f g h:Int):Eq (aI E F 96 [.t (.ptr 0 0),.fn 148 [.ptr 1 0]] [.box (bd a b d e f g (h4 2 3 4 5 [(t 6)])),.box [h],a1 i,a4 j,a1 k,a2 l,a3 m]) (aj (lp E F 96 2 [AV.undef,.fn 148 [.ptr 1 0]] 0 ⟨[.sl 3 b,(ln b),n 0],[.box (bd a b d e f g (h4 2 3 4 5 [(t 6)])),.box [h],a1 i,a4 j,a1 k,a2 l,a3 m,a1 []]⟩) λp=>ctl (x 0 p) (ctl ((po [(sp 0 0),(sh 4 7)] [.inl (bs (g4 2 3 4 5 [.inr (.t (.ak 6))])),.inl [.inl (.int .i64)],.inr 1,.inr 4,.inr 1,.inr 2,.inr 3,.inr 1] p)) (aj (lp E F 96 2 [AV.undef,.fn 148 [.ptr 1 0]] 2 ⟨[.sl 1 (ae p 7),n (↑(ae p 7:LE).length:Int),n 0],[.box (kh p 0 (h4 2 3 4 5 [(t 6)])),.box [vi p 1 0],a1 (ae p 2),a4 (ae p 3),a1 (ae p 4),a2 (ae p 5),a3 (ae p 6)]⟩) λp=>ctl (x 2 p) (ctl ((po [] [.inl (bs (g4 2 3 4 5 [.inr (.t (.ak 6))])),.inl [.inl (.int .i64)],.inr 1,.inr 4,.inr 1,.inr 2,.inr 3] p)) (some ([],[.box (kh p 0 (h4 2 3 4 5 [(t 6)])),.box [vi p 1 0],a1 (ae p 2),a4 (ae p 3),a1 (ae p 4),a2 (ae p 5),a3 (ae p 6)])) none) none) none) none):=by kernel_rfl
theorem r97 (F f g h k l m o q)(a b d e i j:Int):Eq (aI E F 97 [.t (.ptr 0 0),.agg [a,b,d]] [.box (bd e f g h i j (h4 1 2 3 4 [(t 5)])),a1 k,a4 l,a1 m,a2 o,a3 q]) (aj (F 142 [n 3,b,.t (.ptr 0 0)] [.box [.t (.ptr 1 0)],.box (bd e f g h i j (h4 2 3 4 5 [(t 6)])),a1 k,a4 l,a1 m,a2 o,a3 q]) λr=>ctl (cC [.one .bool] r.fst&&okB [.inl [.inr (.t (.ptr 1 0))],.inl (bs (g4 2 3 4 5 [.inr (.t (.ak 6))])),.inr 1,.inr 4,.inr 1,.inr 2,.inr 3] r.snd) (ctl (rb r 0) (some ([.p (.bool true)],[.box (rM r 1 (h4 1 2 3 4 [(t 5)])),a1 (he r 2),a4 (he r 3),a1 (he r 4),a2 (he r 5),a3 (he r 6)])) (ctl (a==1) (aj (F 142 [n 3,d,.t (.ptr 0 0)] [.box [.t (.ptr 1 0)],.box (rM r 1 (h4 2 3 4 5 [(t 6)])),a1 (he r 2),a4 (he r 3),a1 (he r 4),a2 (he r 5),a3 (he r 6)]) λr=>ctl (cC [.one .bool] r.fst&&okB [.inl [.inr (.t (.ptr 1 0))],.inl (bs (g4 2 3 4 5 [.inr (.t (.ak 6))])),.inr 1,.inr 4,.inr 1,.inr 2,.inr 3] r.snd) (some ([.p (.bool (rb r 0))],[.box (rM r 1 (h4 1 2 3 4 [(t 5)])),a1 (he r 2),a4 (he r 3),a1 (he r 4),a2 (he r 5),a3 (he r 6)])) none) (ctl (a==2) (aj (F 142 [n 1,d,.t (.ptr 0 0)] [.box [.t (.ptr 1 0)],.box (rM r 1 (h4 2 3 4 5 [(t 6)])),a1 (he r 2),a4 (he r 3),a1 (he r 4),a2 (he r 5),a3 (he r 6)]) λr=>ctl (cC [.one .bool] r.fst&&okB [.inl [.inr (.t (.ptr 1 0))],.inl (bs (g4 2 3 4 5 [.inr (.t (.ak 6))])),.inr 1,.inr 4,.inr 1,.inr 2,.inr 3] r.snd) (aj (ctl (!(rb r 0)) (ctl (bJ 0 d&&aT d (↑(he r 3:LE).length:Int)) (ctl (bL [.int .i64] (List.take 1 (List.drop 0 (nth [] (he r 3:LE) d.toNat)))) (some ((nth .aM (nth [] (he r 3:LE) d.toNat) 0).toInt !=2)) none) none) (some true)) λv=>some ([.p (.bool v)],[.box (rM r 1 (h4 1 2 3 4 [(t 5)])),a1 (he r 2),a4 (he r 3),a1 (he r 4),a2 (he r 5),a3 (he r 6)])) none) (aj (F 142 [n 4,d,.t (.ptr 0 0)] [.box [.t (.ptr 1 0)],.box (rM r 1 (h4 2 3 4 5 [(t 6)])),a1 (he r 2),a4 (he r 3),a1 (he r 4),a2 (he r 5),a3 (he r 6)]) λr=>ctl (cC [.one .bool] r.fst&&okB [.inl [.inr (.t (.ptr 1 0))],.inl (bs (g4 2 3 4 5 [.inr (.t (.ak 6))])),.inr 1,.inr 4,.inr 1,.inr 2,.inr 3] r.snd) (some ([.p (.bool (rb r 0))],[.box (rM r 1 (h4 1 2 3 4 [(t 5)])),a1 (he r 2),a4 (he r 3),a1 (he r 4),a2 (he r 5),a3 (he r 6)])) none)))) none):=by kernel_rfl
theorem aka (F e f g j k l m o)(a b d h i:Int):Eq (aI E F 142 [a,b,.t (.ptr 0 0)] [.box [.t (.ptr 1 0)],.box (bd d e f g h i (h4 2 3 4 5 [(t 6)])),a1 j,a4 k,a1 l,a2 m,a3 o]) (aj (F 86 [W j k l m,a,b] []) λr=>ctl (cC [.one .bool] r.fst&&okB [] r.snd&&(bM r.fst&&cr r.snd)) (some ([.p (.bool (rb r 0))],[.box [.t (.ptr 1 0)],.box (bd d e f g h i (h4 2 3 4 5 [(t 6)])),a1 j,a4 k,a1 l,a2 m,a3 o])) none):=by kernel_rfl
theorem r98 (F f g h k l m o q)(a b d e i j:Int):Eq (aI E F 98 [.agg [a,b,d],.t (.ptr 0 0)] [.box [.t (.ptr 1 0)],.box (bd e f g h i j (h4 2 3 4 5 [(t 6)])),a1 k,a4 l,a1 m,a2 o,a3 q]) (aj (ctl (a==3) (aj (F 24 [G e f g h i j,W k l m o,b] []) λr=>ctl (cC [.one .bool] r.fst&&okB [] r.snd&&(bM r.fst&&cr r.snd)) (some !(rb r 0)) none) (some false)) λv=>some ([.p (.bool v)],[.box [.t (.ptr 1 0)],.box (bd e f g h i j (h4 2 3 4 5 [(t 6)])),a1 k,a4 l,a1 m,a2 o,a3 q])):=by kernel_rfl
theorem akb (F d e f i j k l m)(a b g h:Int):Eq (aI E F 141 [.t (.ptr 0 0),a] [.box (bd b d e f g h (h4 1 2 3 4 [(t 5)])),a1 i,a4 j,a1 k,a2 l,a3 m]) (ctl (bJ 0 a&&aT a (↑i.length:Int)) (ctl (iW ((m.length+1)*24) 140737488355328) (some ([],[.box (bd b d e f g h (h4 1 2 3 4 [(t 5)])),a1 (bg i a.toNat 0 [.bool false]),a4 j,a1 k,a2 l,a3 (m++([[n 2,a,n 0]]:LE))])) none) none):=by kernel_rfl
theorem r52 (F b d e h i j k l)(a f g:Int):Eq (aI E F 52 [.t (.ptr 0 0)] [.box (bd a b d e f g (h4 1 2 3 4 [(t 5)])),a1 h,a4 i,a1 j,a2 k,a3 l]) (aj (F 96 [.t (.ptr 0 0),AV.iG 97 0 0] [.box (bd a b d e f g (h4 1 2 3 4 [(t 5)])),a1 h,a4 i,a1 j,a2 k,a3 l]) λr=>ctl (cC [] r.fst&&okB [.inl (bs (g4 1 2 3 4 [.inr (.t (.ak 5))])),.inr 1,.inr 4,.inr 1,.inr 2,.inr 3] r.snd) (aj (F 96 [.t (.ptr 0 0),.fn 98 [.ptr 1 0]] [.box (rM r 0 (h4 2 3 4 5 [(t 6)])),.box [.t (.ptr 0 0)],a1 (he r 1),a4 (he r 2),a1 (he r 3),a2 (he r 4),a3 (he r 5)]) λr=>ctl (cC [] r.fst&&okB [.inl (bs (g4 2 3 4 5 [.inr (.t (.ak 6))])),.inl [.inr (.t (.ptr 0 0))],.inr 1,.inr 4,.inr 1,.inr 2,.inr 3] r.snd) (aj (F 99 [.agg (agJ r 0),.agg (rC (he r 2) (he r 3) (he r 4) (he r 5))] []) λaV=>ctl (cC [.bm [.ow 1,.ow 4,.ow 1,.ow 2],.one (.int .i64)] aV.fst&&okB [] aV.snd&&(bM aV.fst&&cr aV.snd)) (some ([],[.box (rM r 0 (h4 1 2 3 4 [(t 5)])),a1 (oe aV 0 0),a4 (oe aV 0 1),a1 (oe aV 0 2),a2 (oe aV 0 3),a3 (he r 6)])) none) none) none):=by kernel_rfl
theorem To (F b g h i l m o q s)(a d e f j k:Int):Eq (lp E F 104 1 [] 0 ⟨[a,.sl 1 b,d,e],[.box (bd f g h i j k (h4 1 2 3 4 [(t 5)])),a1 l,a4 m,a1 o,a2 q,a3 s]⟩) (ctl (aT e d) (aG b e λc=>ctl (c1 c) (aj (F 40 [G f g h i j k,W l m o q,a] []) λr=>ctl (ki r) (aj (F 41 [G f g h i j k,W l m o q,a] []) λaV=>ctl (k0 [.one (.int .i64)] aV) (ctl (bJ 0 (ci c 0)&&aT (ci c 0) (↑o.length:Int)) (ctl (bL [.int .i64] (List.take 1 (List.drop 0 (nth [] o (ci c 0:Int).toNat)))) (aG i (ci c 0) λdP=>ctl (bL [.int .i64,.int .i64,.int .i64,.int .i64,.sl 1] dP) (ctl (aT 0 (lC (IntKind.i64.wrap ((nth .aM (nth [] o (ci c 0:Int).toNat) 0).toInt-(ci dP 1:Int))) (gu (IntKind.i64.wrap ((ri r 0:Int)-(ri aV 0:Int))) 0))) (ctl (bJ 0 (ci c 0)&&aT (ci c 0) (↑o.length:Int)) (ctl (bL [.int .i64] (List.take 1 (List.drop 0 (nth [] o (ci c 0:Int).toNat)))) (ctl (bJ 0 (ci c 0)&&aT (ci c 0) (↑o.length:Int)) (ctl (bJ 0 (ci c 0)&&aT (ci c 0) (↑(bg o (ci c 0:Int).toNat 0 [.int .i64 (IntKind.i64.wrap ((nth .aM (nth [] o (ci c 0:Int).toNat) 0).toInt-lC (IntKind.i64.wrap ((nth .aM (nth [] o (ci c 0:Int).toNat) 0).toInt-(ci dP 1:Int))) (gu (IntKind.i64.wrap ((ri r 0:Int)-(ri aV 0:Int))) 0)))]).length:Int)) (ctl (bL [.int .i64] (List.take 1 (List.drop 0 (nth [] (bg o (ci c 0:Int).toNat 0 [.int .i64 (IntKind.i64.wrap ((nth .aM (nth [] o (ci c 0:Int).toNat) 0).toInt-lC (IntKind.i64.wrap ((nth .aM (nth [] o (ci c 0:Int).toNat) 0).toInt-(ci dP 1:Int))) (gu (IntKind.i64.wrap ((ri r 0:Int)-(ri aV 0:Int))) 0)))]) (ci c 0:Int).toNat)))) (ctl (iW ((s.length+1)*24) 140737488355328) (lp E F 104 1 [] 0 ⟨[a,.sl 1 b,d,(wr (e+1))],[.box (bd f g h i j k (h4 1 2 3 4 [(t 5)])),a1 l,a4 m,a1 (bg o (ci c 0:Int).toNat 0 [.int .i64 (IntKind.i64.wrap ((nth .aM (nth [] o (ci c 0:Int).toNat) 0).toInt-lC (IntKind.i64.wrap ((nth .aM (nth [] o (ci c 0:Int).toNat) 0).toInt-(ci dP 1:Int))) (gu (IntKind.i64.wrap ((ri r 0:Int)-(ri aV 0:Int))) 0)))]),a2 q,a3 (s++([[n 5,ci c 0,.int .i64 (nth .aM (nth [] (bg o (ci c 0:Int).toNat 0 [.int .i64 (IntKind.i64.wrap ((nth .aM (nth [] o (ci c 0:Int).toNat) 0).toInt-lC (IntKind.i64.wrap ((nth .aM (nth [] o (ci c 0:Int).toNat) 0).toInt-(ci dP 1:Int))) (gu (IntKind.i64.wrap ((ri r 0:Int)-(ri aV 0:Int))) 0)))]) (ci c 0:Int).toNat) 0).toInt]]:LE))]⟩) none) none) none) none) none) none) (lp E F 104 1 [] 0 ⟨[a,.sl 1 b,d,(wr (e+1))],[.box (bd f g h i j k (h4 1 2 3 4 [(t 5)])),a1 l,a4 m,a1 o,a2 q,a3 s]⟩)) none) none) none) none) none) none) (some (.exit 0,⟨[],[.box (bd f g h i j k (h4 1 2 3 4 [(t 5)])),a1 l,a4 m,a1 o,a2 q,a3 s]⟩))):=lu (by kernel_rfl)
theorem akx (F a e f g j k l m o)(b d h i:Int):Eq (aI E F 104 [.t (.ptr 0 0),.sl 1 a,b] [.box (bd d e f g h i (h4 1 2 3 4 [(t 5)])),a1 j,a4 k,a1 l,a2 m,a3 o]) (aj (lp E F 104 1 [] 0 ⟨[b,.sl 1 a,(ln a),n 0],[.box (bd d e f g h i (h4 1 2 3 4 [(t 5)])),a1 j,a4 k,a1 l,a2 m,a3 o]⟩) λp=>ctl (x 0 p) (ctl ((po [] [.inl (bs (g4 1 2 3 4 [.inr (.t (.ak 5))])),.inr 1,.inr 4,.inr 1,.inr 2,.inr 3] p)) (some ([],[.box (kh p 0 (h4 1 2 3 4 [(t 5)])),a1 (ae p 1),a4 (ae p 2),a1 (ae p 3),a2 (ae p 4),a3 (ae p 5)])) none) none):=by kernel_rfl
theorem aj9 (F)(a b d e:Int):Eq (aI E F 148 [.agg [a,b,d],.t (.ptr 0 0)] [.box [e]]) (aj (ctl (a==3) (some (d==e)) (some false)) λv=>some ([.p (.bool v)],[.box [e]])):=by kernel_rfl
theorem Tn (F b g h i l m o q s)(a d e f j k:Int):Eq (lp E F 105 1 [] 0 ⟨[a,.sl 1 b,d,e],[.box (bd f g h i j k (h4 1 2 3 4 [(t 5)])),a1 l,a4 m,a1 o,a2 q,a3 s]⟩) (ctl (aT e d) (aG b e λc=>ctl (c1 c) (ctl (bJ 0 (ci c 0)&&aT (ci c 0) (↑o.length:Int)) (ctl (bL [.int .i64] (List.take 1 (List.drop 0 (nth [] o (ci c 0:Int).toNat)))) (ctl (aT 0 (nth .aM (nth [] o (ci c 0:Int).toNat) 0).toInt) (aj (F 40 [G f g h i j k,W l m o q,a] []) λr=>ctl (ki r) (aj (F 41 [G f g h i j k,W l m o q,a] []) λaV=>ctl (k0 [.one (.int .i64)] aV) (ctl (aT 0 (gu (IntKind.i64.wrap ((ri r 0:Int)-(ri aV 0:Int))) 0)) (aj (F 96 [.t (.ptr 0 0),.fn 148 [.ptr 1 0]] [.box (bd f g h i j k (h4 2 3 4 5 [(t 6)])),.box [ci c 0],a1 l,a4 m,a1 o,a2 q,a3 s]) λr=>ctl (cC [] r.fst&&okB [.inl (bs (g4 2 3 4 5 [.inr (.t (.ak 6))])),.inl [.inl (.int .i64)],.inr 1,.inr 4,.inr 1,.inr 2,.inr 3] r.snd) (lp E F 105 1 [] 0 ⟨[a,.sl 1 b,d,(wr (e+1))],[.box (rM r 0 (h4 1 2 3 4 [(t 5)])),a1 (he r 2),a4 (he r 3),a1 (he r 4),a2 (he r 5),a3 (he r 6)]⟩) none) (lp E F 105 1 [] 0 ⟨[a,.sl 1 b,d,(wr (e+1))],[.box (bd f g h i j k (h4 1 2 3 4 [(t 5)])),a1 l,a4 m,a1 o,a2 q,a3 s]⟩)) none) none) (lp E F 105 1 [] 0 ⟨[a,.sl 1 b,d,(wr (e+1))],[.box (bd f g h i j k (h4 1 2 3 4 [(t 5)])),a1 l,a4 m,a1 o,a2 q,a3 s]⟩)) none) none) none) (some (.exit 0,⟨[],[.box (bd f g h i j k (h4 1 2 3 4 [(t 5)])),a1 l,a4 m,a1 o,a2 q,a3 s]⟩))):=lu (by kernel_rfl)
theorem akw (F a e f g j k l m o)(b d h i:Int):Eq (aI E F 105 [.t (.ptr 0 0),.sl 1 a,b] [.box (bd d e f g h i (h4 1 2 3 4 [(t 5)])),a1 j,a4 k,a1 l,a2 m,a3 o]) (aj (lp E F 105 1 [] 0 ⟨[b,.sl 1 a,(ln a),n 0],[.box (bd d e f g h i (h4 1 2 3 4 [(t 5)])),a1 j,a4 k,a1 l,a2 m,a3 o]⟩) λp=>ctl (x 0 p) (ctl ((po [] [.inl (bs (g4 1 2 3 4 [.inr (.t (.ak 5))])),.inr 1,.inr 4,.inr 1,.inr 2,.inr 3] p)) (some ([],[.box (kh p 0 (h4 1 2 3 4 [(t 5)])),a1 (ae p 1),a4 (ae p 2),a1 (ae p 3),a2 (ae p 4),a3 (ae p 5)])) none) none):=by kernel_rfl
theorem abM (F a b g h i l m o q s)(d e f j k:Int):Eq (lp E F 53 1 [] 0 ⟨[.sl 1 a,.sl 3 b,d,e],[.box (bd f g h i j k (h4 1 2 3 4 [(t 5)])),a1 l,a4 m,a1 o,a2 q,a3 s]⟩) (ctl (aT e d) (aG b e λc=>ctl (bL [.sl 1,.sl 1,.sl 1] c) (aj (F 102 [.sl 1 a] []) λr=>ctl (k0 [.own 1] r) (ctl (D2 [.sl 1 (ce c 0),.sl 1 (ce c 1),.sl 1 (ce c 2)] (nth (.p .aM) r.fst 0).di) (ctl (aT 0 (↑(ce c 1:LE).length:Int)) (aG (ce c 0) 0 λdP=>ctl (c1 dP) (aj (F 104 [.t (.ptr 0 0),.sl 1 (D3 [.sl 1 (ce c 0),.sl 1 (ce c 1),.sl 1 (ce c 2)] (nth (.p .aM) r.fst 0).di),ci dP 0] [.box (bd f g h i j k (h4 1 2 3 4 [(t 5)])),a1 l,a4 m,a1 o,a2 q,a3 s]) λaV=>ctl (cC [] aV.fst&&okB [.inl (bs (g4 1 2 3 4 [.inr (.t (.ak 5))])),.inr 1,.inr 4,.inr 1,.inr 2,.inr 3] aV.snd) (aG (ce c 0) 0 λNh=>ctl (c1 Nh) (aj (F 105 [.t (.ptr 0 0),.sl 1 (D3 [.sl 1 (ce c 0),.sl 1 (ce c 1),.sl 1 (ce c 2)] (nth (.p .aM) r.fst 0).di),ci Nh 0] [.box (rM aV 0 (h4 1 2 3 4 [(t 5)])),a1 (he aV 1),a4 (he aV 2),a1 (he aV 3),a2 (he aV 4),a3 (he aV 5)]) λr=>ctl (cC [] r.fst&&okB [.inl (bs (g4 1 2 3 4 [.inr (.t (.ak 5))])),.inr 1,.inr 4,.inr 1,.inr 2,.inr 3] r.snd) (lp E F 53 1 [] 0 ⟨[.sl 1 a,.sl 3 b,d,(wr (e+1))],[.box (rM r 0 (h4 1 2 3 4 [(t 5)])),a1 (he r 1),a4 (he r 2),a1 (he r 3),a2 (he r 4),a3 (he r 5)]⟩) none) none) none) none) (lp E F 53 1 [] 0 ⟨[.sl 1 a,.sl 3 b,d,(wr (e+1))],[.box (bd f g h i j k (h4 1 2 3 4 [(t 5)])),a1 l,a4 m,a1 o,a2 q,a3 s]⟩)) none) none) none) (some (.exit 0,⟨[],[.box (bd f g h i j k (h4 1 2 3 4 [(t 5)])),a1 l,a4 m,a1 o,a2 q,a3 s]⟩))):=lu (by kernel_rfl)
theorem r53 (F b d e h i j k l)(a f g:Int):Eq (aI E F 53 [.t (.ptr 0 0)] [.box (bd a b d e f g (h4 1 2 3 4 [(t 5)])),a1 h,a4 i,a1 j,a2 k,a3 l]) (aj (F 100 [G a b d e f g] []) λr=>ctl (k0 [.one (.sl 1)] r) (aj (F 12 [G a b d e f g,W h i j k] []) λaV=>ctl (k0 [.one (.sl 3)] aV) (aj (lp E F 53 1 [] 0 ⟨[.sl 1 (re r 0),.sl 3 (re aV 0),n (↑(re aV 0:LE).length:Int),n 0],[.box (bd a b d e f g (h4 1 2 3 4 [(t 5)])),a1 h,a4 i,a1 j,a2 k,a3 l]⟩) λp=>ctl (x 0 p) (ctl ((po [] [.inl (bs (g4 1 2 3 4 [.inr (.t (.ak 5))])),.inr 1,.inr 4,.inr 1,.inr 2,.inr 3] p)) (some ([],[.box (kh p 0 (h4 1 2 3 4 [(t 5)])),a1 (ae p 1),a4 (ae p 2),a1 (ae p 3),a2 (ae p 4),a3 (ae p 5)])) none) none) none) none):=by kernel_rfl
theorem r51 (F b d e h i j k l)(a f g:Int):Eq (aI E F 51 [.t (.ptr 0 0)] [.box (bd a b d e f g (h4 1 2 3 4 [(t 5)])),a1 h,a4 i,a1 j,a2 k,a3 l]) (aj (F 52 [.t (.ptr 0 0)] [.box (bd a b d e f g (h4 1 2 3 4 [(t 5)])),a1 h,a4 i,a1 j,a2 k,a3 l]) λr=>ctl (cC [] r.fst&&okB [.inl (bs (g4 1 2 3 4 [.inr (.t (.ak 5))])),.inr 1,.inr 4,.inr 1,.inr 2,.inr 3] r.snd) (aj (F 53 [.t (.ptr 0 0)] [.box (rM r 0 (h4 1 2 3 4 [(t 5)])),a1 (he r 1),a4 (he r 2),a1 (he r 3),a2 (he r 4),a3 (he r 5)]) λr=>ctl (cC [] r.fst&&okB [.inl (bs (g4 1 2 3 4 [.inr (.t (.ak 5))])),.inr 1,.inr 4,.inr 1,.inr 2,.inr 3] r.snd) (some ([],[.box (rM r 0 (h4 1 2 3 4 [(t 5)])),a1 (he r 1),a4 (he r 2),a1 (he r 3),a2 (he r 4),a3 (he r 5)])) none) none):=by kernel_rfl
theorem ajD (F b d e h i j k)(a f g:Int):Eq (aI E F 50 [G a b d e f g,W h i j k,.fn 51 []] []) (aj (F 31 [G a b d e f g,W h i j k] []) λr=>ctl (ki r) (ctl ((ri r 0:Int) !=0) (some ([.bm [.own 1 [],.own 4 [],.own 1 [],.own 2 []],.own 3 [],.p (ri r 0)],[])) (aj (F 57 [W h i j k] []) λr=>ctl (k0 [.bm [.ow 1,.ow 4,.ow 1,.ow 2]] r) (aj (F 51 [.t (.ptr 0 0)] [.box (bd a b d e f g (h4 1 2 3 4 [(t 5)])),a1 (oe r 0 0),a4 (oe r 0 1),a1 (oe r 0 2),a2 (oe r 0 3),a3 []]) λr=>ctl (cC [] r.fst&&okB [.inl (bs (g4 1 2 3 4 [.inr (.t (.ak 5))])),.inr 1,.inr 4,.inr 1,.inr 2,.inr 3] r.snd) (some ([.bm [.own 1 (he r 1:LE),.own 4 (he r 2:LE),.own 1 (he r 3:LE),.own 2 (he r 4:LE)],.own 3 (he r 5),.p (n 0)],[])) none) none)) none):=by kernel_rfl
theorem r19 (F b d e h i j k)(a f g:Int):Eq (aI E F 19 [G a b d e f g,W h i j k] []) (aj (F 50 [G a b d e f g,W h i j k,.fn 51 []] []) λr=>ctl (k0 [.bm [.ow 1,.ow 4,.ow 1,.ow 2],.own 3,.one (.int .i64)] r) (some ([.bm [.own 1 (oe r 0 0:LE),.own 4 (oe r 0 1:LE),.own 1 (oe r 0 2:LE),.own 2 (oe r 0 3:LE)],.own 3 (nth (.p .aM) r.fst 1).di,.p (ri r 2)],[])) none):=by kernel_rfl
end
end Go.Proofs.YtoocplpcbdemhaaGreat.Vm
