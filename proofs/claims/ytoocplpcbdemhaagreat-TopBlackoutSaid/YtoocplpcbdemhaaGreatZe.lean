import Derived.Test.YtoocplpcbdemhaaGreatZd
set_option linter.unusedVariables false
set_option linter.unusedSimpArgs false
set_option linter.unusedSectionVars false
namespace Go.Proofs.YtoocplpcbdemhaaGreat
theorem kF:type_of% @Nat.beq_refl:=@Nat.beq_refl
theorem xa:type_of% @beq_self_eq_true:=@beq_self_eq_true
theorem An:type_of% @List.filter_cons:=@List.filter_cons
theorem Jg:type_of% @List.singleton_append:=@List.singleton_append
theorem u_:type_of% @decide_eq_true:=@decide_eq_true
theorem FQ:type_of% @List.mem_append_left:=@List.mem_append_left
theorem rr:type_of% @Nat.not_lt_zero:=@Nat.not_lt_zero
end Go.Proofs.YtoocplpcbdemhaaGreat
namespace Go.Proofs.YtoocplpcbdemhaaGreat.Vm
theorem bG {n i:Nat}(h:i<n):(bJ 0 (i:Int)&&aT (i:Int) (n:Int))=true:=by simp;omega
theorem dS {α:Type}{L:List α}{f:α->List PV}{d:α}{i:Nat}(h:i<L.length):nth [] (L.map f) i=f (L.getD i d):=by
 rw[dp];simp[List.getD,h]
theorem mo {α:Type}{L:List α}{f:α->List PV}{i:Nat}(x:α):upd (f x) (L.map f) i=(L.set i x).map f:=by
 rw[oL,List.map_set]
theorem mV {f:List Nat}{i v:Nat}(h:i<f.length):bg (bF f) i 0 [.int .i64 (v:Int)]=bF (f.set i v):=by
 unfold bg bF;rw[dS (d:=0) h];exact mo (f:=λ(x:Nat)=>[PV.int .i64 (x:Int)]) v
theorem wa {f:List Nat}{i:Nat}(h:i<f.length):nth [] (bF f) i=[.int .i64 (f.getD i 0:Nat)]:=dS (f:=λ(x:Nat)=>[PV.int .i64 (x:Int)]) (d:=0) h
theorem T_ (a c:Nat):lC (a:Int) (c:Int)=((min c a:Nat):Int):=by unfold lC;split<;>omega
theorem Yl (n:Nat):dm [PV.int .i64 0] n=bF (List.replicate n 0):=by rw[n_];simp[bF]
theorem HA {b:Bd}{p:Pw}(hn:b.n<=6):∀(m k:Nat),k+m=b.n->
  lp E (denC E) 34 0 [] 0 {vals:=[AV.int .i64 (b.n:Int),AV.int .i64 k],aq:=[eG b,kq p,au.arr 1 (bF (List.range k++List.replicate m 0))]}=
   some (Ex.exit 0,{vals:=[],aq:=[eG b,kq p,au.arr 1 (bF (List.range b.n))]}):=by
 intro m
 induction m with
 |zero=>
  intro k hk;rw[abT,ah,aC (by omega),show k=b.n by omega];simp
 |succ m ih=>
  intro k hk;have e:((List.range k++List.replicate (m+1) 0).set k k)=List.range (k+1)++List.replicate m 0:=by
   rw[List.set_append_right _ _ (by simp),FR,FO,List.replicate_succ,Cw,Cz,lz];rfl
  rw[abT,ah,aK (by omega),aU,bG (by simp),ay,bo,mV (by simp),e,ck (n:=(k:Int)+1) (by omega),aw k,ih (k+1) (by omega)]
theorem Ab (f:List Nat)(x:fX×Bool):(cv f x).length=f.length:=by unfold cv;split<;>simp
theorem Hy {b:Bd}{p:Pw}(hb:BV b)(hp:p.closed.length=b.aO.length)(x y:Int):∀(m k:Nat) (f:List Nat),k+m=b.aO.length->f.length=b.n->
  lp E (denC E) 34 0 [] 4 {vals:=[AV.int .i64 x,AV.int .i64 y,AV.sl 3 (fW b),AV.int .i64 b.aO.length,AV.int .i64 k],aq:=[eG b,kq p,au.arr 1 (bF f)]}=
   some (Ex.exit 4,{vals:=[AV.int .i64 x,AV.int .i64 y],aq:=[eG b,kq p,au.arr 1 (bF (((gD b p.closed).drop k).foldl cv f))]}):=by
 have sg:=hb.nb;intro m
 induction m with
 |zero=>
  intro k f hk hf;rw[abR,ah,aC (by omega),xD hp (by omega)];rfl
 |succ m ih=>
  intro k f hk hf;have hm:=qW hb.bT (show k<b.aO.length by omega);have ht:=hb.tie _ hm;rw[abR,ah,aK (by omega),cF _ (by omega)];simp only[SB];rw[k_ _ (by omega),sZ hp (by omega)];simp only[SB,je];rw[ck (n:=(k:Int)+1) (by omega),aw k,rL];by_cases h1:(br b k).k=1
  ·by_cases hc:cl p k=true
   ·have e:cv f (br b k,cl p k)=(f.set (br b k).a (min (f.getD (br b k).a 0) (f.getD (br b k).b 0))).set (br b k).b (min (f.getD (br b k).a 0) (f.getD (br b k).b 0)):=by unfold cv;rw[aK ⟨h1,hc⟩]
    have h2:=ht.2.1 h1;rw[show((br b k).k==1)=true by simp[h1],hc,GZ,ay,aU,hf,bG (by omega),bG h2.2];simp only[bo];rw[wa (by omega),wa (by omega)];simp only[SB,T_,eN,m_,iN];rw[mV (by omega),aU,vn,hf,bG h2.2,ay,mV (by rw[vn];omega),<-e,ih (k+1) _ (by omega) (by rw[Ab];exact hf)];rw[<-hc]
   ·have e:cv f (br b k,cl p k)=f:=by unfold cv;rw[aC (by simp[hc])]
    rw[Cm]at hc;rw[hc]at e;rw[show((br b k).k==1)=true by simp[h1],hc,CH,aF,ih (k+1) _ (by omega) hf,e]
  ·have e:cv f (br b k,cl p k)=f:=by unfold cv;rw[aC (by simp[h1])]
   rw[show((br b k).k==1)=false by simp[h1],Bg,aF,ih (k+1) _ (by omega) hf,e]
theorem VY (l:List (fX×Bool)):∀f:List Nat,(l.foldl cv f).length=f.length:=by
 induction l with
 |nil=>intro f;rfl
 |cons x l ih=>intro f;rw[je,ih,Ab]
theorem Hz {b:Bd}{p:Pw}(hb:BV b)(hp:p.closed.length=b.aO.length):∀(m k:Nat) (f:List Nat),k+m=b.n->f.length=b.n->
  lp E (denC E) 34 0 [] 2 {vals:=[AV.int .i64 (b.n:Int),AV.int .i64 k],aq:=[eG b,kq p,au.arr 1 (bF f)]}=
   some (Ex.exit 2,{vals:=[],aq:=[au.arr 1 (bF (rounds (gD b p.closed) m f))]}):=by
 have h6:=hb.n6;intro m
 induction m with
 |zero=>
  intro k f hk hf;rw[abS,ah,aC (by omega)];rfl
 |succ m ih=>
  intro k f hk hf;have l4:=Hy hb hp (b.n:Int) (k:Int) _ 0 f (dy _) hf;rw[fC,eN]at l4;rw[abS,ah,aK (by omega),bS,l4];simp only[SB,Nat.reduceAdd];rw[ck (n:=(k:Int)+1) (by omega),aw];exact ih (k+1) _ (by omega) (by rw[VY];exact hf)
theorem WH {b:Bd}{p:Pw}(hb:BV b)(hp:p.closed.length=b.aO.length):denC E 34 [eH b,iQ p] []=some ([RV.p (PV.sl 1 (bF (F9 b.n (gD b p.closed))))],[]):=by
 have h6:=hb.n6;have l0:=HA (p:=p) h6 b.n 0 (dy _);rw[fC]at l0;simp only[List.range_zero,gq]at l0;have l2:=Hz hb hp b.n 0 (List.range b.n) (dy _) (by simp);rw[fC]at l2;rw[ai,r34,aL (by omega),aL (by omega),aL (by omega),aL (by omega),bo,Yl,aU,za,l0];simp only[SB,Nat.reduceAdd];rw[aU,FR,l2];simp only[SB];rfl
def fh (b:Bd)(p:Pw)(f:Nat):List PV:=[.sl 1 (bF (aZ b p f)),.sl 1 (bF (av b p f)),.sl 1 (bF (dw b p f))]
def cI (b:Bd)(p:Pw):List (List PV):=(aH b p).map (fh b p)
theorem Js (l:List Nat):gT (bF l)=l.map λ(x:Nat)=>(x:Int):=by simp[gT,bF,nth,PV.toInt]
theorem Oz (l:List Nat):(bF l).all wz=true:=by rw[fk];intro e he;obtain⟨x,_,rfl⟩:=kE.1 he;rfl
theorem wu (l:List Nat):vB (l.map λ(x:Nat)=>(x:Int))=bF l:=by simp[vB,bF]
theorem aeU {b:Bd}{p:Pw}(hb:BV b){i:Nat}(hi:i<b.n):((F9 b.n (gD b p.closed)).map λ(x:Nat)=>(x:Int)).getD i (-1)=(key b p i:Int):=by
 have h:i<(F9 b.n (gD b p.closed)).length:=by rw[DI (lF hb.bT _)];exact hi
 unfold key;simp only[dD,uP,dO h,ru,y_]
theorem Hi {F:d_}{f:Nat}{B P:AV}{m:Nat}{o:Nat->Option Nat}:∀(k i:Nat) (acc:List (Int×Nat)) (K:List (Int×Nat)->Ask),(∀j,i<=j->j<i+k->F f [B,P,.t (.p (.int .i64 (j:Int)))] []=some (dz (o j),[]))->(∀j u,i<=j->j<i+k->o j=some u->u<m)->
  (E8 f B P m k i acc K).run F=(K (acc++(List.range' i k).filterMap λ(j:Nat)=>(o j).map λu=>((j:Int),u))).run F
 |0,i,acc,K,_,_=>by simp[E8]
 |k+1,i,acc,K,h,hm=>by
  simp only[E8,Ask.run];rw[h i (dB _) (by omega),en];have ih:=λamy=>Hi k (i+1) amy K (λj h1 h2=>h j (by omega) (by omega)) (λj u h1 h2=>hm j u (by omega) (by omega));cases ho:o i with
  |none=>
   simp only[dz,oP];rw[ih,List.filterMap_cons_none (by rw[ho];rfl)]
  |some u=>
   have hu:=hm i u (dB _) (by omega) ho;simp only[dz,sG];rw[aL (by omega),bo,show Nat.blt u m=true by rw[CC];exact hu];simp only[GZ,sG];rw[ih,List.filterMap_cons_some (by rw[ho];rfl)];simp
theorem Dk {first:List Int}{o:Nat->Option Nat}{f:Nat}{P:Nat->Bool}:∀L:List Nat,(∀j u,j∈L->o j=some u->(first.getD u (-1)==(f:Int))=P u)->
  islOf first (L.filterMap λ(j:Nat)=>(o j).map λu=>((j:Int),u)) f=(L.filter λj=>match o j with|some u=>P u|none=>false).map λ(x:Nat)=>(x:Int)
 |[],_=>rfl
 |j::L,h=>by
  have ih:=Dk L (λj u hj=>h j u (by simp[hj]));cases ho:o j with
  |none=>
   rw[List.filterMap_cons_none (by rw[ho];rfl),Bh (by simp[ho]),ih]
  |some u=>
   have hu:=h j u (by simp) ho;rw[List.filterMap_cons_some (by rw[ho];rfl)];unfold islOf at ih|-;cases hp:P u with
   |true=>
    rw[vT (by show(first.getD u (-1)==(f:Int))=true;rw[hu,hp]),vT (by simp[ho,hp]),qx,qx,ih]
   |false=>
    rw[Bh (by show¬(first.getD u (-1)==(f:Int))=true;rw[hu,hp];simp),Bh (by simp[ho,hp]),ih]
theorem V4 {b:Bd}{p:Pw}(hb:BV b){i u:Nat}(h:iF b p i=some u):u<b.n:=by
 unfold iF Oq at h;obtain⟨x,hx,rfl⟩:=EO.1 h;have hm:=Co hx;exact(hb.tie _ (List.of_mem_zip (show(x.1,x.2)∈b.aO.zip p.closed from hm)).1).1
theorem mP {b:Bd}{p:Pw}(hb:BV b)(hp:aX b p):denC E 12 [eH b,iQ p] []=some ([RV.p (PV.sl 3 (cI b p))],[]):=by
 have h6:=hb.n6;have h8:=hb.ng;have Fg:=hb.nc;have N7:(F9 b.n (gD b p.closed)).length=b.n:=DI (lF hb.bT _);have key:(Qw 31 34 35 36).run (denC E) [eH b,iQ p]=some [RV.p (PV.sl 3 (cI b p))]:=by
  show(Mt 31 34 35 36 [eH b,iQ p]).run (denC E)=_;unfold Mt;simp only[Ask.run];rw[show denC E 31 [AV.t (TV.agg [PV.int .i64 (b.n:Int),PV.sl 3 (fW b),PV.sl 3 (oW b),PV.sl 5 (nQ b),PV.int .i64 (b.phase:Int),PV.int .i64 (b.eZ:Int)]),AV.t (TV.agg [PV.sl 1 (bC p),PV.sl 4 (bp p),PV.sl 1 (bE p),PV.sl 2 (bA p)])] []=_ from eM hb hp];simp only[vg,Ask.run];rw[show denC E 34 [AV.t (TV.agg [PV.int .i64 (b.n:Int),PV.sl 3 (fW b),PV.sl 3 (oW b),PV.sl 5 (nQ b),PV.int .i64 (b.phase:Int),PV.int .i64 (b.eZ:Int)]),AV.t (TV.agg [PV.sl 1 (bC p),PV.sl 4 (bp p),PV.sl 1 (bE p),PV.sl 2 (bA p)])] []=_ from WH hb hp.c];simp only;have cz:((bF (F9 b.n (gD b p.closed))).all wz&&(bJ 0 (b.n:Int)&&(Nat.beq (bF (F9 b.n (gD b p.closed))).length (b.n:Int).toNat&&(Nat.ble (bF (F9 b.n (gD b p.closed))).length 1000&&(Nat.ble (oW b).length 1000&&(Nat.ble (nQ b).length 1000&&(gT (bF (F9 b.n (gD b p.closed)))).all λf=>bJ 0 f&&Nat.blt f.toNat (bF (F9 b.n (gD b p.closed))).length))))))=true:=by
   rw[Oz,aL (by omega),aU,N7,bo,kF,dM,dE,Js];simp only[xc,bO,Nat.ble_eq,fk,kE];refine⟨by omega,by omega,by omega,?_⟩;rintro x ⟨y,hy,rfl⟩;obtain⟨i,hi,rfl⟩:=List.getElem_of_mem hy;have:=Hh (p:=p) hb.bT (i:=i) (by omega);unfold Vm.key at this;rw[dD,dO hi,y_]at this;refine⟨by simp,?_⟩;rw[bo,CC];exact this
  rw[cz,sG,aU,N7,dM,dE];rw[Hi (o:=conn b p) _ 0 _ _ (λj _ hj=>A7 hb hp (by omega)) (λj u _ hj hu=>fE hb.bT hp.c (by omega) hu)];rw[Hi (o:=iF b p) _ 0 _ _ (λj _ hj=>ac8 hb hp.c j) (λj u _ hj hu=>V4 hb hu)];simp only[gq,Ask.run,<-iC];rw[Js];congr 4;unfold JQ cI aH;rw[nS,N7];have hB:∀f,Dl ((F9 b.n (gD b p.closed)).map λ(x:Nat)=>(x:Int)) f=(aZ b p f).map λ(x:Nat)=>(x:Int):=λf=>by
   unfold Dl aZ;rw[nS,N7];congr 1;refine xg λi hi=> ?_;rw[aeU hb (gR.1 hi),gi]
  have e1:((List.range b.n).filter λf=> !(Dl ((F9 b.n (gD b p.closed)).map λ(x:Nat)=>(x:Int)) f).isEmpty)=(List.range b.n).filter λf=> !(aZ b p f).isEmpty:=xg λf _=>by rw[hB,List.isEmpty_map]
  rw[e1];refine rj λf hf=> ?_;unfold fh;rw[hB,wu,Dk (P:=λu=>Vm.key b p u==f) _ (λj u hj hu=>by rw[aeU hb (fE hb.bT hp.c (gR.1 hj) hu),gi]),wu,Dk (P:=λu=>Vm.key b p u==f) _ (λj u hj hu=>by rw[aeU hb (V4 hb hu),gi]),wu];rfl
 rw[ai];show(match (Qw 31 34 35 36).run (denC E) [eH b,iQ p]with|some rs=>some (rs,[])|none=>none)=_;rw[key]
theorem Vf {l:List Nat}(hl:l.length<=1000)(u:Nat):∀(m i:Nat),i+m=l.length->
  ∃r,lp E (denC E) 133 0 [] 0 {vals:=[AV.sl 1 (bF l),AV.int .i64 (u:Int),AV.int .i64 l.length,AV.int .i64 i],aq:=[]}=some r/\
   if (l.drop i).contains u=true then∃j:Nat,r=(Ex.ret,{vals:=[AV.int .i64 (j:Int)],aq:=[]}) else r=(Ex.exit 0,{vals:=[],aq:=[]}):=by
 intro m
 induction m with
 |zero=>
  intro i hi;rw[Tc,ah,aC (by omega),Bi (by omega)];exact⟨_,rfl,by simp⟩
 |succ m ih=>
  intro i hi;obtain⟨r,h1,h2⟩:=ih (i+1) (by omega);rw[Tc,ah,aK (by omega),cE _ (by omega)];simp only[SB];rw[ck (n:=(i:Int)+1) (by omega),aw,h1,gi,drop_cons (show i<l.length by omega)];show∃r',_/\if ((l.getD i 0)::l.drop (i+1)).contains u=true then _ else _
  rw[I_];cases hk:(u==l.getD i 0)with
  |true=>rw[Ct,ay];exact⟨_,rfl,by rw[aK rfl];exact⟨i,rfl⟩⟩
  |false=>rw[vR,aF];exact⟨r,rfl,h2⟩
theorem nH {l:List Nat}(hl:l.length<=1000)(u:Nat):denC E 81 [AV.sl 1 (bF l),AV.int .i64 (u:Int)] []=some ([RV.p (PV.bool (l.contains u))],[]):=by
 obtain⟨r,h1,h2⟩:=Vf hl u _ 0 (dy _);rw[fC]at h1;rw[eN]at h2;have h3:∃z:Int,denC E 133 [AV.sl 1 (bF l),AV.int .i64 (u:Int)] []=some ([RV.p (PV.int .i64 z)],[])/\bJ 0 z=l.contains u:=by
  rw[ai,akf,aU,h1];split at h2
  ·rename_i hc;obtain⟨j,rfl⟩:=h2;simp only[SB];exact⟨j,rfl,by rw[aL (by omega)];exact hc.symm⟩
  ·rename_i hc;subst h2;simp only[SB];exact⟨-1,rfl,by rw[Cm]at hc;rw[hc];rfl⟩
 obtain⟨z,h3,h4⟩:=h3;rw[ai,r81,h3];simp only[SB];rw[h4]
theorem lO (b:Bd)(p:Pw)(f:Nat):(aZ b p f).length<=b.n:=by
 unfold aZ;have:=oO (λj=>key b p j==f) (List.range b.n);simpa using this
theorem fO (b:Bd)(p:Pw)(f:Nat):(av b p f).length<=b.ar.length:=by
 unfold av;have:=oO (λi=>atKey b p (conn b p i) f) (List.range b.ar.length);simpa using this
theorem qP (b:Bd)(p:Pw)(f:Nat):(dw b p f).length<=b.cons.length:=by
 unfold dw;have:=oO (λi=>atKey b p (iF b p i) f) (List.range b.cons.length);simpa using this
theorem mN {b:Bd}{p:Pw}{f j:Nat}:j∈aZ b p f↔j<b.n/\key b p j=f:=by simp[aZ]
theorem U7 {b:Bd}{p:Pw}(hb:BV b){j:Nat}(hj:j<b.n):key b p j∈aH b p:=by
 unfold aH;rw[uO,gR];refine⟨Hh hb.bT hj,?_⟩;have:j∈aZ b p (key b p j):=mN.2 ⟨hj,rfl⟩;cases h:aZ b p (key b p j)with
 |nil=>rw[h]at this;cases this
 |cons=>rfl
theorem YQ {b:Bd}{p:Pw}(hb:BV b){j:Nat}(hj:j<b.n){x0 x1 x2:List (List PV)}:∀(l pre:List Nat),aH b p=pre++l->key b p j∈l->(aH b p).length<=100->
  lp E (denC E) 42 0 [] 0 {vals:=[AV.int .i64 (j:Int),AV.sl 3 (cI b p),AV.int .i64 (aH b p).length,AV.int .i64 pre.length],aq:=[au.box [AV.sl 1 x0,AV.sl 1 x1,AV.sl 1 x2]]}=
   some (Ex.ret,{vals:=[AV.bool true],aq:=[au.box [AV.sl 1 (bF (aZ b p (key b p j))),AV.sl 1 (bF (av b p (key b p j))),AV.sl 1 (bF (dw b p (key b p j)))]]}):=by
 have h6:=hb.n6;intro l
 induction l with
 |nil=>intro pre _ h;cases h
 |cons f l ih=>
  intro pre hk hm hlen;have hpl:pre.length<(aH b p).length:=by rw[hk];simp
  have hg:(aH b p).getD pre.length 0=f:=by rw[hk];simp[List.getD]
  have uu:∀K:List PV->Option (Ex×Pack),aG (cI b p) (pre.length:Int) K=K (fh b p f):=λK=>by
   have:=bI (fh b p) 0 hpl K;rw[hg]at this;exact this
  rw[agq,ah,aK (by omega),uu];unfold fh;simp only[SB];rw[nH (by have:=lO b p f;omega)];simp only[SB];by_cases hf:f=key b p j
  ·have:(aZ b p f).contains j=true:=by rw[na];exact mN.2 ⟨hj,hf.symm⟩
   rw[this,ay,hf]
  ·have:(aZ b p f).contains j=false:=by
    rw[<-Cm,na,mN];rintro⟨_,h⟩;exact hf h.symm
   have e1:(pre.length:Int)+1=((pre++[f]).length:Int):=by simp
   rw[this,aF,ck (n:=(pre.length:Int)+1) (by omega),e1];exact ih (pre++[f]) (by rw[hk];simp) ((gI.1 hm).resolve_left λh=>hf h.symm) hlen
theorem fU (b:Bd)(p:Pw):(aH b p).length<=b.n:=by
 unfold aH;have:=oO (λf=> !(aZ b p f).isEmpty) (List.range b.n);simpa using this
theorem H2 {b:Bd}{p:Pw}(hb:BV b)(hp:aX b p){j:Nat}(hj:j<b.n):denC E 42 [eH b,iQ p,AV.int .i64 (j:Int)] []=
  some ([RV.agg [PV.sl 1 (bF (aZ b p (key b p j))),PV.sl 1 (bF (av b p (key b p j))),PV.sl 1 (bF (dw b p (key b p j)))],RV.p (PV.bool true)],[]):=by
 have h6:=hb.n6;have ir:=fU b p;have l0:=YQ hb hj (x0:=[]) (x1:=[]) (x2:=[]) (aH b p) [] rfl (U7 hb hj) (by omega);rw[iD,fC]at l0;rw[ai,r42,mP hb hp];simp only[SB,Nat.reduceAdd];rw[show(cI b p).length=(aH b p).length by simp[cI],l0];simp only[SB]
theorem nE {b:Bd}{p:Pw}(hb:BV b)(hp:aX b p){j:Nat}(hj:j<b.n):denC E 24 [eH b,iQ p,AV.int .i64 (j:Int)] []=some ([RV.p (PV.bool (aY b p j))],[]):=by
 rw[ai,r24,H2 hb hp hj];simp only[SB];rw[aU];unfold aY;cases av b p (key b p j)with
 |nil=>rfl
 |cons x l=>rw[iz (by simp<;>omega)];rfl
theorem Qe {b:Bd}{p:Pw}(hb:BV b)(hp:aX b p){C0 S0:List (List PV)}(f:Nat)(jZ:(av b p f).isEmpty=false):∀(l pre:List Nat) (s:Nat),dw b p f=pre++l->s<=50000*pre.length->
  lp E (denC E) 40 0 [] 0 {vals:=[AV.int .i64 (s:Int),AV.sl 1 (bF (dw b p f)),AV.int .i64 (dw b p f).length,AV.int .i64 pre.length],aq:=[kq p,au.box [AV.sl 1 C0,AV.sl 1 (bF (av b p f)),AV.sl 1 S0]]}=
   some (Ex.exit 0,{vals:=[AV.int .i64 ((s+(l.map (lm p)).sum:Nat):Int)],aq:=[]}):=by
 have Fg:=hb.nc;have jO:=qP b p f;intro l
 induction l with
 |nil=>
  intro pre s hk hs;rw[N0,ah,aC (by rw[hk];simp)];simp
 |cons c l ih=>
  intro pre s hk hs;have hpl:pre.length<(dw b p f).length:=by rw[hk];simp
  have hg:(dw b p f).getD pre.length 0=c:=by rw[hk];simp[List.getD]
  have hc:c<b.cons.length:=by
   have:c∈dw b p f:=by rw[hk];simp
   exact gR.1 (uO.1 this).1
  have Ih:=hp.l;have h1:=hp.Hd c hc;have h2:=(hb.zL c hc).1;rw[N0,ah,aK (by omega),cE _ hpl,hg];simp only[SB];rw[aU,iz (by cases h:av b p f with|nil=>rw[h]at jZ;cases jZ|cons=>simp<;>omega),ay,HC _ (by omega)];simp only[SB];have e1:(pre.length:Int)+1=((pre++[c]).length:Int):=by simp
  have e2:(s:Int)+(lm p c:Int)=((s+lm p c:Nat):Int):=by omega
  rw[ck (n:=(pre.length:Int)+1) (by omega),ck (n:=(s:Int)+(lm p c:Int)) (by omega),e1,e2,ih (pre++[c]) (s+lm p c) (by rw[hk];simp) (by simp;omega)];simp only[CE,uM]
theorem Mo {b:Bd}{p:Pw}(hb:BV b){C0 S0:List (List PV)}(L:List Nat)(hL:L.length<=100):∀(l pre:List Nat),L=pre++l->
  lp E (denC E) 40 0 [] 0 {vals:=[AV.int .i64 0,AV.sl 1 (bF L),AV.int .i64 L.length,AV.int .i64 pre.length],aq:=[kq p,au.box [AV.sl 1 C0,AV.sl 1 (bF []),AV.sl 1 S0]]}=
   some (Ex.exit 0,{vals:=[AV.int .i64 0],aq:=[]}):=by
 intro l
 induction l with
 |nil=>
  intro pre hk;rw[N0,ah,aC (by rw[hk];simp)]
 |cons c l ih=>
  intro pre hk;have hpl:pre.length<L.length:=by rw[hk];simp
  have e1:(pre.length:Int)+1=((pre++[c]).length:Int):=by simp
  rw[N0,ah,aK (by omega),cE _ hpl];simp only[SB];rw[show aT 0 ((bF []).length:Int)=false from rfl,aF,ck (n:=(pre.length:Int)+1) (by omega),e1,ih (pre++[c]) (by rw[hk];simp)]
theorem Ee {b:Bd}{p:Pw}(hb:BV b)(hp:aX b p){j:Nat}(hj:j<b.n):denC E 40 [eH b,iQ p,AV.int .i64 (j:Int)] []=some ([RV.p (PV.int .i64 (dt b p j:Int))],[]):=by
 have Fg:=hb.nc;have jO:=qP b p (key b p j);rw[ai,r40,H2 hb hp hj];simp only[SB];rw[aU];unfold dt aY;cases hl:(av b p (key b p j)).isEmpty with
 |false=>
  have l0:=Qe hb hp (C0:=bF (aZ b p (key b p j))) (S0:=bF (dw b p (key b p j))) (key b p j) hl _ [] 0 rfl (by simp);rw[iD,fC]at l0;rw[l0];simp only[SB];rfl
 |true=>
  have hnil:av b p (key b p j)=[]:=List.isEmpty_iff.1 hl;have l0:=Mo (p:=p) hb (C0:=bF (aZ b p (key b p j))) (S0:=bF (dw b p (key b p j))) (dw b p (key b p j)) (by omega) _ [] rfl;rw[iD,fC]at l0;rw[hnil,l0];simp only[SB];rfl
theorem PS {b:Bd}(hb:BV b)(L:List Nat)(hL:∀x∈L,x<b.ar.length)(aeT:L.length<=100):∀(l pre:List Nat) (s:Nat),L=pre++l->s<=50000*pre.length->
  lp E (denC E) 41 0 [] 0 {vals:=[AV.int .i64 (s:Int),AV.sl 1 (bF L),AV.int .i64 L.length,AV.int .i64 pre.length],aq:=[eG b]}=
   some (Ex.exit 0,{vals:=[AV.int .i64 ((s+(l.map λi=>(gn b i).cd).sum:Nat):Int)],aq:=[]}):=by
 intro l
 induction l with
 |nil=>
  intro pre s hk hs;rw[abQ,ah,aC (by rw[hk];simp)];simp
 |cons c l ih=>
  intro pre s hk hs;have hpl:pre.length<L.length:=by rw[hk];simp
  have hg:L.getD pre.length 0=c:=by rw[hk];simp[List.getD]
  have hc:c<b.ar.length:=hL c (by rw[hk];simp);have hm:gn b c∈b.ar:=by unfold gn;rw[dD,dO hc];exact gH hc
  have h1:=(hb.gen _ hm).2.1;rw[abQ,ah,aK (by omega),cE _ hpl,hg];simp only[SB];rw[oz _ hc];simp only[SB];have e1:(pre.length:Int)+1=((pre++[c]).length:Int):=by simp
  have e2:(s:Int)+((gn b c).cd:Int)=((s+(gn b c).cd:Nat):Int):=by omega
  rw[ck (n:=(pre.length:Int)+1) (by omega),ck (n:=(s:Int)+((gn b c).cd:Int)) (by omega),e1,e2,ih (pre++[c]) (s+(gn b c).cd) (by rw[hk];simp) (by simp;omega)];simp only[CE,uM]
theorem n7 {b:Bd}{p:Pw}{f x:Nat}(h:x∈av b p f):x<b.ar.length:=(bW.1 h).1
theorem tE {b:Bd}{p:Pw}(hb:BV b)(hp:aX b p){j:Nat}(hj:j<b.n):denC E 41 [eH b,iQ p,AV.int .i64 (j:Int)] []=some ([RV.p (PV.int .i64 (bV b p j:Int))],[]):=by
 have h8:=hb.ng;have ak:=fO b p (key b p j);have l0:=PS hb (av b p (key b p j)) (λx hx=>n7 hx) (by omega) _ [] 0 rfl (by simp);rw[iD,fC]at l0;rw[ai,r41,H2 hb hp hj];simp only[SB];rw[aU,l0];simp only[SB];rfl
theorem yl {b:Bd}{p:Pw}(hb:BV b)(hp:aX b p){j:Nat}(hj:j<b.n):denC E 180 [eH b,iQ p,AV.int .i64 (j:Int)] []=some (dz (cY b p j),[]):=by
 rw[ai,ajM,H2 hb hp hj];simp only[SB];rw[aU];unfold cY;cases h:av b p (key b p j)with
 |nil=>rfl
 |cons x l=>
  rw[show((((x::l).length:Nat):Int)==0)=false by simp<;>omega,aF,show(0:Int)=((0:Nat):Int) from rfl,cE _ (by simp)];simp only[SB];rfl
theorem norm_eq (a:Int)(h:-1000000000<=a/\a<=1000000000):denC E 134 [AV.int .i64 a] []=some ([RV.p (PV.int .i64 (a %3600))],[]):=by
 have hb:=Aa (a:=a) (d:=3600) (by omega);have hf:=II (a:=a) (d:=3600) (by omega);rw[ai,ake,ah];split
 ·rename_i h1;rw[aK h1]at hf;rw[ck (n:=a.tmod 3600+3600) (by omega),hf]
 ·rename_i h1;rw[aC h1]at hf;rw[hf]
theorem afh (x y:Nat)(hx:x<3600)(hy:y<3600):denC E 82 [AV.int .i64 (x:Int),AV.int .i64 (y:Int)] []=some ([RV.p (PV.int .i64 (nC x y))],[]):=by
 rw[ai,r82,norm_eq _ (by omega),norm_eq _ (by omega)];simp only[SB];rw[show(y:Int) %3600=y by omega,show(x:Int) %3600=x by omega,ck (n:=(y:Int)-x) (by omega),norm_eq _ (by omega)];simp only[SB];unfold nC;rw[ah];split
 ·rename_i h;rw[ck (by omega)]
 ·rfl
abbrev adF (x:gL):AV:=.agg [.int .i64 (x.st:Int),.int .i64 (x.since:Int),.int .i64 (x.fr:Int),.int .i64 (x.ph:Int)]
theorem H4 {b:Bd}(hb:BV b){x y:gL}(hx:x.fr<=6000/\x.ph<3600)(hy:y.fr<=6000/\y.ph<3600):denC E 33 [eH b,adF x,adF y] []=some ([RV.p (PV.bool (agree b x y))],[]):=by
 have hd:-1800<=nC x.ph y.ph/\nC x.ph y.ph<=1800:=by unfold nC;split<;>omega
 rw[ai,r33,afh _ _ hx.2 hy.2];simp only[SB];rw[b_ (by unfold lC;split<;>omega),b_ (by unfold gu;split<;>omega)];simp only[SB];rw[ck (n:=(y.fr:Int)-x.fr) (by omega),ck (n:=(x.fr:Int)-y.fr) (by omega),ck (n:=0-nC x.ph y.ph) (by omega)];unfold agree;have e1:bJ (gu ((y.fr:Int)-x.fr) ((x.fr:Int)-y.fr)) (b.eZ:Int)=(decide (x.fr<=y.fr+b.eZ)&&decide (y.fr<=x.fr+b.eZ)):=by
  rw[uQ];simp only[lR,bO];unfold gu;split<;>omega
 have e2:bJ (gu (0-nC x.ph y.ph) (nC x.ph y.ph)) (b.phase:Int)=(decide (nC x.ph y.ph<=b.phase)&&decide (-(nC x.ph y.ph)<=b.phase)):=by
  rw[uQ];simp only[lR,bO];unfold gu;split<;>omega
 rw[e1,e2];cases decide (x.fr<=y.fr+b.eZ)<;>cases decide (y.fr<=x.fr+b.eZ)<;>simp[ctl]
abbrev Tw (p:Pw):RV:=.bm [.own 1 (bC p),.own 4 (bp p),.own 1 (bE p),.own 2 (bA p)]
abbrev pwZ:RV:=.bm [.own 1 [],.own 4 [],.own 1 [],.own 2 []]
theorem il (p:Pw):((bC p).all λe=>e.all fA)=true:=by rw[fk];intro e he;obtain⟨x,_,rfl⟩:=kE.1 he;rfl
theorem ig (p:Pw):((bp p).all λe=>e.all fA)=true:=by rw[fk];intro e he;obtain⟨x,_,rfl⟩:=kE.1 he;rfl
theorem G9 (l:List Nat):((bF l).all λe=>e.all fA)=true:=by rw[fk];intro e he;obtain⟨x,_,rfl⟩:=kE.1 he;rfl
theorem ij (p:Pw):((bE p).all λe=>e.all fA)=true:=G9 _
theorem im (p:Pw):((bA p).all λe=>e.all fA)=true:=by rw[fk];intro e he;obtain⟨x,_,rfl⟩:=kE.1 he;rfl
theorem YB (F:d_):aI E F 111 [AV.sl 1 []] []=both (some ([RV.own 1 []],[])) (some ([RV.own 1 []],[])):=by kernel_rfl
theorem YA (F:d_):aI E F 112 [AV.sl 4 []] []=both (some ([RV.own 4 []],[])) (some ([RV.own 4 []],[])):=by kernel_rfl
theorem Yz (F:d_):aI E F 102 [AV.sl 1 []] []=both (some ([RV.own 1 []],[])) (some ([RV.own 1 []],[])):=by kernel_rfl
theorem Yy (F:d_):aI E F 113 [AV.sl 2 []] []=both (some ([RV.own 2 []],[])) (some ([RV.own 2 []],[])):=by kernel_rfl
theorem ct {a c:Nat}(h:a<=c):iW a c=true:=by simpa using h
theorem WZ {l:List (List PV)}(h:l.length<=1000):denC E 111 [AV.sl 1 l] []=some ([RV.own 1 l],[]):=by
 rw[ai];cases l with
 |nil=>rw[YB,mQ]
 |cons a l=>rw[agD,ct (by omega)];rfl
theorem WY {l:List (List PV)}(h:l.length<=1000):denC E 112 [AV.sl 4 l] []=some ([RV.own 4 l],[]):=by
 rw[ai];cases l with
 |nil=>rw[YA,mQ]
 |cons a l=>rw[agC,ct (by omega)];rfl
theorem KJ {l:List (List PV)}(h:l.length<=1000):denC E 102 [AV.sl 1 l] []=some ([RV.own 1 l],[]):=by
 rw[ai];cases l with
 |nil=>rw[Yz,mQ]
 |cons a l=>rw[agE,ct (by omega)];rfl
theorem WX {l:List (List PV)}(h:l.length<=1000):denC E 113 [AV.sl 2 l] []=some ([RV.own 2 l],[]):=by
 rw[ai];cases l with
 |nil=>rw[Yy,mQ]
 |cons a l=>rw[agB,ct (by omega)];rfl
structure PSm (p:Pw):Prop where
 c:p.closed.length<=24
 s:p.aA.length<=8
 l:p.gJ.length<=16
 k:p.broken.length<=32
theorem aX.sm {b:Bd}{p:Pw}(hb:BV b)(hp:aX b p):PSm p:=⟨by rw[hp.c];exact hb.nb,by rw[hp.s];exact hb.ng,by rw[hp.l];exact hb.nc,hp.bk⟩
theorem fy {p:Pw}(hp:PSm p):denC E 57 [iQ p] []=some ([Tw p],[]):=by
 rw[ai,r57,WZ (by rw[dU];have:=hp.c;omega),WY (by rw[fP];have:=hp.s;omega),KJ (by rw[mH];have:=hp.l;omega),WX (by rw[uF];have:=hp.k;omega)];simp only[SB]
theorem drop_eq {α:Type}[Inhabited α][DecidableEq α]{l m:List α}(h:l.length=m.length){k:Nat}(hk:k<l.length):decide (l.drop k=m.drop k)=(decide (l.getD k default=m.getD k default)&&decide (l.drop (k+1)=m.drop (k+1))):=by
 rw[drop_cons hk,drop_cons (show k<m.length by omega),uQ];simp
theorem xZ {α:Type}[DecidableEq α]{l m:List α}(h:l.length=m.length){k:Nat}(hk:l.length<=k):decide (l.drop k=m.drop k)=true:=by
 rw[Bi hk,Bi (by omega)];simp
def eqX (b:Bool)(n:Nat):Ex×Pack:=if b=true then(Ex.exit n,{vals:=[],aq:=[]}) else(Ex.ret,{vals:=[AV.bool false],aq:=[]})
theorem V' {l m:List Bool}(h:l.length=m.length)(hl:l.length<=1000):∀(j k:Nat),k+j=l.length->
  lp E (denC E) 106 0 [] 0 {vals:=[AV.sl 1 (l.map vG),AV.sl 1 (m.map vG),AV.int .i64 l.length,AV.int .i64 k],aq:=[]}=some (eqX (decide (l.drop k=m.drop k)) 0):=by
 intro j
 induction j with
 |zero=>intro k hk;rw[Tm,ah,aC (by omega),xZ h (by omega)];rfl
 |succ j ih=>
  intro k hk;rw[Tm,ah,aK (by omega),bI vG default (by omega)];simp only[vG,SB];rw[bI vG default (by omega)];simp only[vG,SB];rw[ck (n:=(k:Int)+1) (by omega),aw k,ih (k+1) (by omega),drop_eq (k:=k) h (by omega)];rw[show(l.getD k default==m.getD k default)=decide (l.getD k default=m.getD k default) by rw[uQ];simp];cases decide (l.getD k default=m.getD k default)<;>rfl
theorem WU {l m:List Bool}(hl:l.length<=1000):denC E 106 [AV.sl 1 (l.map vG),AV.sl 1 (m.map vG)] []=some ([RV.p (PV.bool (decide (l=m)))],[]):=by
 rw[ai,akv,nS,nS];by_cases h:l.length=m.length
 ·have l0:=V' h hl _ 0 (dy _);rw[fC,eN,eN]at l0;rw[show(((l.length:Nat):Int) !=((m.length:Nat):Int))=false by simp[h],aF,l0];unfold eqX;by_cases he:l=m
  ·simp only[he,decide_true,vg,SB]
  ·simp only[he,FJ,oQ,yZ,SB]
 ·have he:¬l=m:=λe=>h (by rw[e]);rw[show(((l.length:Nat):Int) !=((m.length:Nat):Int))=true by simp;omega,ay];simp[he]
theorem run_eq (x y:gL):(((x.st:Int)==(y.st:Int))&&(((x.since:Int)==(y.since:Int))&&(((x.fr:Int)==(y.fr:Int))&&((x.ph:Int)==(y.ph:Int)))))=decide (x=y):=by
 rw[gi,gi,gi,gi,uQ];cases x;cases y;simp
theorem V8 {l m:List gL}(h:l.length=m.length)(hl:l.length<=1000):∀(j k:Nat),k+j=l.length->
  lp E (denC E) 107 0 [] 0 {vals:=[AV.sl 4 (l.map kC),AV.sl 4 (m.map kC),AV.int .i64 l.length,AV.int .i64 k],aq:=[]}=some (eqX (decide (l.drop k=m.drop k)) 0):=by
 intro j
 induction j with
 |zero=>intro k hk;rw[Tl,ah,aC (by omega),xZ h (by omega)];rfl
 |succ j ih=>
  intro k hk;rw[Tl,ah,aK (by omega),bI kC default (by omega),show kC (l.getD k default)=[PV.int .i64 ((l.getD k default).st:Int),PV.int .i64 ((l.getD k default).since:Int),PV.int .i64 ((l.getD k default).fr:Int),PV.int .i64 ((l.getD k default).ph:Int)] from rfl];simp only[SB];rw[bI kC default (by omega),show kC (m.getD k default)=[PV.int .i64 ((m.getD k default).st:Int),PV.int .i64 ((m.getD k default).since:Int),PV.int .i64 ((m.getD k default).fr:Int),PV.int .i64 ((m.getD k default).ph:Int)] from rfl];simp only[SB,run_eq];rw[ck (n:=(k:Int)+1) (by omega),aw k,ih (k+1) (by omega),drop_eq (k:=k) h (by omega)];cases decide (l.getD k default=m.getD k default)<;>rfl
theorem WT {l m:List gL}(hl:l.length<=1000):denC E 107 [AV.sl 4 (l.map kC),AV.sl 4 (m.map kC)] []=some ([RV.p (PV.bool (decide (l=m)))],[]):=by
 rw[ai,aku,nS,nS];by_cases h:l.length=m.length
 ·have l0:=V8 h hl _ 0 (dy _);rw[fC,eN,eN]at l0;rw[show(((l.length:Nat):Int) !=((m.length:Nat):Int))=false by simp[h],aF,l0];unfold eqX;by_cases he:l=m
  ·simp only[he,decide_true,vg,SB]
  ·simp only[he,FJ,oQ,yZ,SB]
 ·have he:¬l=m:=λe=>h (by rw[e]);rw[show(((l.length:Nat):Int) !=((m.length:Nat):Int))=true by simp;omega,ay];simp[he]
theorem V_ {l m:List Nat}(h:l.length=m.length)(hl:l.length<=1000):∀(j k:Nat),k+j=l.length->
  lp E (denC E) 108 0 [] 0 {vals:=[AV.sl 1 (bF l),AV.sl 1 (bF m),AV.int .i64 l.length,AV.int .i64 k],aq:=[]}=some (eqX (decide (l.drop k=m.drop k)) 0):=by
 intro j
 induction j with
 |zero=>intro k hk;rw[Tk,ah,aC (by omega),xZ h (by omega)];rfl
 |succ j ih=>
  intro k hk;rw[Tk,ah,aK (by omega),cE _ (by omega)];simp only[SB];rw[cE _ (by omega)];simp only[SB];rw[ck (n:=(k:Int)+1) (by omega),aw k,ih (k+1) (by omega),drop_eq (k:=k) h (by omega)];rw[show(((l.getD k 0:Nat):Int) !=((m.getD k 0:Nat):Int))= !decide (l.getD k default=m.getD k default) by
   show(!(((l.getD k 0:Nat):Int)==((m.getD k 0:Nat):Int)))= !decide (l.getD k 0=m.getD k 0);rw[gi];congr 1]
  cases decide (l.getD k default=m.getD k default)<;>rfl
theorem WS {l m:List Nat}(hl:l.length<=1000):denC E 108 [AV.sl 1 (bF l),AV.sl 1 (bF m)] []=some ([RV.p (PV.bool (decide (l=m)))],[]):=by
 rw[ai,akt,aU,aU];by_cases h:l.length=m.length
 ·have l0:=V_ h hl _ 0 (dy _);rw[fC,eN,eN]at l0;rw[show(((l.length:Nat):Int) !=((m.length:Nat):Int))=false by simp[h],aF,l0];unfold eqX;by_cases he:l=m
  ·simp only[he,decide_true,vg,SB]
  ·simp only[he,FJ,oQ,yZ,SB]
 ·have he:¬l=m:=λe=>h (by rw[e]);rw[show(((l.length:Nat):Int) !=((m.length:Nat):Int))=true by simp;omega,ay];simp[he]
theorem YM (x y:Nat×Nat):(((x.1:Int)==(y.1:Int))&&((x.2:Int)==(y.2:Int)))=decide (x=y):=by
 rw[gi,gi,uQ];cases x;cases y;simp
theorem V9 {l m:List (Nat×Nat)}(h:l.length=m.length)(hl:l.length<=1000):∀(j k:Nat),k+j=l.length->
  lp E (denC E) 109 0 [] 0 {vals:=[AV.sl 2 (l.map Ob),AV.sl 2 (m.map Ob),AV.int .i64 l.length,AV.int .i64 k],aq:=[]}=some (eqX (decide (l.drop k=m.drop k)) 0):=by
 intro j
 induction j with
 |zero=>intro k hk;rw[Tj,ah,aC (by omega),xZ h (by omega)];rfl
 |succ j ih=>
  intro k hk;rw[Tj,ah,aK (by omega),bI Ob default (by omega),show Ob (l.getD k default)=[PV.int .i64 ((l.getD k default).1:Int),PV.int .i64 ((l.getD k default).2:Int)] from rfl];simp only[SB];rw[bI Ob default (by omega),show Ob (m.getD k default)=[PV.int .i64 ((m.getD k default).1:Int),PV.int .i64 ((m.getD k default).2:Int)] from rfl];simp only[SB,YM];rw[ck (n:=(k:Int)+1) (by omega),aw k,ih (k+1) (by omega),drop_eq (k:=k) h (by omega)];cases decide (l.getD k default=m.getD k default)<;>rfl
theorem WR {l m:List (Nat×Nat)}(hl:l.length<=1000):denC E 109 [AV.sl 2 (l.map Ob),AV.sl 2 (m.map Ob)] []=some ([RV.p (PV.bool (decide (l=m)))],[]):=by
 rw[ai,aks,nS,nS];by_cases h:l.length=m.length
 ·have l0:=V9 h hl _ 0 (dy _);rw[fC,eN,eN]at l0;rw[show(((l.length:Nat):Int) !=((m.length:Nat):Int))=false by simp[h],aF,l0];unfold eqX;by_cases he:l=m
  ·simp only[he,decide_true,vg,SB]
  ·simp only[he,FJ,oQ,yZ,SB]
 ·have he:¬l=m:=λe=>h (by rw[e]);rw[show(((l.length:Nat):Int) !=((m.length:Nat):Int))=true by simp;omega,ay];simp[he]
theorem zO {p q:Pw}(hp:PSm p):denC E 54 [iQ p,iQ q] []=some ([RV.p (PV.bool (decide (p=q)))],[]):=by
 have h1:=hp.c;have h2:=hp.s;have h3:=hp.l;have h4:=hp.k;rw[ai,r54,show bC p=p.closed.map vG from rfl,show bC q=q.closed.map vG from rfl,WU (by omega),show bp p=p.aA.map kC from rfl,show bp q=q.aA.map kC from rfl,WT (by omega),show bE p=bF p.gJ from rfl,show bE q=bF q.gJ from rfl,WS (by omega),show bA p=p.broken.map Ob from rfl,show bA q=q.broken.map Ob from rfl,WR (by omega)];simp only[SB];congr 4;refine congrArg PV.bool ?_;rw[uQ];cases p;cases q;simp[and_assoc]
theorem fB:((0:Int) !=0)=false:=rfl
theorem lY {b:Bd}(hb:BV b){i:Nat}(hi:i<b.aO.length):(br b i).a<b.n/\((br b i).k=1->(br b i).a<(br b i).b/\(br b i).b<b.n)/\((br b i).k=2->(br b i).b<b.ar.length)/\((br b i).k=3->(br b i).b<b.cons.length)/\1<=(br b i).k/\(br b i).k<=3:=hb.tie _ (qW hb.bT hi)
theorem aay {b:Bd}{p:Pw}(hb:BV b)(hp:aX b p){i:Nat}(hi:i<b.aO.length):denC E 194 [eH b,iQ p,AV.int .i64 (i:Int)] []=some ([RV.p (PV.bool (lQ b p i))],[]):=by
 have ht:=lY hb hi;have hs:=hp.s;rw[ai,ajF,cF _ hi];simp only[SB];rw[k_ _ (by rw[hp.c];exact hi)];rw[show((2:Int))=((2:Nat):Int) from rfl,show((3:Int))=((3:Nat):Int) from rfl,show((1:Int))=((1:Nat):Int) from rfl,show((4:Int))=((4:Nat):Int) from rfl];simp only[h_ (b:=b) hp,ac' hb hp,gi,SB];unfold lQ;by_cases h1:(br b i).k=1
 ·rw[aK h1,h1];cases cl p i<;>cases lh p 2 i<;>cases lh p 3 (br b i).a<;>rfl
 ·rw[aC h1,show((br b i).k==1)=false by simp[h1]];by_cases h2:(br b i).k=2
  ·rw[aK h2,h2];have h3:=ht.2.2.1 h2;simp only[aF];rw[dv _ (by omega)];simp only[gi,SB];cases cl p i<;>cases lh p 2 i<;>cases lh p 3 (br b i).a<;>cases lh p 1 (br b i).b<;>rfl
  ·rw[aC h2,show((br b i).k==2)=false by simp[h2]];cases iF b p (br b i).b<;>cases cl p i<;>cases lh p 2 i<;>cases lh p 3 (br b i).a<;>cases lh p 4 (br b i).b<;>rfl
theorem uq {b:Bd}{p:Pw}{j l:Nat}(h:cY b p j=some l):l<b.ar.length:=by
 unfold cY at h;exact n7 (List.mem_of_mem_head? h)
theorem Fl {b:Bd}{p:Pw}(hb:BV b)(hp:aX b p){i:Nat}(hi:i<b.aO.length):denC E 195 [eH b,iQ p,AV.agg [PV.int .i64 ((br b i).k:Int),PV.int .i64 ((br b i).a:Int),PV.int .i64 ((br b i).b:Int)]] []=some ([RV.p (PV.bool (u6 b p (br b i)))],[]):=by
 have ht:=lY hb hi;have hs:=hp.s;rw[ai,ajE,yl hb hp ht.1];unfold u6;cases hl:cY b p (br b i).a with
 |none=>simp only[dz,SB]
 |some f=>
  have hf:=uq hl;simp only[dz,SB];rw[rL,rK];by_cases h1:(br b i).k=1
  ·rw[aK h1,h1,show((1:Nat)==1)=true from rfl,ay,yl hb hp (ht.2.1 h1).2];cases hs2:cY b p (br b i).b with
   |none=>simp only[dz,SB]
   |some s=>
    have hs3:=uq hs2;simp only[dz,SB];rw[dv _ (by omega)];simp only[SB];rw[dv _ (by omega)];simp only[SB];rw[H4 hb ⟨(hp.runs hf).2.2.1,(hp.runs hf).2.2.2⟩ ⟨(hp.runs hs3).2.2.1,(hp.runs hs3).2.2.2⟩];simp only[SB]
  ·rw[aC h1,show((br b i).k==1)=false by simp[h1],aF];by_cases h2:(br b i).k=2
   ·have hs3:=ht.2.2.1 h2;rw[aK h2,h2,show((2:Nat)==2)=true from rfl,ay,dv _ (by omega)];simp only[SB];rw[dv _ (by omega)];simp only[SB];rw[H4 hb ⟨(hp.runs hf).2.2.1,(hp.runs hf).2.2.2⟩ ⟨(hp.runs hs3).2.2.1,(hp.runs hs3).2.2.2⟩];simp only[SB]
   ·rw[aC h2,show((br b i).k==2)=false by simp[h2],aF]
def P_ (b:Bd)(p:Pw)(i:Nat):Int:=if lQ b p i=true then(if (wN b p (br b i)||u6 b p (br b i))=true then 0 else 12) else 11
theorem Ml {b:Bd}{p:Pw}{i:Nat}:P_ b p i=0↔Dc b p i=true:=by
 unfold P_ Dc;cases lQ b p i<;>cases(wN b p (br b i)||u6 b p (br b i))<;>simp
theorem ail {b:Bd}{p:Pw}(hb:BV b)(hp:aX b p){i:Nat}(hi:i<b.aO.length):denC E 181 [eH b,iQ p,AV.int .i64 (i:Int)] []=some ([RV.p (PV.int .i64 (P_ b p i))],[]):=by
 have ht:=lY hb hi;have h6:=hb.n6;have hbl:=lO b p (key b p (br b i).a);rw[ai,ajL,eM hb hp,aay hb hp hi];simp only[SB];rw[fB,bS,b_ (by omega),rG (by omega),cF _ hi];simp only[SB];rw[H2 hb hp ht.1,Fl hb hp hi];simp only[SB];rw[nH (by omega),rL];simp only[SB];unfold P_ wN;cases lQ b p i with
 |false=>rfl
 |true=>
  by_cases h1:(br b i).k=1
  ·have hc:(aZ b p (key b p (br b i).a)).contains (br b i).b=(key b p (br b i).b==key b p (br b i).a):=by
    rw[uQ,na,mN,w8];exact⟨λh=>h.2,λh=>⟨(ht.2.1 h1).2,h⟩⟩
   rw[hc,h1];cases(key b p (br b i).b==key b p (br b i).a)<;>cases u6 b p (br b i)<;>rfl
  ·rw[show((br b i).k==1)=false by simp[h1]];cases u6 b p (br b i)<;>rfl
def yO (s:List gL)(l:List Nat)(r:gL):List gL:=l.foldl (λs i=>s.set i (jz (s.getD i default) r)) s
theorem pF (r:gL):∀(l:List Nat) (s:List gL),(yO s l r).length=s.length
 |[],s=>rfl
 |x::l,s=>by show(yO (s.set x _) l r).length=_;rw[pF r l];simp
theorem B9 (r:gL):∀(l:List Nat) (s:List gL) (j:Nat),j<s.length->(yO s l r).getD j default=if l.contains j=true then jz (s.getD j default) r else s.getD j default
 |[],s,j,_=>by simp[yO]
 |x::l,s,j,hj=>by
  have ih:=B9 r l (s.set x (jz (s.getD x default) r)) j (by simpa using hj);show(yO (s.set x _) l r).getD j default=_;rw[ih];have e:(s.set x (jz (s.getD x default) r)).getD j default=if j=x then jz (s.getD x default) r else s.getD j default:=by
   simp only[dD,qy];by_cases h:x=j
   ·subst h;simp[hj]
   ·rw[aC h,aC (vd h)]
  rw[e,I_];by_cases h:j=x
  ·subst h;simp only[xa,Ct,vg];split<;>rfl
  ·rw[aC h,show(j==x)=false by simpa using h,vR]
theorem B_ {s:List gL}{i:Nat}(h:i<s.length)(r:gL):bg (bg (s.map kC) i 2 [PV.int .i64 (r.fr:Int)]) i 3 [PV.int .i64 (r.ph:Int)]=(s.set i (jz (s.getD i default) r)).map kC:=by
 have e1:bg (s.map kC) i 2 [PV.int .i64 (r.fr:Int)]=(s.set i ⟨(s.getD i default).st,(s.getD i default).since,r.fr,(s.getD i default).ph⟩).map kC:=by
  unfold bg;rw[dS (d:=default) h];exact mo (f:=kC) (⟨(s.getD i default).st,(s.getD i default).since,r.fr,(s.getD i default).ph⟩:gL)
 rw[e1];unfold bg;rw[dS (d:=default) (by simpa using h)];have e2:(s.set i ⟨(s.getD i default).st,(s.getD i default).since,r.fr,(s.getD i default).ph⟩).getD i default=(⟨(s.getD i default).st,(s.getD i default).since,r.fr,(s.getD i default).ph⟩:gL):=by simp[dD,h]
 rw[e2];have:=mo (f:=kC) (L:=s.set i ⟨(s.getD i default).st,(s.getD i default).since,r.fr,(s.getD i default).ph⟩) (i:=i) (jz (s.getD i default) r);rw[List.set_set]at this;exact this
abbrev Hw:au:=.box [AV.t (.ak 0),AV.t (.ak 1),AV.t (.ak 2),AV.t (.ak 3)]
abbrev ajq (x:gL):au:=.box [.int .i64 (x.st:Int),.int .i64 (x.since:Int),.int .i64 (x.fr:Int),.int .i64 (x.ph:Int)]
theorem RZ {L:List Nat}(hL:L.length<=1000){c0 c2 c3:List (List PV)}{r:gL}:∀(l pre:List Nat) (s:List gL),L=pre++l->(∀x∈l,x<s.length)->
  lp E (denC E) 143 4 [] 0 {vals:=[AV.sl 1 (bF L),AV.int .i64 L.length,AV.int .i64 pre.length],aq:=[au.arr 1 c0,au.arr 4 (s.map kC),au.arr 1 c2,au.arr 2 c3,Hw,ajq r]}=
   some (Ex.exit 0,{vals:=[],aq:=[au.arr 1 c0,au.arr 4 ((yO s l r).map kC),au.arr 1 c2,au.arr 2 c3]}):=by
 intro l
 induction l with
 |nil=>
  intro pre s hk hx;rw[Ta,ah,aC (by rw[hk];simp)];rfl
 |cons x l ih=>
  intro pre s hk hx;have hpl:pre.length<L.length:=by rw[hk];simp
  have hg:L.getD pre.length 0=x:=by rw[hk];simp[List.getD]
  have BO:=hx x (by simp);have e1:(pre.length:Int)+1=((pre++[x]).length:Int):=by simp
  rw[Ta,ah,aK (by omega),cE _ hpl,hg];simp only[SB];rw[nS,bG BO,ay,bo,show(bg (s.map kC) x 2 [PV.int .i64 (r.fr:Int)]).length=s.length by simp[bg,oL],bG BO,ay,B_ BO,ck (n:=(pre.length:Int)+1) (by omega),e1];exact ih (pre++[x]) _ (by rw[hk];simp) (λy hy=>by simpa using hx y (by simp[hy]))
theorem WD {L:List Nat}(hL:L.length<=1000){c0 c2 c3:List (List PV)}{r:gL}{s:List gL}(hx:∀x∈L,x<s.length):denC E 143 [AV.bm [.ak 0,.ak 1,.ak 2,.ak 3],AV.sl 1 (bF L),adF r] [au.arr 1 c0,au.arr 4 (s.map kC),au.arr 1 c2,au.arr 2 c3]=
  some ([],[au.arr 1 c0,au.arr 4 ((yO s L r).map kC),au.arr 1 c2,au.arr 2 c3]):=by
 have l0:=RZ hL (c0:=c0) (c2:=c2) (c3:=c3) (r:=r) L [] s rfl hx;rw[iD,fC]at l0;rw[ai,aj',aU,l0];simp only[SB,Nat.reduceAdd]
def Bq (b:Bd)(p:Pw):List Nat->List gL->List gL
 |[],s=>s
 |f::l,s=>Bq b p l (match av b p f with|[]=>s|x::xs=>yO s (x::xs) (sr p x))
theorem J' {b:Bd}{p:Pw}{j:Nat}:∀(l:List Nat) (s:List gL),l.Nodup->j<s.length->(∀f∈l,j∈av b p f->s.getD j default=sr p j)->
  (Bq b p l s).getD j default=match conn b p j with|some u=>(if j<b.ar.length/\key b p u∈l then jz (sr p j) (sr p ((av b p (key b p u)).headD j)) else s.getD j default)|none=>s.getD j default
 |[],s,_,hj,_=>by simp[Bq];split<;>rfl
 |f::l,s,hn,hj,hs=>by
  obtain⟨hf,hn⟩:=vS.1 hn;obtain⟨s',e⟩:∃s',(match av b p f with|[]=>s|x::xs=>yO s (x::xs) (sr p x))=s':=⟨_,rfl⟩
  have hlen:s'.length=s.length:=by rw[<-e];split<;>first|rfl|exact pF ..
  have qL:s'.getD j default=if j∈av b p f then jz (sr p j) (sr p ((av b p f).headD j)) else s.getD j default:=by
   rw[<-e];cases h:av b p f with
   |nil=>simp
   |cons x xs=>
    simp only;rw[B9 _ _ _ _ hj];by_cases hm:j∈x::xs
    ·rw[aK (by simpa using hm),aK hm,hs f (by simp) (by rw[h];exact hm)];rfl
    ·rw[aC (by simpa using hm),aC hm]
  have U8:j∈av b p f↔j<b.ar.length/\∃u,conn b p j=some u/\key b p u=f:=bW;have ih:=J' (j:=j) l s' hn (by rw[hlen];exact hj) (λg hg hm=>by
   rw[qL,aC]
   ·exact hs g (by simp[hg]) hm
   ·intro MF;obtain⟨_,u,h1,h2⟩:=U8.1 MF;obtain⟨_,v,h3,h4⟩:=bW.1 hm;rw[h1]at h3;cases h3;rw[<-h2,h4]at hf;exact hf hg)
  show(Bq b p l (match av b p f with|[]=>s|x::xs=>yO s (x::xs) (sr p x))).getD j default=_;rw[e,ih];cases hc:conn b p j with
  |none=>
   simp only;rw[qL,aC];intro hm;obtain⟨_,u,h1,_⟩:=U8.1 hm;rw[hc]at h1;cases h1
  |some u=>
   simp only;by_cases hfu:key b p u=f
   ·have hnl:¬key b p u∈l:=by rw[hfu];exact hf
    rw[aC (λh=>hnl h.2),qL];by_cases hg:j<b.ar.length
    ·rw[aK (U8.2 ⟨hg,u,hc,hfu⟩),aK ⟨hg,by rw[hfu];simp⟩,hfu]
    ·rw[aC (λh=>hg (U8.1 h).1),aC (λh=>hg h.1)]
   ·have hne:¬j∈av b p f:=λhm=>by
     obtain⟨_,v,h1,h2⟩:=U8.1 hm;rw[hc]at h1;cases h1;exact hfu h2
    rw[qL,aC hne];have:(key b p u∈f::l)↔key b p u∈l:=by simp[hfu]
    simp only[this]
theorem DR {b:Bd}{p:Pw}:∀(l:List Nat) (s:List gL),(Bq b p l s).length=s.length
 |[],s=>rfl
 |f::l,s=>by
  show(Bq b p l _).length=_;rw[DR l];split<;>first|rfl|exact pF ..
theorem Hg (b:Bd)(p:Pw):(aH b p).Nodup:=Jc _ FP
theorem Ka {b:Bd}{p:Pw}(hb:BV b)(hp:aX b p):Bq b p (aH b p) p.aA=(follow b p).aA:=by
 refine DU (by rw[DR];simp[follow]) λj hj=> ?_;rw[DR]at hj;rw[J' _ _ (Hg b p) hj (λ_ _ _=>rfl)];show _=sr (follow b p) j;rw[pE hj];cases hc:conn b p j with
 |none=>rfl
 |some u=>
  have hg:j<b.ar.length:=by rw[<-hp.s];exact hj
  simp only;rw[aK ⟨hg,U7 hb (fE hb.bT hp.c hg hc)⟩]
theorem J9 {b:Bd}{p:Pw}(hb:BV b)(hp:aX b p){x0 x1 x2 x3 c0 c2 c3:List (List PV)}:∀(l pre:List Nat) (s:List gL),aH b p=pre++l->s.length=p.aA.length->
  lp E (denC E) 99 0 [] 0 {vals:=[AV.sl 3 (cI b p),AV.int .i64 (aH b p).length,AV.int .i64 pre.length],aq:=[kq p,au.box [AV.sl 1 x0,AV.sl 4 x1,AV.sl 1 x2,AV.sl 2 x3],au.box [AV.t (.ak 3),AV.t (.ak 4),AV.t (.ak 5),AV.t (.ak 6)],au.arr 1 c0,au.arr 4 (s.map kC),au.arr 1 c2,au.arr 2 c3]}=
   some (Ex.exit 0,{vals:=[],aq:=[au.box [AV.sl 1 x0,AV.sl 4 x1,AV.sl 1 x2,AV.sl 2 x3],au.box [AV.t (.ak 2),AV.t (.ak 3),AV.t (.ak 4),AV.t (.ak 5)],au.arr 1 c0,au.arr 4 ((Bq b p l s).map kC),au.arr 1 c2,au.arr 2 c3]}):=by
 have h6:=hb.n6;have h8:=hb.ng;have ir:=fU b p;intro l
 induction l with
 |nil=>
  intro pre s hk hs;rw[abr,ah,aC (by rw[hk];simp)];rfl
 |cons f l ih=>
  intro pre s hk hs;have hpl:pre.length<(aH b p).length:=by rw[hk];simp
  have hg:(aH b p).getD pre.length 0=f:=by rw[hk];simp[List.getD]
  have uu:∀K:List PV->Option (Ex×Pack),aG (cI b p) (pre.length:Int) K=K (fh b p f):=λK=>by
   have:=bI (fh b p) 0 hpl K;rw[hg]at this;exact this
  have e1:(pre.length:Int)+1=((pre++[f]).length:Int):=by simp
  have ak:=fO b p f;have hlt:∀x∈av b p f,x<s.length:=λx hx=>by rw[hs,hp.s];exact n7 hx
  rw[abr,ah,aK (by omega),uu];unfold fh;simp only[SB];rw[aU,ck (n:=(pre.length:Int)+1) (by omega),e1];unfold Bq;cases Q9:av b p f with
  |nil=>
   rw[show aT 0 (([]:List Nat).length:Int)=false from rfl,aF];exact ih (pre++[f]) s (by rw[hk];simp) hs
  |cons x xs=>
   rw[Q9]at hlt ak;have hxp:=hlt x (by simp);rw[iz (by simp<;>omega),ay,show(0:Int)=((0:Nat):Int) from rfl,cE _ (by simp)];simp only[SB];rw[show(x::xs).getD 0 0=x from rfl,dv _ (by omega)];simp only[SB];rw[WD (L:=x::xs) (by omega) hlt];simp only[SB];exact ih (pre++[f]) _ (by rw[hk];simp) (by rw[pF];exact hs)
theorem Ef {b:Bd}{p:Pw}(hb:BV b)(hp:aX b p):denC E 99 [eH b,iQ p] []=some ([Tw (follow b p),RV.p (PV.int .i64 0)],[]):=by
 have l0:=J9 hb hp (x0:=[]) (x1:=[]) (x2:=[]) (x3:=[]) (c0:=bC p) (c2:=bE p) (c3:=bA p) _ [] p.aA rfl rfl;rw[iD,fC]at l0;rw[ai,r99,eM hb hp,fy (hp.sm hb),mP hb hp];simp only[fB,SB,Nat.reduceAdd];rw[show(cI b p).length=(aH b p).length by simp[cI],show bp p=p.aA.map kC from rfl,show(au.box [AV.sl 1 (bC p),AV.sl 4 (p.aA.map kC),AV.sl 1 (bE p),AV.sl 2 (bA p)])=kq p from rfl,l0];simp only[SB];have hfa:=Ka hb hp;unfold aH at hfa;rw[hfa];rfl
theorem lv {p:Pw}{i:Nat}(h:i<p.closed.length)(v:Bool):bg (bC p) i 0 [PV.bool v]=bC (cA p i v):=by
 unfold bg bC;rw[dS (d:=false) h];exact mo (f:=vG) v
theorem aaU {b:Bd}{p:Pw}(hb:BV b)(hp:aX b p){i:Nat}(hi:i<b.aO.length):∃e:Int,denC E 162 [eH b,iQ p,AV.int .i64 (i:Int)] []=some (match lW b p i with|some q=>([Tw q,RV.p (PV.int .i64 0)],[])|none=>([pwZ,RV.p (PV.int .i64 e)],[]))/\e≠0:=by
 rw[ai,ajY,ail hb hp hi];simp only[SB];unfold lW;by_cases hm:Dc b p i=true
 ·have hs:lQ b p i=true:=by unfold Dc at hm;simp only[bO]at hm;exact hm.1
  refine⟨1,?_,by decide⟩;rw[aK hm,Ml.2 hm,fB,aF,fy (hp.sm hb)];simp only[SB];rw[dU,bG (by rw[hp.c];exact hi),ay,bo,lv (by rw[hp.c];exact hi)];rw[show denC E 99 [AV.t (TV.agg [PV.int .i64 (b.n:Int),PV.sl 3 (fW b),PV.sl 3 (oW b),PV.sl 5 (nQ b),PV.int .i64 (b.phase:Int),PV.int .i64 (b.eZ:Int)]),AV.t (TV.agg [PV.sl 1 (bC (cA p i true)),PV.sl 4 (bp p),PV.sl 1 (bE p),PV.sl 2 (bA p)])] []=_ from Ef hb (hp.close_ hb.bT hi hs)];simp only[SB,jV,il,ig,ij,im]
 ·refine⟨P_ b p i,?_,λh=>hm (Ml.1 h)⟩;rw[aC hm,show(P_ b p i !=0)=true by simp;exact λh=>hm (Ml.1 h)];rfl
theorem afg {b:Bd}{p:Pw}(hb:BV b)(hp:aX b p){i:Nat}(hi:i<b.aO.length):∃e:Int,denC E 163 [eH b,iQ p,AV.int .i64 (i:Int)] []=some (match rE b p i with|some q=>([Tw q,RV.p (PV.int .i64 0)],[])|none=>([pwZ,RV.p (PV.int .i64 e)],[]))/\e≠0:=by
 refine⟨11,?_,by decide⟩;rw[ai,ajX,eM hb hp];simp only[SB];rw[fB,bS,b_ (by omega),rG (by omega),k_ _ (by rw[hp.c];exact hi)];simp only[SB];rw[show((2:Int))=((2:Nat):Int) from rfl,h_ (b:=b) hp,fy (hp.sm hb)];simp only[SB];rw[dU,bG (by rw[hp.c];exact hi),ay,bo,lv (by rw[hp.c];exact hi)];unfold rE;cases h1:cl p i<;>cases h2:lh p 2 i<;>simp[ctl]<;>exact⟨rfl,rfl,rfl⟩
theorem wS {p:Pw}{l:List Nat}{r:gL}:(eJ p l r).aA=yO p.aA l r:=by
 refine DU (by rw[pF];simp[eJ]) λj hj=> ?_;have EF:j<p.aA.length:=by simpa[eJ]using hj
 rw[B9 _ _ _ _ EF];exact gO EF
theorem aaT {b:Bd}{p:Pw}(hb:BV b)(hp:aX b p){s u:Nat}(hs:s<b.ar.length)(hu:u<b.n):∃e:Int,denC E 164 [eH b,iQ p,AV.int .i64 (s:Int),AV.int .i64 (u:Int)] []=some (match jX b p s u with|some q=>([Tw q,RV.p (PV.int .i64 0)],[])|none=>([pwZ,RV.p (PV.int .i64 e)],[]))/\e≠0:=by
 refine⟨11,?_,by decide⟩;have h8:=hb.ng;have hsp:=hp.s;rw[ai,ajW,eM hb hp];simp only[SB];rw[fB,dM,b_ (by omega),rG (by omega),b_ (by omega),rG (by omega),yl hb hp hu];unfold jX;cases hl:cY b p u with
 |none=>simp only[dz,SB]
 |some l=>
  have hlg:=uq hl;simp only[dz,SB];rw[dv _ (by omega),fy (hp.sm hb),tG hb hp hs];simp only[SB];by_cases h2:(sr p s).st=2
  ·rw[aK h2,h2,show(((2:Nat):Int) !=2)=false from rfl,aF];unfold zh;cases hc:conn b p s with
   |none=>
    simp only[dz,SB];rw[dv _ (by omega)];simp only[SB];have:=WD (L:=[s]) (by simp) (c0:=bC p) (c2:=bE p) (c3:=bA p) (r:=sr p l) (s:=p.aA) (by simp;omega);rw[show([[PV.int .i64 (s:Int)]]:List (List PV))=bF [s] from rfl,show bp p=p.aA.map kC from rfl,this];simp only[SB,il,ij,im];rw[<-wS];have h3:=ig (eJ p [s] (sr p l));rw[show(eJ p [s] (sr p l)).aA.map kC=bp (eJ p [s] (sr p l)) from rfl,h3];rfl
   |some v=>
    have hv:=fE hb.bT hp.c hs hc;simp only[dz,SB];rw[H2 hb hp hv];simp only[SB];rw[dv _ (by omega)];simp only[SB];have ak:=fO b p (key b p v);rw[show bp p=p.aA.map kC from rfl,WD (L:=av b p (key b p v)) (by omega) (λx hx=>by rw[hp.s];exact n7 hx)];simp only[SB];rw[<-wS];rfl
  ·rw[aC h2,show((((sr p s).st:Nat):Int) !=2)=true by simp;omega];rfl
theorem RK {s:List gL}{i:Nat}(h:i<s.length)(v:Nat):bg (s.map kC) i 3 [PV.int .i64 (v:Int)]=(s.set i ⟨(s.getD i default).st,(s.getD i default).since,(s.getD i default).fr,v⟩).map kC:=by
 unfold bg;rw[dS (d:=default) h];exact mo (f:=kC) (⟨(s.getD i default).st,(s.getD i default).since,(s.getD i default).fr,v⟩:gL)
theorem Pd {b:Bd}{p:Pw}(hb:BV b)(hp:aX b p){x0 x1 x2 x3 c0 c2 c3:List (List PV)}:∀(m k:Nat),k+m=p.aA.length->
  lp E (denC E) 183 0 [] 0 {vals:=[AV.sl 4 (bp p),AV.int .i64 p.aA.length,AV.int .i64 k],aq:=[au.box [AV.sl 1 x0,AV.sl 4 x1,AV.sl 1 x2,AV.sl 2 x3],au.box [AV.t (.ak 2),AV.t (.ak 3),AV.t (.ak 4),AV.t (.ak 5)],au.arr 1 c0,au.arr 4 (((p.aA.take k).map cg++p.aA.drop k).map kC),au.arr 1 c2,au.arr 2 c3]}=
   some (Ex.exit 0,{vals:=[],aq:=[au.box [AV.sl 1 x0,AV.sl 4 x1,AV.sl 1 x2,AV.sl 2 x3],au.box [AV.t (.ak 2),AV.t (.ak 3),AV.t (.ak 4),AV.t (.ak 5)],au.arr 1 c0,au.arr 4 ((p.aA.map cg).map kC),au.arr 1 c2,au.arr 2 c3]}):=by
 have h8:=hb.ng;have hs:=hp.s;intro m
 induction m with
 |zero=>
  intro k hk;rw[SX,ah,aC (by omega),List.take_of_length_le (by omega),Bi (by omega),uN]
 |succ m ih=>
  intro k hk;have ir:k<p.aA.length:=by omega
  have hr:=hp.runs (i:=k) (by omega);have ih':=ih (k+1) (by omega);have e1:(p.aA.take k).map cg++p.aA.drop k=(p.aA.take k).map cg++sr p k::p.aA.drop (k+1):=by rw[drop_cons ir];rfl
  have e2:(p.aA.take (k+1)).map cg++p.aA.drop (k+1)=(p.aA.take k).map cg++cg (sr p k)::p.aA.drop (k+1):=by
   rw[List.take_succ_eq_append_getElem ir,List.map_append,lz];congr 1;simp[sr,dD,ir]
  have hlen:((p.aA.take k).map cg++sr p k::p.aA.drop (k+1)).length=p.aA.length:=by simp;omega
  have hlk:((p.aA.take k).map cg).length=k:=by simp;omega
  have qL:((p.aA.take k).map cg++sr p k::p.aA.drop (k+1)).getD k default=sr p k:=by
   rw[dD,EN (by omega),hlk,FO];rfl
  rw[e2]at ih';rw[SX,ah,aK (by omega),dv _ ir,e1];simp only[SB];rw[ck (n:=(k:Int)+1) (by omega),aw k,rK];by_cases h2:(sr p k).st=2
  ·rw[h2,show((2:Nat)==2)=true from rfl,ay,ck (n:=(((sr p k).fr:Nat):Int)-5000) (by omega),ck (n:=36*(((sr p k).fr:Int)-5000)) (by omega),ck (n:=((sr p k).ph:Int)+36*(((sr p k).fr:Int)-5000)) (by omega),norm_eq _ (by omega)];simp only[SB];have e3:(((sr p k).ph:Int)+36*(((sr p k).fr:Int)-5000)) %3600=(((((sr p k).ph:Int)+36*(((sr p k).fr:Int)-5000)) %3600).toNat:Int):=by omega
   rw[nS,hlen,bG ir,ay,bo,e3,RK (by rw[hlen];exact ir),qL,List.set_append_right _ _ (by omega),hlk,FO,Cw];have e4:cg (sr p k)=⟨(sr p k).st,(sr p k).since,(sr p k).fr,((((sr p k).ph:Int)+36*(((sr p k).fr:Int)-5000)) %3600).toNat⟩:=by unfold cg;rw[aK h2]
   rw[e4]at ih';exact ih'
  ·have e4:cg (sr p k)=sr p k:=by unfold cg;rw[aC h2]
   rw[e4]at ih';rw[show((sr p k).st==2)=false by simpa using h2,aF];exact ih'
theorem afc {b:Bd}{p:Pw}(hb:BV b)(hp:aX b p):denC E 183 [eH b,iQ p] []=some ([Tw (ID p),RV.p (PV.int .i64 0)],[]):=by
 have l0:=Pd hb hp (x0:=[]) (x1:=[]) (x2:=[]) (x3:=[]) (c0:=bC p) (c2:=bE p) (c3:=bA p) _ 0 (dy _);rw[fC,iN,eN,List.map_nil,gq]at l0;rw[ai,ajK,eM hb hp,fy (hp.sm hb)];simp only[fB,SB,Nat.reduceAdd];rw[fP];rw[show denC E=denC E from rfl]at l0;rw[show au.arr 4 (bp p)=au.arr 4 (p.aA.map kC) from rfl,l0];simp only[SB];rfl
abbrev vL (t:p_):AV:=.agg [.int .i64 (t.start:Int),.int .i64 (t.stop:Int),.int .i64 (t.p6:Int)]
abbrev qh (t:p_):au:=.box [.int .i64 (t.start:Int),.int .i64 (t.stop:Int),.int .i64 (t.p6:Int)]
def acK (a:Act):List PV:=[.int .i64 (a.k:Int),.int .i64 (a.u:Int),.int .i64 (a.v:Int)]
def cH (l:List Act):List (List PV):=l.map acK
theorem yj {t:p_}(h:Ri t):denC E 39 [vL t] []=some ([RV.p (PV.bool true)],[]):=by
 obtain⟨h1,h2,h3,h4,h5⟩:=h;rw[ai,r39,aL (by omega),aL (by omega),iz (by omega),aL (by omega),aL (by omega),aL (by omega)];rfl
theorem Oj {b:Bd}(hb:BV b){s k:Nat}(hk:k<cL b s)(hs:s<b.ar.length):((br b k).k==2&&(br b k).b==s)=false:=by
 rw[<-Cm];simp only[bO,w8];rintro⟨h1,h2⟩;have:=yS hb.bT (by have:=(bu hb.bT hs).1;omega) h1 h2;omega
theorem PR {b:Bd}(hb:BV b){s:Nat}(hs:s<b.ar.length):∀(m k:Nat),k+m=cL b s->
  lp E (denC E) 118 1 [AV.undef,AV.fn 135 [.ptr 0 0]] 0 {vals:=[AV.sl 3 (fW b),AV.int .i64 b.aO.length,AV.int .i64 k],aq:=[au.box [AV.int .i64 (s:Int)]]}=
   some (Ex.ret,{vals:=[AV.int .i64 (cL b s:Int)],aq:=[au.box [AV.int .i64 (s:Int)]]}):=by
 have sg:=hb.nb;obtain⟨h1,h2,h3⟩:=bu hb.bT hs;have hc:∀k,denC E 135 [AV.agg [PV.int .i64 ((br b k).k:Int),PV.int .i64 ((br b k).a:Int),PV.int .i64 ((br b k).b:Int)],AV.t (.ptr 0 0)] [au.box [AV.int .i64 (s:Int)]]=some ([RV.p (PV.bool ((br b k).k==2&&(br b k).b==s))],[au.box [AV.int .i64 (s:Int)]]):=λk=>by
  rw[ai,akd,rK,gi];simp only[SB]
 intro m
 induction m with
 |zero=>
  intro k hk;obtain rfl:k=cL b s:=by omega
  rw[N5,ah,aK (by omega),cF _ h1];simp only[SB];rw[hc,h2,h3];simp only[SB,xa]
 |succ m ih=>
  intro k hk;rw[N5,ah,aK (by omega),cF _ (by omega)];simp only[SB];rw[hc,Oj hb (by omega) hs];simp only[SB];rw[ck (n:=(k:Int)+1) (by omega),aw k];exact ih (k+1) (by omega)
theorem qR {b:Bd}(hb:BV b){s:Nat}(hs:s<b.ar.length):denC E 85 [eH b,AV.int .i64 (s:Int)] []=some ([RV.p (PV.int .i64 (cL b s:Int))],[]):=by
 have l0:=PR hb hs _ 0 (dy _);rw[fC]at l0;have h1:denC E 118 [AV.sl 3 (fW b),AV.fn 135 [.ptr 0 0]] [au.box [AV.int .i64 (s:Int)]]=some ([RV.p (PV.int .i64 (cL b s:Int))],[au.box [AV.int .i64 (s:Int)]]):=by
  rw[ai,agz,bS,l0];simp only[SB]
 rw[ai,r85,h1];simp only[SB]
theorem Lz {f:Nat->Nat}{c:Nat}:∀(l:List Nat),(∀x∈l,f x<=c)->(l.map f).sum<=c*l.length
 |[],_=>by simp
 |x::l,h=>by
  have h1:=h x (by simp);have h2:=Lz l λy hy=>h y (by simp[hy]);simp only[qx,CE,cM,Nat.mul_succ];omega
theorem BK {b:Bd}{p:Pw}(hb:BV b)(hp:aX b p)(j:Nat):dt b p j<=800000:=by
 unfold dt;cases aY b p j with
 |false=>simp
 |true=>
  simp only[sG];have h1:=Lz (f:=lm p) (c:=50000) (dw b p (key b p j)) λx hx=>by
   have hx:=gR.1 (uO.1 hx).1;exact jS (hp.Hd x hx) (hb.zL x hx).1
  have h2:=qP b p (key b p j);have h3:=hb.nc;omega
theorem GX {b:Bd}{p:Pw}(hb:BV b)(j:Nat):bV b p j<=400000:=by
 unfold bV;have h1:=Lz (f:=λi=>(gn b i).cd) (c:=50000) (av b p (key b p j)) λx hx=>by
  have hx:=n7 hx;have hm:gn b x∈b.ar:=by unfold gn;rw[dD,dO hx];exact gH hx
  exact(hb.gen _ hm).2.1
 have h2:=fO b p (key b p j);have h3:=hb.ng;omega
theorem Om {a c x y:Nat}(h1:a<=x)(h2:c<=y):a*c<=x*y:=Nat.mul_le_mul h1 h2
theorem WQ {b:Bd}{p:Pw}{t:p_}(hb:BV b)(hp:aX b p)(ht:Ri t){j:Nat}(hj:j<b.n):denC E 13 [eH b,vL t,iQ p,AV.int .i64 (j:Int)] []=some ([RV.p (PV.bool (cj b t p j))],[]):=by
 have h1:=BK hb hp j;have h2:=GX (p:=p) hb j;have h3:=Om ht.s4 h2;rw[ai,r13,yj ht,nE hb hp hj,Ee hb hp hj,tE hb hp hj];simp only[SB];rw[show(t.start:Int)*(bV b p j:Int)=((t.start*bV b p j:Nat):Int) by simp,show 100*(dt b p j:Int)=((100*dt b p j:Nat):Int) by simp,ck (n:=((t.start*bV b p j:Nat):Int)) (by omega),ck (n:=((100*dt b p j:Nat):Int)) (by omega)];unfold cj;rw[show aT ((t.start*bV b p j:Nat):Int) ((100*dt b p j:Nat):Int)=decide (t.start*bV b p j<100*dt b p j) by rw[uQ];simp only[lR];omega]
theorem aaI {b:Bd}{p:Pw}(hb:BV b)(hp:aX b p){j:Nat}(hj:j<b.n){i:Nat}(hi:i<b.ar.length){C:List (List PV)}:denC E 43 [eH b,iQ p,AV.agg [PV.sl 1 (bF (aZ b p (key b p j))),PV.sl 1 (bF (av b p (key b p j))),PV.sl 1 C],AV.int .i64 (i:Int)] []=some ([RV.p (PV.bool (cu b p j i))],[]):=by
 obtain⟨h1,h2,h3⟩:=bu hb.bT hi;have ht:=lY hb h1;have h6:=hb.n6;have h8:=hb.ng;have hs:=hp.s;have hbl:=lO b p (key b p j);have ak:=fO b p (key b p j);rw[ai,r43,qR hb hi];simp only[SB];rw[cF _ h1];simp only[SB];rw[show((2:Int))=((2:Nat):Int) from rfl,show((3:Int))=((3:Nat):Int) from rfl,show((1:Int))=((1:Nat):Int) from rfl];simp only[h_ (b:=b) hp,SB];rw[nH (by omega),nH (by omega),dv _ (by omega)];simp only[SB];rw[show((((sr p i).st:Nat):Int) !=((3:Nat):Int))= !((sr p i).st==3) by show(!_)=_;rw[gi]];have hc:(aZ b p (key b p j)).contains (br b (cL b i)).a=(key b p (br b (cL b i)).a==key b p j):=by
  rw[uQ,na,mN,w8];exact⟨λh=>h.2,λh=>⟨ht.1,h⟩⟩
 rw[hc];unfold cu;cases lh p 1 i<;>cases lh p 2 (cL b i)<;>cases lh p 3 (br b (cL b i)).a<;>cases(key b p (br b (cL b i)).a==key b p j)<;>cases(av b p (key b p j)).contains i<;>rfl
def C_ (o:Option Nat)(n:Nat)(v:List AV)(bl:List au):Ex×Pack:=match o with
 |some i=>(Ex.ret,{vals:=[AV.int .i64 (i:Int),AV.bool true],aq:=[]})
 |none=>(Ex.exit n,{vals:=v,aq:=bl})
theorem Mi {b:Bd}{p:Pw}(hb:BV b)(hp:aX b p){j:Nat}(hj:j<b.n)(s:Nat){X C:List (List PV)}{y z:Int}:∀(m k:Nat),k+m=p.aA.length->
  lp E (denC E) 14 0 [] 2 {vals:=[AV.int .i64 (s:Int),AV.sl 1 X,AV.int .i64 y,AV.int .i64 z,AV.sl 4 (bp p),AV.int .i64 p.aA.length,AV.int .i64 k],aq:=[eG b,kq p,au.box [AV.sl 1 (bF (aZ b p (key b p j))),AV.sl 1 (bF (av b p (key b p j))),AV.sl 1 C]]}=
   some (C_ ((List.range' k m).find? λi=>(sr p i).st==s&&cu b p j i) 2 [AV.sl 1 X,AV.int .i64 y,AV.int .i64 z] [eG b,kq p,au.box [AV.sl 1 (bF (aZ b p (key b p j))),AV.sl 1 (bF (av b p (key b p j))),AV.sl 1 C]]):=by
 have h8:=hb.ng;have hs:=hp.s;intro m
 induction m with
 |zero=>intro k hk;rw[ab1,ah,aC (by omega)];rfl
 |succ m ih=>
  intro k hk;rw[ab1,ah,aK (by omega),dv _ (by omega)];simp only[SB];rw[aaI hb hp hj (by omega),gi];simp only[SB];rw[ck (n:=(k:Int)+1) (by omega),aw k,en,Al];cases h:((sr p k).st==s&&cu b p j k)with
  |true=>rfl
  |false=>exact ih (k+1) (by omega)
theorem WO {b:Bd}{p:Pw}(hb:BV b)(hp:aX b p){j:Nat}(hj:j<b.n):denC E 14 [eH b,iQ p,AV.int .i64 (j:Int)] []=some (dz (fg b p j),[]):=by
 have l2:=λs y z=>Mi hb hp hj s (X:=[[PV.int .i64 2],[PV.int .i64 1],[PV.int .i64 0]]) (C:=bF (dw b p (key b p j))) (y:=y) (z:=z) p.aA.length 0 (dy _);simp only[fC,<-iC,hp.s]at l2;have hS:∀s,((List.range b.ar.length).find? λi=>(sr p i).st==s&&cu b p j i)=kr b p j s:=λs=>rfl;simp only[hS]at l2;have e0:aG (α:=Ex×Pack) [[PV.int .i64 2],[PV.int .i64 1],[PV.int .i64 0]] 0=λK=>K [PV.int .i64 2]:=rfl;have e1:aG (α:=Ex×Pack) [[PV.int .i64 2],[PV.int .i64 1],[PV.int .i64 0]] 1=λK=>K [PV.int .i64 1]:=rfl;have e2:aG (α:=Ex×Pack) [[PV.int .i64 2],[PV.int .i64 1],[PV.int .i64 0]] 2=λK=>K [PV.int .i64 0]:=rfl;rw[ai,r14,H2 hb hp hj];simp only[SB,Nat.reduceAdd];rw[N3,show aT 0 3=true from rfl,ay,e0];simp only[SB,Nat.reduceAdd];rw[fP,hp.s,show((2:Int))=((2:Nat):Int) from rfl];have q2:=l2 2 3 0;have q1:=l2 1 3 1;have q0:=l2 0 3 2;unfold fg;rw[show lp E (denC E) 14 0 [] 2 {vals:=[AV.int .i64 ((2:Nat):Int),AV.sl 1 [[PV.int .i64 ((2:Nat):Int)],[PV.int .i64 1],[PV.int .i64 0]],AV.int .i64 3,AV.int .i64 0,AV.sl 4 (bp p),AV.int .i64 (b.ar.length:Int),AV.int .i64 0],aq:=[au.box [AV.int .i64 (b.n:Int),AV.sl 3 (fW b),AV.sl 3 (oW b),AV.sl 5 (nQ b),AV.int .i64 (b.phase:Int),AV.int .i64 (b.eZ:Int)],au.box [AV.sl 1 (bC p),AV.sl 4 (bp p),AV.sl 1 (bE p),AV.sl 2 (bA p)],au.box [AV.sl 1 (bF (aZ b p (key b p j))),AV.sl 1 (bF (av b p (key b p j))),AV.sl 1 (bF (dw b p (key b p j)))]]}=_ from q2];cases h2:kr b p j 2 with
 |some i=>simp only[C_,dz,SB]
 |none=>
  simp only[C_,SB];rw[show IntKind.i64.wrap (0+1)=1 from rfl,N3,show aT 1 3=true from rfl,ay,e1];simp only[SB,Nat.reduceAdd];rw[fP,hp.s,show lp E (denC E) 14 0 [] 2 {vals:=[AV.int .i64 1,AV.sl 1 [[PV.int .i64 2],[PV.int .i64 1],[PV.int .i64 0]],AV.int .i64 3,AV.int .i64 1,AV.sl 4 (bp p),AV.int .i64 (b.ar.length:Int),AV.int .i64 0],aq:=[au.box [AV.int .i64 (b.n:Int),AV.sl 3 (fW b),AV.sl 3 (oW b),AV.sl 5 (nQ b),AV.int .i64 (b.phase:Int),AV.int .i64 (b.eZ:Int)],au.box [AV.sl 1 (bC p),AV.sl 4 (bp p),AV.sl 1 (bE p),AV.sl 2 (bA p)],au.box [AV.sl 1 (bF (aZ b p (key b p j))),AV.sl 1 (bF (av b p (key b p j))),AV.sl 1 (bF (dw b p (key b p j)))]]}=_ from q1];cases h1:kr b p j 1 with
  |some i=>simp only[C_,dz,SB]
  |none=>
   simp only[C_,SB];rw[show IntKind.i64.wrap (1+1)=2 from rfl,N3,show aT 2 3=true from rfl,ay,e2];simp only[SB,Nat.reduceAdd];rw[fP,hp.s,show lp E (denC E) 14 0 [] 2 {vals:=[AV.int .i64 0,AV.sl 1 [[PV.int .i64 2],[PV.int .i64 1],[PV.int .i64 0]],AV.int .i64 3,AV.int .i64 2,AV.sl 4 (bp p),AV.int .i64 (b.ar.length:Int),AV.int .i64 0],aq:=[au.box [AV.int .i64 (b.n:Int),AV.sl 3 (fW b),AV.sl 3 (oW b),AV.sl 5 (nQ b),AV.int .i64 (b.phase:Int),AV.int .i64 (b.eZ:Int)],au.box [AV.sl 1 (bC p),AV.sl 4 (bp p),AV.sl 1 (bE p),AV.sl 2 (bA p)],au.box [AV.sl 1 (bF (aZ b p (key b p j))),AV.sl 1 (bF (av b p (key b p j))),AV.sl 1 (bF (dw b p (key b p j)))]]}=_ from q0];cases h0:kr b p j 0 with
   |some i=>simp only[C_,dz,SB]
   |none=>
    simp only[C_,SB];rw[show IntKind.i64.wrap (2+1)=3 from rfl,N3,show aT 3 3=false from rfl,aF];simp only[dz,SB]
theorem C4:∀(es:List (List PV)) (n:Nat),(nV n es).map Prod.snd=es
 |[],_=>rfl
 |e::es,n=>by simp[nV,C4 es]
theorem ad5 {b:Bd}{p:Pw}{t:p_}(hb:BV b)(hp:aX b p)(ht:Ri t){j:Nat}(hj:j<b.n):∀(m:List Nat) (ys:List (Nat×List PV)),ys.map Prod.snd=bF m->(∀i∈m,i∈av b p (key b p j))->
  rg E (denC E) 158 0 [] 0 ys {vals:=[],aq:=[eG b,qh t,kq p,au.box [AV.int .i64 (j:Int)],au.box [AV.int .i64 0],au.box [AV.bool false]]}=
   some (match m.find? (sY b t p j)with
    |some i=>(Ex.ret,{vals:=[],aq:=[au.box [AV.int .i64 (i:Int)],au.box [AV.bool true]]})
    |none=>(Ex.eF,{vals:=[],aq:=[eG b,qh t,kq p,au.box [AV.int .i64 (j:Int)],au.box [AV.int .i64 0],au.box [AV.bool false]]})):=by
 have h1:=BK hb hp j;have h2:=GX (p:=p) hb j;intro m
 induction m with
 |nil=>
  intro ys hy _;cases ys with
  |nil=>rfl
  |cons=>cases hy
 |cons i m ih=>
  intro ys hy hm;cases ys with
  |nil=>cases hy
  |cons y ys=>
   have hy1:y.2=[PV.int .i64 (i:Int)]:=(List.cons.inj hy).1;have hy2:ys.map Prod.snd=bF m:=(List.cons.inj hy).2;obtain⟨n,e⟩:=y;subst hy1;have hi:=hm i (by simp);have VG:=n7 hi;have hr:=Yt hi;have h3:=Om ht.s2 (show bV b p j-(gn b i).cd<=400000 by omega);have ih':=ih ys hy2 λx hx=>hm x (by simp[hx]);show aj (qp E (denC E) 158 0 [] 0 (n,[PV.int .i64 (i:Int)]) {vals:=[],aq:=[eG b,qh t,kq p,au.box [AV.int .i64 (j:Int)],au.box [AV.int .i64 0],au.box [AV.bool false]]} some) (λq=>ctl (Ex.iI q.1 .eF) (rg E (denC E) 158 0 [] 0 ys q.2) (some q))=_;rw[adN,qR hb VG];simp only[SB];rw[show((2:Int))=((2:Nat):Int) from rfl,h_ (b:=b) hp,tE hb hp hj,Ee hb hp hj];simp only[SB];rw[oz _ VG];simp only[SB];rw[show(bV b p j:Int)-((gn b i).cd:Int)=((bV b p j-(gn b i).cd:Nat):Int) by omega,ck (n:=((bV b p j-(gn b i).cd:Nat):Int)) (by omega),show(t.stop:Int)*((bV b p j-(gn b i).cd:Nat):Int)=((t.stop*(bV b p j-(gn b i).cd):Nat):Int) by simp,show 100*(dt b p j:Int)=((100*dt b p j:Nat):Int) by simp,ck (n:=((t.stop*(bV b p j-(gn b i).cd):Nat):Int)) (by omega),ck (n:=((100*dt b p j:Nat):Int)) (by omega)];rw[show bJ ((100*dt b p j:Nat):Int) ((t.stop*(bV b p j-(gn b i).cd):Nat):Int)=decide (100*dt b p j<=t.stop*(bV b p j-(gn b i).cd)) by rw[uQ];simp only[lR];omega];rw[Al];unfold sY at ih'|-;cases lh p 2 (cL b i)with
   |true=>simp only[SB,Bg];exact ih'
   |false=>
    cases decide (100*dt b p j<=t.stop*(bV b p j-(gn b i).cd))with
    |true=>simp only[SB]
    |false=>simp only[SB];exact ih'
theorem aim {b:Bd}{p:Pw}{t:p_}(hb:BV b)(hp:aX b p)(ht:Ri t){j:Nat}(hj:j<b.n):denC E 158 [eH b,vL t,iQ p,AV.int .i64 (j:Int)] []=some (dz (fo b t p j),[]):=by
 have h8:=hb.ng;have ak:=fO b p (key b p j);rw[ai,aj1,H2 hb hp hj,yj ht];simp only[SB,Nat.reduceAdd];rw[aU];unfold fo;by_cases h:(av b p (key b p j)).length<2
 ·rw[aK h,iz (by omega),ay];rfl
 ·rw[aC h,b_ (by omega),aF,ct (by omega),show Ju (bF (av b p (key b p j)))=true from G9 _];have l0:=ad5 hb hp ht hj (av b p (key b p j)).reverse (nV 0 (bF (av b p (key b p j)))).reverse (by rw[List.map_reverse,C4];simp[bF]) (λi hi=>List.mem_reverse.1 hi);simp only[GZ,ay];rw[l0];cases(av b p (key b p j)).reverse.find? (sY b t p j)<;>simp only[dz,SB]
theorem aaz (old:Int)(h:Bool)(time:Int):denC E 159 [AV.int .i64 old,AV.bool h,AV.int .i64 time] []=some ([RV.p (PV.int .i64 (cp old h time))],[]):=by
 rw[ai,aj0];unfold cp;cases h with
 |false=>rfl
 |true=>
  by_cases ho:old=-1
  ·rw[ho];rfl
  ·rw[show(old==-1)=false by simpa using ho,aK rfl,aC ho];rfl
theorem Hc {b:Bd}{p:Pw}{j:Nat}(h:aY b p j=true):∃l,cY b p j=some l:=by
 unfold aY at h;unfold cY;cases hs:av b p (key b p j)with
 |nil=>rw[hs]at h;cases h
 |cons x l=>exact⟨x,rfl⟩
theorem aax {b:Bd}{p:Pw}(hb:BV b)(hp:aX b p){j:Nat}(hj:j<b.n)(hl:aY b p j=true){s:Nat}(hs:s<b.ar.length):denC E 160 [eH b,iQ p,AV.int .i64 (j:Int),AV.int .i64 (s:Int)] []=some ([RV.own 3 (cH (ed b p j s)),RV.p (PV.bool ((sr p s).st==2))],[]):=by
 have hsp:=hp.s;obtain⟨l,hl⟩:=Hc hl;have hlg:=uq hl;rw[ai,ajZ,dv _ (by omega),yl hb hp hj,hl];simp only[dz,SB];rw[Xf,rK,tG hb hp hlg,qR hb hs];unfold ed;by_cases h0:(sr p s).st=0
 ·rw[aK h0,h0];rfl
 ·rw[aC h0,show((sr p s).st==0)=false by simpa using h0,aF];by_cases h2:(sr p s).st=2
  ·rw[aK h2,h2];unfold oH;rw[hl];cases J5:conn b p l<;>simp only[J5,dz,SB,xa]<;>rfl
  ·rw[aC h2,show((sr p s).st==2)=false by simpa using h2];rfl
theorem aie (n time:Int):denC E 157 [AV.int .i64 n,AV.t (.ptr 0 0)] [au.box [AV.int .i64 time]]=some ([RV.p (PV.bool (bJ (-1) n&&bJ n time))],[au.box [AV.int .i64 time]]):=by
 rw[ai,aj2];simp only[SB]
theorem wR {old time:Int}{h:Bool}(h1:-1<=old/\old<=time)(h2:0<=time):-1<=cp old h time/\cp old h time<=time:=by
 unfold cp;split<;>(try split)<;>omega
def adR (b:Bd)(t:p_)(p:Pw)(j:Nat)(time h l:Int)(o:Option Nat):(Int×Int)×List Act:=
 match (bif fq t time h then o else none)with
 |some n=>((if (sr p n).st=2 then-1 else h,l),ed b p j n)
 |none=>match (bif fq t time l then fo b t p j else none)with
  |some i=>((h,-1),[⟨2,cL b i,0⟩,⟨4,i,0⟩])
  |none=>((h,l),[])
def adQ (x:(Int×Int)×List Act):gv:=([RV.agg [PV.int .i64 x.1.1,PV.int .i64 x.1.2],RV.own 3 (cH x.2),RV.p (PV.int .i64 0)],[])
theorem aaP {b:Bd}{p:Pw}{t:p_}(hb:BV b)(hp:aX b p)(ht:Ri t){j:Nat}(hj:j<b.n)(hl:aY b p j=true){time:Int}(h0:0<=time/\time<=2147483648){r:Int×Int}(h1:-1<=r.1/\r.1<=time)(h2:-1<=r.2/\r.2<=time):
  denC E 126 [eH b,vL t,iQ p,AV.int .i64 (j:Int),AV.int .i64 time,AV.agg [PV.int .i64 r.1,PV.int .i64 r.2]] []=
   some ([RV.agg [PV.int .i64 (dQ b t p j time r).1.1,PV.int .i64 (dQ b t p j time r).1.2],RV.own 3 (cH (dQ b t p j time r).2),RV.p (PV.int .i64 0)],[]):=by
 have r1:=wR (h:=cj b t p j) h1 h0.1;have r2:=wR (h:=(fo b t p j).isSome) h2 h0.1;rw[ai,akj,eM hb hp,yj ht];simp only[fB,SB];rw[b_ (by omega),b_ (by omega)];simp only[aie,SB];rw[aL (by omega),aL (by omega),aL (by omega),aL (by omega),b_ (by omega),rG (by omega)];simp only[SB];rw[aim hb hp ht hj,WQ hb hp ht hj,WO hb hp hj];simp only[SB];have eh:∀x:Option Nat,nth (RV.p .aM) (dz x) 1=RV.p (PV.bool x.isSome):=λx=>by cases x<;>rfl
 have eo:∀x:Option Nat,cC [uI.one (Sh.int .i64),uI.one Sh.bool] (dz x)=true:=λx=>by cases x<;>rfl
 rw[eh,eh,eo,eo];simp only[aaz,SB];rw[ck (n:=time-cp r.1 (cj b t p j) time) (by omega),ck (n:=time-cp r.2 (fo b t p j).isSome time) (by omega)];have d1:∀h:Int,(h !=-1&&bJ (t.p6:Int) (time-h))=fq t time h:=λh=>rfl;have key:∀(o:Option Nat) (h l:Int),(∀n,o=some n->n<b.ar.length)->(fq t time l=true->(fo b t p j).isSome=true)->
   ctl (o.isSome&&(fq t time h)) (aj (denC E 160 [eH b,iQ p,AV.int .i64 (j:Int),AV.int .i64 (nth (RV.p .aM) (dz o) 0).dC.toInt] []) λr=>ctl (cC [uI.own 3,uI.one Sh.bool] r.1&&okB [] r.2) (ctl (nth (RV.p .aM) r.1 1).dC.toBool (some (([RV.agg [PV.int .i64 (-1),PV.int .i64 l],RV.own 3 (nth (RV.p .aM) r.1 0).di,RV.p (PV.int .i64 0)],[]):gv)) (some ([RV.agg [PV.int .i64 h,PV.int .i64 l],RV.own 3 (nth (RV.p .aM) r.1 0).di,RV.p (PV.int .i64 0)],[]))) none)
    (ctl (fq t time l) (aj (denC E 85 [eH b,AV.int .i64 (nth (RV.p .aM) (dz (fo b t p j)) 0).dC.toInt] []) λr=>ctl (cC [uI.one (Sh.int .i64)] r.1&&okB [] r.2) (some (([RV.agg [PV.int .i64 h,PV.int .i64 (-1)],RV.own 3 [[PV.int .i64 2,PV.int .i64 (nth (RV.p .aM) r.1 0).dC.toInt,PV.int .i64 0],[PV.int .i64 4,PV.int .i64 (nth (RV.p .aM) (dz (fo b t p j)) 0).dC.toInt,PV.int .i64 0]],RV.p (PV.int .i64 0)],[]):gv)) none)
     (some ([RV.agg [PV.int .i64 h,PV.int .i64 l],RV.own 3 [],RV.p (PV.int .i64 0)],[])))=some (adQ (adR b t p j time h l o)):=by
  intro o h l ho Ih;have low:ctl (fq t time l) (aj (denC E 85 [eH b,AV.int .i64 (nth (RV.p .aM) (dz (fo b t p j)) 0).dC.toInt] []) λr=>ctl (cC [uI.one (Sh.int .i64)] r.1&&okB [] r.2) (some (([RV.agg [PV.int .i64 h,PV.int .i64 (-1)],RV.own 3 [[PV.int .i64 2,PV.int .i64 (nth (RV.p .aM) r.1 0).dC.toInt,PV.int .i64 0],[PV.int .i64 4,PV.int .i64 (nth (RV.p .aM) (dz (fo b t p j)) 0).dC.toInt,PV.int .i64 0]],RV.p (PV.int .i64 0)],[]):gv)) none)
     (some ([RV.agg [PV.int .i64 h,PV.int .i64 l],RV.own 3 [],RV.p (PV.int .i64 0)],[]))=some (adQ (match (bif fq t time l then fo b t p j else none)with|some i=>((h,-1),[⟨2,cL b i,0⟩,⟨4,i,0⟩])|none=>((h,l),[]))):=by
   cases hd:fq t time l with
   |false=>rfl
   |true=>
    cases Hu:fo b t p j with
    |none=>rw[Hu]at Ih;exact absurd (Ih hd) (by simp)
    |some i=>
     have hi:=n7 (jx Hu).1;simp only[dz,SB];rw[qR hb hi];simp only[SB];rfl
  unfold adR;cases JY:o with
  |none=>
   have e:(bif fq t time h then(none:Option Nat) else none)=none:=by cases fq t time h<;>rfl
   simp only[e,Option.isSome_none,Bg,aF];exact low
  |some n=>
   cases hd:fq t time h with
   |false=>
    simp only[Option.isSome_some,CH,aF,oP];exact low
   |true=>
    simp only[Option.isSome_some,GZ,ay,sG,dz,SB];rw[aax hb hp hj hl (ho n JY)];simp only[SB];by_cases h2:(sr p n).st=2
    ·rw[aK h2,show((sr p n).st==2)=true by simpa using h2];rfl
    ·rw[aC h2,show((sr p n).st==2)=false by simpa using h2];rfl
 have hk:=key (fg b p j) (cp r.1 (cj b t p j) time) (cp r.2 (fo b t p j).isSome time) (λn hn=>(fS hn).1) (λhd=>by
  unfold fq cp at hd;cases Hu:(fo b t p j).isSome with
  |true=>rfl
  |false=>rw[Hu]at hd;simp at hd)
 rw[show(some (([RV.agg [PV.int .i64 (dQ b t p j time r).1.1,PV.int .i64 (dQ b t p j time r).1.2],RV.own 3 (cH (dQ b t p j time r).2),RV.p (PV.int .i64 0)],[]):gv))=some (adQ (adR b t p j time (cp r.1 (cj b t p j) time) (cp r.2 (fo b t p j).isSome time) (fg b p j))) from rfl,<-hk];unfold fq;rw[Bool.and_assoc]
abbrev rP (b:Bd):au:=.box [.int .i64 (b.n:Int),.sl 3 (fW b),.sl 3 (oW b),.sl 5 (nQ b),.int .i64 (b.phase:Int),.int .i64 (b.eZ:Int),.t (.ak 1),.t (.ak 2),.t (.ak 3),.t (.ak 4),.t (.ak 5)]
abbrev uL (b:Bd):au:=.box [.int .i64 (b.n:Int),.sl 3 (fW b),.sl 3 (oW b),.sl 5 (nQ b),.int .i64 (b.phase:Int),.int .i64 (b.eZ:Int),.t (.ak 2),.t (.ak 3),.t (.ak 4),.t (.ak 5),.t (.ak 6)]
abbrev Xu (k:Nat):au:=.box [.t (.ptr k 0)]
theorem O8 (l:List Act)(a:Act):cH l++[[PV.int .i64 (a.k:Int),PV.int .i64 (a.u:Int),PV.int .i64 (a.v:Int)]]=cH (l++[a]):=by simp[cH,acK]
theorem iZ (l:List Act):(cH l).length=l.length:=by simp[cH]
theorem H0 {b:Bd}{p:Pw}{acts:List Act}(hp:p.closed.length=b.aO.length){i:Nat}(hi:i<b.aO.length)(h:acts.length<=1000000):
  denC E 141 [AV.t (.ptr 0 0),AV.int .i64 (i:Int)] [rP b,.arr 1 (bC p),.arr 4 (bp p),.arr 1 (bE p),.arr 2 (bA p),.arr 3 (cH acts)]=
   some ([],[rP b,.arr 1 (bC (cA p i false)),.arr 4 (bp p),.arr 1 (bE p),.arr 2 (bA p),.arr 3 (cH (acts++[⟨2,i,0⟩]))]):=by
 rw[ai,akb,dU,bG (by rw[hp];exact hi),ay,iZ,ct (by omega),ay,bo,lv (by rw[hp];exact hi),show(2:Int)=((2:Nat):Int) from rfl,<-fC];exact congrArg some (congrArg (Prod.mk _) (by rw[<-O8]))
theorem aaJ {b:Bd}{p:Pw}{acts:List Act}(hp:aX b p)(k u:Nat):
  denC E 142 [AV.int .i64 (k:Int),AV.int .i64 (u:Int),AV.t (.ptr 0 0)] [Xu 1,uL b,.arr 1 (bC p),.arr 4 (bp p),.arr 1 (bE p),.arr 2 (bA p),.arr 3 (cH acts)]=
   some ([RV.p (PV.bool (lh p k u))],[Xu 1,uL b,.arr 1 (bC p),.arr 4 (bp p),.arr 1 (bE p),.arr 2 (bA p),.arr 3 (cH acts)]):=by
 rw[ai,aka,h_ (b:=b) hp];simp only[SB]
theorem KG {b:Bd}{p:Pw}{acts:List Act}(hb:BV b)(hp:aX b p){i:Nat}(hi:i<b.aO.length):
  denC E 97 [AV.t (.ptr 0 0),AV.agg [PV.int .i64 ((br b i).k:Int),PV.int .i64 ((br b i).a:Int),PV.int .i64 ((br b i).b:Int)]] [rP b,.arr 1 (bC p),.arr 4 (bp p),.arr 1 (bE p),.arr 2 (bA p),.arr 3 (cH acts)]=
   some ([RV.p (PV.bool (kQ b p (br b i)))],[rP b,.arr 1 (bC p),.arr 4 (bp p),.arr 1 (bE p),.arr 2 (bA p),.arr 3 (cH acts)]):=by
 have ht:=lY hb hi;have hs:=hp.s;rw[ai,r97];rw[show(3:Int)=((3:Nat):Int) from rfl,show(1:Int)=((1:Nat):Int) from rfl,show(4:Int)=((4:Nat):Int) from rfl];simp only[aaJ hp,gi,SB,aD,bb,aW,kF];unfold kQ;cases h3:lh p 3 (br b i).a with
 |true=>rfl
 |false=>
  simp only[SB];by_cases h1:(br b i).k=1
  ·rw[aK h1,h1];rfl
  ·rw[aC h1,show((br b i).k==1)=false by simp[h1]];simp only[SB];rw[rK];by_cases h2:(br b i).k=2
   ·have hg:=ht.2.2.1 h2;rw[aK h2,h2,show((2:Nat)==2)=true from rfl,ay,fP,bG (by rw[hs];exact hg),ay,bo,show bp p=p.aA.map kC from rfl,dS (d:=default) (by rw[hs];exact hg)];cases lh p 1 (br b i).b with
    |true=>rfl
    |false=>
     simp only[kC,eN,m_,iN,SB];rw[show(((p.aA.getD (br b i).b default).st:Int) !=2)=((sr p (br b i).b).st !=2) by unfold bne sr;rw[rK]]
   ·rw[aC h2,show((br b i).k==2)=false by simp[h2]];rfl
theorem WJ {b:Bd}{p:Pw}{acts:List Act}(hb:BV b)(hp:aX b p){i:Nat}(hi:i<b.aO.length):
  denC E 98 [AV.agg [PV.int .i64 ((br b i).k:Int),PV.int .i64 ((br b i).a:Int),PV.int .i64 ((br b i).b:Int)],AV.t (.ptr 0 0)] [Xu 1,uL b,.arr 1 (bC p),.arr 4 (bp p),.arr 1 (bE p),.arr 2 (bA p),.arr 3 (cH acts)]=
   some ([RV.p (PV.bool ((br b i).k==3&& !aY b p (br b i).a))],[Xu 1,uL b,.arr 1 (bC p),.arr 4 (bp p),.arr 1 (bE p),.arr 2 (bA p),.arr 3 (cH acts)]):=by
 have ht:=lY hb hi;rw[ai,r98,nE hb hp ht.1,Ej];simp only[SB]
theorem aav {b:Bd}{i u:Nat}:
  denC E 148 [AV.agg [PV.int .i64 ((br b i).k:Int),PV.int .i64 ((br b i).a:Int),PV.int .i64 ((br b i).b:Int)],AV.t (.ptr 0 0)] [au.box [AV.int .i64 (u:Int)]]=
   some ([RV.p (PV.bool ((br b i).k==3&&(br b i).b==u))],[au.box [AV.int .i64 (u:Int)]]):=by
 rw[ai,aj9,Ej,gi];cases((br b i).k==3)<;>rfl
theorem tk {k m:Nat}{P:Nat->Bool}:(List.range' k (m+1)).filter P=if P k=true then k::(List.range' (k+1) m).filter P else(List.range' (k+1) m).filter P:=by
 rw[en,An]
theorem BH (l:List Nat)(i:Nat):bF l++[[PV.int .i64 (i:Int)]]=bF (l++[i]):=by simp[bF]
theorem agb {b:Bd}{p:Pw}{acts:List Act}(hb:BV b)(hp:aX b p):∀(m k:Nat) (l:List Nat),k+m=b.aO.length->l.length<=k->
  lp E (denC E) 96 1 [AV.undef,AV.iG 97 0 0] 0 {vals:=[AV.sl 3 (fW b),AV.int .i64 b.aO.length,AV.int .i64 k],aq:=[rP b,au.arr 1 (bC p),au.arr 4 (bp p),au.arr 1 (bE p),au.arr 2 (bA p),au.arr 3 (cH acts),au.arr 1 (bF l)]}=
   some (Ex.exit 0,{vals:=[],aq:=[rP b,au.arr 1 (bC p),au.arr 4 (bp p),au.arr 1 (bE p),au.arr 2 (bA p),au.arr 3 (cH acts),au.arr 1 (bF (l++(List.range' k m).filter λi=>cl p i&&kQ b p (br b i)))]}):=by
 have sg:=hb.nb;intro m
 induction m with
 |zero=>
  intro k l hk hl;rw[SK,ah,aC (by omega)];simp
 |succ m ih=>
  intro k l hk hl;have hkb:k<b.aO.length:=by omega
  have Bo:k<p.closed.length:=by rw[hp.c];exact hkb
  rw[SK,ah,aK (by omega),cF _ hkb];simp only[SB];rw[dU,bG Bo,ay,bo,show nth [] (bC p) k=vG (cl p k) from dS (d:=false) Bo,KG hb hp hkb];simp only[vG,eN,m_,iN,SB,aD,bb,aW,kF];rw[aU,ct (by omega),ck (n:=(k:Int)+1) (by omega),aw k,tk,BH];have h1:=ih (k+1) (l++[k]) (by omega) (by simp;omega);have h2:=ih (k+1) l (by omega) (by omega);rw[lz,Jg]at h1;cases hc:cl p k with
  |false=>simp only[aF,Bg,oQ,yZ];exact h2
  |true=>
   cases hh:(kQ b p (br b k))with
   |false=>simp only[ay,aF,CH,oQ,yZ];exact h2
   |true=>simp only[ay,GZ,vg];exact h1
theorem aga {b:Bd}(hb:BV b){L:List Nat}(hL:L.length<=1000):∀(l pre:List Nat) (p:Pw) (acts:List Act),L=pre++l->(∀i∈l,i<b.aO.length)->p.closed.length=b.aO.length->acts.length+l.length<=100000->
  lp E (denC E) 96 1 [AV.undef,AV.iG 97 0 0] 2 {vals:=[AV.sl 1 (bF L),AV.int .i64 L.length,AV.int .i64 pre.length],aq:=[rP b,au.arr 1 (bC p),au.arr 4 (bp p),au.arr 1 (bE p),au.arr 2 (bA p),au.arr 3 (cH acts)]}=
   some (Ex.exit 2,{vals:=[],aq:=[rP b,au.arr 1 (bC (opens p l)),au.arr 4 (bp (opens p l)),au.arr 1 (bE (opens p l)),au.arr 2 (bA (opens p l)),au.arr 3 (cH (acts++pL l))]}):=by
 intro l
 induction l with
 |nil=>
  intro pre p acts kZ hl hc ha;rw[SH,ah,aC (by rw[kZ];simp)];simp[opens,pL]
 |cons x l ih=>
  intro pre p acts kZ hl hc ha;have hpl:pre.length<L.length:=by rw[kZ];simp
  have hg:L.getD pre.length 0=x:=by rw[kZ];simp[List.getD]
  have hx:=hl x (by simp);have e1:(pre.length:Int)+1=((pre++[x]).length:Int):=by simp
  rw[cM]at ha;rw[SH,ah,aK (by omega),cE _ hpl,hg];simp only[SB];rw[H0 hc hx (by omega)];simp only[SB,aD,bb,aW,kF];rw[ck (n:=(pre.length:Int)+1) (by omega),e1];have:=ih (pre++[x]) (cA p x false) (acts++[⟨2,x,0⟩]) (by rw[kZ];simp) (λi hi=>hl i (by simp[hi])) (by simpa[cA]using hc) (by simp;omega);rw[lz]at this;exact this
theorem Wz {b:Bd}{p:Pw}{acts:List Act}(hb:BV b)(hp:aX b p)(ha:acts.length<=50000):
  denC E 96 [AV.t (.ptr 0 0),AV.iG 97 0 0] [rP b,au.arr 1 (bC p),au.arr 4 (bp p),au.arr 1 (bE p),au.arr 2 (bA p),au.arr 3 (cH acts)]=
   some ([],[rP b,au.arr 1 (bC (opens p (pC b p λi=>kQ b p (br b i)))),au.arr 4 (bp (opens p (pC b p λi=>kQ b p (br b i)))),au.arr 1 (bE (opens p (pC b p λi=>kQ b p (br b i)))),au.arr 2 (bA (opens p (pC b p λi=>kQ b p (br b i)))),au.arr 3 (cH (acts++pL (pC b p λi=>kQ b p (br b i))))]):=by
 have sg:=hb.nb;have ak:=n5 (b:=b) (q:=p) (λi=>kQ b p (br b i));have l0:=agb (acts:=acts) hb hp _ 0 [] (dy _) (dB _);have l2:=aga hb (L:=pC b p λi=>kQ b p (br b i)) (by omega) (pC b p λi=>kQ b p (br b i)) [] p acts rfl (λi hi=>qj hi) hp.c (by omega);rw[fC,gq,<-iC,show(List.range b.aO.length).filter (λi=>cl p i&&kQ b p (br b i))=pC b p (λi=>kQ b p (br b i)) from rfl]at l0;rw[iD,fC]at l2;rw[ai,ajx,bS,show([]:List (List PV))=bF [] from rfl,l0];simp only[SB,Nat.reduceAdd,aU];rw[l2];simp only[SB]
theorem af' {b:Bd}{p:Pw}{acts:List Act}(hb:BV b)(hp:aX b p):∀(m k:Nat) (l:List Nat),k+m=b.aO.length->l.length<=k->
  lp E (denC E) 96 2 [AV.undef,AV.fn 98 [.ptr 1 0]] 0 {vals:=[AV.sl 3 (fW b),AV.int .i64 b.aO.length,AV.int .i64 k],aq:=[uL b,Xu 0,au.arr 1 (bC p),au.arr 4 (bp p),au.arr 1 (bE p),au.arr 2 (bA p),au.arr 3 (cH acts),au.arr 1 (bF l)]}=
   some (Ex.exit 0,{vals:=[],aq:=[uL b,Xu 0,au.arr 1 (bC p),au.arr 4 (bp p),au.arr 1 (bE p),au.arr 2 (bA p),au.arr 3 (cH acts),au.arr 1 (bF (l++(List.range' k m).filter λi=>cl p i&&((br b i).k==3&& !aY b p (br b i).a)))]}):=by
 have sg:=hb.nb;intro m
 induction m with
 |zero=>
  intro k l hk hl;rw[SJ,ah,aC (by omega)];simp
 |succ m ih=>
  intro k l hk hl;have hkb:k<b.aO.length:=by omega
  have Bo:k<p.closed.length:=by rw[hp.c];exact hkb
  rw[SJ,ah,aK (by omega),cF _ hkb];simp only[SB];rw[dU,bG Bo,ay,bo,show nth [] (bC p) k=vG (cl p k) from dS (d:=false) Bo,WJ hb hp hkb];simp only[vG,eN,m_,iN,SB,aD,bb,aW,kF];rw[aU,ct (by omega),ck (n:=(k:Int)+1) (by omega),aw k,tk,BH];have h1:=ih (k+1) (l++[k]) (by omega) (by simp;omega);have h2:=ih (k+1) l (by omega) (by omega);rw[lz,Jg]at h1;cases hc:cl p k with
  |false=>simp only[aF,Bg,oQ,yZ];exact h2
  |true=>
   cases hh:(((br b k).k==3&& !aY b p (br b k).a))with
   |false=>simp only[ay,aF,CH,oQ,yZ];exact h2
   |true=>simp only[ay,GZ,vg];exact h1
theorem af_ {b:Bd}(hb:BV b){L:List Nat}(hL:L.length<=1000):∀(l pre:List Nat) (p:Pw) (acts:List Act),L=pre++l->(∀i∈l,i<b.aO.length)->p.closed.length=b.aO.length->acts.length+l.length<=100000->
  lp E (denC E) 96 2 [AV.undef,AV.fn 98 [.ptr 1 0]] 2 {vals:=[AV.sl 1 (bF L),AV.int .i64 L.length,AV.int .i64 pre.length],aq:=[uL b,Xu 0,au.arr 1 (bC p),au.arr 4 (bp p),au.arr 1 (bE p),au.arr 2 (bA p),au.arr 3 (cH acts)]}=
   some (Ex.exit 2,{vals:=[],aq:=[uL b,Xu 0,au.arr 1 (bC (opens p l)),au.arr 4 (bp (opens p l)),au.arr 1 (bE (opens p l)),au.arr 2 (bA (opens p l)),au.arr 3 (cH (acts++pL l))]}):=by
 intro l
 induction l with
 |nil=>
  intro pre p acts kZ hl hc ha;rw[SG,ah,aC (by rw[kZ];simp)];simp[opens,pL]
 |cons x l ih=>
  intro pre p acts kZ hl hc ha;have hpl:pre.length<L.length:=by rw[kZ];simp
  have hg:L.getD pre.length 0=x:=by rw[kZ];simp[List.getD]
  have hx:=hl x (by simp);have e1:(pre.length:Int)+1=((pre++[x]).length:Int):=by simp
  rw[cM]at ha;rw[SG,ah,aK (by omega),cE _ hpl,hg];simp only[SB];rw[H0 hc hx (by omega)];simp only[SB,aD,bb,aW,kF];rw[ck (n:=(pre.length:Int)+1) (by omega),e1];have:=ih (pre++[x]) (cA p x false) (acts++[⟨2,x,0⟩]) (by rw[kZ];simp) (λi hi=>hl i (by simp[hi])) (by simpa[cA]using hc) (by simp;omega);rw[lz]at this;exact this
theorem Wy {b:Bd}{p:Pw}{acts:List Act}(hb:BV b)(hp:aX b p)(ha:acts.length<=50000):
  denC E 96 [AV.t (.ptr 0 0),AV.fn 98 [.ptr 1 0]] [uL b,Xu 0,au.arr 1 (bC p),au.arr 4 (bp p),au.arr 1 (bE p),au.arr 2 (bA p),au.arr 3 (cH acts)]=
   some ([],[uL b,Xu 0,au.arr 1 (bC (opens p (pC b p λi=>((br b i).k==3&& !aY b p (br b i).a)))),au.arr 4 (bp (opens p (pC b p λi=>((br b i).k==3&& !aY b p (br b i).a)))),au.arr 1 (bE (opens p (pC b p λi=>((br b i).k==3&& !aY b p (br b i).a)))),au.arr 2 (bA (opens p (pC b p λi=>((br b i).k==3&& !aY b p (br b i).a)))),au.arr 3 (cH (acts++pL (pC b p λi=>((br b i).k==3&& !aY b p (br b i).a))))]):=by
 have sg:=hb.nb;have ak:=n5 (b:=b) (q:=p) (λi=>((br b i).k==3&& !aY b p (br b i).a));have l0:=af' (acts:=acts) hb hp _ 0 [] (dy _) (dB _);have l2:=af_ hb (L:=pC b p λi=>((br b i).k==3&& !aY b p (br b i).a)) (by omega) (pC b p λi=>((br b i).k==3&& !aY b p (br b i).a)) [] p acts rfl (λi hi=>qj hi) hp.c (by omega);rw[fC,gq,<-iC,show(List.range b.aO.length).filter (λi=>cl p i&&((br b i).k==3&& !aY b p (br b i).a))=pC b p (λi=>((br b i).k==3&& !aY b p (br b i).a)) from rfl]at l0;rw[iD,fC]at l2;rw[ai,ajw,bS,show([]:List (List PV))=bF [] from rfl,l0];simp only[SB,Nat.reduceAdd,aU];rw[l2];simp only[SB]
theorem af9 {b:Bd}{u:Nat}{p:Pw}{acts:List Act}(hb:BV b)(hp:aX b p)(hu:u<=1000):∀(m k:Nat) (l:List Nat),k+m=b.aO.length->l.length<=k->
  lp E (denC E) 96 2 [AV.undef,AV.fn 148 [.ptr 1 0]] 0 {vals:=[AV.sl 3 (fW b),AV.int .i64 b.aO.length,AV.int .i64 k],aq:=[uL b,au.box [AV.int .i64 (u:Int)],au.arr 1 (bC p),au.arr 4 (bp p),au.arr 1 (bE p),au.arr 2 (bA p),au.arr 3 (cH acts),au.arr 1 (bF l)]}=
   some (Ex.exit 0,{vals:=[],aq:=[uL b,au.box [AV.int .i64 (u:Int)],au.arr 1 (bC p),au.arr 4 (bp p),au.arr 1 (bE p),au.arr 2 (bA p),au.arr 3 (cH acts),au.arr 1 (bF (l++(List.range' k m).filter λi=>cl p i&&((br b i).k==3&&(br b i).b==u)))]}):=by
 have sg:=hb.nb;intro m
 induction m with
 |zero=>
  intro k l hk hl;rw[SI,ah,aC (by omega)];simp
 |succ m ih=>
  intro k l hk hl;have hkb:k<b.aO.length:=by omega
  have Bo:k<p.closed.length:=by rw[hp.c];exact hkb
  rw[SI,ah,aK (by omega),cF _ hkb];simp only[SB];rw[dU,bG Bo,ay,bo,show nth [] (bC p) k=vG (cl p k) from dS (d:=false) Bo,aav];simp only[vG,eN,m_,iN,SB,aW];rw[aU,ct (by omega),ck (n:=(k:Int)+1) (by omega),aw k,tk,BH];have h1:=ih (k+1) (l++[k]) (by omega) (by simp;omega);have h2:=ih (k+1) l (by omega) (by omega);rw[lz,Jg]at h1;cases hc:cl p k with
  |false=>simp only[aF,Bg,oQ,yZ];exact h2
  |true=>
   cases hh:(((br b k).k==3&&(br b k).b==u))with
   |false=>simp only[ay,aF,CH,oQ,yZ];exact h2
   |true=>simp only[ay,GZ,vg];exact h1
theorem af8 {b:Bd}{u:Nat}(hb:BV b)(hu:u<=1000){L:List Nat}(hL:L.length<=1000):∀(l pre:List Nat) (p:Pw) (acts:List Act),L=pre++l->(∀i∈l,i<b.aO.length)->p.closed.length=b.aO.length->acts.length+l.length<=100000->
  lp E (denC E) 96 2 [AV.undef,AV.fn 148 [.ptr 1 0]] 2 {vals:=[AV.sl 1 (bF L),AV.int .i64 L.length,AV.int .i64 pre.length],aq:=[uL b,au.box [AV.int .i64 (u:Int)],au.arr 1 (bC p),au.arr 4 (bp p),au.arr 1 (bE p),au.arr 2 (bA p),au.arr 3 (cH acts)]}=
   some (Ex.exit 2,{vals:=[],aq:=[uL b,au.box [AV.int .i64 (u:Int)],au.arr 1 (bC (opens p l)),au.arr 4 (bp (opens p l)),au.arr 1 (bE (opens p l)),au.arr 2 (bA (opens p l)),au.arr 3 (cH (acts++pL l))]}):=by
 intro l
 induction l with
 |nil=>
  intro pre p acts kZ hl hc ha;rw[SF,ah,aC (by rw[kZ];simp)];simp[opens,pL]
 |cons x l ih=>
  intro pre p acts kZ hl hc ha;have hpl:pre.length<L.length:=by rw[kZ];simp
  have hg:L.getD pre.length 0=x:=by rw[kZ];simp[List.getD]
  have hx:=hl x (by simp);have e1:(pre.length:Int)+1=((pre++[x]).length:Int):=by simp
  rw[cM]at ha;rw[SF,ah,aK (by omega),cE _ hpl,hg];simp only[SB];rw[H0 hc hx (by omega)];simp only[SB,aD,bb,aW,kF];rw[ck (n:=(pre.length:Int)+1) (by omega),e1];have:=ih (pre++[x]) (cA p x false) (acts++[⟨2,x,0⟩]) (by rw[kZ];simp) (λi hi=>hl i (by simp[hi])) (by simpa[cA]using hc) (by simp;omega);rw[lz]at this;exact this
theorem Wx {b:Bd}{u:Nat}{p:Pw}{acts:List Act}(hb:BV b)(hp:aX b p)(hu:u<=1000)(ha:acts.length<=50000):
  denC E 96 [AV.t (.ptr 0 0),AV.fn 148 [.ptr 1 0]] [uL b,au.box [AV.int .i64 (u:Int)],au.arr 1 (bC p),au.arr 4 (bp p),au.arr 1 (bE p),au.arr 2 (bA p),au.arr 3 (cH acts)]=
   some ([],[uL b,au.box [AV.int .i64 (u:Int)],au.arr 1 (bC (opens p (pC b p λi=>((br b i).k==3&&(br b i).b==u)))),au.arr 4 (bp (opens p (pC b p λi=>((br b i).k==3&&(br b i).b==u)))),au.arr 1 (bE (opens p (pC b p λi=>((br b i).k==3&&(br b i).b==u)))),au.arr 2 (bA (opens p (pC b p λi=>((br b i).k==3&&(br b i).b==u)))),au.arr 3 (cH (acts++pL (pC b p λi=>((br b i).k==3&&(br b i).b==u))))]):=by
 have sg:=hb.nb;have ak:=n5 (b:=b) (q:=p) (λi=>((br b i).k==3&&(br b i).b==u));have l0:=af9 (acts:=acts) hb hp hu _ 0 [] (dy _) (dB _);have l2:=af8 hb hu (L:=pC b p λi=>((br b i).k==3&&(br b i).b==u)) (by omega) (pC b p λi=>((br b i).k==3&&(br b i).b==u)) [] p acts rfl (λi hi=>qj hi) hp.c (by omega);rw[fC,gq,<-iC,show(List.range b.aO.length).filter (λi=>cl p i&&((br b i).k==3&&(br b i).b==u))=pC b p (λi=>((br b i).k==3&&(br b i).b==u)) from rfl]at l0;rw[iD,fC]at l2;rw[ai,ajv,bS,show([]:List (List PV))=bF [] from rfl,l0];simp only[SB,Nat.reduceAdd,aU];rw[l2];simp only[SB]
theorem aif {b:Bd}{x y:Nat}(hx:x<b.cons.length)(hy:y<b.cons.length):denC E 145 [AV.int .i64 (x:Int),AV.int .i64 (y:Int),AV.t (.ptr 0 0)] [eG b]=some ([RV.p (PV.int .i64 (Kl ((cn b x).vW:Int) ((cn b y).vW:Int)))],[eG b]):=by
 rw[ai,aj_,oA _ hx];simp only[SB];rw[oA _ hy];simp only[zP,SB]
abbrev soF:List AV:=[AV.undef,AV.undef,AV.undef,AV.fn 145 [.ptr 1 0]]
theorem RY {L:List Nat}{n i v:Nat}(h:∀x∈L,x<n)(hv:v<n):∀x∈L.set i v,x<n:=λx hx=>by
 rcases List.mem_or_eq_of_mem_set hx with hx|rfl
 ·exact h x hx
 ·exact hv
theorem U_ {b:Bd}{n i:Int}:∀(j:Nat) (L:List Nat),j<L.length->L.length<=100->(∀x∈L,x<b.cons.length)->
  ∃L',L'.length=L.length/\(∀x∈L',x<b.cons.length)/\lp E (denC E) 188 2 soF 2 {vals:=[AV.int .i64 0,AV.int .i64 n,AV.int .i64 i,AV.int .i64 j],aq:=[au.arr 1 (bF L),eG b]}=
   some (Ex.exit 2,{vals:=[AV.int .i64 0,AV.int .i64 n,AV.int .i64 i],aq:=[au.arr 1 (bF L'),eG b]}):=by
 intro j
 induction j with
 |zero=>
  intro L hj hL hx;refine⟨L,rfl,hx,?_⟩;rw[N1,ah,aC (by omega)]
 |succ j ih=>
  intro L hj hL hx;have h1:=BQ hx hj;have h2:=BQ hx (show j<L.length by omega);obtain⟨L',e1,e2,e3⟩:=ih ((L.set (j+1) (L.getD j 0)).set j (L.getD (j+1) 0)) (by simp;omega) (by simpa using hL) (RY (RY hx h2) h1);have hr:lp E (denC E) 188 2 soF 2 {vals:=[AV.int .i64 0,AV.int .i64 n,AV.int .i64 i,AV.int .i64 ((j+1:Nat):Int)],aq:=[au.arr 1 (bF L),eG b]}=
    ctl (aT (Kl ((cn b (L.getD (j+1) 0)).vW:Int) ((cn b (L.getD j 0)).vW:Int)) 0) (lp E (denC E) 188 2 soF 2 {vals:=[AV.int .i64 0,AV.int .i64 n,AV.int .i64 i,AV.int .i64 j],aq:=[au.arr 1 (bF ((L.set (j+1) (L.getD j 0)).set j (L.getD (j+1) 0))),eG b]})
     (some (Ex.exit 2,{vals:=[AV.int .i64 0,AV.int .i64 n,AV.int .i64 i],aq:=[au.arr 1 (bF L),eG b]})):=by
   rw[N1,ah,aK (by omega),ck (n:=((j+1:Nat):Int)-1) (by omega),show((j+1:Nat):Int)-1=(j:Int) by omega,aU,bG hj,bG (show j<L.length by omega)];simp only[ay,bo];rw[wa hj,wa (show j<L.length by omega)];simp only[eN,m_,iN,aif h1 h2,SB];rw[mV hj,aU,vn,bG (show j<L.length by omega),mV (by simp;omega)];simp only[SB]
  rw[hr];cases hc:aT (Kl ((cn b (L.getD (j+1) 0)).vW:Int) ((cn b (L.getD j 0)).vW:Int)) 0 with
  |true=>exact⟨L',by simpa using e1,e2,e3⟩
  |false=>exact⟨L,rfl,hx,rfl⟩
theorem Qh {b:Bd}{n:Nat}(hn:n<=100):∀(m i:Nat) (L:List Nat),i+m=n->1<=i->L.length=n->(∀x∈L,x<b.cons.length)->
  ∃L',L'.length=n/\(∀x∈L',x<b.cons.length)/\lp E (denC E) 188 2 soF 0 {vals:=[AV.int .i64 0,AV.int .i64 n,AV.int .i64 i],aq:=[au.arr 1 (bF L),eG b]}=
   some (Ex.exit 0,{vals:=[],aq:=[au.arr 1 (bF L'),eG b]}):=by
 intro m
 induction m with
 |zero=>
  intro i L hi h1 hL hx;refine⟨L,hL,hx,?_⟩;rw[GY,ah,aC (by omega)]
 |succ m ih=>
  intro i L hi h1 hL hx;obtain⟨L1,a1,a2,a3⟩:=U_ (n:=(n:Int)) (i:=(i:Int)) i L (by omega) (by omega) hx;obtain⟨L2,b1,b2,b3⟩:=ih (i+1) L1 (by omega) (by omega) (by omega) a2;refine⟨L2,b1,b2,?_⟩;rw[GY,ah,aK (by omega),a3];simp only[SB,Nat.reduceAdd];rw[ck (n:=(i:Int)+1) (by omega),aw i];exact b3
theorem aaG {b:Bd}{L:List Nat}(hL:L.length<=100)(hx:∀x∈L,x<b.cons.length):∃L',L'.length=L.length/\(∀x∈L',x<b.cons.length)/\
  denC E 188 [AV.t (.ak 0),AV.int .i64 0,AV.int .i64 L.length,AV.fn 145 [.ptr 1 0]] [au.arr 1 (bF L),eG b]=some ([],[au.arr 1 (bF L'),eG b]):=by
 by_cases h0:L.length=0
 ·refine⟨L,rfl,hx,?_⟩;rw[ai,ab0,ck (n:=(0:Int)+1) (by omega),GY,ah,aC (by omega)];simp only[SB,Nat.reduceAdd]
 ·obtain⟨L',a1,a2,a3⟩:=Qh (n:=L.length) hL (L.length-1) 1 L (by omega) (dB _) rfl hx;refine⟨L',a1,a2,?_⟩;rw[ai,ab0,ck (n:=(0:Int)+1) (by omega),show(0:Int)+1=((1:Nat):Int) from rfl,a3];simp only[SB,Nat.reduceAdd]
theorem WB {b:Bd}{L:List Nat}(hL:L.length<=16)(hx:∀x∈L,x<b.cons.length):∃L',L'.length=L.length/\(∀x∈L',x<b.cons.length)/\
  denC E 144 [AV.t (.ak 0),AV.fn 145 [.ptr 1 0]] [au.arr 1 (bF L),eG b]=some ([],[au.arr 1 (bF L'),eG b]):=by
 obtain⟨L',a1,a2,a3⟩:=aaG (b:=b) (L:=L) (by omega) hx;refine⟨L',a1,a2,?_⟩;have h2:denC E 175 [AV.t (.ak 0),AV.int .i64 L.length,AV.fn 145 [.ptr 1 0]] [au.arr 1 (bF L),eG b]=some ([],[au.arr 1 (bF L'),eG b]):=by
  rw[ai,agu,YD,show bJ 20 ((L.length:Nat):Int)=false from rG (by omega),aF];simp only[SB,Nat.reduceAdd];rw[a3];simp only[SB,aW];rw[YC,ah,aC (by omega)];simp only[SB]
 rw[ai,agw,aU,h2];simp only[SB]
theorem L8 {b:Bd}(hb:BV b):∀(m k:Nat) (L:List Nat),k+m=b.cons.length->L.length=k->(∀x∈L,x<b.cons.length)->
  ∃L',L'.length=b.cons.length/\(∀x∈L',x<b.cons.length)/\lp E (denC E) 100 0 [] 0 {vals:=[AV.int .i64 b.cons.length,AV.int .i64 k],aq:=[eG b,au.arr 1 (bF L)]}=some (Ex.exit 0,{vals:=[],aq:=[eG b,au.arr 1 (bF L')]}):=by
 have Fg:=hb.nc;intro m
 induction m with
 |zero=>
  intro k L hk hL hx;refine⟨L,by omega,hx,?_⟩;rw[Tp,ah,aC (by omega)]
 |succ m ih=>
  intro k L hk hL hx;obtain⟨L',a1,a2,a3⟩:=ih (k+1) (L++[k]) (by omega) (by simp[hL]) (λx kY=>by
   rcases eO.1 kY with h|h
   ·exact hx x h
   ·rw[jL.1 h];omega)
  refine⟨L',a1,a2,?_⟩;rw[Tp,ah,aK (by omega),aU,ct (by omega),ay,ck (n:=(k:Int)+1) (by omega),aw k,BH];exact a3
theorem O4 {b:Bd}(hb:BV b):∃L:List Nat,L.length=b.cons.length/\(∀x∈L,x<b.cons.length)/\denC E 100 [eH b] []=some ([RV.p (PV.sl 1 (bF L))],[]):=by
 have Fg:=hb.nc;obtain⟨L,a1,a2,a3⟩:=L8 hb _ 0 [] (dy _) rfl (λx hx=>by cases hx);rw[fC]at a3;obtain⟨L',b1,b2,b3⟩:=WB (b:=b) (L:=L) (by omega) a2;refine⟨L',by omega,b2,?_⟩;rw[ai,aky,H3 hb,dE];simp only[fB,SB,Nat.reduceAdd];rw[show([]:List (List PV))=bF [] from rfl,a3];simp only[SB];rw[b3];simp only[SB]
theorem YU (a c:Int):lC a c<=a/\lC a c<=c:=by unfold lC;split<;>omega
theorem Ug {b:Bd}{p:Pw}(hb:BV b){j:Nat}(hj:j<b.n){L:List Nat}(hL:L.length<=100)(hx:∀x∈L,x<b.cons.length):∀(l pre:List Nat) (q:Pw) (acts:List Act),L=pre++l->Rl b p q acts->acts.length+l.length<=100000->
  ∃q' cJ,lp E (denC E) 104 1 [] 0 {vals:=[AV.int .i64 (j:Int),AV.sl 1 (bF L),AV.int .i64 L.length,AV.int .i64 pre.length],aq:=[rP b,au.arr 1 (bC q),au.arr 4 (bp q),au.arr 1 (bE q),au.arr 2 (bA q),au.arr 3 (cH acts)]}=
   some (Ex.exit 0,{vals:=[],aq:=[rP b,au.arr 1 (bC q'),au.arr 4 (bp q'),au.arr 1 (bE q'),au.arr 2 (bA q'),au.arr 3 (cH cJ)]})/\Rl b p q' cJ/\q'.closed=q.closed/\q'.aA=q.aA/\cJ.length<=acts.length+l.length:=by
 intro l
 induction l with
 |nil=>
  intro pre q acts kZ h ha;refine⟨q,acts,?_,h,rfl,rfl,by simp⟩;rw[To,ah,aC (by rw[kZ];simp)]
 |cons x l ih=>
  intro pre q acts kZ h ha;have hpl:pre.length<L.length:=by rw[kZ];simp
  have hg:L.getD pre.length 0=x:=by rw[kZ];simp[List.getD]
  have Qn:=hx x (by rw[kZ];simp);have BO:x<q.gJ.length:=by rw[h.ok.l];exact Qn
  have e1:(pre.length:Int)+1=((pre++[x]).length:Int):=by simp
  have Hu:=BK hb h.ok j;have hra:=GX (p:=q) hb j;have jO:=hb.zL x Qn;have hlm:=h.ok.Hd x Qn;rw[cM]at ha;rw[To,ah,aK (by omega),cE _ hpl,hg,Ee hb h.ok hj,tE hb h.ok hj];simp only[SB];rw[mH,bG BO,bo,oA _ Qn,show nth [] (bE q) x=[PV.int .i64 (lm q x:Int)] from wa BO];simp only[eN,m_,iN,SB];rw[ck (n:=(lm q x:Int)-((cn b x).least:Int)) (by omega),ck (n:=(dt b q j:Int)-(bV b q j:Int)) (by omega),ck (n:=(pre.length:Int)+1) (by omega),e1];obtain⟨d,hd⟩:∃d,lC ((lm q x:Int)-((cn b x).least:Int)) (gu ((dt b q j:Int)-(bV b q j:Int)) 0)=d:=⟨_,rfl⟩
  have hd1:=(YU ((lm q x:Int)-((cn b x).least:Int)) (gu ((dt b q j:Int)-(bV b q j:Int)) 0)).1;rw[hd]at hd1|-;by_cases JV:0<d
  ·obtain⟨v,hv⟩:∃v:Nat,(lm q x:Int)-d=(v:Int):=⟨((lm q x:Int)-d).toNat,by omega⟩
   have hvl:v<=lm q x:=by omega
   obtain⟨q',cJ,a1,a2,a3,a4,a5⟩:=ih (pre++[x]) (yP q x v) (acts++[⟨5,x,v⟩]) (by rw[kZ];simp) (h.lower Qn hvl) (by simp;omega);refine⟨q',cJ,?_,a2,a3,a4,by simp at a5|-;omega⟩;rw[iz JV,ck (n:=(lm q x:Int)-d) (by omega),hv,show bE q=bF q.gJ from rfl,mV BO,aU,vn,bG BO,wa (by simpa using BO),iZ,ct (by omega)];simp only[m_,iN,SB];rw[show((q.gJ.set x v).getD x 0)=v by simp[dD,BO],show cH acts++[[PV.int .i64 5,PV.int .i64 (x:Int),PV.int .i64 (v:Int)]]=cH (acts++[⟨5,x,v⟩]) from O8 acts ⟨5,x,v⟩];exact a1
  ·obtain⟨q',cJ,a1,a2,a3,a4,a5⟩:=ih (pre++[x]) q acts (by rw[kZ];simp) h (by omega);refine⟨q',cJ,?_,a2,a3,a4,by simp at a5|-;omega⟩;rw[b_ JV,aF];exact a1
theorem aaE {b:Bd}{p q:Pw}{acts:List Act}(hb:BV b){j:Nat}(hj:j<b.n){L:List Nat}(hL:L.length<=100)(hx:∀x∈L,x<b.cons.length)(h:Rl b p q acts)(ha:acts.length<=50000):
  ∃q' cJ,denC E 104 [AV.t (.ptr 0 0),AV.sl 1 (bF L),AV.int .i64 (j:Int)] [rP b,au.arr 1 (bC q),au.arr 4 (bp q),au.arr 1 (bE q),au.arr 2 (bA q),au.arr 3 (cH acts)]=
   some ([],[rP b,au.arr 1 (bC q'),au.arr 4 (bp q'),au.arr 1 (bE q'),au.arr 2 (bA q'),au.arr 3 (cH cJ)])/\Rl b p q' cJ/\q'.closed=q.closed/\q'.aA=q.aA/\cJ.length<=acts.length+L.length:=by
 obtain⟨q',cJ,a1,a2,a3,a4,a5⟩:=Ug hb hj hL hx L [] q acts rfl h (by omega);refine⟨q',cJ,?_,a2,a3,a4,a5⟩;rw[iD,fC]at a1;rw[ai,akx,aU,a1];simp only[SB,Nat.reduceAdd]
theorem CW:∀(l:List Nat) (q:Pw),(opens q l).aA=q.aA
 |[],q=>rfl
 |i::l,q=>by show(opens (cA q i false) l).aA=_;rw[CW l];rfl
theorem Pe {b:Bd}{p:Pw}(hb:BV b){j:Nat}(hj:j<b.n){L:List Nat}(hL:L.length<=100)(hx:∀x∈L,x<b.cons.length):∀(l pre:List Nat) (q:Pw) (acts:List Act),L=pre++l->Rl b p q acts->acts.length+24*l.length<=50000->
  ∃q' cJ,lp E (denC E) 105 1 [] 0 {vals:=[AV.int .i64 (j:Int),AV.sl 1 (bF L),AV.int .i64 L.length,AV.int .i64 pre.length],aq:=[rP b,au.arr 1 (bC q),au.arr 4 (bp q),au.arr 1 (bE q),au.arr 2 (bA q),au.arr 3 (cH acts)]}=
   some (Ex.exit 0,{vals:=[],aq:=[rP b,au.arr 1 (bC q'),au.arr 4 (bp q'),au.arr 1 (bE q'),au.arr 2 (bA q'),au.arr 3 (cH cJ)]})/\Rl b p q' cJ/\Kp b q q'/\q'.aA=q.aA/\cJ.length<=acts.length+24*l.length:=by
 have Fg:=hb.nc;have sg:=hb.nb;intro l
 induction l with
 |nil=>
  intro pre q acts kZ h ha;refine⟨q,acts,?_,h,Kp.refl q,rfl,by simp⟩;rw[Tn,ah,aC (by rw[kZ];simp)]
 |cons x l ih=>
  intro pre q acts kZ h ha;have hpl:pre.length<L.length:=by rw[kZ];simp
  have hg:L.getD pre.length 0=x:=by rw[kZ];simp[List.getD]
  have Qn:=hx x (by rw[kZ];simp);have BO:x<q.gJ.length:=by rw[h.ok.l];exact Qn
  have e1:(pre.length:Int)+1=((pre++[x]).length:Int):=by simp
  rw[cM]at ha;have skip:∃q' cJ,lp E (denC E) 105 1 [] 0 {vals:=[AV.int .i64 (j:Int),AV.sl 1 (bF L),AV.int .i64 L.length,AV.int .i64 ((pre++[x]).length:Int)],aq:=[rP b,au.arr 1 (bC q),au.arr 4 (bp q),au.arr 1 (bE q),au.arr 2 (bA q),au.arr 3 (cH acts)]}=
    some (Ex.exit 0,{vals:=[],aq:=[rP b,au.arr 1 (bC q'),au.arr 4 (bp q'),au.arr 1 (bE q'),au.arr 2 (bA q'),au.arr 3 (cH cJ)]})/\Rl b p q' cJ/\Kp b q q'/\q'.aA=q.aA/\cJ.length<=acts.length+24*(x::l).length:=by
   obtain⟨q',cJ,a1,a2,a3,a4,a5⟩:=ih (pre++[x]) q acts (by rw[kZ];simp) h (by omega);exact⟨q',cJ,a1,a2,a3,a4,by simp;omega⟩
  have ak:=n5 (b:=b) (q:=q) (λi=>((br b i).k==3&&(br b i).b==x));have hR:=Rl.opens hb.bT (p:=p) (l:=pC b q (λi=>((br b i).k==3&&(br b i).b==x))) (λi hi=>qj hi) h;have hol:(pL (pC b q (λi=>((br b i).k==3&&(br b i).b==x)))).length<=24:=by simp[pL];omega
  have go:∃q' cJ,lp E (denC E) 105 1 [] 0 {vals:=[AV.int .i64 (j:Int),AV.sl 1 (bF L),AV.int .i64 L.length,AV.int .i64 ((pre++[x]).length:Int)],aq:=[rP b,au.arr 1 (bC (opens q (pC b q (λi=>((br b i).k==3&&(br b i).b==x))))),au.arr 4 (bp (opens q (pC b q (λi=>((br b i).k==3&&(br b i).b==x))))),au.arr 1 (bE (opens q (pC b q (λi=>((br b i).k==3&&(br b i).b==x))))),au.arr 2 (bA (opens q (pC b q (λi=>((br b i).k==3&&(br b i).b==x))))),au.arr 3 (cH (acts++pL (pC b q (λi=>((br b i).k==3&&(br b i).b==x)))))]}=
    some (Ex.exit 0,{vals:=[],aq:=[rP b,au.arr 1 (bC q'),au.arr 4 (bp q'),au.arr 1 (bE q'),au.arr 2 (bA q'),au.arr 3 (cH cJ)]})/\Rl b p q' cJ/\Kp b q q'/\q'.aA=q.aA/\cJ.length<=acts.length+24*(x::l).length:=by
   obtain⟨q',cJ,a1,a2,a3,a4,a5⟩:=ih (pre++[x]) _ _ (by rw[kZ];simp) hR (by rw[jf];omega);refine⟨q',cJ,a1,a2,Kp.trans (IL h.ok.c λi hi hk=> ?_) a3,a4.trans (CW _ _),by rw[jf]at a5;simp only[cM];omega⟩;rw[show((br b i).k==3)=false by simpa using hk];rfl
  obtain⟨q1,Gv,s1,s2⟩:=skip;obtain⟨q2,Bc,g1,g2⟩:=go;have hr:lp E (denC E) 105 1 [] 0 {vals:=[AV.int .i64 (j:Int),AV.sl 1 (bF L),AV.int .i64 L.length,AV.int .i64 pre.length],aq:=[rP b,au.arr 1 (bC q),au.arr 4 (bp q),au.arr 1 (bE q),au.arr 2 (bA q),au.arr 3 (cH acts)]}=
    ctl (aT 0 (lm q x:Int)) (ctl (aT 0 (gu (IntKind.i64.wrap ((dt b q j:Int)-(bV b q j:Int))) 0)) (some (Ex.exit 0,{vals:=[],aq:=[rP b,au.arr 1 (bC q2),au.arr 4 (bp q2),au.arr 1 (bE q2),au.arr 2 (bA q2),au.arr 3 (cH Bc)]}))
     (some (Ex.exit 0,{vals:=[],aq:=[rP b,au.arr 1 (bC q1),au.arr 4 (bp q1),au.arr 1 (bE q1),au.arr 2 (bA q1),au.arr 3 (cH Gv)]}))) (some (Ex.exit 0,{vals:=[],aq:=[rP b,au.arr 1 (bC q1),au.arr 4 (bp q1),au.arr 1 (bE q1),au.arr 2 (bA q1),au.arr 3 (cH Gv)]})):=by
   rw[Tn,ah,aK (by omega),cE _ hpl,hg];simp only[SB];rw[mH,bG BO,bo,show nth [] (bE q) x=[PV.int .i64 (lm q x:Int)] from wa BO];simp only[eN,m_,iN,SB];rw[Ee hb h.ok hj,tE hb h.ok hj];simp only[SB];rw[Wx hb h.ok (u:=x) (by omega) (by omega)];simp only[SB,aD,bb,aW,kF];rw[ck (n:=(pre.length:Int)+1) (by omega),e1,s1,g1]
  rw[hr];cases aT 0 (lm q x:Int)with
  |false=>exact⟨q1,Gv,rfl,s2⟩
  |true=>
   cases aT 0 (gu (IntKind.i64.wrap ((dt b q j:Int)-(bV b q j:Int))) 0)with
   |false=>exact⟨q1,Gv,rfl,s2⟩
   |true=>exact⟨q2,Bc,rfl,g2⟩
theorem ae8 {b:Bd}{p q:Pw}{acts:List Act}(hb:BV b){j:Nat}(hj:j<b.n){L:List Nat}(hL:L.length<=100)(hx:∀x∈L,x<b.cons.length)(h:Rl b p q acts)(ha:acts.length<=40000):
  ∃q' cJ,denC E 105 [AV.t (.ptr 0 0),AV.sl 1 (bF L),AV.int .i64 (j:Int)] [rP b,au.arr 1 (bC q),au.arr 4 (bp q),au.arr 1 (bE q),au.arr 2 (bA q),au.arr 3 (cH acts)]=
   some ([],[rP b,au.arr 1 (bC q'),au.arr 4 (bp q'),au.arr 1 (bE q'),au.arr 2 (bA q'),au.arr 3 (cH cJ)])/\Rl b p q' cJ/\Kp b q q'/\q'.aA=q.aA/\cJ.length<=acts.length+24*L.length:=by
 obtain⟨q',cJ,a1,a2,a3,a4,a5⟩:=Pe hb hj hL hx L [] q acts rfl h (by omega);refine⟨q',cJ,?_,a2,a3,a4,a5⟩;rw[iD,fC]at a1;rw[ai,akw,aU,a1];simp only[SB,Nat.reduceAdd]
theorem ZO {b:Bd}{p q q':Pw}(h:∀i,i<b.aO.length->cl q i=(cl p i&& !kQ b p (br b i)))(hk:Kp b q q'):∀i,i<b.aO.length->(br b i).k≠3->cl q' i=(cl p i&& !kQ b p (br b i)):=λi hi hk3=>(hk i hi hk3).trans (h i hi)
theorem aaK {b:Bd}{p:Pw}(hb:BV b)(hp:aX b p):∃q acts,denC E 52 [AV.t (.ptr 0 0)] [rP b,au.arr 1 (bC p),au.arr 4 (bp p),au.arr 1 (bE p),au.arr 2 (bA p),au.arr 3 []]=
   some ([],[rP b,au.arr 1 (bC q),au.arr 4 (bp q),au.arr 1 (bE q),au.arr 2 (bA q),au.arr 3 (cH acts)])/\Rl b p q acts/\j_ b q/\(∀i,i<b.aO.length->(br b i).k≠3->cl q i=(cl p i&& !kQ b p (br b i)))/\acts.length<=48:=by
 have sg:=hb.nb;have r0:=Rl.refl hp;obtain⟨s1,e1⟩:∃s1,pC b p (λi=>kQ b p (br b i))=s1:=⟨_,rfl⟩
 have hs1:=n5 (b:=b) (q:=p) (λi=>kQ b p (br b i));have r1:=Rl.opens hb.bT (l:=s1) (λi hi=>qj (by rw[e1];exact hi)) r0;obtain⟨s2,e2⟩:∃s2,pC b (opens p s1) (λi=>((br b i).k==3&& !aY b (opens p s1) (br b i).a))=s2:=⟨_,rfl⟩
 have hs2:=n5 (b:=b) (q:=opens p s1) (λi=>((br b i).k==3&& !aY b (opens p s1) (br b i).a));have r2:=Rl.opens hb.bT (l:=s2) (λi hi=>qj (by rw[e2];exact hi)) r1;have ca:=Wz (acts:=[]) hb hp (by simp);have cb:=Wy (acts:=[]++pL s1) hb r1.ok (by simp[pL];rw[e1]at hs1;omega);rw[e1]at ca hs1;rw[e2]at cb hs2;refine⟨follow b (opens (opens p s1) s2),[]++pL s1++pL s2,?_,r2.follow,wC r2.ok,ZO (λi hi=> ?_) (Kp.trans (IL (h:=λi=>((br b i).k==3&& !aY b (opens p s1) (br b i).a)) r1.ok.c λi hi hk=> ?_) (by rw[e2];exact Kp.refl _)),by simp[pL];omega⟩
 ·rw[ai,r52,show(au.arr 3 []:au)=au.arr 3 (cH []) from rfl,ca];simp only[SB,aD,bb,aW,kF];rw[cb];simp only[SB,aD,bb,aW,kF];rw[Ef hb r2.ok];simp only[SB,jV,il,ig,ij,im]
 ·rw[<-e1];exact Kq hp.c hi
 ·rw[show((br b i).k==3)=false by simpa using hk];rfl
theorem aan (B S C:List (List PV))(cons order:List Nat):D3 [PV.sl 1 B,PV.sl 1 S,PV.sl 1 (bF cons)] (bF order)=bF (order.filter λc=>cons.contains c):=by
 unfold D3;simp only;rw[bF,bF,List.filter_map];congr 1;refine xg λc _=> ?_;simp only[Function.comp,List.any_map];rw[uQ,List.any_eq_true,na];constructor
 ·rintro⟨x,hx,he⟩;have:(x:Int)=(c:Int):=by simpa[nth,PV.toInt]using he
  have:x=c:=by omega
  rw[<-this];exact hx
 ·intro h;exact⟨c,h,by simp[nth,PV.toInt]⟩
theorem Wi (B S:List (List PV)){cons order:List Nat}(h1:cons.length<=1000)(h2:order.length<=1000):D2 [PV.sl 1 B,PV.sl 1 S,PV.sl 1 (bF cons)] (bF order)=true:=by
 unfold D2;simp only[Oz,aU,xc,bO];exact⟨Nat.ble_eq_true_of_le (by omega),Nat.ble_eq_true_of_le (by omega)⟩
theorem qT {b:Bd}{p:Pw}{f:Nat}(h:f∈aH b p):∃j l,aZ b p f=j::l/\j<b.n:=by
 unfold aH at h;have h2:=(uO.1 h).2;cases EG:aZ b p f with
 |nil=>rw[EG]at h2;cases h2
 |cons j l=>exact⟨j,l,rfl,(mN.1 (show j∈aZ b p f by rw[EG];simp)).1⟩
theorem Pq {b:Bd}{p p0:Pw}(hb:BV b){L:List Nat}(hL:L.length<=16)(hx:∀x∈L,x<b.cons.length):∀(l pre:List Nat) (q:Pw) (acts:List Act),aH b p0=pre++l->Rl b p q acts->acts.length+400*l.length<=30000->
  ∃q' cJ,lp E (denC E) 53 1 [] 0 {vals:=[AV.sl 1 (bF L),AV.sl 3 (cI b p0),AV.int .i64 (aH b p0).length,AV.int .i64 pre.length],aq:=[rP b,au.arr 1 (bC q),au.arr 4 (bp q),au.arr 1 (bE q),au.arr 2 (bA q),au.arr 3 (cH acts)]}=
   some (Ex.exit 0,{vals:=[],aq:=[rP b,au.arr 1 (bC q'),au.arr 4 (bp q'),au.arr 1 (bE q'),au.arr 2 (bA q'),au.arr 3 (cH cJ)]})/\Rl b p q' cJ/\Kp b q q'/\q'.aA=q.aA/\cJ.length<=acts.length+400*l.length:=by
 have ir:=fU b p0;have h6:=hb.n6;have Fg:=hb.nc;have h8:=hb.ng;intro l
 induction l with
 |nil=>
  intro pre q acts hk h ha;refine⟨q,acts,?_,h,Kp.refl q,rfl,by simp⟩;rw[abM,ah,aC (by rw[hk];simp)]
 |cons f l ih=>
  intro pre q acts hk h ha;have hpl:pre.length<(aH b p0).length:=by rw[hk];simp
  have hg:(aH b p0).getD pre.length 0=f:=by rw[hk];simp[List.getD]
  have XC:f∈aH b p0:=by rw[hk];simp
  have e1:(pre.length:Int)+1=((pre++[f]).length:Int):=by simp
  obtain⟨j,bl,EG,hj⟩:=qT XC;have jO:=qP b p0 f;have ak:=fO b p0 f;have uu:∀K:List PV->Option (Ex×Pack),aG (cI b p0) (pre.length:Int) K=K (fh b p0 f):=λK=>by
   have:=bI (fh b p0) 0 hpl K;rw[hg]at this;exact this
  rw[cM]at ha;obtain⟨own,ho⟩:∃own,L.filter (λc=>(dw b p0 f).contains c)=own:=⟨_,rfl⟩
  have hol:own.length<=16:=by have:=oO (λc=>(dw b p0 f).contains c) L;rw[ho]at this;omega
  have hox:∀x∈own,x<b.cons.length:=λx kY=>by rw[<-ho]at kY;exact hx x (uO.1 kY).1
  obtain⟨q1,Gv,a1,a2,a3,a4,a5⟩:=aaE hb hj (L:=own) (by omega) hox h (by omega);obtain⟨q2,Bc,b1,b2,b3,b4,b5⟩:=ae8 hb hj (L:=own) (by omega) hox a2 (by omega);obtain⟨q3,adg,c1,c2,c3,c4,c5⟩:=ih (pre++[f]) q2 Bc (by rw[hk];simp) b2 (by omega);obtain⟨q4,adf,d1,d2,d3,d4,d5⟩:=ih (pre++[f]) q acts (by rw[hk];simp) h (by omega);have nz:Kp b q q1:=λi hi hk=>by unfold cl;rw[a3]
  have hr:lp E (denC E) 53 1 [] 0 {vals:=[AV.sl 1 (bF L),AV.sl 3 (cI b p0),AV.int .i64 (aH b p0).length,AV.int .i64 pre.length],aq:=[rP b,au.arr 1 (bC q),au.arr 4 (bp q),au.arr 1 (bE q),au.arr 2 (bA q),au.arr 3 (cH acts)]}=
    ctl (aT 0 ((av b p0 f).length:Int)) (some (Ex.exit 0,{vals:=[],aq:=[rP b,au.arr 1 (bC q3),au.arr 4 (bp q3),au.arr 1 (bE q3),au.arr 2 (bA q3),au.arr 3 (cH adg)]})) (some (Ex.exit 0,{vals:=[],aq:=[rP b,au.arr 1 (bC q4),au.arr 4 (bp q4),au.arr 1 (bE q4),au.arr 2 (bA q4),au.arr 3 (cH adf)]})):=by
   rw[abM,ah,aK (by omega),uu];unfold fh;simp only[SB];rw[KJ (by rw[aU];omega)];simp only[SB];rw[Wi _ _ (by omega) (by omega),aan _ _ [],ho,aU,ay,ck (n:=(pre.length:Int)+1) (by omega),e1,d1,EG];have aac:∀K:List PV->Option (Ex×Pack),aG (bF (j::bl)) 0 K=K [PV.int .i64 (j:Int)]:=λK=>by
    have:=cE (l:=j::bl) (i:=0) K (by simp);exact this
   rw[aac];simp only[SB];rw[a1];simp only[SB,aD,bb,aW,kF];rw[aac];simp only[SB];rw[b1];simp only[SB,aD,bb,aW,kF];rw[c1]
  rw[hr];cases aT 0 ((av b p0 f).length:Int)with
  |true=>exact⟨q3,adg,rfl,c2,(nz.trans b3).trans c3,(c4.trans b4).trans a4,by simp only[cM];omega⟩
  |false=>exact⟨q4,adf,rfl,d2,d3,d4,by simp only[cM];omega⟩
theorem ae' {b:Bd}{p q:Pw}{acts:List Act}(hb:BV b)(h:Rl b p q acts)(ha:acts.length<=48):∃q' cJ,denC E 53 [AV.t (.ptr 0 0)] [rP b,au.arr 1 (bC q),au.arr 4 (bp q),au.arr 1 (bE q),au.arr 2 (bA q),au.arr 3 (cH acts)]=
  some ([],[rP b,au.arr 1 (bC q'),au.arr 4 (bp q'),au.arr 1 (bE q'),au.arr 2 (bA q'),au.arr 3 (cH cJ)])/\Rl b p q' cJ/\Kp b q q'/\q'.aA=q.aA/\cJ.length<=4000:=by
 have ir:=fU b q;have h6:=hb.n6;have Fg:=hb.nc;obtain⟨L,l1,l2,l3⟩:=O4 hb;obtain⟨q',cJ,a1,a2,a3,a4,a5⟩:=Pq hb (p0:=q) (L:=L) (by omega) l2 (aH b q) [] q acts rfl h (by omega);refine⟨q',cJ,?_,a2,a3,a4,by omega⟩;rw[iD,fC]at a1;rw[ai,r53,l3];simp only[SB,Nat.reduceAdd];rw[mP hb h.ok];simp only[SB];rw[show(cI b q).length=(aH b q).length by simp[cI],a1];simp only[SB]
theorem Gn {b:Bd}{p:Pw}(hb:BV b)(hp:aX b p):∃q acts,denC E 19 [eH b,iQ p] []=some ([Tw q,RV.own 3 (cH acts),RV.p (PV.int .i64 0)],[])/\K1 b p q acts:=by
 obtain⟨q1,Gv,a1,a2,a3,a4,a5⟩:=aaK hb hp;obtain⟨q2,Bc,b1,b2,b3,b4,b5⟩:=ae' hb a2 a5;have pn:j_ b q2:=aeX hb.bT a2.ok.c b2.ok.c b3 b4 a3;refine⟨q2,Bc,?_,b2,pn,λi hi hk=>(b3 i hi hk).trans (a4 i hi hk),by omega⟩;have h51:denC E 51 [AV.t (.ptr 0 0)] [rP b,au.arr 1 (bC p),au.arr 4 (bp p),au.arr 1 (bE p),au.arr 2 (bA p),au.arr 3 []]=some ([],[rP b,au.arr 1 (bC q2),au.arr 4 (bp q2),au.arr 1 (bE q2),au.arr 2 (bA q2),au.arr 3 (cH Bc)]):=by
  rw[ai,r51,a1];simp only[SB,aD,bb,aW,kF];rw[b1];simp only[SB,aD,bb,aW,kF]
 have h50:denC E 50 [eH b,iQ p,AV.fn 51 []] []=some ([Tw q2,RV.own 3 (cH Bc),RV.p (PV.int .i64 0)],[]):=by
  rw[ai,ajD,eM hb hp,fy (hp.sm hb)];simp only[fB,SB];rw[h51];simp only[SB,aD,bb,aW,kF]
 rw[ai,r19,h50];simp only[SB]
theorem Xa {b:Bd}(hb:BV b){s:Nat}(hs:s<b.ar.length):∀(m k:Nat),k+m=cL b s->
  lp E (denC E) 118 1 [AV.undef,AV.fn 119 [.ptr 0 0]] 0 {vals:=[AV.sl 3 (fW b),AV.int .i64 b.aO.length,AV.int .i64 k],aq:=[au.box [AV.int .i64 (s:Int)]]}=
   some (Ex.ret,{vals:=[AV.int .i64 (cL b s:Int)],aq:=[au.box [AV.int .i64 (s:Int)]]}):=by
 have sg:=hb.nb;obtain⟨h1,h2,h3⟩:=bu hb.bT hs;have hc:∀k,denC E 119 [AV.agg [PV.int .i64 ((br b k).k:Int),PV.int .i64 ((br b k).a:Int),PV.int .i64 ((br b k).b:Int)],AV.t (.ptr 0 0)] [au.box [AV.int .i64 (s:Int)]]=some ([RV.p (PV.bool ((br b k).k==2&&(br b k).b==s))],[au.box [AV.int .i64 (s:Int)]]):=λk=>by
  rw[ai,akp,rK,gi];simp only[SB]
 intro m
 induction m with
 |zero=>
  intro k hk;obtain rfl:k=cL b s:=by omega
  rw[N6,ah,aK (by omega),cF _ h1];simp only[SB];rw[hc,h2,h3];simp only[SB,xa]
 |succ m ih=>
  intro k hk;rw[N6,ah,aK (by omega),cF _ (by omega)];simp only[SB];rw[hc,Oj hb (by omega) hs];simp only[SB];rw[ck (n:=(k:Int)+1) (by omega),aw k];exact ih (k+1) (by omega)
theorem kU {b:Bd}(hb:BV b){s:Nat}(hs:s<b.ar.length):denC E 65 [eH b,AV.int .i64 (s:Int)] []=some ([RV.p (PV.int .i64 (cL b s:Int))],[]):=by
 have l0:=Xa hb hs _ 0 (dy _);rw[fC]at l0;have h1:denC E 118 [AV.sl 3 (fW b),AV.fn 119 [.ptr 0 0]] [au.box [AV.int .i64 (s:Int)]]=some ([RV.p (PV.int .i64 (cL b s:Int))],[au.box [AV.int .i64 (s:Int)]]):=by
  rw[ai,agA,bS,l0];simp only[SB]
 rw[ai,r65,h1];simp only[SB]
theorem yi {b:Bd}{p:Pw}(hb:BV b)(hp:aX b p){i:Nat}(hi:i<b.aO.length):denC E 66 [eH b,iQ p,AV.int .i64 (i:Int)] []=some ([RV.p (PV.bool (jd b p i))],[]):=by
 rw[ai,r66,cF _ hi];simp only[SB];rw[show((2:Int))=((2:Nat):Int) from rfl,show((3:Int))=((3:Nat):Int) from rfl];simp only[h_ (b:=b) hp,SB];unfold jd;rw[show(((br b i).k:Int) !=1)= !((br b i).k==1) by unfold bne;rw[rL]]
theorem Eb {b:Bd}{p:Pw}(hb:BV b)(hp:aX b p){s:Nat}(hs:s<b.ar.length):denC E 64 [eH b,iQ p,AV.int .i64 (s:Int)] []=some ([RV.p (PV.bool (ft b p s))],[]):=by
 rw[ai,r64,kU hb hs];simp only[SB];rw[yi hb hp (bu hb.bT hs).1];simp only[SB];rw[show((1:Int))=((1:Nat):Int) from rfl,h_ (b:=b) hp,dv _ (by rw[hp.s];exact hs)];simp only[SB];unfold ft;rw[show(((sr p s).st:Int) !=3)=((sr p s).st !=3) by unfold bne;rw[Ej]]
abbrev p7 (l:List Bool):List (List PV):=l.map vG
theorem iu (l:List Bool):(p7 l).length=l.length:=by simp[p7]
theorem zm {l:List Bool}{i:Nat}(h:i<l.length):nth [] (p7 l) i=[PV.bool (l.getD i false)]:=dS (f:=vG) (d:=false) h
theorem mW {l:List Bool}{i:Nat}(h:i<l.length)(v:Bool):bg (p7 l) i 0 [PV.bool v]=p7 (l.set i v):=by
 unfold bg p7;rw[dS (d:=false) h];exact mo (f:=vG) v
theorem Qz (b:Bd)(p:Pw)(f:List Bool)(i:Nat):(mj b p f i).length=f.length:=by unfold mj;split<;>simp
theorem MQ {b:Bd}{p:Pw}(hb:BV b)(hp:aX b p):∀(m k:Nat) (f:List Bool),k+m=b.ar.length->f.length=b.n->
  lp E (denC E) 21 0 [] 0 {vals:=[AV.int .i64 b.ar.length,AV.int .i64 k],aq:=[eG b,kq p,au.arr 1 (p7 f)]}=
   some (Ex.exit 0,{vals:=[],aq:=[eG b,kq p,au.arr 1 (p7 ((List.range' k m).foldl (mj b p) f))]}):=by
 have h8:=hb.ng;intro m
 induction m with
 |zero=>
  intro k f hk hf;rw[abZ,ah,aC (by omega)];rfl
 |succ m ih=>
  intro k f hk hf;have qK:k<b.ar.length:=by omega
  have Fe:=iT hb.bT qK;have ih':=ih (k+1) (mj b p f k) (by omega) (by rw[Qz];exact hf);rw[abZ,ah,aK (by omega),Eb hb hp qK];simp only[SB];rw[kU hb qK];simp only[SB];rw[cF _ (bu hb.bT qK).1];simp only[SB];rw[iu,bG (by rw[hf];exact Fe),bo,mW (by rw[hf];exact Fe),ck (n:=(k:Int)+1) (by omega),aw k,en,je];unfold mj at ih'|-;cases hu:ft b p k with
  |true=>
   rw[hu]at ih';simp only[vg]at ih';exact ih'
  |false=>
   rw[hu]at ih';simp only[oQ,yZ]at ih';exact ih'
theorem Kg (f:List Bool)(x:fX×Bool):(fG f x).length=f.length:=by unfold fG;split<;>simp
theorem MO {b:Bd}{p:Pw}(hb:BV b)(hp:aX b p)(x y:Int):∀(m k:Nat) (f:List Bool),k+m=b.aO.length->f.length=b.n->
  lp E (denC E) 21 0 [] 4 {vals:=[AV.int .i64 x,AV.int .i64 y,AV.sl 3 (fW b),AV.int .i64 b.aO.length,AV.int .i64 k],aq:=[eG b,kq p,au.arr 1 (p7 f)]}=
   some (Ex.exit 4,{vals:=[AV.int .i64 x,AV.int .i64 y],aq:=[eG b,kq p,au.arr 1 (p7 (((gD b (EL b p).closed).drop k).foldl fG f))]}):=by
 have sg:=hb.nb;intro m
 induction m with
 |zero=>
  intro k f hk hf;rw[abX,ah,aC (by omega),xD NO (by omega)];rfl
 |succ m ih=>
  intro k f hk hf;have hkb:k<b.aO.length:=by omega
  have ht:=lY hb hkb;have J4:((gD b (EL b p).closed).drop k).foldl fG f=((gD b (EL b p).closed).drop (k+1)).foldl fG (fG f (br b k,jd b p k)):=by
   rw[sZ NO hkb,je,ae7 hkb]
  have ih':=ih (k+1) (fG f (br b k,jd b p k)) (by omega) (by rw[Kg];exact hf);rw[abX,ah,aK (by omega),cF _ hkb];simp only[SB];rw[yi hb hp hkb];simp only[SB];rw[ck (n:=(k:Int)+1) (by omega),aw k,J4,rL];unfold fG at ih'|-;by_cases h1:(br b k).k=1
  ·obtain⟨t1,t2⟩:=ht.2.1 h1;have ha:(br b k).a<f.length:=by omega
   have VN:(br b k).b<f.length:=by omega
   by_cases hs:jd b p k=true
   ·rw[aK ⟨h1,hs⟩]at ih'|-;rw[h1,hs];simp only[xa,SB];rw[iu,bG ha,bG VN,bo,bo,zm ha,zm VN];simp only[eN,m_,iN,SB];rw[mW ha,iu,vn,bG VN,mW (by simpa using VN)];simp only[SB];exact ih'
   ·rw[aC (λh=>hs h.2)]at ih'|-;rw[h1,show jd b p k=false by simpa using hs];simp only[xa,SB];exact ih'
  ·rw[aC (λh=>h1 h.1)]at ih'|-;rw[show((br b k).k==1)=false by simpa using h1];simp only[Bg,SB];exact ih'
theorem MP {b:Bd}{p:Pw}(hb:BV b)(hp:aX b p):∀(m k:Nat) (f:List Bool),k+m=b.n->f.length=b.n->
  lp E (denC E) 21 0 [] 2 {vals:=[AV.int .i64 (b.n:Int),AV.int .i64 k],aq:=[eG b,kq p,au.arr 1 (p7 f)]}=some (Ex.exit 2,{vals:=[],aq:=[au.arr 1 (p7 (eL (gD b (EL b p).closed) m f))]}):=by
 have h6:=hb.n6;intro m
 induction m with
 |zero=>
  intro k f hk hf;rw[abY,ah,aC (by omega)];rfl
 |succ m ih=>
  intro k f hk hf;have l4:=MO hb hp (b.n:Int) (k:Int) _ 0 f (dy _) hf;rw[fC,eN]at l4;have pn:((gD b (EL b p).closed).foldl fG f).length=b.n:=(uB hf (pX hb.bT _)).1.trans hf;rw[abY,ah,aK (by omega),bS,l4];simp only[SB,Nat.reduceAdd];rw[ck (n:=(k:Int)+1) (by omega),aw k];exact ih (k+1) _ (by omega) pn
theorem NW (n:Nat):dm [PV.bool false] n=p7 (List.replicate n false):=by rw[n_];simp[p7,vG]
theorem Nf {b:Bd}{p:Pw}(hb:BV b)(hp:aX b p):denC E 21 [eH b,iQ p] []=some ([RV.p (PV.sl 1 (p7 (gF b p)))],[]):=by
 have h6:=hb.n6;have h1:=hb.n1;have l0:=MQ hb hp _ 0 (List.replicate b.n false) (dy _) (by simp);have l2:=MP hb hp _ 0 (J6 b p) (dy _) (DK hb.bT).1;rw[fC]at l0 l2;rw[<-iC]at l0;rw[ai,r21,eM hb hp,dM,bo,NW,l0];simp only[fB,SB,Nat.reduceAdd];rw[show(List.range b.ar.length).foldl (mj b p) (List.replicate b.n false)=J6 b p from rfl,l2];simp only[SB];rw[aL (by omega),aL (by omega),aL (by omega),aL (by omega)];rfl
def abo (v:Bool)(b:Bd)(p:Pw):Ex×Pack:=if v=true then(Ex.exit 0,{vals:=[],aq:=[eG b,kq p]}) else(Ex.ret,{vals:=[AV.bool false],aq:=[]})
theorem PO {b:Bd}{p:Pw}(hb:BV b)(hp:aX b p):∀(m k:Nat),k+m=b.n->
  lp E (denC E) 25 0 [] 0 {vals:=[AV.sl 1 (p7 (gF b p)),AV.int .i64 (b.n:Int),AV.int .i64 k],aq:=[eG b,kq p]}=some (abo ((List.range' k m).all λj=> !((gF b p).getD j false&& !aY b p j)) b p):=by
 have h6:=hb.n6;have N7:=DJ (p:=p) hb.bT;intro m
 induction m with
 |zero=>
  intro k hk;rw[abW,ah,aC (by omega)];rfl
 |succ m ih=>
  intro k hk;rw[abW,ah,aK (by omega),bI vG false (by omega)];simp only[vG,SB];rw[nE hb hp (show k<b.n by omega)];simp only[SB];rw[ck (n:=(k:Int)+1) (by omega),aw k,ih (k+1) (by omega),en,jR];cases(gF b p).getD k false<;>cases aY b p k<;>rfl
theorem Ed {b:Bd}{p:Pw}(hb:BV b)(hp:aX b p):denC E 25 [eH b,iQ p] []=some ([RV.p (PV.bool (Cg b p))],[]):=by
 have l0:=PO hb hp _ 0 (dy _);rw[fC,<-iC]at l0;rw[ai,r25,Nf hb hp];simp only[SB,Nat.reduceAdd];rw[iu,DJ hb.bT,l0];unfold abo;cases hr:(List.range b.n).all λj=> !((gF b p).getD j false&& !aY b p j)with
 |false=>
  unfold Cg;rw[hr];simp only[oQ,yZ,SB]
 |true=>
  unfold Cg;rw[hr];simp only[vg,SB];rw[eM hb hp];simp only[SB];rfl
abbrev Lk (b:Bd)(t:Nat):au:=.box [.int .i64 (b.n:Int),.sl 3 (fW b),.sl 3 (oW b),.sl 5 (nQ b),.int .i64 (b.phase:Int),.int .i64 (b.eZ:Int),.t (.ak 1),.t (.ak 2),.t (.ak 3),.t (.ak 4),.int .i64 (t:Int)]
theorem Ps {p:Pw}{i:Nat}(h:i<p.aA.length)(r:gL):bg (bp p) i 0 [PV.int .i64 (r.st:Int),PV.int .i64 (r.since:Int),PV.int .i64 (r.fr:Int),PV.int .i64 (r.ph:Int)]=bp (kf p i r):=by
 unfold bg bp;rw[dS (d:=default) h];exact mo (f:=kC) r
theorem yQ {s:List gL}{i:Nat}(h:i<s.length)(v:Nat):bg (s.map kC) i 0 [PV.int .i64 (v:Int)]=(s.set i ⟨v,(s.getD i default).since,(s.getD i default).fr,(s.getD i default).ph⟩).map kC:=by
 unfold bg;rw[dS (d:=default) h];exact mo (f:=kC) (⟨v,(s.getD i default).since,(s.getD i default).fr,(s.getD i default).ph⟩:gL)
theorem Ma {p:Pw}{i:Nat}(h:i<p.aA.length):nth [] (bp p) i=[PV.int .i64 ((sr p i).st:Int),PV.int .i64 ((sr p i).since:Int),PV.int .i64 ((sr p i).fr:Int),PV.int .i64 ((sr p i).ph:Int)]:=dS (f:=kC) (d:=default) h
theorem C5 {p:Pw}{i:Nat}(h:i<p.closed.length):nth [] (bC p) i=[PV.bool (cl p i)]:=dS (f:=vG) (d:=false) h
theorem WA {b:Bd}{p:Pw}(hb:BV b)(hp:aX b p){t i:Nat}(hi:i<b.ar.length):
  denC E 165 [AV.t (.ptr 0 0),AV.int .i64 (i:Int)] [Lk b t,.arr 1 (bC p),.arr 4 (bp p),.arr 1 (bE p),.arr 2 (bA p)]=
   some (match jP b p t i with|some q=>([RV.p (PV.int .i64 0)],[Lk b t,.arr 1 (bC q),.arr 4 (bp q),.arr 1 (bE q),.arr 2 (bA q)])|none=>([RV.p (PV.int .i64 11)],[Lk b t,.arr 1 (bC p),.arr 4 (bp p),.arr 1 (bE p),.arr 2 (bA p)])):=by
 have hs:i<p.aA.length:=by rw[hp.s];exact hi
 have hsb:=(bu hb.bT hi).1;have hc:cL b i<p.closed.length:=by rw[hp.c];exact hsb
 have key:∀st:Nat,(st=if (gn b i).start=0/\cl p (cL b i)=false then 2 else 1)->bg (bp p) i 0 [PV.int .i64 (st:Int),PV.int .i64 (t:Int),PV.int .i64 5000,PV.int .i64 0]=bp (kf p i (jc b p t i)):=λst hst=>by
  rw[<-Ps hs];unfold jc;rw[<-hst];rfl
 rw[ai,ajV,fP,bG hs,bo,Ma hs,oz _ hi,kU hb hi];rw[show((1:Int))=((1:Nat):Int) from rfl];simp only[h_ (b:=b) hp,eN,m_,iN,SB];rw[dU,bG hc,bo,C5 hc,show(((sr p i).st:Int) !=0)= !((sr p i).st==0) by unfold bne;rw[Xf],Xf];simp only[SB];unfold jP;by_cases h0:(sr p i).st=0
 ·rw[show((sr p i).st==0)=true by simp[h0]];cases hbk:lh p 1 i with
  |true=>rw[aC (by simp)];rfl
  |false=>
   rw[aK ⟨h0,rfl⟩];by_cases hg:(gn b i).start=0
   ·rw[show((gn b i).start==0)=true by simp[hg]];cases jO:cl p (cL b i)with
    |false=>
     have:=key 2 (by rw[aK ⟨hg,jO⟩]);simp only[ay,Aq,FM];rw[show(2:Int)=((2:Nat):Int) from rfl,this];rfl
    |true=>
     have:=key 1 (by rw[aC (by rw[jO];simp)]);simp only[ay,aF,Aq];rw[this];rfl
   ·have:=key 1 (by rw[aC (λh=>hg h.1)]);rw[show((gn b i).start==0)=false by simpa using hg];simp only[aF,Aq];rw[this];rfl
 ·rw[show((sr p i).st==0)=false by simpa using h0,aC (λh=>h0 h.1)];rfl
theorem aaw {b:Bd}{p:Pw}(hb:BV b)(hp:aX b p){t i:Nat}(hi:i<b.ar.length):
  denC E 166 [AV.t (.ptr 0 0),AV.int .i64 (i:Int)] [Lk b t,.arr 1 (bC p),.arr 4 (bp p),.arr 1 (bE p),.arr 2 (bA p)]=
   some (match sB b p i with|some q=>([RV.p (PV.int .i64 0)],[Lk b t,.arr 1 (bC q),.arr 4 (bp q),.arr 1 (bE q),.arr 2 (bA q)])|none=>([RV.p (PV.int .i64 11)],[Lk b t,.arr 1 (bC p),.arr 4 (bp p),.arr 1 (bE p),.arr 2 (bA p)])):=by
 have hs:i<p.aA.length:=by rw[hp.s];exact hi
 have hsb:=(bu hb.bT hi).1;have hc:cL b i<p.closed.length:=by rw[hp.c];exact hsb
 have key:bg (bp p) i 0 [PV.int .i64 0]=bp (kf p i (Fz (sr p i))):=yQ hs 0;rw[ai,ajU,fP,bG hs,bo,Ma hs,kU hb hi];simp only[eN,m_,iN,SB];rw[dU,bG hc,bo,C5 hc,key,show(((sr p i).st:Int) !=1)= !((sr p i).st==1) by unfold bne;rw[rL],show(((sr p i).st:Int) !=2)= !((sr p i).st==2) by unfold bne;rw[rK]];simp only[SB];have hif:sB b p i=if (((sr p i).st==1||(sr p i).st==2)&& !cl p (cL b i))=true then some (kf p i (Fz (sr p i))) else none:=by
  unfold sB;congr 1;simp
 rw[hif];cases((sr p i).st==1)<;>cases((sr p i).st==2)<;>cases cl p (cL b i)<;>rfl
theorem Pc {b:Bd}{p:Pw}(hb:BV b)(hp:aX b p){t:Nat}(ht:t<=2147483648):∀(m k:Nat),k+m=p.aA.length->
  lp E (denC E) 168 1 [] 0 {vals:=[AV.int .i64 p.aA.length,AV.int .i64 k],aq:=[Lk b t,au.arr 1 (bC p),au.arr 4 ((((List.range k).map λi=>nX b p t i (cg (sr p i)))++(p.aA.map cg).drop k).map kC),au.arr 1 (bE p),au.arr 2 (bA p)]}=
   some (Ex.exit 0,{vals:=[],aq:=[Lk b t,au.arr 1 (bC p),au.arr 4 (bp (bt b p t)),au.arr 1 (bE p),au.arr 2 (bA p)]}):=by
 have h8:=hb.ng;have ak:=hp.s;intro m
 induction m with
 |zero=>
  intro k hk;rw[S9,ah,aC (by omega),Bi (by simp;omega),uN,show k=p.aA.length by omega];rfl
 |succ m ih=>
  intro k hk;have ir:k<p.aA.length:=by omega
  have qK:k<b.ar.length:=by omega
  have hr:=IC (hp.runs qK);have apQ:=hb.gen (gn b k) (by unfold gn;rw[dD,dO qK];exact gH qK);have hsb:=(bu hb.bT qK).1;have hc:cL b k<p.closed.length:=by rw[hp.c];exact hsb
  have e1:(p.aA.map cg).drop k=cg (sr p k)::(p.aA.map cg).drop (k+1):=by
   rw[drop_cons (by simpa using ir)];congr 1;simp[sr,dD,ir]
  have e2:((List.range (k+1)).map λi=>nX b p t i (cg (sr p i)))++(p.aA.map cg).drop (k+1)=((List.range k).map λi=>nX b p t i (cg (sr p i)))++nX b p t k (cg (sr p k))::(p.aA.map cg).drop (k+1):=by
   rw[Cz,List.map_append,lz];rfl
  have ih':=ih (k+1) (by omega);rw[e2]at ih';rw[e1];have hlk:((List.range k).map λi=>nX b p t i (cg (sr p i))).length=k:=by simp
  have hlen:(((List.range k).map λi=>nX b p t i (cg (sr p i)))++cg (sr p k)::(p.aA.map cg).drop (k+1)).length=p.aA.length:=by simp;omega
  have qL:(((List.range k).map λi=>nX b p t i (cg (sr p i)))++cg (sr p k)::(p.aA.map cg).drop (k+1)).getD k default=cg (sr p k):=by
   rw[dD,EN (by omega),hlk,FO];rfl
  rw[S9,ah,aK (by omega),nS,hlen,bG ir,bo,dS (d:=default) (by rw[hlen];exact ir),qL,kU hb qK,oz _ qK,show(2:Int)=((2:Nat):Int) from rfl,yQ (by rw[hlen];exact ir),qL,List.set_append_right _ _ (by omega),hlk,FO,Cw];simp only[kC,eN,List.drop_succ_cons,m_,iN,SB];rw[dU,bG hc,bo,C5 hc,ck (n:=(k:Int)+1) (by omega),aw k,ck (n:=((cg (sr p k)).since:Int)+((gn b k).start:Int)) (by omega),ck (n:=(t:Int)+1) (by omega),rL];simp only[SB];unfold nX at ih';by_cases h1:(cg (sr p k)).st=1
  ·rw[show((cg (sr p k)).st==1)=true by simp[h1]];cases jO:cl p (cL b k)with
   |true=>
    rw[aC (by rw[jO];simp)]at ih';exact ih'
   |false=>
    by_cases hle:(cg (sr p k)).since+(gn b k).start<=t+1
    ·rw[aK ⟨h1,jO,hle⟩]at ih';rw[aL (by omega)];exact ih'
    ·rw[aC (λh=>hle h.2.2)]at ih';rw[rG (by omega)];exact ih'
  ·rw[aC (λh=>h1 h.1)]at ih';rw[show((cg (sr p k)).st==1)=false by simpa using h1];exact ih'
theorem aN {α:Type}(d a0 a1 a2 a3 a4 a5 a6 a7 a8 a9 Ik:α)(l:List α):nth d (a0::a1::a2::a3::a4::a5::a6::a7::a8::a9::Ik::l) 10=Ik:=rfl
theorem aau {b:Bd}{p:Pw}(hb:BV b)(hp:aX b p){t:Nat}(ht:t<=2147483648):
  denC E 168 [AV.t (.ptr 0 0)] [Lk b t,.arr 1 (bC p),.arr 4 (bp p),.arr 1 (bE p),.arr 2 (bA p)]=some ([],[Lk b t,.arr 1 (bC p),.arr 4 (bp (bt b p t)),.arr 1 (bE p),.arr 2 (bA p)]):=by
 have l0:=Pc hb hp ht _ 0 (dy _);rw[fC,List.range_zero,List.map_nil,gq,eN]at l0;rw[ai,ajT,afc hb hp];simp only[SB,Nat.reduceAdd,jV,il,ig,ij,im];rw[show bp (ID p)=(p.aA.map cg).map kC from rfl,nS,nS,show bC (ID p)=bC p from rfl,show bE (ID p)=bE p from rfl,show bA (ID p)=bA p from rfl,l0];simp only[aN,SB]
abbrev acA (a:Act):AV:=.agg [.int .i64 (a.k:Int),.int .i64 (a.u:Int),.int .i64 (a.v:Int)]
theorem O3 {b:Bd}{u:Nat}(h:u<b.ar.length):denC E 161 [eH b,AV.int .i64 1,AV.int .i64 (u:Int)] []=some ([RV.p (PV.bool true)],[]):=by
 rw[ai,adM,dM,aL (show(0:Int)<=(u:Int) by omega),iz (show(u:Int)<(b.ar.length:Int) by omega)];rfl
theorem aaD {b:Bd}{u:Nat}(h:u<b.aO.length):denC E 161 [eH b,AV.int .i64 2,AV.int .i64 (u:Int)] []=some ([RV.p (PV.bool true)],[]):=by
 rw[ai,adM,bS,aL (show(0:Int)<=(u:Int) by omega),iz (show(u:Int)<(b.aO.length:Int) by omega)];rfl
theorem aaC {b:Bd}{u:Nat}(h:u<b.n):denC E 161 [eH b,AV.int .i64 3,AV.int .i64 (u:Int)] []=some ([RV.p (PV.bool true)],[]):=by
 rw[ai,adM,aL (show(0:Int)<=(u:Int) by omega),iz (show(u:Int)<(b.n:Int) by omega)];rfl
theorem aaF {b:Bd}{a:Act}(h:tL b a):denC E 127 [eH b,acA a] []=some ([RV.p (PV.bool true)],[]):=by
 obtain⟨k,u,v⟩:=a;rcases h with⟨hk,hu⟩|⟨hk,hu⟩|⟨hk,hu,hv⟩
 ·rcases hk with hk|hk<;>(have hk:k=_:=hk;subst hk;rw[ai,YE,aaD hu];rfl)
 ·rcases hk with hk|hk<;>(have hk:k=_:=hk;subst hk;rw[ai,YE,O3 hu];rfl)
 ·have hk:k=6:=hk;subst hk;rw[ai,YE,O3 hu,aaC hv];rfl
theorem amq {b:Bd}{p:Pw}(hb:BV b)(hp:aX b p){t:Nat}(ht:t<=2147483648){a:Act}(h:tL b a):∃(e:Int) (x1 x2 x3 x4:List (List PV)),e≠0/\denC E 128 [AV.t (.ptr 0 0),acA a] [Lk b t,.arr 1 (bC p),.arr 4 (bp p),.arr 1 (bE p),.arr 2 (bA p)]=
   some (match iH b p t a with|some q=>([RV.p (PV.int .i64 0)],[Lk b t,.arr 1 (bC q),.arr 4 (bp q),.arr 1 (bE q),.arr 2 (bA q)])|none=>([RV.p (PV.int .i64 e)],[Lk b t,.arr 1 x1,.arr 4 x2,.arr 1 x3,.arr 2 x4])):=by
 obtain⟨k,u,v⟩:=a;rcases h with⟨hk,hu⟩|⟨hk,hu⟩|⟨hk,hu,hv⟩
 ·rcases hk with hk|hk
  ·have hk:k=1:=hk;subst hk;obtain⟨e,h1,h2⟩:=aaU hb hp hu;refine⟨e,[],[],[],[],h2,?_⟩;rw[ai,PT,h1,show iH b p t ⟨1,u,v⟩=lW b p u from rfl];cases lW b p u with
   |none=>rfl
   |some q=>
    simp only[SB,jV,il,ig,ij,im];rfl
  ·have hk:k=2:=hk;subst hk;obtain⟨e,h1,h2⟩:=afg hb hp hu;refine⟨e,[],[],[],[],h2,?_⟩;rw[ai,PT,h1,show iH b p t ⟨2,u,v⟩=rE b p u from rfl];cases rE b p u with
   |none=>rfl
   |some q=>
    simp only[SB,jV,il,ig,ij,im];rfl
 ·rcases hk with hk|hk
  ·have hk:k=3:=hk;subst hk;refine⟨11,bC p,bp p,bE p,bA p,by decide,?_⟩;rw[ai,PT,WA hb hp hu,show iH b p t ⟨3,u,v⟩=jP b p t u from rfl];cases jP b p t u with
   |none=>simp only[aN,SB,aD,bb,aW,kF];rfl
   |some q=>simp only[aN,SB,aD,bb,aW,kF];rfl
  ·have hk:k=4:=hk;subst hk;refine⟨11,bC p,bp p,bE p,bA p,by decide,?_⟩;rw[ai,PT,aaw hb hp hu,show iH b p t ⟨4,u,v⟩=sB b p u from rfl];cases sB b p u with
   |none=>simp only[aN,SB,aD,bb,aW,kF];rfl
   |some q=>simp only[aN,SB,aD,bb,aW,kF];rfl
 ·have hk:k=6:=hk;subst hk;obtain⟨e,h1,h2⟩:=aaT hb hp hu hv;refine⟨e,[],[],[],[],h2,?_⟩;rw[ai,PT,h1,show iH b p t ⟨6,u,v⟩=jX b p u v from rfl];cases jX b p u v with
  |none=>rfl
  |some q=>
   simp only[SB,jV,il,ig,ij,im];rfl
theorem aiw {b:Bd}{a:Act}(h:tL b a):1<=a.k/\a.k<=6:=by
 rcases h with⟨h|h,_⟩|⟨h|h,_⟩|⟨h,_⟩<;>omega
theorem W6 {b:Bd}{p:Pw}(hb:BV b)(hp:aX b p){t:Nat}(ht:t<=2147483648){a:Act}(h:tL b a):∃e:Int,e≠0/\denC E 72 [eH b,iQ p,AV.int .i64 (t:Int),acA a] []=
   some (match iH b p t a with|some q=>([Tw q,RV.p (PV.int .i64 0)],[])|none=>([pwZ,RV.p (PV.int .i64 e)],[])):=by
 obtain⟨k1,k2⟩:=aiw h;obtain⟨e,x1,x2,x3,x4,he,hd⟩:=amq hb hp ht h;refine⟨e,he,?_⟩;rw[ai,r72,eM hb hp,aaF h,fy (hp.sm hb)];simp only[fB,SB];rw[b_ (show¬(t:Int)<0 by omega),b_ (show¬(2147483648:Int)<(t:Int) by omega),b_ (show¬(a.k:Int)<1 by omega),b_ (show¬(9:Int)<(a.k:Int) by omega)];simp only[SB];rw[hd];cases pV:iH b p t a with
 |none=>
  simp only[SB,aD,bb,aW,kF];rw[show(e !=0)=true by simpa using he];rfl
 |some q=>
  simp only[fB,SB,aD,bb,aW,kF]
theorem WL {b:Bd}{p:Pw}(hb:BV b)(hp:aX b p){t:Nat}(ht:t<=2147483648)(u v:Nat):denC E 72 [eH b,iQ p,AV.int .i64 (t:Int),AV.agg [PV.int .i64 7,PV.int .i64 (u:Int),PV.int .i64 (v:Int)]] []=some ([Tw (bt b p t),RV.p (PV.int .i64 0)],[]):=by
 have hk:denC E 127 [eH b,AV.agg [PV.int .i64 7,PV.int .i64 (u:Int),PV.int .i64 (v:Int)]] []=some ([RV.p (PV.bool true)],[]):=by
  rw[ai,YE];rfl
 have hd:denC E 128 [AV.t (.ptr 0 0),AV.agg [PV.int .i64 7,PV.int .i64 (u:Int),PV.int .i64 (v:Int)]] [Lk b t,.arr 1 (bC p),.arr 4 (bp p),.arr 1 (bE p),.arr 2 (bA p)]=some ([RV.p (PV.int .i64 0)],[Lk b t,.arr 1 (bC p),.arr 4 (bp (bt b p t)),.arr 1 (bE p),.arr 2 (bA p)]):=by
  rw[ai,PT,aau hb hp ht];simp only[aN,SB,aD,bb,aW,kF];rfl
 rw[ai,r72,eM hb hp,hk,fy (hp.sm hb)];simp only[fB,SB];rw[b_ (show¬(t:Int)<0 by omega),b_ (show¬(2147483648:Int)<(t:Int) by omega),b_ (show¬(7:Int)<1 by omega),b_ (show¬(9:Int)<7 by omega)];simp only[SB];rw[hd];simp only[fB,SB,aD,bb,aW,kF];rfl
section
abbrev EE (b:Bd)(t:Nat):au:=.box [.int .i64 (t:Int),.t (.ak 1),.t (.ak 2),.t (.ak 3),.t (.ak 4),.t (.ak 5),.t (.ak 6),.int .i64 (b.n:Int),.sl 3 (fW b),.sl 3 (oW b),.sl 5 (nQ b),.int .i64 (b.phase:Int),.int .i64 (b.eZ:Int),.t (.ak 7),.t (.ak 8)]
def stK (p:Pw):List PV:=[.sl 1 (bC p),.sl 4 (bp p),.sl 1 (bE p),.sl 2 (bA p)]
def u7 (l:List Pw):List (List PV):=l.map stK
theorem tO (l:List Pw):(u7 l).length=l.length:=by simp[u7]
theorem Bv (l:List Pw)(p:Pw):u7 l++[[PV.sl 1 (bC p),PV.sl 4 (bp p),PV.sl 1 (bE p),PV.sl 2 (bA p)]]=u7 (l++[p]):=by simp[u7,stK]
section
variable {b:Bd} {t:Nat} {c1 c2 c3 c4 c5 c6 c7 c8:List (List PV)}
theorem aR {α:Type}(d a0 a1 a2 a3 a4 a5 a6 a7 a8 a9 Ik Lj:α)(l:List α):nth d (a0::a1::a2::a3::a4::a5::a6::a7::a8::a9::Ik::Lj::l) 11=Lj:=rfl
theorem aQ {α:Type}(d a0 a1 a2 a3 a4 a5 a6 a7 a8 a9 Ik Lj a12:α)(l:List α):nth d (a0::a1::a2::a3::a4::a5::a6::a7::a8::a9::Ik::Lj::a12::l) 12=a12:=rfl
theorem sW {α:Type}(d a0 a1 a2 a3 a4 a5 a6 a7 a8 a9 Ik Lj a12 Rh:α)(l:List α):nth d (a0::a1::a2::a3::a4::a5::a6::a7::a8::a9::Ik::Lj::a12::Rh::l) 13=Rh:=rfl
theorem sV {α:Type}(d a0 a1 a2 a3 a4 a5 a6 a7 a8 a9 Ik Lj a12 Rh XH:α)(l:List α):nth d (a0::a1::a2::a3::a4::a5::a6::a7::a8::a9::Ik::Lj::a12::Rh::XH::l) 14=XH:=rfl
theorem T1 {α:Type}(d a0 a1 a2 a3 a4 a5 a6 a7 a8 a9 Ik Lj a12 Rh XH a15:α)(l:List α):nth d (a0::a1::a2::a3::a4::a5::a6::a7::a8::a9::Ik::Lj::a12::Rh::XH::a15::l) 15=a15:=rfl
theorem TZ {α:Type}(d a0 a1 a2 a3 a4 a5 a6 a7 a8 a9 Ik Lj a12 Rh XH a15 a16:α)(l:List α):nth d (a0::a1::a2::a3::a4::a5::a6::a7::a8::a9::Ik::Lj::a12::Rh::XH::a15::a16::l) 16=a16:=rfl
theorem TY {α:Type}(d a0 a1 a2 a3 a4 a5 a6 a7 a8 a9 Ik Lj a12 Rh XH a15 a16 a17:α)(l:List α):nth d (a0::a1::a2::a3::a4::a5::a6::a7::a8::a9::Ik::Lj::a12::Rh::XH::a15::a16::a17::l) 17=a17:=rfl
theorem TX {α:Type}(d a0 a1 a2 a3 a4 a5 a6 a7 a8 a9 Ik Lj a12 Rh XH a15 a16 a17 a18:α)(l:List α):nth d (a0::a1::a2::a3::a4::a5::a6::a7::a8::a9::Ik::Lj::a12::Rh::XH::a15::a16::a17::a18::l) 18=a18:=rfl
theorem BI (l:List Act):((cH l).all λe=>e.all fA)=true:=by rw[fk];intro e he;obtain⟨x,_,rfl⟩:=kE.1 he;rfl
theorem M9 (a0 a1 a2 e:Int)(h:c7.length<=10000000000):denC E 95 [AV.t (.ptr 0 0),AV.agg [PV.int .i64 a0,PV.int .i64 a1,PV.int .i64 a2],AV.int .i64 e] [EE b t,.arr 1 c1,.arr 4 c2,.arr 1 c3,.arr 2 c4,.arr 2 c5,.arr 5 c6,.arr 5 c7,.arr 4 c8]=
  some ([],[EE b t,.arr 1 c1,.arr 4 c2,.arr 1 c3,.arr 2 c4,.arr 2 c5,.arr 5 c6,.arr 5 (c7++[[PV.int .i64 (t:Int),PV.int .i64 a0,PV.int .i64 a1,PV.int .i64 a2,PV.int .i64 e]]),.arr 4 c8]):=by
 rw[ai,r95,ct (by omega)];rfl
theorem adK {p:Pw}(h:PSm p)(a:Act):PSm (nR p a):=by
 unfold nR;split
 ·exact⟨by simp[cA];exact h.c,h.s,h.l,h.k⟩
 ·exact⟨h.c,h.s,by simp[yP];exact h.l,h.k⟩
theorem aal (hb:BV b){c15 c16 c17 c18:List (List PV)}{L:List Act}(hL:L.length<=10000)(hR:∀a∈L,aa2 b a):∀(l pre:List Act) (n:Pw) (ev:List (List PV)) (qm:List Pw),L=pre++l->PSm n->n.closed.length=b.aO.length->n.gJ.length=b.cons.length->ev.length+l.length<=1000000000->qm.length+l.length<=1000000000->
  ∃fD,fD.length=ev.length+l.length/\lp E (denC E) 49 1 [] 0 {vals:=[AV.sl 3 (cH L),AV.int .i64 L.length,AV.int .i64 pre.length],aq:=[EE b t,.arr 1 c1,.arr 4 c2,.arr 1 c3,.arr 2 c4,.arr 2 c5,.arr 5 c6,.arr 5 ev,.arr 4 (u7 qm),.box [.t (.ak 10),.t (.ak 11),.t (.ak 12),.t (.ak 13)],.arr 1 (bC n),.arr 4 (bp n),.arr 1 (bE n),.arr 2 (bA n),.box [.t (.ak 15),.t (.ak 16),.t (.ak 17),.t (.ak 18)],.arr 1 c15,.arr 4 c16,.arr 1 c17,.arr 2 c18]}=
   some (Ex.exit 0,{vals:=[],aq:=[EE b t,.arr 1 c1,.arr 4 c2,.arr 1 c3,.arr 2 c4,.arr 2 c5,.arr 5 c6,.arr 5 fD,.arr 4 (u7 (qm++Be n l)),.box [.t (.ak 10),.t (.ak 11),.t (.ak 12),.t (.ak 13)],.arr 1 (bC (l.foldl nR n)),.arr 4 (bp (l.foldl nR n)),.arr 1 (bE (l.foldl nR n)),.arr 2 (bA (l.foldl nR n)),.box [.t (.ak 15),.t (.ak 16),.t (.ak 17),.t (.ak 18)],.arr 1 c15,.arr 4 c16,.arr 1 c17,.arr 2 c18]}):=by
 intro l
 induction l with
 |nil=>
  intro pre n ev qm kZ hn hc hl he hs;refine⟨ev,rfl,?_⟩;rw[abN,ah,aC (by rw[kZ];simp)];simp[Be]
 |cons a l ih=>
  intro pre n ev qm kZ hn hc hl he hs;have hpl:pre.length<L.length:=by rw[kZ];simp
  have hg:L.getD pre.length default=a:=by rw[kZ];simp[List.getD]
  have uu:∀K:List PV->Option (Ex×Pack),aG (cH L) (pre.length:Int) K=K [PV.int .i64 (a.k:Int),PV.int .i64 (a.u:Int),PV.int .i64 (a.v:Int)]:=λK=>by
   have:=bI acK default hpl K;rw[hg]at this;exact this
  have e1:(pre.length:Int)+1=((pre++[a]).length:Int):=by simp
  rw[cM]at he hs;have ot:=adK hn a;obtain⟨fD,v1,v2⟩:=ih (pre++[a]) (nR n a) (ev++[[PV.int .i64 (t:Int),PV.int .i64 (a.k:Int),PV.int .i64 (a.u:Int),PV.int .i64 (a.v:Int),PV.int .i64 0]]) (qm++[nR n a]) (by rw[kZ];simp) ot (by unfold nR;split<;>simp[cA,yP,hc]) (by unfold nR;split<;>simp[cA,yP,hl]) (by simp;omega) (by simp;omega);refine⟨fD,by rw[v1];simp;omega,?_⟩;rw[abN,ah,aK (by omega),uu];simp only[SB];rw[M9 _ _ _ _ (by omega)];simp only[aN,aR,aQ,SB,aD,bb,aW,kF];rw[ck (n:=(pre.length:Int)+1) (by omega),e1,rK,dU,mH,bo];rw[lz,Jg]at v2;rcases hR a (by rw[kZ];simp)with⟨hk,hu⟩|⟨hk,hu,hv⟩
  ·have hre:nR n a=cA n a.u false:=by unfold nR;rw[aK hk]
   rw[hk,show((2:Nat)==2)=true from rfl,ay,bG (by rw[hc];exact hu),ay,lv (by rw[hc];exact hu)];rw[hre]at v2 ot;have jO:=fy ot;rw[show denC E 57 [AV.agg [PV.sl 1 (bC (cA n a.u false)),PV.sl 4 (bp n),PV.sl 1 (bE n),PV.sl 2 (bA n)]] []=_ from jO];simp only[SB,jV,il,ig,ij,im];rw[tO,ct (by omega),ay,Bv];rw[hk]at v2;show _=some ((Ex.exit 0,({vals:=[],aq:=[EE b t,.arr 1 c1,.arr 4 c2,.arr 1 c3,.arr 2 c4,.arr 2 c5,.arr 5 c6,.arr 5 fD,.arr 4 (u7 (qm++nR n a::Be (nR n a) l)),.box [.t (.ak 10),.t (.ak 11),.t (.ak 12),.t (.ak 13)],.arr 1 (bC (l.foldl nR (nR n a))),.arr 4 (bp (l.foldl nR (nR n a))),.arr 1 (bE (l.foldl nR (nR n a))),.arr 2 (bA (l.foldl nR (nR n a))),.box [.t (.ak 15),.t (.ak 16),.t (.ak 17),.t (.ak 18)],.arr 1 c15,.arr 4 c16,.arr 1 c17,.arr 2 c18]}:Pack)):Ex×Pack);rw[hre];exact v2
  ·have hre:nR n a=yP n a.u a.v:=by unfold nR;rw[aC (by omega)]
   rw[hk,show((5:Nat)==2)=false from rfl,aF,bG (by rw[hl];exact hu),ay,show bE n=bF n.gJ from rfl,mV (by rw[hl];exact hu)];rw[hre]at v2 ot;have jO:=fy ot;rw[show denC E 57 [AV.agg [PV.sl 1 (bC n),PV.sl 4 (bp n),PV.sl 1 (bF (n.gJ.set a.u a.v)),PV.sl 2 (bA n)]] []=_ from jO];simp only[SB,jV,il,ig,ij,im];rw[tO,ct (by omega),ay,Bv];rw[hk]at v2;show _=some ((Ex.exit 0,({vals:=[],aq:=[EE b t,.arr 1 c1,.arr 4 c2,.arr 1 c3,.arr 2 c4,.arr 2 c5,.arr 5 c6,.arr 5 fD,.arr 4 (u7 (qm++nR n a::Be (nR n a) l)),.box [.t (.ak 10),.t (.ak 11),.t (.ak 12),.t (.ak 13)],.arr 1 (bC (l.foldl nR (nR n a))),.arr 4 (bp (l.foldl nR (nR n a))),.arr 1 (bE (l.foldl nR (nR n a))),.arr 2 (bA (l.foldl nR (nR n a))),.box [.t (.ak 15),.t (.ak 16),.t (.ak 17),.t (.ak 18)],.arr 1 c15,.arr 4 c16,.arr 1 c17,.arr 2 c18]}:Pack)):Ex×Pack);rw[hre];exact v2
theorem ac5 {p:Pw}(hb:BV b)(hp:aX b p)(hf:j_ b p)(ht:t<=2147483648){a:Act}(ha:tL b a){ev:List (List PV)}{st:List Pw}(he:ev.length<=900000000)(hs:st.length<=900000000):
  ∃p' fD qm,denC E 49 [AV.t (.ptr 0 0),acA a] [EE b t,.arr 1 (bC p),.arr 4 (bp p),.arr 1 (bE p),.arr 2 (bA p),.arr 2 c5,.arr 5 c6,.arr 5 ev,.arr 4 (u7 st)]=
   some ([],[EE b t,.arr 1 (bC p'),.arr 4 (bp p'),.arr 1 (bE p'),.arr 2 (bA p'),.arr 2 c5,.arr 5 c6,.arr 5 fD,.arr 4 (u7 (st++qm))])/\BS b t p a p' qm/\ev.length+1<=fD.length/\fD.length<=ev.length+5001/\qm.length<=5001:=by
 obtain⟨e,he0,pV⟩:=W6 hb hp ht ha;obtain⟨k1,k2⟩:=aiw ha;have h7:((a.k:Int)==7)=false:=by simp;omega
 cases hq:iH b p t a with
 |none=>
  rw[hq]at pV;refine⟨p,ev++[[PV.int .i64 (t:Int),PV.int .i64 (a.k:Int),PV.int .i64 (a.u:Int),PV.int .i64 (a.v:Int),PV.int .i64 e]],[],?_,.inl ⟨hq,rfl,rfl⟩,by simp,by simp,by simp⟩;rw[ai,r49,pV,h7,uN];simp only[SB,Nat.reduceAdd,jV];rw[M9 _ _ _ _ (by omega)];simp only[aN,aR,aQ,SB,aD,bb,aW,kF];rw[show(e !=0)=true by simpa using he0,ay]
 |some q=>
  rw[hq]at pV;obtain⟨Ig,hfq⟩:=Nv hb.bT hp hf ht ha hq;obtain⟨p',acts,ahc,hrel⟩:=Gn hb Ig;have hlen:=hrel.len;have J4:acts.foldl nR q=p':=by
   rw[hrel.ap,<-(hrel.fl hfq).1]
  obtain⟨fD,v1,v2⟩:=aal (c1:=bC p) (c2:=bp p) (c3:=bE p) (c4:=bA p) (c5:=c5) (c6:=c6) (t:=t) hb (c15:=bC p') (c16:=bp p') (c17:=bE p') (c18:=bA p') (L:=acts) (by omega) hrel.ac acts [] q (ev++[[PV.int .i64 (t:Int),PV.int .i64 (a.k:Int),PV.int .i64 (a.u:Int),PV.int .i64 (a.v:Int),PV.int .i64 0]]) (st++[q]) rfl (Ig.sm hb) Ig.c Ig.l (by simp;omega) (by simp;omega);rw[iD,fC,J4]at v2;refine⟨p',fD,q::Be q acts,?_,.inr ⟨q,acts,hq,hrel,rfl⟩,by rw[v1];simp only[jf,cM,iD];omega,by rw[v1];simp only[jf,cM,iD];omega,by rw[cM,I5];omega⟩;rw[ai,r49,pV,h7];simp only[fB,SB,Nat.reduceAdd,jV,il,ig,ij,im];rw[M9 _ _ _ _ (by omega)];simp only[aN,aR,aQ,SB,aD,bb,aW,kF];rw[fy (Ig.sm hb),ahc];simp only[SB,jV,il,ig,ij,im];rw[tO,ct (by omega),Bv,iZ,v2];simp only[BI,aN,aR,aQ,sW,sV,T1,TZ,TY,TX,SB];rw[show denC E 54 [AV.agg [PV.sl 1 (bC p'),PV.sl 4 (bp p'),PV.sl 1 (bE p'),PV.sl 2 (bA p')],AV.agg [PV.sl 1 (bC p'),PV.sl 4 (bp p'),PV.sl 1 (bE p'),PV.sl 2 (bA p')]] []=_ from zO (hrel.ok.sm hb)];simp only[decide_true,SB,lz,Jg]
end
end
theorem Yx (F:d_):aI E F 94 [AV.sl 2 []] []=both (some ([RV.own 2 []],[])) (some ([RV.own 2 []],[])):=by kernel_rfl
theorem Yw (F:d_):aI E F 73 [AV.sl 5 []] []=both (some ([RV.own 5 []],[])) (some ([RV.own 5 []],[])):=by kernel_rfl
theorem WV {l:List (List PV)}(h:l.length<=1000000):denC E 94 [AV.sl 2 l] []=some ([RV.own 2 l],[]):=by
 rw[ai];cases l with
 |nil=>rw[Yx,mQ]
 |cons a l=>rw[ajy,ct (by omega)];rfl
theorem KI {l:List (List PV)}(h:l.length<=1000000):denC E 73 [AV.sl 5 l] []=some ([RV.own 5 l],[]):=by
 rw[ai];cases l with
 |nil=>rw[Yw,mQ]
 |cons a l=>rw[ajC,ct (by omega)];rfl
abbrev YL (t:Nat)(p:Pw)(R Ev:List (List PV)):AV:=.agg [.int .i64 (t:Int),.sl 1 (bC p),.sl 4 (bp p),.sl 1 (bE p),.sl 2 (bA p),.sl 2 R,.sl 5 Ev]
abbrev plR (t:Nat)(p:Pw)(R Ev:List (List PV)):RV:=.agg [.int .i64 (t:Int),.sl 1 (bC p),.sl 4 (bp p),.sl 1 (bE p),.sl 2 (bA p),.sl 2 R,.sl 5 Ev]
abbrev rnR (b:Bd)(t:Nat)(p:Pw)(R Ev:List (List PV)):RV:=.nU [.p (.int .i64 (t:Int)),.own 1 (bC p),.own 4 (bp p),.own 1 (bE p),.own 2 (bA p),.own 2 R,.own 5 Ev,.p (.int .i64 (b.n:Int)),.p (.sl 3 (fW b)),.p (.sl 3 (oW b)),.p (.sl 5 (nQ b)),.p (.int .i64 (b.phase:Int)),.p (.int .i64 (b.eZ:Int)),.own 5 [],.own 4 []]
theorem aaL {b:Bd}{p:Pw}(hb:BV b)(hp:aX b p){t:Nat}{R Ev:List (List PV)}(hR:R.length<=1000)(hE:Ev.length<=1000000):denC E 48 [eH b,YL t p R Ev] []=some ([rnR b t p R Ev],[]):=by
 rw[ai,r48,fy (hp.sm hb),WV (by omega),KI hE];simp only[SB]
theorem anU {b:Bd}{p:Pw}(hb:BV b)(hp:aX b p)(hf:j_ b p){t:Nat}(ht:t<=2147483648){R Ev:List (List PV)}(hR:R.length<=1000)(hE:Ev.length<=1000000){a:Act}(ha:tL b a):
  ∃p' XJ qm,denC E 18 [eH b,YL t p R Ev,acA a] []=some ([plR t p' R XJ,RV.p (PV.sl 4 (u7 qm)),RV.p (PV.int .i64 0)],[])/\BS b t p a p' qm/\Ev.length+1<=XJ.length/\XJ.length<=Ev.length+5001:=by
 obtain⟨p',fD,qm,h1,h2,h3,h4,h5⟩:=ac5 (c5:=R) (c6:=Ev) (ev:=[]) (st:=[]) hb hp hf ht ha (by simp) (by simp);rw[iD]at h3 h4;refine⟨p',Ev++fD,qm,?_,h2,by simp;omega,by simp;omega⟩;rw[ai,r18,eM hb hp,aaL hb hp hR hE];simp only[fB,SB,Nat.reduceAdd];simp only[aN,aR,aQ,sW,sV,T1,SB,Nat.reduceAdd];rw[show denC E 49 [AV.t (.ptr 0 0),acA a] [EE b t,.arr 1 (bC p),.arr 4 (bp p),.arr 1 (bE p),.arr 2 (bA p),.arr 2 R,.arr 5 Ev,.arr 5 [],.arr 4 []]=_ from h1];simp only[aN,aR,aQ,sW,sV,T1,SB,Nat.reduceAdd,aD,bb,aW,kF];rw[ct (by omega),gq];rfl
def PJ (r:Int×Int):List PV:=[.int .i64 r.1,.int .i64 r.2]
def jN (l:List (Int×Int)):List (List PV):=l.map PJ
theorem tU (l:List (Int×Int)):(jN l).length=l.length:=by simp[jN]
abbrev PW (t:Nat)(p:Pw)(R Ev:List (List PV)):au:=.box [.int .i64 (t:Int),.sl 1 (bC p),.sl 4 (bp p),.sl 1 (bE p),.sl 2 (bA p),.sl 2 R,.sl 5 Ev]
abbrev ckB:au:=.box [.fn 123 [.ptr 1 0]]
theorem ac9 (n:Int)(t:Nat)(p:Pw)(R Ev:List (List PV)):denC E 123 [AV.int .i64 n,AV.t (.ptr 0 0)] [PW t p R Ev]=some ([RV.p (PV.bool (bJ (-1) n&&bJ n (t:Int)))],[PW t p R Ev]):=by
 rw[ai,akl];cases bJ (-1) n<;>rfl
theorem aih {r:Int×Int}{t:Nat}(h:Ez t r)(p:Pw)(R Ev:List (List PV)):denC E 125 [AV.agg [PV.int .i64 r.1,PV.int .i64 r.2],AV.t (.ptr 0 0)] [ckB,PW t p R Ev]=some ([RV.p (PV.bool false)],[ckB,PW t p R Ev]):=by
 obtain⟨h1,h2,h3,h4⟩:=h;rw[ai,akk,ac9];simp only[SB,aW];rw[ac9,aL h1,aL h2,aL h3,aL h4];rfl
theorem aar {l:List (Int×Int)}{t:Nat}(hl:l.length<=1000)(h:∀r∈l,Ez t r)(p:Pw)(R Ev:List (List PV)):∀(m k:Nat),k+m=l.length->
  lp E (denC E) 156 2 [AV.undef,AV.fn 125 [.ptr 0 0]] 0 {vals:=[AV.sl 2 (jN l),AV.int .i64 l.length,AV.int .i64 k],aq:=[ckB,PW t p R Ev]}=some (Ex.exit 0,{vals:=[],aq:=[ckB,PW t p R Ev]}):=by
 intro m
 induction m with
 |zero=>intro k hk;rw[N2,ah,aC (by omega)]
 |succ m ih=>
  intro k hk;have ir:k<l.length:=by omega
  have hm:l.getD k (0,0)∈l:=by rw[dD,dO ir];exact gH ir
  rw[N2,ah,aK (by omega),jN,bI PJ (0,0) ir];simp only[PJ,SB];rw[aih (h _ hm)];simp only[SB,aD,bb,uY,aW,kF];rw[ck (n:=(k:Int)+1) (by omega),aw k];exact ih (k+1) (by omega)
theorem WN {b:Bd}{tb:p_}{p:Pw}(hb:BV b)(hp:aX b p)(hf:j_ b p)(hT:Ri tb){t:Nat}(ht:t<=2147483648){l:List (Int×Int)}(hl:l.length=b.n)(h:∀r∈l,Ez t r)(Ev:List (List PV)):
  denC E 69 [eH b,vL tb,YL t p (jN l) Ev] []=some ([RV.p (PV.int .i64 0)],[]):=by
 have h6:=hb.n6;have hi:denC E 124 [AV.sl 2 (jN l),AV.fn 125 [.ptr 0 0]] [ckB,PW t p (jN l) Ev]=some ([RV.p (PV.bool false)],[ckB,PW t p (jN l) Ev]):=by
  have l0:=aar (by omega) h p (jN l) Ev _ 0 (dy _);rw[fC]at l0;have hx:denC E 156 [AV.sl 2 (jN l),AV.fn 125 [.ptr 0 0]] [ckB,PW t p (jN l) Ev]=some ([RV.p (PV.int .i64 (-1))],[ckB,PW t p (jN l) Ev]):=by
   rw[ai,agv,tU,l0];simp only[SB,Nat.reduceAdd]
  rw[ai,agy,hx];simp only[SB,aD,bb,uY,aW,kF];rfl
 rw[ai,r69,Ef hb hp,Ge hp hf];simp only[fB,SB];rw[yj hT,b_ (show¬(t:Int)<0 by omega),b_ (show¬(2147483648:Int)<(t:Int) by omega),tU,show((l.length:Int) !=(b.n:Int))=false by simp[hl]];simp only[SB];rw[show denC E 54 [AV.agg [PV.sl 1 (bC p),PV.sl 4 (bp p),PV.sl 1 (bE p),PV.sl 2 (bA p)],AV.agg [PV.sl 1 (bC p),PV.sl 4 (bp p),PV.sl 1 (bE p),PV.sl 2 (bA p)]] []=_ from zO (hp.sm hb)];simp only[decide_true,SB];rw[hi];simp only[SB,aD,bb,uY,aW,kF]
abbrev rnH (b:Bd)(t:Nat)(p:Pw)(R Ev ev:List (List PV))(st:List Pw):List au:=[EE b t,.arr 1 (bC p),.arr 4 (bp p),.arr 1 (bE p),.arr 2 (bA p),.arr 2 R,.arr 5 Ev,.arr 5 ev,.arr 4 (u7 st)]
theorem Px {b:Bd}(hb:BV b){t:Nat}(ht:t<=2147483648){x28 R Ev c10:List (List PV)}{x29 x30:Int}{tb:p_}{L:List Act}(hL:L.length<=1000)(hA:∀a∈L,tL b a):∀(l pre:List Act) (p:Pw) (ev:List (List PV)) (st:List Pw),L=pre++l->aX b p->j_ b p->ev.length+5001*l.length<=800000000->st.length+5001*l.length<=800000000->
  ∃p' fD qm,lp E (denC E) 71 1 [] 2 {vals:=[AV.sl 3 x28,AV.int .i64 x29,AV.int .i64 x30,AV.sl 3 (cH L),AV.int .i64 L.length,AV.int .i64 pre.length],aq:=rnH b t p R Ev ev st++[qh tb,.arr 2 c10]}=
   some (Ex.exit 2,{vals:=[AV.sl 3 x28,AV.int .i64 x29,AV.int .i64 x30],aq:=rnH b t p' R Ev fD (st++qm)++[qh tb,.arr 2 c10]})/\BT b t p l p' qm/\aX b p'/\j_ b p'/\ev.length+l.length<=fD.length/\fD.length<=ev.length+5001*l.length/\qm.length<=5001*l.length:=by
 intro l
 induction l with
 |nil=>
  intro pre p ev st kZ hp hf he hs;refine⟨p,ev,[],?_,.nil p,hp,hf,by simp,by simp,by simp⟩;rw[uN];show lp E (denC E) 71 1 [] 2 {vals:=[AV.sl 3 x28,AV.int .i64 x29,AV.int .i64 x30,AV.sl 3 (cH L),AV.int .i64 L.length,AV.int .i64 pre.length],aq:=[EE b t,.arr 1 (bC p),.arr 4 (bp p),.arr 1 (bE p),.arr 2 (bA p),.arr 2 R,.arr 5 Ev,.arr 5 ev,.arr 4 (u7 st),qh tb,.arr 2 c10]}=_;rw[abx,ah,aC (by rw[kZ];simp)];rfl
 |cons a l ih=>
  intro pre p ev st kZ hp hf he hs;have hpl:pre.length<L.length:=by rw[kZ];simp
  have hg:L.getD pre.length default=a:=by rw[kZ];simp[List.getD]
  have uu:∀K:List PV->Option (Ex×Pack),aG (cH L) (pre.length:Int) K=K [PV.int .i64 (a.k:Int),PV.int .i64 (a.u:Int),PV.int .i64 (a.v:Int)]:=λK=>by
   have:=bI acK default hpl K;rw[hg]at this;exact this
  have e1:(pre.length:Int)+1=((pre++[a]).length:Int):=by simp
  rw[cM]at he hs;obtain⟨p1,ev1,s1,h1,h2,h3,h4,h5⟩:=ac5 (c5:=R) (c6:=Ev) hb hp hf ht (hA a (by rw[kZ];simp)) (ev:=ev) (st:=st) (by omega) (by omega);obtain⟨La,VJ⟩:=h2.ok hp hf;obtain⟨p',fD,s2,g1,g2,g3,g4,g5,g6,g7⟩:=ih (pre++[a]) p1 ev1 (st++s1) (by rw[kZ];simp) La VJ (by omega) (by simp;omega);refine⟨p',fD,s1++s2,?_,.cons h2 g2,g3,g4,by simp only[cM];omega,by simp only[cM];omega,by simp only[cM,jf];omega⟩;show lp E (denC E) 71 1 [] 2 {vals:=[AV.sl 3 x28,AV.int .i64 x29,AV.int .i64 x30,AV.sl 3 (cH L),AV.int .i64 L.length,AV.int .i64 pre.length],aq:=[EE b t,.arr 1 (bC p),.arr 4 (bp p),.arr 1 (bE p),.arr 2 (bA p),.arr 2 R,.arr 5 Ev,.arr 5 ev,.arr 4 (u7 st),qh tb,.arr 2 c10]}=_;rw[abx,ah,aK (by omega),uu];simp only[SB];rw[show denC E 49 [AV.t (.ptr 0 0),AV.agg [PV.int .i64 (a.k:Int),PV.int .i64 (a.u:Int),PV.int .i64 (a.v:Int)]] [EE b t,.arr 1 (bC p),.arr 4 (bp p),.arr 1 (bE p),.arr 2 (bA p),.arr 2 R,.arr 5 Ev,.arr 5 ev,.arr 4 (u7 st)]=_ from h1];simp only[aN,aR,aQ,SB,aD,bb,aW,kF];rw[ck (n:=(pre.length:Int)+1) (by omega),e1,<-lz];exact g1
theorem WG (n:Nat)(hn:n<=6):denC E 87 [AV.int .i64 (n:Int)] []=some ([RV.own 2 (jN (List.replicate n (-1,-1)))],[]):=by
 have h1:denC E 137 [AV.sl 2 [[PV.int .i64 (-1),PV.int .i64 (-1)]],AV.int .i64 (n:Int)] []=some ([RV.own 2 (jN (List.replicate n (-1,-1)))],[]):=by
  rw[ai];show(match tY [AV.sl 2 [[PV.int .i64 (-1),PV.int .i64 (-1)]],AV.int .i64 (n:Int)]with|some rs=>some (rs,[])|none=>none)=_;have:tY [AV.sl 2 [[PV.int .i64 (-1),PV.int .i64 (-1)]],AV.int .i64 (n:Int)]=some [RV.own 2 (jN (List.replicate n (-1,-1)))]:=by
   match n,hn with
   |0,_=>rfl
   |1,_=>rfl
   |2,_=>rfl
   |3,_=>rfl
   |4,_=>rfl
   |5,_=>rfl
   |6,_=>rfl
  rw[this]
 rw[ai,r87,h1];simp only[SB];have:((jN (List.replicate n (-1,-1))).all λe=>e.all fA)=true:=by
  rw[fk];intro e he;obtain⟨x,_,rfl⟩:=kE.1 he;rfl
 rw[this];rfl
theorem Si {b:Bd}{tb:p_}{p:Pw}{j t:Nat}{r:Int×Int}(h:Ez t r):Ez t (dQ b tb p j t r).1:=by
 obtain⟨h1,h2,h3,h4⟩:=h;have a:=wR (old:=r.1) (time:=(t:Int)) (h:=cj b tb p j) ⟨h1,h2⟩ (by omega);have c:=wR (old:=r.2) (time:=(t:Int)) (h:=(fo b tb p j).isSome) ⟨h3,h4⟩ (by omega);unfold dQ;simp only;split
 ·rename_i n _;unfold Ez;simp only;split<;>omega
 ·split<;>(unfold Ez;simp only;omega)
theorem adW {l:List (Int×Int)}{i:Nat}(h:i<l.length):nth [] (jN l) i=[PV.int .i64 (l.getD i (0,0)).1,PV.int .i64 (l.getD i (0,0)).2]:=dS (f:=PJ) (d:=(0,0)) h
theorem R5 {l:List (Int×Int)}{i:Nat}(h:i<l.length)(r:Int×Int):bg (jN l) i 0 [PV.int .i64 r.1,PV.int .i64 r.2]=jN (l.set i r):=by
 unfold bg jN;rw[dS (d:=(0,0)) h];exact mo (f:=PJ) r
theorem Py {b:Bd}{tb:p_}{p0:Pw}(hb:BV b)(hT:Ri tb){t:Nat}(ht:t<=2147483648){R0:List (Int×Int)}(hR:R0.length=b.n)(hI:∀r∈R0,Ez t r){Ev:List (List PV)}:∀(l pre:List Nat) (p:Pw) (iB:List (Int×Int)) (ev:List (List PV)) (st:List Pw),aH b p0=pre++l->aX b p->j_ b p->iB.length=b.n->(∀r∈iB,Ez t r)->ev.length+10002*l.length<=700000000->st.length+10002*l.length<=700000000->
  ∃p' eQ fD qm,lp E (denC E) 71 1 [] 0 {vals:=[AV.sl 3 (cI b p0),AV.int .i64 (aH b p0).length,AV.int .i64 pre.length],aq:=rnH b t p (jN R0) Ev ev st++[qh tb,.arr 2 (jN iB)]}=
   some (Ex.exit 0,{vals:=[],aq:=rnH b t p' (jN R0) Ev fD (st++qm)++[.arr 2 (jN eQ)]})/\rW b tb t p0 R0 l p iB p' eQ qm/\aX b p'/\j_ b p'/\eQ.length=b.n/\(∀r∈eQ,Ez t r)/\ev.length<=fD.length/\fD.length<=ev.length+10002*l.length/\qm.length<=10002*l.length:=by
 have ir:=fU b p0;have h6:=hb.n6;intro l
 induction l with
 |nil=>
  intro pre p iB ev st hk hp hf hr hri he hs;refine⟨p,iB,ev,[],?_,.nil p iB,hp,hf,hr,hri,dB _,by simp,by simp⟩;rw[uN];show lp E (denC E) 71 1 [] 0 {vals:=[AV.sl 3 (cI b p0),AV.int .i64 (aH b p0).length,AV.int .i64 pre.length],aq:=[EE b t,.arr 1 (bC p),.arr 4 (bp p),.arr 1 (bE p),.arr 2 (bA p),.arr 2 (jN R0),.arr 5 Ev,.arr 5 ev,.arr 4 (u7 st),qh tb,.arr 2 (jN iB)]}=_;rw[aby,ah,aC (by rw[hk];simp)];rfl
 |cons f l ih=>
  intro pre p iB ev st hk hp hf hr hri he hs;have hpl:pre.length<(aH b p0).length:=by rw[hk];simp
  have hg:(aH b p0).getD pre.length 0=f:=by rw[hk];simp[List.getD]
  have XC:f∈aH b p0:=by rw[hk];simp
  have e1:(pre.length:Int)+1=((pre++[f]).length:Int):=by simp
  obtain⟨j,bl,EG,hj⟩:=qT XC;have uu:∀K:List PV->Option (Ex×Pack),aG (cI b p0) (pre.length:Int) K=K (fh b p0 f):=λK=>by
   have:=bI (fh b p0) 0 hpl K;rw[hg]at this;exact this
  have aac:∀K:List PV->Option (Ex×Pack),aG (bF (j::bl)) 0 K=K [PV.int .i64 (j:Int)]:=λK=>cE (l:=j::bl) (i:=0) K (by simp);rw[cM]at he hs;have hjr:j<R0.length:=by omega
  have hjo:j<iB.length:=by omega
  have ZZ:R0.getD j (0,0)∈R0:=by rw[dD,dO hjr];exact gH hjr
  have ak':=hI _ ZZ;obtain⟨i1,i2,i3,i4⟩:=ak';obtain⟨x,hx⟩:∃x,dQ b tb p j t (R0.getD j (0,0))=x:=⟨_,rfl⟩
  have BO:x.2.length<=2:=by rw[<-hx];exact Pk
  have ZV:Ez t x.1:=by rw[<-hx];exact Si ⟨i1,i2,i3,i4⟩
  have Vk:∀a∈x.2,tL b a:=λa ha=>by rw[<-hx]at ha;exact(IP hb.bT hp a ha).1
  show∃p' eQ fD qm,lp E (denC E) 71 1 [] 0 {vals:=[AV.sl 3 (cI b p0),AV.int .i64 (aH b p0).length,AV.int .i64 pre.length],aq:=[EE b t,.arr 1 (bC p),.arr 4 (bp p),.arr 1 (bE p),.arr 2 (bA p),.arr 2 (jN R0),.arr 5 Ev,.arr 5 ev,.arr 4 (u7 st),qh tb,.arr 2 (jN iB)]}=_/\_;rw[aby,ah,aK (by omega),uu];unfold fh;rw[EG];simp only[SB,Nat.reduceAdd];rw[aac];simp only[SB];rw[nE hb hp hj];simp only[SB];rw[tU,tU,bG hjr,bG hjo,bo,adW hjr,aU,ck (n:=(pre.length:Int)+1) (by omega),e1];by_cases hc:av b p0 f=[]\/aY b p j=false
  ·obtain⟨p',eQ,fD,qm,g1,g2,g3,g4,g5,g6,g7,g8,g9⟩:=ih (pre++[f]) p iB ev st (by rw[hk];simp) hp hf hr hri (by omega) (by omega);refine⟨p',eQ,fD,qm,?_,.skip EG hc g2,g3,g4,g5,g6,g7,by simp only[cM];omega,by simp only[cM];omega⟩;rw[show(((av b p0 f).length:Int)==0|| !aY b p j)=true by rcases hc with h|h<;>simp[h]];exact g1
  ·have hc1:av b p0 f≠[]:=λh=>hc (.inl h);have hc2:aY b p j=true:=by
    cases h:aY b p j with
    |true=>rfl
    |false=>exact absurd (.inr h) hc
   obtain⟨q,ev1,s1,a1,a2,a3,a4,a5,a6,a7⟩:=Px (x28:=cI b p0) (x29:=((aH b p0).length:Int)) (x30:=(pre.length:Int)) (R:=jN R0) (Ev:=Ev) (c10:=jN (iB.set j x.1)) (tb:=tb) hb ht (L:=x.2) (by omega) Vk x.2 [] p ev st rfl hp hf (by omega) (by omega);obtain⟨p',eQ,fD,qm,g1,g2,g3,g4,g5,g6,g7,g8,g9⟩:=ih (pre++[f]) q (iB.set j x.1) ev1 (st++s1) (by rw[hk];simp) a3 a4 (by simpa using hr) (λr Fa=>by
    rcases List.mem_or_eq_of_mem_set Fa with h|h
    ·exact hri r h
    ·rw[h];exact ZV) (by omega) (by simp;omega)
   rw[<-hx]at a2 g2;refine⟨p',eQ,fD,s1++qm,?_,.step EG hc1 hc2 a2 g2,g3,g4,g5,g6,by omega,by simp only[cM];omega,by simp only[cM,jf];omega⟩;rw[show(((av b p0 f).length:Int)==0|| !aY b p j)=false by rw[hc2];simp;exact hc1];have hst:=aaP hb hp hT hj hc2 (time:=(t:Int)) ⟨by omega,by omega⟩ (r:=R0.getD j (0,0)) ⟨i1,i2⟩ ⟨i3,i4⟩;rw[hx]at hst;simp only[SB,eN,m_,iN];rw[hst];simp only[SB,BI];rw[R5 hjo,iZ];rw[iD,fC]at a1;rw[show lp E (denC E) 71 1 [] 2 {vals:=[AV.sl 3 (cI b p0),AV.int .i64 (aH b p0).length,AV.int .i64 pre.length,AV.sl 3 (cH x.2),AV.int .i64 x.2.length,AV.int .i64 0],aq:=[EE b t,.arr 1 (bC p),.arr 4 (bp p),.arr 1 (bE p),.arr 2 (bA p),.arr 2 (jN R0),.arr 5 Ev,.arr 5 ev,.arr 4 (u7 st),qh tb,.arr 2 (jN (iB.set j x.1))]}=some (Ex.exit 2,{vals:=[AV.sl 3 (cI b p0),AV.int .i64 (aH b p0).length,AV.int .i64 pre.length],aq:=[EE b t,.arr 1 (bC q),.arr 4 (bp q),.arr 1 (bE q),.arr 2 (bA q),.arr 2 (jN R0),.arr 5 Ev,.arr 5 ev1,.arr 4 (u7 (st++s1)),qh tb,.arr 2 (jN (iB.set j x.1))]}) from a1];simp only[aN,aR,aQ,SB];rw[ck (n:=(pre.length:Int)+1) (by omega),e1,<-lz];exact g1
theorem M8 {b:Bd}{tb:p_}{p:Pw}(hb:BV b)(hT:Ri tb)(hp:aX b p)(hf:j_ b p){t:Nat}(ht:t<=2147483648){R0:List (Int×Int)}(hR:R0.length=b.n)(hI:∀r∈R0,Ez t r){Ev ev:List (List PV)}{st:List Pw}(he:ev.length<=600000000)(hs:st.length<=600000000):
  ∃p' eQ fD qm,denC E 71 [AV.t (.ptr 0 0),vL tb] (rnH b t p (jN R0) Ev ev st)=some ([],rnH b t p' (jN eQ) Ev fD (st++qm))/\
   rW b tb t p R0 (aH b p) p (List.replicate b.n (-1,-1)) p' eQ qm/\aX b p'/\j_ b p'/\eQ.length=b.n/\(∀r∈eQ,Ez t r)/\ev.length<=fD.length/\fD.length<=ev.length+60012/\qm.length<=60012:=by
 have ir:=fU b p;have h6:=hb.n6;obtain⟨p',eQ,fD,qm,g1,g2,g3,g4,g5,g6,g7,g8,g9⟩:=Py (p0:=p) hb hT ht hR hI (Ev:=Ev) (aH b p) [] p (List.replicate b.n (-1,-1)) ev st rfl hp hf (by simp) (λr hr=>by rw[(Ja.1 hr).2];unfold Ez;simp) (by omega) (by omega);refine⟨p',eQ,fD,qm,?_,g2,g3,g4,g5,g6,g7,by omega,by omega⟩;rw[iD,fC]at g1;show denC E 71 [AV.t (.ptr 0 0),vL tb] [EE b t,.arr 1 (bC p),.arr 4 (bp p),.arr 1 (bE p),.arr 2 (bA p),.arr 2 (jN R0),.arr 5 Ev,.arr 5 ev,.arr 4 (u7 st)]=_;rw[ai,r71,WG _ h6,mP hb hp];simp only[SB,Nat.reduceAdd];rw[show(cI b p).length=(aH b p).length by simp[cI],show lp E (denC E) 71 1 [] 0 {vals:=[AV.sl 3 (cI b p),AV.int .i64 (aH b p).length,AV.int .i64 0],aq:=[EE b t,.arr 1 (bC p),.arr 4 (bp p),.arr 1 (bE p),.arr 2 (bA p),.arr 2 (jN R0),.arr 5 Ev,.arr 5 ev,.arr 4 (u7 st),qh tb,.arr 2 (jN (List.replicate b.n (-1,-1)))]}=some (Ex.exit 0,{vals:=[],aq:=[EE b t,.arr 1 (bC p'),.arr 4 (bp p'),.arr 1 (bE p'),.arr 2 (bA p'),.arr 2 (jN R0),.arr 5 Ev,.arr 5 fD,.arr 4 (u7 (st++qm)),.arr 2 (jN eQ)]}) from g1];simp only[aN,aR,aQ,SB]
abbrev agi (b:Bd)(t:Nat):au:=.box [.int .i64 (t:Int),.t (.ak 3),.t (.ak 4),.t (.ak 5),.t (.ak 6),.t (.ak 7),.t (.ak 8),.int .i64 (b.n:Int),.sl 3 (fW b),.sl 3 (oW b),.sl 5 (nQ b),.int .i64 (b.phase:Int),.int .i64 (b.eZ:Int),.t (.ak 9),.t (.ak 10)]
theorem XX {b:Bd}(hb:BV b){t:Nat}(ht:t<=2147483648){R Ev:List (List PV)}{tb:p_}{L:List Act}(hL:L.length<=1000)(hA:∀a∈L,tL b a):∀(l pre:List Act) (p:Pw) (ev:List (List PV)) (st:List Pw),L=pre++l->aX b p->j_ b p->ev.length+5001*l.length<=800000000->st.length+5001*l.length<=800000000->
  ∃p' fD qm,lp E (denC E) 30 0 [] 1 {vals:=[AV.sl 3 (cH L),AV.int .i64 L.length,AV.int .i64 pre.length],aq:=[eG b,qh tb,agi b t,.arr 1 (bC p),.arr 4 (bp p),.arr 1 (bE p),.arr 2 (bA p),.arr 2 R,.arr 5 Ev,.arr 5 ev,.arr 4 (u7 st)]}=
   some (Ex.exit 1,{vals:=[],aq:=[eG b,qh tb,agi b t,.arr 1 (bC p'),.arr 4 (bp p'),.arr 1 (bE p'),.arr 2 (bA p'),.arr 2 R,.arr 5 Ev,.arr 5 fD,.arr 4 (u7 (st++qm))]})/\BT b t p l p' qm/\aX b p'/\j_ b p'/\ev.length+l.length<=fD.length/\fD.length<=ev.length+5001*l.length/\qm.length<=5001*l.length:=by
 intro l
 induction l with
 |nil=>
  intro pre p ev st kZ hp hf he hs;refine⟨p,ev,[],?_,.nil p,hp,hf,by simp,by simp,by simp⟩;rw[uN,abV,ah,aC (by rw[kZ];simp)]
 |cons a l ih=>
  intro pre p ev st kZ hp hf he hs;have hpl:pre.length<L.length:=by rw[kZ];simp
  have hg:L.getD pre.length default=a:=by rw[kZ];simp[List.getD]
  have uu:∀K:List PV->Option (Ex×Pack),aG (cH L) (pre.length:Int) K=K [PV.int .i64 (a.k:Int),PV.int .i64 (a.u:Int),PV.int .i64 (a.v:Int)]:=λK=>by
   have:=bI acK default hpl K;rw[hg]at this;exact this
  have e1:(pre.length:Int)+1=((pre++[a]).length:Int):=by simp
  rw[cM]at he hs;obtain⟨p1,ev1,s1,h1,h2,h3,h4,h5⟩:=ac5 (c5:=R) (c6:=Ev) hb hp hf ht (hA a (by rw[kZ];simp)) (ev:=ev) (st:=st) (by omega) (by omega);obtain⟨La,VJ⟩:=h2.ok hp hf;obtain⟨p',fD,s2,g1,g2,g3,g4,g5,g6,g7⟩:=ih (pre++[a]) p1 ev1 (st++s1) (by rw[kZ];simp) La VJ (by omega) (by simp;omega);refine⟨p',fD,s1++s2,?_,.cons h2 g2,g3,g4,by simp only[cM];omega,by simp only[cM];omega,by simp only[cM,jf];omega⟩;rw[abV,ah,aK (by omega),uu];simp only[SB];rw[show denC E 49 [AV.t (.ptr 0 0),AV.agg [PV.int .i64 (a.k:Int),PV.int .i64 (a.u:Int),PV.int .i64 (a.v:Int)]] [EE b t,.arr 1 (bC p),.arr 4 (bp p),.arr 1 (bE p),.arr 2 (bA p),.arr 2 R,.arr 5 Ev,.arr 5 ev,.arr 4 (u7 st)]=_ from h1];simp only[aN,aR,aQ,SB,aD,bb,aW,kF];rw[ck (n:=(pre.length:Int)+1) (by omega),e1,<-lz];exact g1
def JG (l:List (List PV)):List (List PV):=tz l (gu ((l.length:Int)-200) 0) (l.length:Int)
theorem F3 (l:List (List PV)):(JG l).length<=200:=by
 unfold JG tz;rw[List.length_drop,Cp];have:gu ((l.length:Int)-200) 0>=(l.length:Int)-200:=by unfold gu;split<;>omega
 omega
abbrev tkR (b:Bd)(t:Nat)(p:Pw)(R Ev ev st:List (List PV)):RV:=.kI [.int .i64 (t:Int),.sl 1 (bC p),.sl 4 (bp p),.sl 1 (bE p),.sl 2 (bA p),.sl 2 R,.sl 5 Ev,.int .i64 (b.n:Int),.sl 3 (fW b),.sl 3 (oW b),.sl 5 (nQ b),.int .i64 (b.phase:Int),.int .i64 (b.eZ:Int),.sl 5 ev,.sl 4 st]
theorem ae9 {b:Bd}{tb:p_}{p:Pw}(hb:BV b)(hT:Ri tb)(hp:aX b p)(hf:j_ b p){t:Nat}(ht:t<2147483648){R0:List (Int×Int)}(hR:R0.length=b.n)(hI:∀r∈R0,Ez t r){Ev:List (List PV)}(hE:Ev.length<=1000000){L:List Act}(hL:L.length<=200)(hA:∀a∈L,tL b a):
  ∃p1 s1 p2 iB s2 ev,denC E 30 [eH b,vL tb,YL t p (jN R0) Ev,AV.sl 3 (cH L)] []=some ([tkR b (t+1) (bt b p2 t) (jN iB) (JG (Ev++ev)) ev (u7 ([p]++s1++s2++[bt b p2 t])),RV.p (PV.int .i64 0)],[])/\
   BT b t p L p1 s1/\rW b tb t p1 R0 (aH b p1) p1 (List.replicate b.n (-1,-1)) p2 iB s2/\L.length<=ev.length/\aX b p2/\j_ b p2/\iB.length=b.n/\(∀r∈iB,Ez t r)/\s1.length+s2.length<=2000000:=by
 have jO:=fy (hp.sm hb);obtain⟨p1,ev1,s1,a1,a2,a3,a4,a5,a6,a7⟩:=XX (R:=jN R0) (Ev:=Ev) (tb:=tb) hb (show t<=2147483648 by omega) (by omega) hA L [] p [] [p] rfl hp hf (by simp;omega) (by simp;omega);rw[iD]at a5 a6;obtain⟨p2,iB,Rg,s2,b1,b2,b3,b4,b5,b6,b7,b8,b9⟩:=M8 (Ev:=Ev) (ev:=ev1) (st:=[p]++s1) hb hT a3 a4 (show t<=2147483648 by omega) hR hI (by omega) (by simp;omega);refine⟨p1,s1,p2,iB,s2,Rg,?_,a2,b2,by omega,b3,b4,b5,b6,by omega⟩;have h6:=hb.n6;have hw:aX b (bt b p2 t):=b3.B0 t;rw[iD,fC]at a1;rw[ai,r30,WN hb hp hf hT (by omega) hR hI Ev,aaL hb hp (by rw[tU];omega) (by omega),jO];simp only[fB,SB,Nat.reduceAdd];rw[iZ,b_ (show¬(200:Int)<(L.length:Int) by omega),show(((t:Nat):Int)==2147483648)=false by simp;omega];simp only[aN,aR,aQ,sW,sV,iD,SB];rw[ct (by omega),show([]++[[PV.sl 1 (bC p),PV.sl 4 (bp p),PV.sl 1 (bE p),PV.sl 2 (bA p)]]:List (List PV))=u7 [p] from rfl,ay,a1];simp only[aN,aR,aQ,SB];rw[show denC E 71 [AV.t (.ptr 0 0),vL tb] [EE b t,.arr 1 (bC p1),.arr 4 (bp p1),.arr 1 (bE p1),.arr 2 (bA p1),.arr 2 (jN R0),.arr 5 Ev,.arr 5 ev1,.arr 4 (u7 ([p]++s1))]=some ([],[EE b t,.arr 1 (bC p2),.arr 4 (bp p2),.arr 1 (bE p2),.arr 2 (bA p2),.arr 2 (jN iB),.arr 5 Ev,.arr 5 Rg,.arr 4 (u7 ([p]++s1++s2))]) from b1];simp only[aN,aR,aQ,SB,aD,bb,aW,kF];rw[show denC E 72 [eH b,iQ p2,AV.int .i64 (t:Int),AV.agg [PV.int .i64 7,PV.int .i64 0,PV.int .i64 0]] []=_ from WL hb b3 (by omega) 0 0];simp only[SB,jV,il,ig,ij,im];rw[fy (hw.sm hb)];simp only[SB,jV,il,ig,ij,im];have hlen:(Ev++Rg).length<=1000000000:=by rw[jf];omega
 have hlE:=F3 (Ev++Rg);have hmx:0<=gu (((Ev++Rg).length:Int)-200) 0/\gu (((Ev++Rg).length:Int)-200) 0<=((Ev++Rg).length:Int):=by unfold gu;split<;>omega
 have apf:(u7 ([p]++s1++s2)).length<=1000000000:=by rw[tO];simp only[jf,cM,iD];omega
 rw[ct (by omega),ct (by rw[jf]at hlen;omega),ck (n:=((Ev++Rg).length:Int)-200) (by omega),aL hmx.1,aL hmx.2,aL (Cu _),show tz (Ev++Rg) (gu (((Ev++Rg).length:Int)-200) 0) ((Ev++Rg).length:Int)=JG (Ev++Rg) from rfl,KI (by omega)];simp only[SB];rw[ck (n:=(t:Int)+1) (by omega),aw t,Bv]
section
section
variable {b:Bd} {tb:p_} {p p':Pw} {t t':Nat} {R Ev acts R' XJ ev st:List (List PV)}
theorem afd (h:denC E 30 [eH b,vL tb,YL t p R Ev,AV.sl 3 acts] []=some ([tkR b t' p' R' XJ ev st,RV.p (PV.int .i64 0)],[])):
  denC E 10 [eH b,vL tb,YL t p R Ev,AV.sl 3 acts] []=some ([plR t' p' R' XJ,RV.p (PV.sl 5 ev),RV.p (PV.int .i64 0)],[]):=by
 rw[ai,r10,h];simp only[sW,fB,SB]
end
end
theorem aX.M4 {b:Bd}{p:Pw}(h:aX b p){i:Nat}(hi:i<b.aO.length)(hk:(br b i).k=3->iF b p (br b i).b=none):aX b (cA p i true):=
 {h with
  c:=by simp[cA,h.c]
  Hd:=h.Hd
  one:=λu hu=>Gk h.c hi u (λhk3 EG=>by rw[<-EG];exact Kb (hk hk3)) (h.one u hu)}
theorem aas (l:List Bool)(hl:l.length<=1000):∀(m k:Nat),k+m=l.length->∃x:Ex×Pack,lp E (denC E) 110 0 [] 0 {vals:=[AV.sl 1 (p7 l),AV.bool true,AV.int .i64 l.length,AV.int .i64 k],aq:=[]}=some x/\((∃i:Nat,x=(Ex.ret,{vals:=[AV.int .i64 (i:Int)],aq:=[]})/\(l.drop k).contains true=true)\/(x=(Ex.exit 0,{vals:=[],aq:=[]})/\(l.drop k).contains true=false)):=by
 intro m
 induction m with
 |zero=>
  intro k hk;refine⟨_,?_,.inr ⟨rfl,?_⟩⟩
  ·rw[L0,ah,aC (by omega)]
  ·rw[Bi (by omega)];rfl
 |succ m ih=>
  intro k hk;have ir:k<l.length:=by omega
  have hd:l.drop k=l.getD k false::l.drop (k+1):=by
   rw[wZ ir];congr 1;simp[dD,ir]
  obtain⟨x,h1,h2⟩:=ih (k+1) (by omega);cases hv:l.getD k false with
  |true=>
   refine⟨(Ex.ret,{vals:=[AV.int .i64 (k:Int)],aq:=[]}),?_,.inl ⟨k,rfl,by rw[hd,hv];rfl⟩⟩;rw[L0,ah,aK (by omega),bI vG false ir,hv];rfl
  |false=>
   refine⟨x,?_,?_⟩
   ·rw[L0,ah,aK (by omega),bI vG false ir,hv];simp only[vG,SB];rw[ck (n:=(k:Int)+1) (by omega),aw k,h1];rfl
   ·rw[hd,hv];simpa using h2
theorem O5 {l:List Bool}(hl:l.length<=1000):denC E 56 [AV.sl 1 (p7 l),AV.bool true] []=some ([RV.p (PV.bool (l.contains true))],[]):=by
 obtain⟨x,h1,h2⟩:=aas l hl _ 0 (dy _);rw[fC]at h1;rw[ai,r56,ai,akr,iu,h1];rcases h2 with⟨i,rfl,h3⟩|⟨rfl,h3⟩
 ·rw[eN]at h3;rw[h3];simp only[SB];rw[aL (show(0:Int)<=(i:Int) by omega)]
 ·rw[eN]at h3;rw[h3];rfl
def yK (b:Bd)(p:Pw)(i:Nat):Bool:=(br b i).k==1&&(cl p i&&(lh p 2 i&& !aY b p (br b i).a))
theorem LA {b:Bd}{p:Pw}(hb:BV b)(hp:aX b p):∀(m k:Nat),k+m=b.aO.length->
  lp E (denC E) 55 0 [] 0 {vals:=[AV.sl 3 (fW b),AV.int .i64 b.aO.length,AV.int .i64 k],aq:=[eG b,kq p]}=
   some (if (List.range' k m).any (yK b p)=true then(Ex.ret,{vals:=[AV.bool true],aq:=[]}) else(Ex.exit 0,{vals:=[],aq:=[]})):=by
 have sg:=hb.nb;intro m
 induction m with
 |zero=>intro k hk;rw[abL,ah,aC (by omega)];rfl
 |succ m ih=>
  intro k hk;have hkb:k<b.aO.length:=by omega
  rw[abL,ah,aK (by omega),cF _ hkb,k_ _ (by rw[hp.c];exact hkb)];simp only[SB];rw[show((2:Int))=((2:Nat):Int) from rfl,h_ (b:=b) hp,nE hb hp (lY hb hkb).1];simp only[SB];rw[ck (n:=(k:Int)+1) (by omega),aw k,ih (k+1) (by omega),en,List.any_cons,rL];unfold yK;cases((br b k).k==1)<;>cases cl p k<;>cases lh p 2 k<;>cases aY b p (br b k).a<;>rfl
theorem HZ {b:Bd}{p:Pw}(hb:BV b)(hp:aX b p):denC E 55 [eH b,iQ p] []=some ([RV.p (PV.bool ((List.range b.aO.length).any (yK b p)))],[]):=by
 have l0:=LA hb hp _ 0 (dy _);rw[fC,<-iC]at l0;rw[ai,r55,bS,l0];cases(List.range b.aO.length).any (yK b p)<;>rfl
def aco (b:Bd):Nat:=b.ar.foldl (λm x=>max x.start m) 0
theorem adi {b:Bd}{k:Nat}(hk:k<b.ar.length):b.ar.drop k=gn b k::b.ar.drop (k+1):=by
 rw[wZ hk];congr 1;simp[gn,dD,hk]
theorem Jw (a c:Nat):gu (a:Int) (c:Int)=((max a c:Nat):Int):=by unfold gu;split<;>omega
theorem acP {b:Bd}(hb:BV b):∀(m k w:Nat),k+m=b.ar.length->
  lp E (denC E) 23 0 [] 0 {vals:=[AV.int .i64 (w:Int),AV.sl 3 (oW b),AV.int .i64 b.ar.length,AV.int .i64 k],aq:=[eG b]}=
   some (Ex.exit 0,{vals:=[AV.int .i64 (((b.ar.drop k).foldl (λm x=>max x.start m) w:Nat):Int)],aq:=[eG b]}):=by
 have h8:=hb.ng;intro m
 induction m with
 |zero=>
  intro k w hk;rw[afG,ah,aC (by omega),Bi (by omega)];rfl
 |succ m ih=>
  intro k w hk;rw[afG,ah,aK (by omega),oz _ (by omega)];simp only[SB,Nat.reduceAdd];rw[ck (n:=(k:Int)+1) (by omega),aw k,Jw,ih (k+1) _ (by omega),adi (show k<b.ar.length by omega),je]
theorem acs:∀(l:List Gen) (w:Nat),w<=l.foldl (λm x=>max x.start m) w/\(∀x∈l,x.start<=l.foldl (λm x=>max x.start m) w)/\∀M,w<=M->(∀x∈l,x.start<=M)->l.foldl (λm x=>max x.start m) w<=M
 |[],w=>⟨dB _,λx hx=>(by cases hx),λM h _=>h⟩
 |x::l,w=>by
  obtain⟨h1,h2,h3⟩:=acs l (max x.start w);rw[je];refine⟨by omega,λy hy=> ?_,λM hw hM=>h3 M ?_ λy hy=>hM y (gp _ hy)⟩
  ·rcases gI.1 hy with rfl|hy
   ·omega
   ·exact h2 y hy
  ·have:=hM x (pH ..);omega
theorem HB {b:Bd}{s:Nat}(hs:s<b.ar.length):gn b s∈b.ar:=by unfold gn;rw[dD,dO hs];exact gH hs
theorem aeW {b:Bd}{s:Nat}(hs:s<b.ar.length):(gn b s).start<=aco b:=(acs b.ar 0).2.1 _ (HB hs)
theorem acV {b:Bd}(hb:df b):aco b<=600:=(acs b.ar 0).2.2 600 (by omega) λx hx=>(hb.gen x hx).2.2.2
theorem afx {b:Bd}(hb:BV b):denC E 23 [eH b] []=some ([RV.p (PV.int .i64 ((2*b.aO.length+b.ar.length+aco b+1:Nat):Int))],[]):=by
 have l0:=acP hb _ 0 0 (dy _);rw[fC,eN]at l0;have h1:=hb.nb;have h2:=hb.ng;have h3:=acV hb.bT;unfold aco at h3;rw[ai,r23,H3 hb];simp only[fB,SB,Nat.reduceAdd];rw[dM,l0];simp only[SB,Nat.reduceAdd];rw[bS,dM,ck (n:=2*(b.aO.length:Int)) (by omega),ck (n:=2*(b.aO.length:Int)+(b.ar.length:Int)) (by omega)];rw[ck (n:=2*(b.aO.length:Int)+(b.ar.length:Int)+((b.ar.foldl (λm x=>max x.start m) 0:Nat):Int)) (by omega),ck (by omega)];unfold aco;congr 5
section
abbrev rZ (b:Bd)(g:List Bool):au:=.box [.int .i64 (b.n:Int),.sl 3 (fW b),.sl 3 (oW b),.sl 5 (nQ b),.int .i64 (b.phase:Int),.int .i64 (b.eZ:Int),.t (.ak 1),.t (.ak 2),.t (.ak 3),.t (.ak 4),.sl 1 (p7 g),.t (.ak 5)]
abbrev tX (b:Bd)(g:List Bool)(p:Pw)(a:List Act):List au:=[rZ b g,.arr 1 (bC p),.arr 4 (bp p),.arr 1 (bE p),.arr 2 (bA p),.arr 3 (cH a)]
theorem yr (l:List Act)(k u v:Nat):cH l++[[PV.int .i64 (k:Int),PV.int .i64 (u:Int),PV.int .i64 (v:Int)]]=cH (l++[⟨k,u,v⟩]):=by simp[cH,acK]
theorem ue (l:List Nat)(k:Nat):bF l++[[PV.int .i64 (k:Int)]]=bF (l++[k]):=by simp[bF]
section
variable {b:Bd} {p:Pw} {g:List Bool} {a:List Act}
theorem Pu (hb:BV b)(hp:aX b p):∀(m k:Nat) (F:List Nat),k+m=b.aO.length->F.length+m<=1000->
  lp E (denC E) 58 1 [] 0 {vals:=[AV.sl 3 (fW b),AV.int .i64 b.aO.length,AV.int .i64 k],aq:=[rZ b g,.arr 1 (bC p),.arr 4 (bp p),.arr 1 (bE p),.arr 2 (bA p),.arr 3 (cH a),.arr 1 (bF F)]}=
   some (Ex.exit 0,{vals:=[],aq:=[rZ b g,.arr 1 (bC p),.arr 4 (bp p),.arr 1 (bE p),.arr 2 (bA p),.arr 3 (cH a),.arr 1 (bF (F++(List.range' k m).filter λi=>cl p i&&IZ b p i))]}):=by
 have sg:=hb.nb;intro m
 induction m with
 |zero=>
  intro k F hk _;rw[abK,ah,aC (by omega)];simp
 |succ m ih=>
  intro k F hk hF;have hkb:k<b.aO.length:=by omega
  have Bo:k<p.closed.length:=by rw[hp.c];exact hkb
  have i1:=ih (k+1) F (by omega) (by omega);have i2:=ih (k+1) (F++[k]) (by omega) (by simp;omega);rw[abK,ah,aK (by omega),cF _ hkb,dU,bG Bo,bo,C5 Bo];simp only[eN,m_,iN,SB];rw[show(((br b k).k:Int) !=2)= !((br b k).k==2) by unfold bne;rw[rK],show((2:Int))=((2:Nat):Int) from rfl,h_ (b:=b) hp,nE hb hp (lY hb hkb).1];simp only[SB];rw[ck (n:=(k:Int)+1) (by omega),aw k,aU,ct (by omega),ue,en];have hf:(k::List.range' (k+1) m).filter (λi=>cl p i&&IZ b p i)=(if (cl p k&&IZ b p k)=true then[k] else[])++(List.range' (k+1) m).filter λi=>cl p i&&IZ b p i:=by
   rw[An];split<;>rfl
  rw[hf,<-lz];have hs:IZ b p k=(!((br b k).k==2)&&(!lh p 2 k&& !aY b p (br b k).a)):=rfl;rw[hs];cases((br b k).k==2)<;>cases cl p k<;>cases lh p 2 k<;>cases aY b p (br b k).a<;>simp only[Aq,FM,Je,CH,ay,aF,vg,yZ,oQ,uN]<;>first|exact i1|exact i2
theorem Pt (hb:BV b){L:List Nat}(hL:L.length<=100)(hx:∀x∈L,x<b.aO.length):∀(l pre:List Nat) (p:Pw) (a:List Act),L=pre++l->p.closed.length=b.aO.length->a.length+l.length<=1000->
  lp E (denC E) 58 1 [] 2 {vals:=[AV.sl 1 (bF L),AV.int .i64 L.length,AV.int .i64 pre.length],aq:=tX b g p a}=some (Ex.exit 2,{vals:=[],aq:=tX b g (opens p l) (a++pL l)}):=by
 intro l
 induction l with
 |nil=>
  intro pre p a hl hc ha;rw[show tX b g (opens p []) (a++pL [])=tX b g p a by simp[opens,pL]];show lp E (denC E) 58 1 [] 2 {vals:=[AV.sl 1 (bF L),AV.int .i64 L.length,AV.int .i64 pre.length],aq:=[rZ b g,.arr 1 (bC p),.arr 4 (bp p),.arr 1 (bE p),.arr 2 (bA p),.arr 3 (cH a)]}=_;rw[abJ,ah,aC (by rw[hl];simp)]
 |cons i l ih=>
  intro pre p a hl hc ha;have hpl:pre.length<L.length:=by rw[hl];simp
  have hg:L.getD pre.length 0=i:=by rw[hl];simp[List.getD]
  have hi:i<b.aO.length:=hx i (by rw[hl];simp);have e1:(pre.length:Int)+1=((pre++[i]).length:Int):=by simp
  rw[cM]at ha;have i1:=ih (pre++[i]) (cA p i false) (a++[⟨2,i,0⟩]) (by rw[hl];simp) (by simpa[cA]using hc) (by simp;omega);show lp E (denC E) 58 1 [] 2 {vals:=[AV.sl 1 (bF L),AV.int .i64 L.length,AV.int .i64 pre.length],aq:=[rZ b g,.arr 1 (bC p),.arr 4 (bp p),.arr 1 (bE p),.arr 2 (bA p),.arr 3 (cH a)]}=_;rw[abJ,ah,aK (by omega),cE _ hpl,hg];simp only[SB];rw[iZ,ct (by omega),dU,bG (by rw[hc];exact hi),bo,lv (by rw[hc];exact hi),ck (n:=(pre.length:Int)+1) (by omega),e1,show(2:Int)=((2:Nat):Int) from rfl,<-fC,yr];simp only[ay];rw[show opens p (i::l)=opens (cA p i false) l from rfl,show a++pL (i::l)=(a++[⟨2,i,0⟩])++pL l by simp[pL]];exact i1
theorem M7 (hb:BV b)(hp:aX b p)(ha:a.length<=500):denC E 58 [AV.t (.ptr 0 0)] (tX b g p a)=some ([],tX b g (opens p (gm b p)) (a++pL (gm b p))):=by
 have sg:=hb.nb;have l0:=Pu (g:=g) (a:=a) hb hp _ 0 [] (dy _) (by simp;omega);rw[fC,<-iC,gq]at l0;have ak:(gm b p).length<=b.aO.length:=n5 _;have l2:=Pt (g:=g) hb (L:=gm b p) (by omega) (λx hx=>qj hx) (gm b p) [] p a rfl hp.c (by omega);rw[iD,fC]at l2;show denC E 58 [AV.t (.ptr 0 0)] [rZ b g,.arr 1 (bC p),.arr 4 (bp p),.arr 1 (bE p),.arr 2 (bA p),.arr 3 (cH a)]=_;rw[ai,r58,bS,show(au.arr 1 []:au)=au.arr 1 (bF []) from rfl,l0];simp only[aN,SB,Nat.reduceAdd];rw[aU,show lp E (denC E) 58 1 [] 2 {vals:=[AV.sl 1 (bF (List.filter (λi=>cl p i&&IZ b p i) (List.range b.aO.length))),AV.int .i64 ((List.filter (λi=>cl p i&&IZ b p i) (List.range b.aO.length)).length:Int),AV.int .i64 0],aq:=[rZ b g,.arr 1 (bC p),.arr 4 (bp p),.arr 1 (bE p),.arr 2 (bA p),.arr 3 (cH a)]}=_ from l2];simp only[aN,SB]
theorem adJ (hp:aX b p){s:Nat}(hs:s<b.ar.length):bg (bp p) s 0 [PV.int .i64 2]=bp (kf p s (oN (sr p s))):=yQ (s:=p.aA) (by rw[hp.s];exact hs) 2
theorem LG (hp:aX b p){s:Nat}(hs:s<b.ar.length):aX b (kf p s (oN (sr p s))):=hp.R4 ⟨by simp[oN],(hp.runs hs).2⟩
theorem LF (hb:BV b):∀(m k:Nat) (x:Pw×List Act×Nat),k+m=b.ar.length->aX b x.1->x.2.1.length+m<=1000->
  lp E (denC E) 59 1 [] 0 {vals:=[AV.int .i64 (x.2.2:Int),AV.int .i64 b.ar.length,AV.int .i64 k],aq:=tX b g x.1 x.2.1}=
   some (Ex.exit 0,{vals:=[AV.int .i64 (((List.range' k m).foldl (mg b) x).2.2:Int)],aq:=tX b g ((List.range' k m).foldl (mg b) x).1 ((List.range' k m).foldl (mg b) x).2.1})/\aX b ((List.range' k m).foldl (mg b) x).1/\((List.range' k m).foldl (mg b) x).2.1.length<=x.2.1.length+m:=by
 have h8:=hb.ng;intro m
 induction m with
 |zero=>
  intro k x hk hp ha;refine⟨?_,hp,dB _⟩;show lp E (denC E) 59 1 [] 0 {vals:=[AV.int .i64 (x.2.2:Int),AV.int .i64 b.ar.length,AV.int .i64 k],aq:=[rZ b g,.arr 1 (bC x.1),.arr 4 (bp x.1),.arr 1 (bE x.1),.arr 2 (bA x.1),.arr 3 (cH x.2.1)]}=_;rw[abI,ah,aC (by omega)];rfl
 |succ m ih=>
  intro k x hk hp ha;obtain⟨p,a,w⟩:=x;simp only at hp ha|-;have qK:k<b.ar.length:=by omega
  have Xz:k<p.aA.length:=by rw[hp.s];exact qK
  have hsb:=(bu hb.bT qK).1;have Fe:=iT hb.bT qK;rw[en,je];show lp E (denC E) 59 1 [] 0 {vals:=[AV.int .i64 (w:Int),AV.int .i64 b.ar.length,AV.int .i64 k],aq:=[rZ b g,.arr 1 (bC p),.arr 4 (bp p),.arr 1 (bE p),.arr 2 (bA p),.arr 3 (cH a)]}=_/\_;have key:∀y:Pw×List Act×Nat,mg b (p,a,w) k=y->aX b y.1->y.2.1.length<=a.length+1->
    lp E (denC E) 59 1 [] 0 {vals:=[AV.int .i64 (w:Int),AV.int .i64 b.ar.length,AV.int .i64 k],aq:=[rZ b g,.arr 1 (bC p),.arr 4 (bp p),.arr 1 (bE p),.arr 2 (bA p),.arr 3 (cH a)]}=lp E (denC E) 59 1 [] 0 {vals:=[AV.int .i64 (y.2.2:Int),AV.int .i64 b.ar.length,AV.int .i64 ((k+1:Nat):Int)],aq:=tX b g y.1 y.2.1}->
    lp E (denC E) 59 1 [] 0 {vals:=[AV.int .i64 (w:Int),AV.int .i64 b.ar.length,AV.int .i64 k],aq:=[rZ b g,.arr 1 (bC p),.arr 4 (bp p),.arr 1 (bE p),.arr 2 (bA p),.arr 3 (cH a)]}=some (Ex.exit 0,{vals:=[AV.int .i64 (((List.range' (k+1) m).foldl (mg b) (mg b (p,a,w) k)).2.2:Int)],aq:=tX b g ((List.range' (k+1) m).foldl (mg b) (mg b (p,a,w) k)).1 ((List.range' (k+1) m).foldl (mg b) (mg b (p,a,w) k)).2.1})/\aX b ((List.range' (k+1) m).foldl (mg b) (mg b (p,a,w) k)).1/\((List.range' (k+1) m).foldl (mg b) (mg b (p,a,w) k)).2.1.length<=a.length+(m+1):=λy hy hpy hay he=>by
   rw[hy,he];obtain⟨g1,g2,g3⟩:=ih (k+1) y (by omega) hpy (by omega);exact⟨g1,g2,by omega⟩
  have raw:lp E (denC E) 59 1 [] 0 {vals:=[AV.int .i64 (w:Int),AV.int .i64 b.ar.length,AV.int .i64 k],aq:=[rZ b g,.arr 1 (bC p),.arr 4 (bp p),.arr 1 (bE p),.arr 2 (bA p),.arr 3 (cH a)]}=
    ctl (ft b p k) (ctl (aY b p (home b k)) (lp E (denC E) 59 1 [] 0 {vals:=[AV.int .i64 (w:Int),AV.int .i64 b.ar.length,AV.int .i64 ((k+1:Nat):Int)],aq:=tX b g p a})
     (ctl ((sr p k).st==0) (lp E (denC E) 59 1 [] 0 {vals:=[AV.int .i64 ((max (gn b k).start w:Nat):Int),AV.int .i64 b.ar.length,AV.int .i64 ((k+1:Nat):Int)],aq:=tX b g (kf p k (oN (sr p k))) (a++[⟨3,k,0⟩])})
      (ctl ((sr p k).st==1) (lp E (denC E) 59 1 [] 0 {vals:=[AV.int .i64 ((max 1 (max (gn b k).start w):Nat):Int),AV.int .i64 b.ar.length,AV.int .i64 ((k+1:Nat):Int)],aq:=tX b g (kf p k (oN (sr p k))) a})
       (lp E (denC E) 59 1 [] 0 {vals:=[AV.int .i64 (w:Int),AV.int .i64 b.ar.length,AV.int .i64 ((k+1:Nat):Int)],aq:=tX b g (kf p k (oN (sr p k))) a}))))
     (lp E (denC E) 59 1 [] 0 {vals:=[AV.int .i64 (w:Int),AV.int .i64 b.ar.length,AV.int .i64 ((k+1:Nat):Int)],aq:=tX b g p a}):=by
   rw[abI,ah,aK (by omega),fP,bG Xz,bo,Ma Xz,Eb hb hp qK,kU hb qK];simp only[eN,m_,iN,SB];rw[cF _ hsb];simp only[SB];rw[nE hb hp Fe,oz _ qK,oz _ qK];simp only[Bool.not_not,SB];rw[adJ hp qK,ck (n:=(k:Int)+1) (by omega),aw k,iZ,ct (by omega),Jw,show(1:Int)=((1:Nat):Int) from rfl,Jw,gi,show(3:Int)=((3:Nat):Int) from rfl,<-fC,yr,gi];rfl
  by_cases hc:ft b p k=true/\aY b p (home b k)=false
  ·have hu:ft b p k=true:=hc.1;have hl:aY b p (home b k)=false:=hc.2;rw[hu,hl,ay,aF]at raw;by_cases h0:(sr p k).st=0
   ·rw[show((sr p k).st==0)=true by simp[h0],ay]at raw;exact key (kf p k (oN (sr p k)),a++[⟨3,k,0⟩],max (gn b k).start w) (by unfold mg;simp only;rw[aK hc,aK h0,aK h0]) (LG hp qK) (by simp) raw
   ·rw[show((sr p k).st==0)=false by simpa using h0,aF]at raw;by_cases h1:(sr p k).st=1
    ·rw[show((sr p k).st==1)=true by simp[h1],ay]at raw;exact key (kf p k (oN (sr p k)),a,max 1 (max (gn b k).start w)) (by unfold mg;simp only;rw[aK hc,aC h0,aC h0,aK h1]) (LG hp qK) (by simp) raw
    ·rw[show((sr p k).st==1)=false by simpa using h1,aF]at raw;exact key (kf p k (oN (sr p k)),a,w) (by unfold mg;simp only;rw[aK hc,aC h0,aC h0,aC h1]) (LG hp qK) (by simp) raw
  ·refine key (p,a,w) (by unfold mg;rw[aC hc]) hp (by simp) ?_;rw[raw];cases hu:ft b p k with
   |false=>rfl
   |true=>
    cases hl:aY b p (home b k)with
    |true=>rfl
    |false=>exact absurd ⟨hu,hl⟩ hc
theorem afb {w:Nat}(hw:w<=1000):denC E 115 [AV.sl 3 [[PV.int .i64 7,PV.int .i64 0,PV.int .i64 0]],AV.int .i64 (w:Int)] []=some ([RV.own 3 (cH (List.replicate w ⟨7,0,0⟩))],[]):=by
 rw[ai];show(match qB [AV.sl 3 [[PV.int .i64 7,PV.int .i64 0,PV.int .i64 0]],AV.int .i64 (w:Int)]with|some rs=>some (rs,[])|none=>none)=_;have:qB [AV.sl 3 [[PV.int .i64 7,PV.int .i64 0,PV.int .i64 0]],AV.int .i64 (w:Int)]=some [RV.own 3 (cH (List.replicate w ⟨7,0,0⟩))]:=by
  unfold qB CU;have:Yq 3 [AV.sl 3 [[PV.int .i64 7,PV.int .i64 0,PV.int .i64 0]],AV.int .i64 (w:Int)]=some (cH (List.replicate w ⟨7,0,0⟩)):=by
   show(if 3=3/\_/\_/\(0:Int)<=(w:Int)/\(w:Int)<=1000 then some (List.replicate (w:Int).toNat _) else none)=_;rw[aK ⟨rfl,rfl,rfl,by omega,by omega⟩,bo];simp[cH,acK]
  rw[this]
 rw[this]
theorem WE (hb:BV b)(hp:aX b p)(ha:a.length<=500):
  denC E 59 [AV.t (.ptr 0 0)] (tX b g p a)=some ([],tX b g ((List.range b.ar.length).foldl (mg b) (p,a,0)).1 (((List.range b.ar.length).foldl (mg b) (p,a,0)).2.1++List.replicate ((List.range b.ar.length).foldl (mg b) (p,a,0)).2.2 ⟨7,0,0⟩))/\
   aX b ((List.range b.ar.length).foldl (mg b) (p,a,0)).1/\((List.range b.ar.length).foldl (mg b) (p,a,0)).2.1.length<=a.length+b.ar.length:=by
 have h8:=hb.ng;obtain⟨l0,l1,l2⟩:=LF (g:=g) hb _ 0 (p,a,0) (dy _) hp (by simp only;omega);rw[fC,<-iC]at l0;rw[<-iC]at l1 l2;refine⟨?_,l1,l2⟩;have hw:((List.range b.ar.length).foldl (mg b) (p,a,0)).2.2<=1000:=by
  have w:∀(l:List Nat) (x:Pw×List Act×Nat),(∀s∈l,s<b.ar.length)->x.2.2<=601->(l.foldl (mg b) x).2.2<=601:=by
   intro l
   induction l with
   |nil=>intro x _ h;exact h
   |cons s l ih=>
    intro x hl h;refine ih _ (λs hs=>hl s (gp _ hs)) ?_;have:=(hb.gen _ (HB (hl s (pH ..)))).2.2.2;unfold mg;split
    ·simp only;split
     ·omega
     ·split<;>omega
    ·exact h
  exact jS (w _ _ (λs hs=>gR.1 hs) (by simp)) (by omega)
 generalize (List.range b.ar.length).foldl (mg b) (p,a,0)=y at*;show denC E 59 [AV.t (.ptr 0 0)] [rZ b g,.arr 1 (bC p),.arr 4 (bp p),.arr 1 (bE p),.arr 2 (bA p),.arr 3 (cH a)]=_;rw[ai,r59,fP,hp.s,show lp E (denC E) 59 1 [] 0 {vals:=[AV.int .i64 0,AV.int .i64 b.ar.length,AV.int .i64 0],aq:=[rZ b g,.arr 1 (bC p),.arr 4 (bp p),.arr 1 (bE p),.arr 2 (bA p),.arr 3 (cH a)]}=_ from l0];simp only[aN,SB,Nat.reduceAdd];rw[afb hw];simp only[BI,SB];have:cH (y.2.1++List.replicate y.2.2 ⟨7,0,0⟩)=cH y.2.1++cH (List.replicate y.2.2 ⟨7,0,0⟩):=by simp[cH]
 have l2':y.2.1.length<=a.length+b.ar.length:=l2;rw[iZ,iZ,za,ct (by omega),ay,<-this]
end
end
section
section
variable {b:Bd} {p:Pw} {g:List Bool} {a:List Act}
theorem Km (l:List Nat)(i:Nat):a++cW l++[⟨1,i,0⟩]=a++cW (l++[i]):=by simp[cW]
theorem Wp (hb:BV b){j:Nat}(hj:j<b.n){x9 x10:Int}:∀(m k:Nat) (x:Pw×List Nat),k+m=b.ar.length->aX b x.1->a.length+x.2.length+m<=100000->
  lp E (denC E) 60 1 [] 2 {vals:=[AV.int .i64 (j:Int),AV.int .i64 x9,AV.int .i64 x10,AV.int .i64 b.ar.length,AV.int .i64 k],aq:=tX b g x.1 (a++cW x.2)}=
   some (Ex.exit 2,{vals:=[AV.int .i64 x9,AV.int .i64 x10],aq:=tX b g ((List.range' k m).foldl (OZ b j) x).1 (a++cW ((List.range' k m).foldl (OZ b j) x).2)})/\aX b ((List.range' k m).foldl (OZ b j) x).1/\((List.range' k m).foldl (OZ b j) x).2.length<=x.2.length+m:=by
 have h8:=hb.ng;intro m
 induction m with
 |zero=>
  intro k x hk hp ha;refine⟨?_,hp,dB _⟩;show lp E (denC E) 60 1 [] 2 {vals:=[AV.int .i64 (j:Int),AV.int .i64 x9,AV.int .i64 x10,AV.int .i64 b.ar.length,AV.int .i64 k],aq:=[rZ b g,.arr 1 (bC x.1),.arr 4 (bp x.1),.arr 1 (bE x.1),.arr 2 (bA x.1),.arr 3 (cH (a++cW x.2))]}=_;rw[abG,ah,aC (by omega)];rfl
 |succ m ih=>
  intro k x hk hp ha;obtain⟨p,C⟩:=x;simp only at hp ha|-;have qK:k<b.ar.length:=by omega
  obtain⟨s1,s2,s3⟩:=bu hb.bT qK;have jO:cL b k<p.closed.length:=by rw[hp.c];exact s1
  rw[en,je];show lp E (denC E) 60 1 [] 2 {vals:=[AV.int .i64 (j:Int),AV.int .i64 x9,AV.int .i64 x10,AV.int .i64 b.ar.length,AV.int .i64 k],aq:=[rZ b g,.arr 1 (bC p),.arr 4 (bp p),.arr 1 (bE p),.arr 2 (bA p),.arr 3 (cH (a++cW C))]}=_/\_;have raw:lp E (denC E) 60 1 [] 2 {vals:=[AV.int .i64 (j:Int),AV.int .i64 x9,AV.int .i64 x10,AV.int .i64 b.ar.length,AV.int .i64 k],aq:=[rZ b g,.arr 1 (bC p),.arr 4 (bp p),.arr 1 (bE p),.arr 2 (bA p),.arr 3 (cH (a++cW C))]}=
    ctl (home b k==j&&ft b p k) (ctl (!aY b p j) (lp E (denC E) 60 1 [] 2 {vals:=[AV.int .i64 (j:Int),AV.int .i64 x9,AV.int .i64 x10,AV.int .i64 b.ar.length,AV.int .i64 ((k+1:Nat):Int)],aq:=tX b g (cA p (cL b k) true) (a++cW (C++[cL b k]))})
     (lp E (denC E) 60 1 [] 2 {vals:=[AV.int .i64 (j:Int),AV.int .i64 x9,AV.int .i64 x10,AV.int .i64 b.ar.length,AV.int .i64 ((k+1:Nat):Int)],aq:=tX b g p (a++cW C)}))
     (lp E (denC E) 60 1 [] 2 {vals:=[AV.int .i64 (j:Int),AV.int .i64 x9,AV.int .i64 x10,AV.int .i64 b.ar.length,AV.int .i64 ((k+1:Nat):Int)],aq:=tX b g p (a++cW C)}):=by
   rw[abG,ah,aK (by omega),kU hb qK,Eb hb hp qK,nE hb hp hj];simp only[SB];rw[cF _ s1];simp only[SB];rw[gi,iZ,ct (by simp[cW];omega),dU,bG jO,bo,lv jO,ck (n:=(k:Int)+1) (by omega),aw k,show(1:Int)=((1:Nat):Int) from rfl,<-fC,yr,Km];simp only[ay];rfl
  by_cases hc:(home b k=j/\ft b p k=true)/\aY b p j=false
  ·have e:OZ b j (p,C) k=(cA p (cL b k) true,C++[cL b k]):=by unfold OZ;rw[aK hc]
   rw[e];obtain⟨g1,g2,g3⟩:=ih (k+1) (cA p (cL b k) true,C++[cL b k]) (by omega) (hp.M4 s1 (λh=>by omega)) (by simp;omega);rw[raw,show(home b k==j)=true by simp[hc.1.1],hc.1.2,hc.2];refine⟨g1,g2,?_⟩;simp only[jf,cM,iD]at g3;omega
  ·have e:OZ b j (p,C) k=(p,C):=by unfold OZ;rw[aC hc]
   rw[e];obtain⟨g1,g2,g3⟩:=ih (k+1) (p,C) (by omega) hp (by simp only;omega);refine⟨?_,g2,by simp only at g3;omega⟩;rw[raw,<-g1];by_cases h1:home b k=j
   ·rw[show(home b k==j)=true by simp[h1],xc];cases hu:ft b p k with
    |false=>rfl
    |true=>
     cases hl:aY b p j with
     |true=>rfl
     |false=>exact absurd ⟨⟨h1,hu⟩,hl⟩ hc
   ·rw[show(home b k==j)=false by simpa using h1,Bg];rfl
theorem Wq (hb:BV b):∀(m k:Nat) (x:Pw×List Nat),k+m=b.n->aX b x.1->a.length+x.2.length+8*m<=100000->
  lp E (denC E) 60 1 [] 0 {vals:=[AV.int .i64 (b.n:Int),AV.int .i64 k],aq:=tX b g x.1 (a++cW x.2)}=
   some (Ex.exit 0,{vals:=[],aq:=tX b g ((List.range' k m).foldl (Wr b) x).1 (a++cW ((List.range' k m).foldl (Wr b) x).2)})/\aX b ((List.range' k m).foldl (Wr b) x).1:=by
 have h8:=hb.ng;have h6:=hb.n6;intro m
 induction m with
 |zero=>
  intro k x hk hp ha;refine⟨?_,hp⟩;show lp E (denC E) 60 1 [] 0 {vals:=[AV.int .i64 (b.n:Int),AV.int .i64 k],aq:=[rZ b g,.arr 1 (bC x.1),.arr 4 (bp x.1),.arr 1 (bE x.1),.arr 2 (bA x.1),.arr 3 (cH (a++cW x.2))]}=_;rw[abH,ah,aC (by omega)];rfl
 |succ m ih=>
  intro k x hk hp ha;obtain⟨q1,q2,q3⟩:=Wp (g:=g) (a:=a) hb (show k<b.n by omega) (x9:=(b.n:Int)) (x10:=(k:Int)) b.ar.length 0 x (dy _) hp (by omega);rw[fC,<-iC]at q1;rw[<-iC]at q2 q3;have e:(List.range b.ar.length).foldl (OZ b k) x=Wr b x k:=rfl;rw[e]at q1 q2 q3;obtain⟨g1,g2⟩:=ih (k+1) (Wr b x k) (by omega) q2 (by omega);rw[en,je];refine⟨?_,g2⟩;show lp E (denC E) 60 1 [] 0 {vals:=[AV.int .i64 (b.n:Int),AV.int .i64 k],aq:=[rZ b g,.arr 1 (bC x.1),.arr 4 (bp x.1),.arr 1 (bE x.1),.arr 2 (bA x.1),.arr 3 (cH (a++cW x.2))]}=_;rw[abH,ah,aK (by omega),dM,show lp E (denC E) 60 1 [] 2 {vals:=[AV.int .i64 (k:Int),AV.int .i64 (b.n:Int),AV.int .i64 (k:Int),AV.int .i64 b.ar.length,AV.int .i64 0],aq:=[rZ b g,.arr 1 (bC x.1),.arr 4 (bp x.1),.arr 1 (bE x.1),.arr 2 (bA x.1),.arr 3 (cH (a++cW x.2))]}=_ from q1];simp only[aN,SB,Nat.reduceAdd];rw[ck (n:=(k:Int)+1) (by omega),aw k];exact g1
theorem QS (hb:BV b)(hp:aX b p)(ha:a.length<=5000):denC E 60 [AV.t (.ptr 0 0)] (tX b g p a)=some ([],tX b g (XG b p).1 (a++cW (XG b p).2))/\aX b (XG b p).1:=by
 have h6:=hb.n6;obtain⟨l0,l1⟩:=Wq (g:=g) (a:=a) hb b.n 0 (p,[]) (dy _) hp (by simp;omega);rw[fC,<-iC]at l0;rw[<-iC]at l1;rw[show(List.range b.n).foldl (Wr b) (p,[])=XG b p from rfl]at l0 l1;refine⟨?_,l1⟩;rw[show a++cW (p,([]:List Nat)).2=a by simp[cW]]at l0;show denC E 60 [AV.t (.ptr 0 0)] [rZ b g,.arr 1 (bC p),.arr 4 (bp p),.arr 1 (bE p),.arr 2 (bA p),.arr 3 (cH a)]=_;rw[ai,r60,show lp E (denC E) 60 1 [] 0 {vals:=[AV.int .i64 (b.n:Int),AV.int .i64 0],aq:=[rZ b g,.arr 1 (bC p),.arr 4 (bp p),.arr 1 (bE p),.arr 2 (bA p),.arr 3 (cH a)]}=_ from l0];simp only[aN,SB,Nat.reduceAdd]
def ads (b:Bd)(g:List Bool)(p:Pw)(a:List Act)(o:Option Nat):Ex×Pack:=match o with
 |some i=>(Ex.ret,{vals:=[AV.int .i64 (i:Int),AV.bool true],aq:=tX b g p a})
 |none=>(Ex.exit 0,{vals:=[],aq:=tX b g p a})
theorem RL (hb:BV b)(hp:aX b p)(hg:g.length=b.n):∀(m k:Nat),k+m=b.aO.length->
  lp E (denC E) 61 1 [] 0 {vals:=[AV.sl 3 (fW b),AV.int .i64 b.aO.length,AV.int .i64 k],aq:=[rZ b g,.arr 1 (bC p),.arr 4 (bp p),.arr 1 (bE p),.arr 2 (bA p),.arr 3 (cH a)]}=
   some (ads b g p a ((List.range' k m).find? (Pg b g p))):=by
 have sg:=hb.nb;intro m
 induction m with
 |zero=>intro k hk;rw[abF,ah,aC (by omega)];rfl
 |succ m ih=>
  intro k hk;have hkb:k<b.aO.length:=by omega
  have Bo:k<p.closed.length:=by rw[hp.c];exact hkb
  have ht:=lY hb hkb;have ih':=ih (k+1) (by omega);rw[abF,ah,aK (by omega),cF _ hkb,dU,bG Bo,bo,C5 Bo];simp only[eN,m_,iN,SB];rw[yi hb hp hkb,bI vG false (by omega),nE hb hp ht.1,ck (n:=(k:Int)+1) (by omega),aw k,ih',en,Al];have hH:Pg b g p k=((br b k).k==1&&(!cl p k&&(jd b p k&&(g.getD (br b k).a false&&aY b p (br b k).a !=aY b p (br b k).b)))):=rfl;rw[rL];by_cases h1:(br b k).k=1
  ·rw[nE hb hp (ht.2.1 h1).2,hH];simp only[vG,SB];rw[show((br b k).k==1)=true by simp[h1]];cases cl p k<;>cases jd b p k<;>cases g.getD (br b k).a false<;>cases aY b p (br b k).a<;>cases aY b p (br b k).b<;>rfl
  ·have Lg:((br b k).k==1)=false:=by simpa using h1
   rw[hH,Lg,aF,Bg]
theorem ac4 (hb:BV b)(hp:aX b p)(hg:g.length=b.n):denC E 61 [AV.t (.ptr 0 0)] (tX b g p a)=some (dz (Lr b g p),tX b g p a):=by
 have l0:=RL (a:=a) hb hp hg _ 0 (dy _);rw[fC,<-iC]at l0;rw[show(List.range b.aO.length).find? (Pg b g p)=Lr b g p from rfl]at l0;show denC E 61 [AV.t (.ptr 0 0)] [rZ b g,.arr 1 (bC p),.arr 4 (bp p),.arr 1 (bE p),.arr 2 (bA p),.arr 3 (cH a)]=_;rw[ai,r61,bS,l0];cases Lr b g p with
 |none=>
  unfold ads dz;simp only[aN,SB,Nat.reduceAdd]
 |some i=>
  unfold ads dz;simp only[aN,SB,Nat.reduceAdd]
theorem XW (hb:BV b)(hg:g.length=b.n):∀(N:Nat) (p:Pw) (a:List Act),aX b p->b.aO.length<=nCl p+N->a.length+N<=10000->
  ∃C q,lp E (denC E) 20 0 [] 1 {vals:=[],aq:=tX b g p a}=some (Ex.exit 1,{vals:=[],aq:=tX b g q (a++cW C)})/\GB b (TiP b g) p C q/\Lr b g q=none/\aX b q:=by
 intro N
 induction N with
 |zero=>
  intro p a hp hN ha;cases hf:Lr b g p with
  |none=>
   refine⟨[],p,?_,.nil p,hf,hp⟩;rw[show a++cW []=a by simp[cW]];have ht:=ac4 (a:=a) hb hp hg;rw[hf]at ht;show lp E (denC E) 20 0 [] 1 {vals:=[],aq:=[rZ b g,.arr 1 (bC p),.arr 4 (bp p),.arr 1 (bE p),.arr 2 (bA p),.arr 3 (cH a)]}=_;rw[SM,show denC E 61 [AV.t (.ptr 0 0)] [rZ b g,.arr 1 (bC p),.arr 4 (bp p),.arr 1 (bE p),.arr 2 (bA p),.arr 3 (cH a)]=_ from ht];simp only[dz,aN,SB,aD,bb,aW,kF]
  |some i=>
   exfalso;obtain⟨h1,h2⟩:=IJ.1 (Am hf);have hi:i<b.aO.length:=gR.1 (Co hf);have h3:=zr (p:=p) (i:=i) (by rw[hp.c];exact hi) h2;have h4:=T9 (cA p i true);have h5:(cA p i true).closed.length=b.aO.length:=by simpa[cA]using hp.c
   omega
 |succ N ih=>
  intro p a hp hN ha;have ht:=ac4 (a:=a) hb hp hg;cases hf:Lr b g p with
  |none=>
   refine⟨[],p,?_,.nil p,hf,hp⟩;rw[show a++cW []=a by simp[cW]];rw[hf]at ht;show lp E (denC E) 20 0 [] 1 {vals:=[],aq:=[rZ b g,.arr 1 (bC p),.arr 4 (bp p),.arr 1 (bE p),.arr 2 (bA p),.arr 3 (cH a)]}=_;rw[SM,show denC E 61 [AV.t (.ptr 0 0)] [rZ b g,.arr 1 (bC p),.arr 4 (bp p),.arr 1 (bE p),.arr 2 (bA p),.arr 3 (cH a)]=_ from ht];simp only[dz,aN,SB,aD,bb,aW,kF]
  |some i=>
   obtain⟨h1,h2⟩:=IJ.1 (Am hf);have hi:i<b.aO.length:=gR.1 (Co hf);have hic:i<p.closed.length:=by rw[hp.c];exact hi
   have h3:=zr (p:=p) (i:=i) hic h2;have nz:=h1.1;obtain⟨C,q,g1,g2,g3,g4⟩:=ih (cA p i true) (a++[⟨1,i,0⟩]) (hp.M4 hi (λh=>by omega)) (by omega) (by simp;omega);refine⟨i::C,q,?_,.cons h1 hi h2 g2,g3,g4⟩;rw[hf]at ht;show lp E (denC E) 20 0 [] 1 {vals:=[],aq:=[rZ b g,.arr 1 (bC p),.arr 4 (bp p),.arr 1 (bE p),.arr 2 (bA p),.arr 3 (cH a)]}=_;rw[SM,show denC E 61 [AV.t (.ptr 0 0)] [rZ b g,.arr 1 (bC p),.arr 4 (bp p),.arr 1 (bE p),.arr 2 (bA p),.arr 3 (cH a)]=_ from ht];simp only[dz,aN,SB,aD,bb,aW,kF];rw[iZ,ct (by omega),dU,bG hic,bo,lv hic,show(1:Int)=((1:Nat):Int) from rfl,<-fC,yr];simp only[ay];rw[show a++cW (i::C)=(a++[⟨1,i,0⟩])++cW C by simp[cW]];exact g1
end
end
section
section
variable {b:Bd} {p:Pw} {g:List Bool} {a:List Act}
abbrev pnC (b:Bd)(g:List Bool):au:=.box [.int .i64 (b.n:Int),.sl 3 (fW b),.sl 3 (oW b),.sl 5 (nQ b),.int .i64 (b.phase:Int),.int .i64 (b.eZ:Int),.t (.ak 2),.t (.ak 3),.t (.ak 4),.t (.ak 5),.sl 1 (p7 g),.t (.ak 6)]
abbrev Ty (b:Bd)(g:List Bool)(p:Pw)(a:List Act):List au:=[pnC b g,.box [.t (.ptr 0 0)],.arr 1 (bC p),.arr 4 (bp p),.arr 1 (bE p),.arr 2 (bA p),.arr 3 (cH a)]
theorem adX {i:Nat}(h:i<p.gJ.length):nth [] (bE p) i=[PV.int .i64 (lm p i:Int)]:=dS (f:=λ(x:Nat)=>[PV.int .i64 (x:Int)]) (d:=0) h
def svN (b:Bd)(x:Pw×List Nat)(c:Nat)(o:Option Nat):Pw×List Nat:=match o with
 |some i=>if dt b x.1 (br b i).a+lm x.1 c<=bV b x.1 (br b i).a then(cA x.1 i true,x.2++[i]) else x
 |none=>x
theorem RQ (hb:BV b)(hp:aX b p){C:List Nat}{c:Nat}(hc:c<b.cons.length)(ha:a.length+C.length<=100000):∀(m k:Nat),k+m=b.aO.length->
  lp E (denC E) 63 2 [] 2 {vals:=[AV.int .i64 (c:Int),AV.sl 3 (fW b),AV.int .i64 b.aO.length,AV.int .i64 k],aq:=Ty b g p (a++cW C)}=
   some (Ex.exit 2,{vals:=[],aq:=Ty b g (svN b (p,C) c ((List.range' k m).find? (X7 b p c))).1 (a++cW (svN b (p,C) c ((List.range' k m).find? (X7 b p c))).2)}):=by
 have sg:=hb.nb;have jO:c<p.gJ.length:=by rw[hp.l];exact hc
 intro m
 induction m with
 |zero=>
  intro k hk;show lp E (denC E) 63 2 [] 2 {vals:=[AV.int .i64 (c:Int),AV.sl 3 (fW b),AV.int .i64 b.aO.length,AV.int .i64 k],aq:=[pnC b g,.box [.t (.ptr 0 0)],.arr 1 (bC p),.arr 4 (bp p),.arr 1 (bE p),.arr 2 (bA p),.arr 3 (cH (a++cW C))]}=_;rw[abE,ah,aC (by omega)];rfl
 |succ m ih=>
  intro k hk;have hkb:k<b.aO.length:=by omega
  have Bo:k<p.closed.length:=by rw[hp.c];exact hkb
  have Fe:=(lY hb hkb).1;have Dy:=BK hb hp (br b k).a;have hl2:=hp.Hd c hc;have hl3:=(hb.zL c hc).1;have raw:lp E (denC E) 63 2 [] 2 {vals:=[AV.int .i64 (c:Int),AV.sl 3 (fW b),AV.int .i64 b.aO.length,AV.int .i64 k],aq:=[pnC b g,.box [.t (.ptr 0 0)],.arr 1 (bC p),.arr 4 (bp p),.arr 1 (bE p),.arr 2 (bA p),.arr 3 (cH (a++cW C))]}=
    ctl (X7 b p c k) (ctl (decide (dt b p (br b k).a+lm p c<=bV b p (br b k).a)) (some (Ex.exit 2,{vals:=[],aq:=Ty b g (cA p k true) (a++cW (C++[k]))})) (some (Ex.exit 2,{vals:=[],aq:=Ty b g p (a++cW C)})))
     (lp E (denC E) 63 2 [] 2 {vals:=[AV.int .i64 (c:Int),AV.sl 3 (fW b),AV.int .i64 b.aO.length,AV.int .i64 ((k+1:Nat):Int)],aq:=Ty b g p (a++cW C)}):=by
   rw[abE,ah,aK (by omega),cF _ hkb];simp only[SB];rw[yi hb hp hkb,nE hb hp Fe,Ee hb hp Fe,tE hb hp Fe,mH,bG jO,bo,adX jO];simp only[eN,m_,iN,SB];rw[iZ,ct (by simp[cW];omega),dU,bG Bo,bo,lv Bo,ck (n:=(k:Int)+1) (by omega),aw k,show(1:Int)=((1:Nat):Int) from rfl,<-fC,yr,Km];rw[ck (n:=((dt b p (br b k).a:Nat):Int)+((lm p c:Nat):Int)) (by omega),show bJ (((dt b p (br b k).a:Nat):Int)+((lm p c:Nat):Int)) ((bV b p (br b k).a:Nat):Int)=decide (dt b p (br b k).a+lm p c<=bV b p (br b k).a) by rw[uQ];simp only[lR];omega];rw[show(((br b k).k:Int) !=3)= !((br b k).k==3) by unfold bne;rw[Ej],show(((br b k).b:Int) !=((c:Nat):Int))= !((br b k).b==c) by unfold bne;rw[gi]];unfold X7;cases((br b k).k==3)<;>cases((br b k).b==c)<;>cases jd b p k<;>cases aY b p (br b k).a<;>rfl
  show lp E (denC E) 63 2 [] 2 {vals:=[AV.int .i64 (c:Int),AV.sl 3 (fW b),AV.int .i64 b.aO.length,AV.int .i64 k],aq:=[pnC b g,.box [.t (.ptr 0 0)],.arr 1 (bC p),.arr 4 (bp p),.arr 1 (bE p),.arr 2 (bA p),.arr 3 (cH (a++cW C))]}=_;rw[raw,en,Al];cases hs:X7 b p c k with
  |false=>exact ih (k+1) (by omega)
  |true=>
   show _=some ((Ex.exit 2,({vals:=[],aq:=Ty b g (svN b (p,C) c (some k)).1 (a++cW (svN b (p,C) c (some k)).2)}:Pack)):Ex×Pack);unfold svN;simp only;by_cases hle:dt b p (br b k).a+lm p c<=bV b p (br b k).a
   ·rw[aK hle,u_ hle];rfl
   ·rw[aC hle,decide_eq_false hle];rfl
theorem RP (hb:BV b){x:Pw×List Nat}(hp:aX b x.1){c:Nat}(hc:c<b.cons.length)(ha:a.length+x.2.length<=100000)(i:Nat):qp E (denC E) 63 1 [] 0 (i,[PV.int .i64 (c:Int)]) {vals:=[],aq:=Ty b g x.1 (a++cW x.2)} some=some (Ex.eF,{vals:=[],aq:=Ty b g (wJ b x c).1 (a++cW (wJ b x c).2)}):=by
 obtain⟨p,C⟩:=x;simp only at hp ha|-;have l2:=RQ (g:=g) hb hp hc ha b.aO.length 0 (dy _);rw[fC,<-iC]at l2;rw[show(List.range b.aO.length).find? (X7 b p c)=svF b p c from rfl]at l2;show qp E (denC E) 63 1 [] 0 (i,[PV.int .i64 (c:Int)]) {vals:=[],aq:=[pnC b g,.box [.t (.ptr 0 0)],.arr 1 (bC p),.arr 4 (bp p),.arr 1 (bE p),.arr 2 (bA p),.arr 3 (cH (a++cW C))]} some=_;rw[ago,ac' hb hp c,show(4:Int)=((4:Nat):Int) from rfl,h_ (b:=b) hp];cases hf:iF b p c with
 |some u=>
  have e:wJ b (p,C) c=(p,C):=by unfold wJ;rw[aC (by rw[hf];simp)]
  rw[e];simp only[dz,Ct,SB,Nat.reduceAdd]
 |none=>
  simp only[dz,SB,Nat.reduceAdd];cases hbk:lh p 4 c with
  |true=>
   have e:wJ b (p,C) c=(p,C):=by unfold wJ;rw[aC (by simp[hbk])]
   rw[e];simp only[SB]
  |false=>
   have e:wJ b (p,C) c=svN b (p,C) c (svF b p c):=by unfold wJ svN;rw[aK ⟨hf,hbk⟩];cases svF b p c<;>rfl
   rw[e];simp only[SB];rw[bS,show lp E (denC E) 63 2 [] 2 {vals:=[AV.int .i64 (c:Int),AV.sl 3 (fW b),AV.int .i64 b.aO.length,AV.int .i64 0],aq:=[pnC b g,.box [.t (.ptr 0 0)],.arr 1 (bC p),.arr 4 (bp p),.arr 1 (bE p),.arr 2 (bA p),.arr 3 (cH (a++cW C))]}=_ from l2];simp only[aN,SB]
theorem X6 (hb:BV b){x:Pw×List Nat}(hp:aX b x.1)(c:Nat):aX b (wJ b x c).1/\(wJ b x c).2.length<=x.2.length+1:=by
 obtain⟨p,C⟩:=x;simp only at hp;by_cases h1:iF b p c=none/\lh p 4 c=false
 ·cases hf:svF b p c with
  |none=>
   have e:wJ b (p,C) c=(p,C):=by unfold wJ;rw[aK h1];simp only;rw[hf]
   rw[e];exact⟨hp,by simp⟩
  |some i=>
   by_cases h2:dt b p (br b i).a+lm p c<=bV b p (br b i).a
   ·have e:wJ b (p,C) c=(cA p i true,C++[i]):=by unfold wJ;rw[aK h1];simp only;rw[hf];simp only;rw[aK h2]
    have hi:i<b.aO.length:=gR.1 (Co hf);have hs:=Am hf;unfold X7 at hs;simp only[bO,w8]at hs;rw[e];exact⟨hp.M4 hi λ_=>by rw[hs.2.1];exact h1.1,by simp⟩
   ·have e:wJ b (p,C) c=(p,C):=by unfold wJ;rw[aK h1];simp only;rw[hf];simp only;rw[aC h2]
    rw[e];exact⟨hp,by simp⟩
 ·have e:wJ b (p,C) c=(p,C):=by unfold wJ;rw[aC h1]
  rw[e];exact⟨hp,by simp⟩
theorem agc (hb:BV b):∀(m:List Nat) (ys:List (Nat×List PV)) (x:Pw×List Nat),ys.map Prod.snd=bF m->(∀c∈m,c<b.cons.length)->aX b x.1->a.length+x.2.length+m.length<=100000->
  rg E (denC E) 63 1 [] 0 ys {vals:=[],aq:=Ty b g x.1 (a++cW x.2)}=some (Ex.eF,{vals:=[],aq:=Ty b g (m.foldl (wJ b) x).1 (a++cW (m.foldl (wJ b) x).2)})/\aX b (m.foldl (wJ b) x).1:=by
 intro m
 induction m with
 |nil=>
  intro ys x hy _ hp _;cases ys with
  |nil=>exact⟨rfl,hp⟩
  |cons=>cases hy
 |cons c m ih=>
  intro ys x hy hm hp ha;cases ys with
  |nil=>cases hy
  |cons y ys=>
   have hy1:y.2=[PV.int .i64 (c:Int)]:=(List.cons.inj hy).1;have hy2:ys.map Prod.snd=bF m:=(List.cons.inj hy).2;obtain⟨n,e⟩:=y;subst hy1;rw[cM]at ha;obtain⟨h1,h2⟩:=X6 hb hp c;obtain⟨g1,g2⟩:=ih ys (wJ b x c) hy2 (λc hc=>hm c (gp _ hc)) h1 (by omega);refine⟨?_,g2⟩;show aj (qp E (denC E) 63 1 [] 0 (n,[PV.int .i64 (c:Int)]) {vals:=[],aq:=Ty b g x.1 (a++cW x.2)} some) (λq=>ctl (Ex.iI q.1 .eF) (rg E (denC E) 63 1 [] 0 ys q.2) (some q))=_;rw[RP hb hp (hm c (by simp)) (by omega) n];exact g1
theorem aaA (hb:BV b)(hp:aX b p)(ha:a.length<=5000):∃L:List Nat,denC E 63 [AV.t (.ptr 0 0)] (tX b g p a)=some ([],tX b g (L.foldl (wJ b) (p,[])).1 (a++cW (L.foldl (wJ b) (p,[])).2)):=by
 have Fg:=hb.nc;obtain⟨O,o1,o2,o3⟩:=O4 hb;refine⟨O.reverse,?_⟩;obtain⟨r1,r2⟩:=agc (g:=g) (a:=a) hb O.reverse (nV 0 (bF O)).reverse (p,[]) (by rw[List.map_reverse,C4];simp[bF]) (λc hc=>o2 c (List.mem_reverse.1 hc)) hp (by simp;omega);rw[show a++cW (p,([]:List Nat)).2=a by simp[cW]]at r1;show denC E 63 [AV.t (.ptr 0 0)] [rZ b g,.arr 1 (bC p),.arr 4 (bp p),.arr 1 (bE p),.arr 2 (bA p),.arr 3 (cH a)]=_;rw[ai,r63,o3];simp only[SB,Nat.reduceAdd];rw[aU,ct (by omega),show Ju (bF O)=true from G9 _,GZ,ay,show rg E (denC E) 63 1 [] 0 (nV 0 (bF O)).reverse {vals:=[],aq:=[pnC b g,.box [.t (.ptr 0 0)],.arr 1 (bC p),.arr 4 (bp p),.arr 1 (bE p),.arr 2 (bA p),.arr 3 (cH a)]}=_ from r1];simp only[aN,SB]
theorem aff (hb:BV b)(hp:aX b p):∃(acts:List Act) (e:Nat) (q:Pw) (pa:List Act),K1 b p q pa/\denC E 20 [eH b,iQ p] []=some ([RV.p (PV.sl 3 (cH acts)),RV.p (PV.int .i64 (e:Int))],[])/\
  (((e=9\/e=11)/\acts=[]/\(p=q->(List.range b.aO.length).any (yK b p)=false->(gF b p).contains true=true->Cg b p=false->False))\/(e=0/\p=q/\∃L C p4,aiB b p L C p4 acts)):=by
 obtain⟨q,pa,h1,h2⟩:=Gn hb hp;have sg:=hb.nb;have h8:=hb.ng;have h6:=hb.n6;have N7:=DJ (p:=p) hb.bT;have sep:=M7 (g:=gF b p) (a:=[]) hb hp (by simp);have hlt:∀i∈gm b p,i<b.aO.length:=λi hi=>qj hi;have akF:aX b (opens p (gm b p)):=by
  have w:∀(l:List Nat) (p:Pw),aX b p->(∀i∈l,i<b.aO.length)->aX b (opens p l):=by
   intro l
   induction l with
   |nil=>intro p h _;exact h
   |cons i l ih=>intro p h hl;exact ih _ (h.open_ (hl i (by simp))) λj hj=>hl j (by simp[hj])
  exact w _ _ hp hlt
 have ak:(gm b p).length<=b.aO.length:=n5 _;obtain⟨rO,yL,EK⟩:=WE (g:=gF b p) (a:=pL (gm b p)) hb akF (by simp[pL];omega);have sth:((List.range b.ar.length).foldl (mg b) (opens p (gm b p),pL (gm b p),0))=(((List.range b.ar.length).foldl (mg b) (opens p (gm b p),[],0)).1,pL (gm b p)++((List.range b.ar.length).foldl (mg b) (opens p (gm b p),[],0)).2.1,((List.range b.ar.length).foldl (mg b) (opens p (gm b p),[],0)).2.2):=by
  have w:∀(l:List Nat) (p:Pw) (A B:List Act) (w:Nat),l.foldl (mg b) (p,A++B,w)=((l.foldl (mg b) (p,B,w)).1,A++(l.foldl (mg b) (p,B,w)).2.1,(l.foldl (mg b) (p,B,w)).2.2):=by
   intro l
   induction l with
   |nil=>intro p A B w;rfl
   |cons s l ih=>
    intro p A B w;have e:mg b (p,A++B,w) s=((mg b (p,B,w) s).1,A++(mg b (p,B,w) s).2.1,(mg b (p,B,w) s).2.2):=by
     unfold mg;split
     ·simp only;split<;>simp
     ·rfl
    rw[je,je,e];exact ih _ A _ _
  have:=w (List.range b.ar.length) (opens p (gm b p)) (pL (gm b p)) [] 0;rw[uN]at this;exact this
 rw[sth]at rO yL EK;simp only at rO yL EK;obtain⟨x,ex⟩:∃x,(List.range b.ar.length).foldl (mg b) (opens p (gm b p),[],0)=x:=⟨_,rfl⟩
 rw[ex]at rO yL EK;have hw:x.2.2<=601:=by
  have w:∀(l:List Nat) (x:Pw×List Act×Nat),(∀s∈l,s<b.ar.length)->x.2.2<=601->(l.foldl (mg b) x).2.2<=601:=by
   intro l
   induction l with
   |nil=>intro x _ h;exact h
   |cons s l ih=>
    intro x hl h;refine ih _ (λs hs=>hl s (gp _ hs)) ?_;have:=(hb.gen _ (HB (hl s (pH ..)))).2.2.2;unfold mg;split
    ·simp only;split
     ·omega
     ·split<;>omega
    ·exact h
  rw[<-ex];exact w _ _ (λs hs=>gR.1 hs) (by simp)
 rw[jf]at EK;have ho:(pL (gm b p)).length=(gm b p).length:=by simp[pL]
 obtain⟨c1,c2⟩:=QS (g:=gF b p) (a:=pL (gm b p)++x.2.1++List.replicate x.2.2 ⟨7,0,0⟩) hb yL (by simp;omega);have cl:(XG b x.1).2.length<=1000:=by
  have w:∀(l:List Nat) (j:Nat) (x:Pw×List Nat),(l.foldl (OZ b j) x).2.length<=x.2.length+l.length:=by
   intro l j
   induction l with
   |nil=>intro x;simp
   |cons s l ih=>
    intro x;have:=ih (OZ b j x s);have h:(OZ b j x s).2.length<=x.2.length+1:=by unfold OZ;split<;>simp
    simp only[je,cM];omega
  have w2:∀(l:List Nat) (x:Pw×List Nat),(l.foldl (Wr b) x).2.length<=x.2.length+b.ar.length*l.length:=by
   intro l
   induction l with
   |nil=>intro x;simp
   |cons s l ih=>
    intro x;have:=ih (Wr b x s);have h:(Wr b x s).2.length<=x.2.length+b.ar.length:=by have:=w (List.range b.ar.length) s x;simpa[Wr]using this
    simp only[je,cM,Nat.mul_succ];omega
  have:=w2 (List.range b.n) (x.1,[]);have h3:b.ar.length*b.n<=8*6:=Nat.mul_le_mul h8 h6;simp only[FR,iD]at this;unfold XG;omega
 obtain⟨y,ey⟩:∃y,XG b x.1=y:=⟨_,rfl⟩
 rw[ey]at c1 c2 cl;obtain⟨C,p4,t1,t2,t3,t4⟩:=XW (g:=gF b p) hb N7 b.aO.length y.1 (pL (gm b p)++x.2.1++List.replicate x.2.2 ⟨7,0,0⟩++cW y.2) c2 (by omega) (by simp[cW];omega);have hC:=t2.len c2.c;obtain⟨L,s1⟩:=aaA (g:=gF b p) (a:=pL (gm b p)++x.2.1++List.replicate x.2.2 ⟨7,0,0⟩++cW y.2++cW C) hb t4 (by simp[cW];omega);by_cases rH:p=q
 ·cases hst:(List.range b.aO.length).any (yK b p)with
  |true=>
   refine⟨[],11,q,pa,h2,?_,.inl ⟨.inr rfl,rfl,λ_ h=>(by cases h)⟩⟩;rw[ai,r20,h1];simp only[SB,Nat.reduceAdd];rw[show denC E 54 [AV.agg [PV.sl 1 (bC p),PV.sl 4 (bp p),PV.sl 1 (bE p),PV.sl 2 (bA p)],AV.agg [PV.sl 1 (bC q),PV.sl 4 (bp q),PV.sl 1 (bE q),PV.sl 2 (bA q)]] []=_ from zO (hp.sm hb),HZ hb hp,hst];simp only[fB,u_ rH,SB];rfl
  |false=>
   by_cases hgo:(gF b p).contains true=false\/Cg b p=true
   ·refine⟨[],9,q,pa,h2,?_,.inl ⟨.inl rfl,rfl,λ_ _ h3 h4=>by
     rcases hgo with h|h
     ·rw[h]at h3;cases h3
     ·rw[h]at h4;cases h4⟩⟩
    rw[ai,r20,h1];simp only[SB,Nat.reduceAdd];rw[show denC E 54 [AV.agg [PV.sl 1 (bC p),PV.sl 4 (bp p),PV.sl 1 (bE p),PV.sl 2 (bA p)],AV.agg [PV.sl 1 (bC q),PV.sl 4 (bp q),PV.sl 1 (bE q),PV.sl 2 (bA q)]] []=_ from zO (hp.sm hb),HZ hb hp,hst,Nf hb hp,Ed hb hp];simp only[fB,u_ rH,SB];rw[O5 (by omega)];simp only[SB];rcases hgo with h|h
    ·rw[h];rfl
    ·rw[h];cases(gF b p).contains true<;>rfl
   ·have OI:(gF b p).contains true=true:=by
     cases h:(gF b p).contains true with
     |true=>rfl
     |false=>exact absurd (.inl h) hgo
    have hg2:Cg b p=false:=by
     cases h:Cg b p with
     |false=>rfl
     |true=>exact absurd (.inr h) hgo
    refine⟨_,0,q,pa,h2,?_,.inr ⟨rfl,rH,L,C,p4,by rw[ex,ey];exact t2,t3,rfl⟩⟩;rw[ex,ey];rw[ai,r20,h1];simp only[SB,Nat.reduceAdd];rw[show denC E 54 [AV.agg [PV.sl 1 (bC p),PV.sl 4 (bp p),PV.sl 1 (bE p),PV.sl 2 (bA p)],AV.agg [PV.sl 1 (bC q),PV.sl 4 (bp q),PV.sl 1 (bE q),PV.sl 2 (bA q)]] []=_ from zO (hp.sm hb),HZ hb hp,hst,Nf hb hp,Ed hb hp];simp only[fB,u_ rH,SB];rw[O5 (by omega),OI,hg2];simp only[SB];rw[fy (hp.sm hb)];simp only[SB];rw[show(au.arr 3 []:au)=au.arr 3 (cH []) from rfl,show denC E 58 [AV.t (.ptr 0 0)] [rZ b (gF b p),.arr 1 (bC p),.arr 4 (bp p),.arr 1 (bE p),.arr 2 (bA p),.arr 3 (cH [])]=_ from sep];simp only[gq,aN,SB,aD,bb,aW,kF];rw[show denC E 59 [AV.t (.ptr 0 0)] [rZ b (gF b p),.arr 1 (bC (opens p (gm b p))),.arr 4 (bp (opens p (gm b p))),.arr 1 (bE (opens p (gm b p))),.arr 2 (bA (opens p (gm b p))),.arr 3 (cH (pL (gm b p)))]=_ from rO];simp only[aN,SB,aD,bb,aW,kF];rw[show denC E 60 [AV.t (.ptr 0 0)] [rZ b (gF b p),.arr 1 (bC x.1),.arr 4 (bp x.1),.arr 1 (bE x.1),.arr 2 (bA x.1),.arr 3 (cH (pL (gm b p)++x.2.1++List.replicate x.2.2 ⟨7,0,0⟩))]=_ from c1];simp only[aN,SB,aD,bb,aW,kF];rw[show lp E (denC E) 20 0 [] 1 {vals:=[],aq:=[rZ b (gF b p),.arr 1 (bC y.1),.arr 4 (bp y.1),.arr 1 (bE y.1),.arr 2 (bA y.1),.arr 3 (cH (pL (gm b p)++x.2.1++List.replicate x.2.2 ⟨7,0,0⟩++cW y.2))]}=_ from t1];simp only[aN,SB];rw[show denC E 63 [AV.t (.ptr 0 0)] [rZ b (gF b p),.arr 1 (bC p4),.arr 4 (bp p4),.arr 1 (bE p4),.arr 2 (bA p4),.arr 3 (cH (pL (gm b p)++x.2.1++List.replicate x.2.2 ⟨7,0,0⟩++cW y.2++cW C))]=_ from s1];simp only[SB,aD,bb,aW,kF];have:cW (y.2++C++(L.foldl (wJ b) (p4,[])).2)=cW y.2++cW C++cW (L.foldl (wJ b) (p4,[])).2:=by simp[cW]
    rw[this];simp only[lz];rfl
 ·refine⟨[],11,q,pa,h2,?_,.inl ⟨.inr rfl,rfl,λh=>absurd h rH⟩⟩;rw[ai,r20,h1];simp only[SB,Nat.reduceAdd];rw[show denC E 54 [AV.agg [PV.sl 1 (bC p),PV.sl 4 (bp p),PV.sl 1 (bE p),PV.sl 2 (bA p)],AV.agg [PV.sl 1 (bC q),PV.sl 4 (bp q),PV.sl 1 (bE q),PV.sl 2 (bA q)]] []=_ from zO (hp.sm hb)];simp only[fB,decide_eq_false rH,SB];rfl
end
end
abbrev src (L:List Int)(k:Nat):au:=au.box [AV.sl 1 (kv .i64 L),AV.int .i64 k]
theorem mJ (k:IntKind)(L:List Int):(kv k L).length=L.length:=by simp[kv]
theorem Gc {α:Type}{k:IntKind}{L:List Int}{i:Int}(hi:0<=i/\i<L.length)(K:List PV->Option α):aG (kv k L) i K=K [PV.int k (L.getD i.toNat 0)]:=by
 unfold aG;rw[mJ];have h1:bJ 0 i=true:=by simpa using hi.1
 have h2:aT i L.length=true:=by simpa using hi.2
 rw[h1,h2];have hlt:i.toNat<L.length:=by omega
 simp only[GZ,ay];rw[dp];simp[kv,List.getD,hlt]
def md (x n:Int):Int:=if n<1 then 0 else x %n
theorem aik (x n:Int)(hn:n<=4611686018427387904):denC E 28 [AV.int .i64 x,AV.int .i64 n] []=some ([RV.p (PV.int .i64 (md x n))],[]):=by
 rw[ai,r28,ah];unfold md;by_cases h:n<1
 ·rw[aK h,aK h]
 ·rw[aC h,aC h];have hne:neB n 0=true:=by simp;omega
  have hb:=Aa (a:=x) (d:=n) (by omega);have hf:=II (a:=x) (d:=n) (by omega);rw[hne,ck (by omega)];simp only[SB];have:(x.tmod n+n).tmod n=x %n:=by
   rw[Int.tmod_eq_emod_of_nonneg (by omega),Int.add_emod_right];split at hf
   ·rw[<-Int.add_emod_right,hf,Int.emod_emod]
   ·rw[hf,Int.emod_emod]
  rw[this]
theorem P9 {x n:Int}(hn:1<=n):0<=md x n/\md x n<n:=by
 unfold md;rw[aC (by omega)];exact⟨Int.emod_nonneg _ (by omega),Int.emod_lt_of_pos _ (by omega)⟩
def vN (L:List Int)(k:Nat)(n:Int):Int:=if k<L.length then md (L.getD k 0) n else 0
def Xj (L:List Int)(k:Nat):Nat:=if k<L.length then k+1 else k
theorem pA {L:List Int}{k:Nat}{n:Int}(hn:1<=n):0<=vN L k n/\vN L k n<n:=by
 unfold vN;split
 ·exact P9 hn
 ·omega
theorem c_N {L:List Int}{k:Nat}(hL:L.length<=600)(hk:k<=600)(n:Int)(hn:n<=4611686018427387904):
  denC E 7 [AV.t (.ptr 0 0),AV.int .i64 n] [src L k]=some ([RV.p (PV.int .i64 (vN L k n))],[src L (Xj L k)]):=by
 rw[ai];rw[r7,ah,mJ];unfold vN Xj;by_cases h:k<L.length
 ·rw[aC (by omega),aK h,aK h,ck (n:=(k:Int)+1) (by omega),ck (n:=(k:Int)+1-1) (by omega),Gc (by omega)];simp only[SB];rw[aik _ _ hn];simp only[SB];have e:((k:Int)+1-1).toNat=k:=by omega
  rw[e];rfl
 ·rw[aK (by omega),aC h,aC h]
theorem En {L:List Int}{k:Nat}(hL:L.length<=600)(hk:k<=600):Xj L k<=600:=by unfold Xj;split<;>omega
def GJ (L:List Int)(k:Nat)(lo hi:Int):Int:=lo+vN L k (hi-lo+1)
theorem EJ {L:List Int}{k:Nat}{lo hi:Int}(h:lo<=hi):lo<=GJ L k lo hi/\GJ L k lo hi<=hi:=by
 have:=pA (L:=L) (k:=k) (n:=hi-lo+1) (by omega);unfold GJ;omega
theorem aaO {L:List Int}{k:Nat}(hL:L.length<=600)(hk:k<=600){lo hi:Int}(h:-1000000000000<=lo/\lo<=hi/\hi<=1000000000000):
  denC E 26 [AV.t (.ptr 0 0),AV.int .i64 lo,AV.int .i64 hi] [src L k]=some ([RV.p (PV.int .i64 (GJ L k lo hi))],[src L (Xj L k)]):=by
 rw[ai];have hN:=c_N hL hk (hi-lo+1) (by omega);have hb:=pA (L:=L) (k:=k) (n:=hi-lo+1) (by omega);rw[r26,ck (n:=hi-lo) (by omega),ck (n:=hi-lo+1) (by omega),hN];simp only[SB];rw[ck (by omega)];rfl
def nY (L:List Int)(k:Nat)(l:List Int):Int:=l.getD (vN L k l.length).toNat 0
theorem Nd {L:List Int}{k:Nat}(hL:L.length<=600)(hk:k<=600){l:List Int}(hl:1<=l.length/\l.length<=1000):
  denC E 27 [AV.t (.ptr 0 0),AV.sl 1 (kv .i64 l)] [src L k]=some ([RV.p (PV.int .i64 (nY L k l))],[src L (Xj L k)]):=by
 rw[ai];have hN:=c_N hL hk l.length (by omega);have hb:=pA (L:=L) (k:=k) (n:=l.length) (by omega);rw[r27,mJ,hN];simp only[SB];rw[Gc hb];simp only[SB];rfl
theorem yG (L:List Int)(k:Nat){l:List Int}(hl:1<=l.length):nY L k l∈l:=by
 have hb:=pA (L:=L) (k:=k) (n:=l.length) (by omega);have hlt:(vN L k l.length).toNat<l.length:=by omega
 unfold nY;simp[List.getD,hlt]
theorem aij (l:List Int):denC E 5 [AV.sl 1 (kv .i64 l)] []=some ([RV.kI [PV.sl 1 (kv .i64 (l.take 600)),PV.int .i64 0]],[]):=by
 rw[ai,r5,mJ];have e:(lC 600 l.length).toNat=min 600 l.length:=by unfold lC;split<;>omega
 have h1:bJ 0 (lC 600 l.length)=true:=by simp only[lR];unfold lC;split<;>omega
 have h2:bJ (lC 600 l.length) l.length=true:=by simp only[lR];unfold lC;split<;>omega
 rw[h1,h2];simp only[SB];unfold tz;rw[e];have:((kv .i64 l).take (min 600 l.length)).drop (Int.toNat 0)=kv .i64 (l.take 600):=by
  simp only[Int.toNat_zero,eN];unfold kv;rw[<-List.map_take];congr 1;rw[<-List.take_take,List.take_length]
 rw[this]
def bz (x:fX):Int×Int×Int:=((x.k:Int),(x.a:Int),(x.b:Int))
def cS (G:Nat)(l:List fX):List Int:=(List.range G).map λu=>if (l.any λx=>x.k==2&&x.b==u)=true then 1 else 0
def cK (C:Nat)(l:List fX):List (List Int):=(List.range C).map λu=>(l.filter λx=>x.k==3&&x.b==u).map λx=>(x.a:Int)
structure Fits (n G C:Nat)(l:List fX):Prop where
 fit:∀x∈l,x.a<n/\(x.k=1->x.a<x.b/\x.b<n)/\(x.k=2->x.b<G)/\(x.k=3->x.b<C)/\1<=x.k/\x.k<=3
 s1:l.Pairwise λx y=>x.k=2->y.k=2->x.b≠y.b
 c1:l.Pairwise λx y=>x.k=3->y.k=3->x.b=y.b->x.a≠y.a
theorem afi {G:Nat}{l:List fX}{u:Nat}(h:u<G)(d:Int):(cS G l).getD u d=if (l.any λx=>x.k==2&&x.b==u)=true then 1 else 0:=by
 unfold cS;rw[dD,uP,Ar h];rfl
theorem W7 {C:Nat}{l:List fX}{u:Nat}(h:u<C)(d:List Int):(cK C l).getD u d=(l.filter λx=>x.k==3&&x.b==u).map λx=>(x.a:Int):=by
 unfold cK;rw[dD,uP,Ar h];rfl
theorem vw {α:Type}{G u:Nat}{f g:Nat->α}{v:α}(hv:v=g u)(ho:∀i,i≠u->f i=g i):((List.range G).map f).set u v=(List.range G).map g:=by
 apply List.ext_getElem?;intro i;rw[qy];by_cases hi:i<G
 ·by_cases he:u=i
  ·subst he;simp[hi,hv]
  ·rw[aC he];simp[hi,ho i (vd he)]
 ·by_cases he:u=i
  ·subst he;simp[hi]
  ·rw[aC he];simp[hi]
theorem Nj {n G C:Nat}{pre:List fX}{x:fX}(hx:x.a<n/\(x.k=1->x.a<x.b/\x.b<n)/\(x.k=2->x.b<G)/\(x.k=3->x.b<C)/\1<=x.k/\x.k<=3)
  (hs:∀y∈pre,y.k=2->x.k=2->y.b≠x.b) (hc:∀y∈pre,y.k=3->x.k=3->y.b=x.b->y.a≠x.a):brkStep (n:Int) (cS G pre,cK C pre) (bz x)=some (cS G (pre++[x]),cK C (pre++[x])):=by
 obtain⟨h1,h2,h3,h4,h5,h6⟩:=hx;have eS:x.k≠2->cS G (pre++[x])=cS G pre:=λh=>by
  unfold cS;refine rj λu _=> ?_;rw[List.any_append,show([x].any λx=>x.k==2&&x.b==u)=false by simp[h],Jd]
 have eK:x.k≠3->cK C (pre++[x])=cK C pre:=λh=>by
  unfold cK;refine rj λu _=> ?_;rw[CK,show([x].filter λx=>x.k==3&&x.b==u)=[] by simp[h],uN]
 unfold brkStep bz;simp only;rw[aK ⟨by omega,by omega⟩];have hk:x.k=1\/x.k=2\/x.k=3:=by omega
 rcases hk with hk|hk|hk
 ·obtain⟨t1,t2⟩:=h2 hk;rw[aK (by omega),aK ⟨by omega,by omega⟩,eS (by omega),eK (by omega)]
 ·have hb:=h3 hk;have hn:(pre.any λy=>y.k==2&&y.b==x.b)=false:=by
   rw[<-Cm,List.any_eq_true];rintro⟨y,hy,hyb⟩;simp only[bO,w8]at hyb;exact hs y hy hyb.1 hk hyb.2
  have hl:(cS G pre).length=G:=by simp[cS]
  rw[aC (by omega),aK (by omega),bo,aK ⟨by omega,by omega,by rw[afi hb,hn];rfl⟩,eK (by omega)];congr 2;refine vw ?_ λi hi=> ?_
  ·rw[List.any_append,show([x].any λy=>y.k==2&&y.b==x.b)=true by simp[hk],Bool.or_true,aK rfl]
  ·rw[List.any_append,show([x].any λy=>y.k==2&&y.b==i)=false by simp[vd hi],Jd]
 ·have hb:=h4 hk;have hl:(cK C pre).length=C:=by simp[cK]
  have Fc:¬(x.a:Int)∈(cK C pre).getD x.b []:=by
   rw[W7 hb];intro hm;obtain⟨y,hy,hya⟩:=kE.1 hm;rw[uO]at hy;simp only[bO,w8]at hy;exact hc y hy.1 hy.2.1 hk hy.2.2 (by omega)
  rw[aC (by omega),aC (by omega),aK (by omega),bo,aK ⟨by omega,by omega,Fc⟩,eS (by omega)];congr 2;refine vw ?_ λi hi=> ?_
  ·rw[W7 hb,CK,show([x].filter λy=>y.k==3&&y.b==x.b)=[x] by simp[hk],List.map_append];rfl
  ·rw[CK,show([x].filter λy=>y.k==3&&y.b==i)=[] by simp[vd hi],uN]
theorem KP {n G C:Nat}:∀(l pre:List fX),Fits n G C (pre++l)->brkGo (n:Int) (l.map bz) (cS G pre,cK C pre)=some (cS G (pre++l),cK C (pre++l))
 |[],pre,_=>by simp[brkGo]
 |x::l,pre,h=>by
  have e:pre++x::l=(pre++[x])++l:=by simp
  have hs:=wY.1 h.s1;have hc:=wY.1 h.c1;rw[qx,brkGo,Nj (h.fit x (by simp)) (λy hy h1 h2=>hs.2.2 y hy x (by simp) h1 h2) (λy hy h1 h2=>hc.2.2 y hy x (by simp) h1 h2)];simp only;rw[e]at h|-;exact KP l (pre++[x]) h
theorem Xb {n G C:Nat}{l:List fX}(h:Fits n G C l)(hG:∀u,u<G->∃x∈l,x.k=2/\x.b=u)(hC:∀u,u<C->∃x∈l,x.k=3/\x.b=u):KO (n:Int) (l.map bz) G C=true:=by
 unfold KO;have e1:List.replicate G (0:Int)=cS G []:=by
  unfold cS;apply Jf (by simp);intro i h1 h2;simp
 have e2:List.replicate C ([]:List Int)=cK C []:=by
  unfold cK;apply Jf (by simp);intro i h1 h2;simp
 rw[e1,e2,KP l [] (by simpa using h)];simp only[gq,bO,fk];constructor
 ·intro v hv;unfold cS at hv;obtain⟨u,hu,rfl⟩:=kE.1 hv;obtain⟨x,hx,h1,h2⟩:=hG u (gR.1 hu);rw[aK (List.any_eq_true.2 ⟨x,hx,by simp[h1,h2]⟩)];rfl
 ·intro v hv;unfold cK at hv;obtain⟨u,hu,rfl⟩:=kE.1 hv;obtain⟨x,hx,h1,h2⟩:=hC u (gR.1 hu);have:x∈l.filter λx=>x.k==3&&x.b==u:=uO.2 ⟨hx,by simp[h1,h2]⟩;cases hf:l.filter λx=>x.k==3&&x.b==u with
  |nil=>rw[hf]at this;cases this
  |cons y r=>rfl
def Gj (c:Con)(i:Nat):Prop:=c.load<=50000/\c.least<=c.load/\c.vW<=15/\-1<=c.RN/\c.RN<=7/\c.needs.length<=4/\(∀x∈c.needs,x<i)/\c.needs.Pairwise (· < ·)
structure ma (b:Bd):Prop where
 n1:1<=b.n
 n4:b.n<=4
 ph:b.phase<=1800
 fr:b.eZ<=6000
 fits:Fits b.n b.ar.length b.cons.length b.aO
 has:∀u,u<b.ar.length->∃x∈b.aO,x.k=2/\x.b=u
 Ff:∀u,u<b.cons.length->∃x∈b.aO,x.k=3/\x.b=u
 gen:∀x∈b.ar,1<=x.cd/\x.cd<=50000/\x.least<=x.cd/\x.start<=3
 zL:∀i,i<b.cons.length->Gj (cn b i) i
theorem ma.bv {b:Bd}(h:ma b)(h1:b.aO.length<=24)(h2:b.ar.length<=8)(h3:b.cons.length<=16):BV b where
 n1:=h.n1
 n6:=by have:=h.n4;omega
 nb:=h1
 ng:=h2
 nc:=h3
 ph:=h.ph
 fr:=h.fr
 tie:=h.fits.fit
 one i j hi hj ki kj hb:=by
  have hp:=Ao.1 h.fits.s1;have e:∀i (hi:i<b.aO.length),br b i=b.aO[i]:=λi hi=>by unfold br;rw[dD,dO hi];rfl
  rw[e i hi]at ki hb;rw[e j hj]at kj hb;rcases Nat.lt_trichotomy i j with hlt|he|hlt
  ·exact absurd hb (hp i j hi hj hlt ki kj)
  ·exact he
  ·exact absurd hb.symm (hp j i hj hi hlt kj ki)
 has:=h.has
 gen x hx:=by obtain⟨a,c,d,e⟩:=h.gen x hx;exact⟨a,c,d,by omega⟩
 zL:=h.zL
 brk:=Xb h.fits h.has h.Ff
theorem BB {R:fX->fX->Prop}{l:List fX}{x:fX}(h:l.Pairwise R)(hx:∀y∈l,R y x):(l++[x]).Pairwise R:=by
 rw[wY];exact⟨h,List.pairwise_singleton ..,λy hy z hz=>by rw[jL.1 hz];exact hx y hy⟩
theorem ma.tie {b:Bd}(h:ma b){a c:Nat}(h1:a<c)(h2:c<b.n):ma {b with aO:=b.aO++[⟨1,a,c⟩]} where
 n1:=h.n1
 n4:=h.n4
 ph:=h.ph
 fr:=h.fr
 fits:=by
  refine⟨λx hx=> ?_,BB h.fits.s1 λy _ _ hk=>absurd hk (by simp),BB h.fits.c1 λy _ _ hk=>absurd hk (by simp)⟩;rcases eO.1 hx with hx|hx
  ·exact h.fits.fit x hx
  ·rw[jL.1 hx];exact⟨by show a<b.n;omega,λ_=>⟨h1,h2⟩,λhk=>absurd hk (by simp),λhk=>absurd hk (by simp),by simp,by simp⟩
 has u hu:=by obtain⟨x,hx,h3⟩:=h.has u hu;exact⟨x,FQ _ hx,h3⟩
 Ff u hu:=by obtain⟨x,hx,h3⟩:=h.Ff u hu;exact⟨x,FQ _ hx,h3⟩
 gen:=h.gen
 zL:=h.zL
theorem ma.src {b:Bd}(h:ma b){a:Nat}{x:Gen}(h1:a<b.n)(h2:1<=x.cd/\x.cd<=50000/\x.least<=x.cd/\x.start<=3):ma {b with aO:=b.aO++[⟨2,a,b.ar.length⟩],ar:=b.ar++[x]} where
 n1:=h.n1
 n4:=h.n4
 ph:=h.ph
 fr:=h.fr
 fits:=by
  refine⟨λy hy=> ?_,BB h.fits.s1 λy hy hk _=> ?_,BB h.fits.c1 λy _ _ hk=>absurd hk (by simp)⟩
  ·simp only[jf,cM,iD];rcases eO.1 hy with hy|hy
   ·obtain⟨a1,a2,a3,a4,a5⟩:=h.fits.fit y hy;exact⟨a1,a2,λhk=>by have:=a3 hk;omega,a4,a5⟩
   ·rw[jL.1 hy];exact⟨h1,λhk=>absurd hk (by simp),λ_=>by show b.ar.length<_;omega,λhk=>absurd hk (by simp),by simp,by simp⟩
  ·have:=(h.fits.fit y hy).2.2.1 hk;show y.b≠b.ar.length;omega
 has u hu:=by
  simp only[jf,cM,iD]at hu;by_cases hl:u<b.ar.length
  ·obtain⟨y,hy,h3⟩:=h.has u hl;exact⟨y,FQ _ hy,h3⟩
  ·exact⟨⟨2,a,b.ar.length⟩,by simp,rfl,by show b.ar.length=u;omega⟩
 Ff u hu:=by obtain⟨y,hy,h3⟩:=h.Ff u hu;exact⟨y,FQ _ hy,h3⟩
 gen y hy:=by
  rcases eO.1 hy with hy|hy
  ·exact h.gen y hy
  ·rw[jL.1 hy];exact h2
 zL:=h.zL
theorem ma.cons {b:Bd}(h:ma b){A:List Nat}{x:Con}(hA:A≠[])(hn:A.Nodup)(h1:∀a∈A,a<b.n)(h2:Gj x b.cons.length):ma {b with aO:=b.aO++A.map λa=>⟨3,a,b.cons.length⟩,cons:=b.cons++[x]} where
 n1:=h.n1
 n4:=h.n4
 ph:=h.ph
 fr:=h.fr
 fits:=by
  refine⟨λy hy=> ?_,wY.2 ⟨h.fits.s1,?_,λy hy z hz _ hk=> ?_⟩,wY.2 ⟨h.fits.c1,?_,λy hy z hz hk _ hb=> ?_⟩⟩
  ·simp only[jf,cM,iD];rcases eO.1 hy with hy|hy
   ·obtain⟨a1,a2,a3,a4,a5⟩:=h.fits.fit y hy;exact⟨a1,a2,a3,λhk=>by have:=a4 hk;omega,a5⟩
   ·obtain⟨a,ha,rfl⟩:=kE.1 hy;exact⟨h1 a ha,λhk=>absurd hk (by simp),λhk=>absurd hk (by simp),λ_=>by show b.cons.length<_;omega,by simp,by simp⟩
  ·rw[List.pairwise_map];exact hn.imp λ{a a'} _ hk=>absurd hk (by simp)
  ·obtain⟨a,ha,rfl⟩:=kE.1 hz;exact absurd hk (by simp)
  ·rw[List.pairwise_map];exact hn.imp λ{a a'} hne _ _ _=>hne
  ·obtain⟨a,ha,rfl⟩:=kE.1 hz;have:=(h.fits.fit y hy).2.2.2.1 hk;have hb:y.b=b.cons.length:=hb;omega
 has u hu:=by obtain⟨y,hy,h3⟩:=h.has u hu;exact⟨y,FQ _ hy,h3⟩
 Ff u hu:=by
  simp only[jf,cM,iD]at hu;by_cases hl:u<b.cons.length
  ·obtain⟨y,hy,h3⟩:=h.Ff u hl;exact⟨y,FQ _ hy,h3⟩
  ·obtain⟨a,ha⟩:=List.exists_mem_of_ne_nil _ hA;exact⟨⟨3,a,b.cons.length⟩,List.mem_append_right _ (kE.2 ⟨a,ha,rfl⟩),rfl,by show b.cons.length=u;omega⟩
 gen:=h.gen
 zL i hi:=by
  simp only[jf,cM,iD]at hi;by_cases hl:i<b.cons.length
  ·have:cn {b with aO:=b.aO++A.map λa=>⟨3,a,b.cons.length⟩,cons:=b.cons++[x]} i=cn b i:=by
    unfold cn;simp only[dD,Cr hl]
   rw[this];exact h.zL i hl
  ·have hie:i=b.cons.length:=by omega
   have:cn {b with aO:=b.aO++A.map λa=>⟨3,a,b.cons.length⟩,cons:=b.cons++[x]} i=x:=by
    unfold cn;simp[dD,hie]
   rw[this,hie];exact h2
section
section
variable {L:List Int}
theorem z8 (hL:L.length<=600){k:Nat}(hk:k<=600){n:Nat}(h1:1<=n)(h2:n<=1000000):∃v k':Nat,denC E 7 [AV.t (.ptr 0 0),AV.int .i64 (n:Int)] [src L k]=some ([RV.p (PV.int .i64 (v:Int))],[src L k'])/\v<n/\k'<=600:=by
 have hb:=pA (L:=L) (k:=k) (n:=(n:Int)) (by omega);refine⟨(vN L k n).toNat,Xj L k,?_,by omega,En hL hk⟩;rw[c_N hL hk _ (by omega),show(((vN L k n).toNat:Nat):Int)=vN L k n by omega]
theorem qf (hL:L.length<=600){k:Nat}(hk:k<=600){lo hi:Int}(h:-1000<=lo/\lo<=hi/\hi<=1000):∃(v:Int) (k':Nat),denC E 26 [AV.t (.ptr 0 0),AV.int .i64 lo,AV.int .i64 hi] [src L k]=some ([RV.p (PV.int .i64 v)],[src L k'])/\lo<=v/\v<=hi/\k'<=600:=by
 have hb:=EJ (L:=L) (k:=k) (lo:=lo) (hi:=hi) h.2.1;exact⟨_,Xj L k,aaO hL hk ⟨by omega,h.2.1,by omega⟩,hb.1,hb.2,En hL hk⟩
theorem qg (hL:L.length<=600){k:Nat}(hk:k<=600){a c d:Int}(ha:0<=a)(hc:0<=c)(hd:0<=d):∃v k':Nat,denC E 27 [AV.t (.ptr 0 0),AV.sl 1 [[PV.int .i64 a],[PV.int .i64 c],[PV.int .i64 d]]] [src L k]=some ([RV.p (PV.int .i64 (v:Int))],[src L k'])/\((v:Int)=a\/(v:Int)=c\/(v:Int)=d)/\k'<=600:=by
 have hm:=yG L k (l:=[a,c,d]) (by simp);have h:=Nd hL hk (l:=[a,c,d]) (by simp);simp only[gI,Ai,or_false]at hm;refine⟨(nY L k [a,c,d]).toNat,Xj L k,?_,by omega,En hL hk⟩;rw[show(((nY L k [a,c,d]).toNat:Nat):Int)=nY L k [a,c,d] by omega];exact h
theorem wM (hL:L.length<=600){k:Nat}(hk:k<=600){a c d e:Int}(ha:0<=a)(hc:0<=c)(hd:0<=d)(he:0<=e):∃v k':Nat,denC E 27 [AV.t (.ptr 0 0),AV.sl 1 [[PV.int .i64 a],[PV.int .i64 c],[PV.int .i64 d],[PV.int .i64 e]]] [src L k]=some ([RV.p (PV.int .i64 (v:Int))],[src L k'])/\((v:Int)=a\/(v:Int)=c\/(v:Int)=d\/(v:Int)=e)/\k'<=600:=by
 have hm:=yG L k (l:=[a,c,d,e]) (by simp);have h:=Nd hL hk (l:=[a,c,d,e]) (by simp);simp only[gI,Ai,or_false]at hm;refine⟨(nY L k [a,c,d,e]).toNat,Xj L k,?_,by omega,En hL hk⟩;rw[show(((nY L k [a,c,d,e]).toNat:Nat):Int)=nY L k [a,c,d,e] by omega];exact h
abbrev Q6 (L:List Int)(k:Nat)(b:Bd):List au:=[src L k,.box [.int .i64 0,.sl 3 [],.sl 3 [],.sl 5 [],.int .i64 0,.int .i64 0],.box [.int .i64 (b.n:Int),.t (.ak 3),.t (.ak 4),.t (.ak 5),.int .i64 (b.phase:Int),.int .i64 (b.eZ:Int)],.arr 3 (fW b),.arr 3 (oW b),.arr 5 (nQ b)]
theorem Xd (b:Bd)(k a c:Nat):fW b++[[PV.int .i64 (k:Int),PV.int .i64 (a:Int),PV.int .i64 (c:Int)]]=fW {b with aO:=b.aO++[⟨k,a,c⟩]}:=by simp[fW,Xc]
theorem Xg (hL:L.length<=600):∀(m i k:Nat) (b:Bd),i+m=b.n->1<=i->k<=600->ma b->b.aO.length+m<=1000->
  ∃k' b',lp E (denC E) 6 1 [] 0 {vals:=[AV.int .i64 (i:Int)],aq:=Q6 L k b}=some (Ex.exit 0,{vals:=[],aq:=Q6 L k' b'})/\k'<=600/\ma b'/\b'.n=b.n/\b'.ar=b.ar/\b'.cons=b.cons/\b'.aO.length<=b.aO.length+m:=by
 intro m
 induction m with
 |zero=>
  intro i k b hi h1 hk hp hl;refine⟨k,b,?_,hk,hp,rfl,rfl,rfl,dB _⟩;show lp E (denC E) 6 1 [] 0 {vals:=[AV.int .i64 (i:Int)],aq:=[src L k,.box [.int .i64 0,.sl 3 [],.sl 3 [],.sl 5 [],.int .i64 0,.int .i64 0],.box [.int .i64 (b.n:Int),.t (.ak 3),.t (.ak 4),.t (.ak 5),.int .i64 (b.phase:Int),.int .i64 (b.eZ:Int)],.arr 3 (fW b),.arr 3 (oW b),.arr 5 (nQ b)]}=_;rw[agn,ah,aC (by omega)]
 |succ m ih=>
  intro i k b hi h1 hk hp hl;have h4:=hp.n4;obtain⟨v1,k1,e1,b1,nz⟩:=z8 hL hk (n:=6) (by omega) (by omega);obtain⟨v2,k2,e2,b2,hk2⟩:=z8 hL nz (n:=i) (by omega) (by omega);have e1:denC E 7 [AV.t (.ptr 0 0),AV.int .i64 6] [src L k]=_:=e1;show∃k' b',lp E (denC E) 6 1 [] 0 {vals:=[AV.int .i64 (i:Int)],aq:=[src L k,.box [.int .i64 0,.sl 3 [],.sl 3 [],.sl 5 [],.int .i64 0,.int .i64 0],.box [.int .i64 (b.n:Int),.t (.ak 3),.t (.ak 4),.t (.ak 5),.int .i64 (b.phase:Int),.int .i64 (b.eZ:Int)],.arr 3 (fW b),.arr 3 (oW b),.arr 5 (nQ b)]}=_/\_;rw[agn,ah,aK (by omega),e1];simp only[SB];rw[e2];simp only[SB];rw[bS,ct (by omega),ck (n:=(i:Int)+1) (by omega),aw i,show(1:Int)=((1:Nat):Int) from rfl,Xd];by_cases hv:v1<5
  ·rw[iz (by omega)];obtain⟨k',b',g1,g2,g3,g4,g5,g6,g7⟩:=ih (i+1) k2 {b with aO:=b.aO++[⟨1,v2,i⟩]} (by show i+1+m=b.n;omega) (by omega) hk2 (hp.tie b2 (by omega)) (by simp;omega);refine⟨k',b',g1,g2,g3,g4,g5,g6,by simp at g7;omega⟩
  ·rw[b_ (by omega)];obtain⟨k',b',g1,g2,g3,g4,g5,g6,g7⟩:=ih (i+1) k1 b (by omega) (by omega) nz hp (by omega);exact⟨k',b',g1,g2,g3,g4,g5,g6,by omega⟩
theorem El (hL:L.length<=600):∀(m k:Nat) (b:Bd),k<=600->ma b->b.aO.length+m<=1000->b.ar.length+m<=1000->
  ∃k' b',lp E (denC E) 6 1 [] 2 {vals:=[AV.int .i64 (m:Int)],aq:=Q6 L k b}=some (Ex.exit 2,{vals:=[],aq:=Q6 L k' b'})/\k'<=600/\ma b'/\b'.n=b.n/\b'.cons=b.cons/\b'.aO.length=b.aO.length+m/\b'.ar.length=b.ar.length+m:=by
 intro m
 induction m with
 |zero=>
  intro k b hk hp hl hg;refine⟨k,b,?_,hk,hp,rfl,rfl,rfl,rfl⟩;show lp E (denC E) 6 1 [] 2 {vals:=[AV.int .i64 ((0:Nat):Int)],aq:=[src L k,.box [.int .i64 0,.sl 3 [],.sl 3 [],.sl 5 [],.int .i64 0,.int .i64 0],.box [.int .i64 (b.n:Int),.t (.ak 3),.t (.ak 4),.t (.ak 5),.int .i64 (b.phase:Int),.int .i64 (b.eZ:Int)],.arr 3 (fW b),.arr 3 (oW b),.arr 5 (nQ b)]}=_;rw[agm,ah,aC (by omega)]
 |succ m ih=>
  intro k b hk hp hl hg;have h4:=hp.n4;have hn1:=hp.n1;obtain⟨v1,k1,e1,b1,nz⟩:=z8 hL hk (n:=b.n) (by omega) (by omega);obtain⟨v2,k2,e2,b2,hk2⟩:=qg hL nz (a:=10) (c:=50) (d:=100) (by omega) (by omega) (by omega);obtain⟨v3,k3,e3,b3,hk3⟩:=qg hL hk2 (a:=0) (c:=5) (d:=(v2:Int)) (by omega) (by omega) (by omega);obtain⟨v4,k4,e4,b4,hk4⟩:=qg hL hk3 (a:=0) (c:=1) (d:=3) (by omega) (by omega) (by omega);obtain⟨k',b',g1,g2,g3,g4,g5,g6,g7⟩:=ih k4 {b with aO:=b.aO++[⟨2,v1,b.ar.length⟩],ar:=b.ar++[⟨v2,v3,v4⟩]} hk4 (hp.src b1 (by simp only;omega)) (by simp;omega) (by simp;omega);refine⟨k',b',?_,g2,g3,g4,g5,by simp at g6;omega,by simp at g7;omega⟩;show lp E (denC E) 6 1 [] 2 {vals:=[AV.int .i64 ((m+1:Nat):Int)],aq:=[src L k,.box [.int .i64 0,.sl 3 [],.sl 3 [],.sl 5 [],.int .i64 0,.int .i64 0],.box [.int .i64 (b.n:Int),.t (.ak 3),.t (.ak 4),.t (.ak 5),.int .i64 (b.phase:Int),.int .i64 (b.eZ:Int)],.arr 3 (fW b),.arr 3 (oW b),.arr 5 (nQ b)]}=_;rw[agm,ah,aK (by omega),e1];simp only[SB];rw[e2];simp only[SB];rw[e3];simp only[SB];rw[e4];simp only[SB];rw[bS,dM,ct (by omega),ct (by omega),ck (n:=((m+1:Nat):Int)-1) (by omega),show((m+1:Nat):Int)-1=(m:Int) by omega,<-g1];have q1:fW b++[[PV.int .i64 2,PV.int .i64 (v1:Int),PV.int .i64 (b.ar.length:Int)]]=fW {b with aO:=b.aO++[⟨2,v1,b.ar.length⟩],ar:=b.ar++[⟨v2,v3,v4⟩]}:=by simp[fW,Xc]
  have q2:oW b++[[PV.int .i64 (v2:Int),PV.int .i64 (v3:Int),PV.int .i64 (v4:Int)]]=oW {b with aO:=b.aO++[⟨2,v1,b.ar.length⟩],ar:=b.ar++[⟨v2,v3,v4⟩]}:=by simp[oW,gnK]
  rw[q1,q2];rfl
theorem adr (a n:Nat):Int.tmod ((a:Int)+1) (n:Int)=(((a+1) %n:Nat):Int):=by
 rw[show(a:Int)+1=((a+1:Nat):Int) by omega];exact(Int.ofNat_tmod _ _).symm
theorem Lt (a:Nat):Int.tdiv (a:Int) 2=((a/2:Nat):Int):=(Int.ofNat_tdiv a 2).symm
theorem Ek (hL:L.length<=600):∀(m k:Nat) (b:Bd),k<=600->ma b->b.aO.length+2*m<=1000->b.cons.length+m<=1000->
  ∃k' b',lp E (denC E) 6 1 [] 4 {vals:=[AV.int .i64 (m:Int)],aq:=Q6 L k b}=some (Ex.exit 4,{vals:=[],aq:=Q6 L k' b'})/\k'<=600/\ma b'/\b'.n=b.n/\b'.ar=b.ar/\b'.aO.length<=b.aO.length+2*m/\b'.cons.length=b.cons.length+m:=by
 intro m
 induction m with
 |zero=>
  intro k b hk hp hl hg;refine⟨k,b,?_,hk,hp,rfl,rfl,dB _,rfl⟩;show lp E (denC E) 6 1 [] 4 {vals:=[AV.int .i64 ((0:Nat):Int)],aq:=[src L k,.box [.int .i64 0,.sl 3 [],.sl 3 [],.sl 5 [],.int .i64 0,.int .i64 0],.box [.int .i64 (b.n:Int),.t (.ak 3),.t (.ak 4),.t (.ak 5),.int .i64 (b.phase:Int),.int .i64 (b.eZ:Int)],.arr 3 (fW b),.arr 3 (oW b),.arr 5 (nQ b)]}=_;rw[agl,ah,aC (by omega)]
 |succ m ih=>
  intro k b hk hp hl hg;have h4:=hp.n4;have hn1:=hp.n1;have fin:∀(A:List Nat) (x:Con) (kz:Nat),A≠[]->A.Nodup->(∀a∈A,a<b.n)->Gj x b.cons.length->A.length<=2->kz<=600->∀Q:List (List PV),Q=fW b++A.map (λ(a:Nat)=>[PV.int .i64 3,PV.int .i64 (a:Int),PV.int .i64 (b.cons.length:Int)])->∀W:List (List PV),W=nQ b++[cnK x]->
    ∃k' b',lp E (denC E) 6 1 [] 4 {vals:=[AV.int .i64 (m:Int)],aq:=[src L kz,.box [.int .i64 0,.sl 3 [],.sl 3 [],.sl 5 [],.int .i64 0,.int .i64 0],.box [.int .i64 (b.n:Int),.t (.ak 3),.t (.ak 4),.t (.ak 5),.int .i64 (b.phase:Int),.int .i64 (b.eZ:Int)],.arr 3 Q,.arr 3 (oW b),.arr 5 W]}=some (Ex.exit 4,{vals:=[],aq:=Q6 L k' b'})/\k'<=600/\ma b'/\b'.n=b.n/\b'.ar=b.ar/\b'.aO.length<=b.aO.length+2*(m+1)/\b'.cons.length=b.cons.length+(m+1):=by
   intro A x kz a1 a2 a3 a4 a5 a6 Q hQ W hW;obtain⟨k',b',g1,g2,g3,g4,g5,g6,g7⟩:=ih kz {b with aO:=b.aO++A.map λa=>⟨3,a,b.cons.length⟩,cons:=b.cons++[x]} a6 (hp.cons a1 a2 a3 a4) (by simp;omega) (by simp;omega);refine⟨k',b',?_,g2,g3,g4,g5,by simp at g6;omega,by simp at g7;omega⟩;rw[<-g1];have q1:Q=fW {b with aO:=b.aO++A.map λa=>⟨3,a,b.cons.length⟩,cons:=b.cons++[x]}:=by rw[hQ];simp[fW,Xc,Function.comp_def]
   have q2:W=nQ {b with aO:=b.aO++A.map λa=>⟨3,a,b.cons.length⟩,cons:=b.cons++[x]}:=by rw[hW];simp[nQ]
   rw[q1,q2];rfl
  have w1:IntKind.i64.wrap (((m+1:Nat):Int)-1)=(m:Int):=by rw[ck (n:=((m+1:Nat):Int)-1) (by omega)];omega
  obtain⟨v0,k1,e0,b0,nz⟩:=z8 hL hk (n:=b.n) (by omega) (by omega);obtain⟨v1,k2,e1,b1,hk2⟩:=z8 hL nz (n:=4) (by omega) (by omega);have e1:denC E 7 [AV.t (.ptr 0 0),AV.int .i64 4] [src L k1]=_:=e1;show∃k' b',lp E (denC E) 6 1 [] 4 {vals:=[AV.int .i64 ((m+1:Nat):Int)],aq:=[src L k,.box [.int .i64 0,.sl 3 [],.sl 3 [],.sl 5 [],.int .i64 0,.int .i64 0],.box [.int .i64 (b.n:Int),.t (.ak 3),.t (.ak 4),.t (.ak 5),.int .i64 (b.phase:Int),.int .i64 (b.eZ:Int)],.arr 3 (fW b),.arr 3 (oW b),.arr 5 (nQ b)]}=_/\_;rw[agl,ah,aK (by omega),e0];simp only[SB];rw[bS,ct (by omega)];simp only[SB];by_cases hn:1<b.n
  ·rw[iz (show(1:Int)<(b.n:Int) by omega)];simp only[SB];rw[e1];simp only[SB];by_cases hv:v1=3
   ·rw[show((v1:Int)==3)=true by simp[hv],show neB (b.n:Int) 0=true by simp[neB];omega];simp only[SB];rw[ct (by simp[bS];omega)];simp only[SB];obtain⟨v2,k3,e2,b2,hk3⟩:=wM hL hk2 (a:=0) (c:=5) (d:=20) (e:=40) (by omega) (by omega) (by omega) (by omega);obtain⟨v3,k4,e3,b3,hk4⟩:=qg hL hk3 (a:=0) (c:=((v2/2:Nat):Int)) (d:=(v2:Int)) (by omega) (by omega) (by omega);obtain⟨v4,k5,e4,b4,Rb⟩:=z8 hL hk4 (n:=3) (by omega) (by omega);have e4:denC E 7 [AV.t (.ptr 0 0),AV.int .i64 3] [src L k4]=_:=e4;obtain⟨v5,k6,e5,b5,b5',OG⟩:=qf hL Rb (lo:=-1) (hi:=2) (by omega);obtain⟨v6,k7,e6,b6,OE⟩:=z8 hL OG (n:=4) (by omega) (by omega);have e6:denC E 7 [AV.t (.ptr 0 0),AV.int .i64 4] [src L k6]=_:=e6;rw[e2];simp only[SB];rw[Lt,ck (n:=((v2/2:Nat):Int)) (by omega),e3];simp only[SB];rw[e4];simp only[SB];rw[e5];simp only[SB];rw[dE,ct (by omega),w1];rw[ck (n:=(v0:Int)+1) (by omega),adr];have hc:∀nd:List Nat,nd.length<=4->(∀x∈nd,x<b.cons.length)->nd.Pairwise (· < ·)->Gj ⟨v2,v3,v4,v5,nd⟩ b.cons.length:=λnd n1 n2 n3=>⟨by simp only;omega,by simp only;omega,by simp only;omega,by simp only;omega,by simp only;omega,n1,n2,n3⟩
    have apB:=Af (v0+1) (show b.n>0 by omega);have hne:v0≠(v0+1) %b.n:=by
     by_cases hvn:v0+1=b.n
     ·rw[hvn,Nat.mod_self];omega
     ·rw[sK (by omega)];omega
    have nod:[v0,(v0+1) %b.n].Nodup:=by simp[hne]
    have all2:∀a∈[v0,(v0+1) %b.n],a<b.n:=by simp;omega
    by_cases jO:0<b.cons.length
    ·rw[iz (show(0:Int)<(b.cons.length:Int) by omega)];obtain⟨v7,k8,e7,b7,VD⟩:=z8 hL OE (n:=b.cons.length) (by omega) (by omega);simp only[SB];rw[e6];simp only[SB];by_cases h6:v6=3
     ·rw[show((v6:Int)==3)=true by simp[h6]];simp only[SB];rw[e7];simp only[SB];exact fin [v0,(v0+1) %b.n] ⟨v2,v3,v4,v5,[v7]⟩ k8 (by simp) nod all2 (hc _ (by simp) (by simpa using b7) (by simp)) (by simp) VD _ (by simp) _ rfl
     ·rw[show((v6:Int)==3)=false by simp;omega];simp only[SB];exact fin [v0,(v0+1) %b.n] ⟨v2,v3,v4,v5,[]⟩ k7 (by simp) nod all2 (hc _ (by simp) (by simp) (by simp)) (by simp) OE _ (by simp) _ rfl
    ·rw[b_ (show¬(0:Int)<(b.cons.length:Int) by omega)];simp only[SB];exact fin [v0,(v0+1) %b.n] ⟨v2,v3,v4,v5,[]⟩ k6 (by simp) nod all2 (hc _ (by simp) (by simp) (by simp)) (by simp) OG _ (by simp) _ rfl
   ·rw[show((v1:Int)==3)=false by simp;omega];simp only[SB];obtain⟨v2,k3,e2,b2,hk3⟩:=wM hL hk2 (a:=0) (c:=5) (d:=20) (e:=40) (by omega) (by omega) (by omega) (by omega);obtain⟨v3,k4,e3,b3,hk4⟩:=qg hL hk3 (a:=0) (c:=((v2/2:Nat):Int)) (d:=(v2:Int)) (by omega) (by omega) (by omega);obtain⟨v4,k5,e4,b4,Rb⟩:=z8 hL hk4 (n:=3) (by omega) (by omega);have e4:denC E 7 [AV.t (.ptr 0 0),AV.int .i64 3] [src L k4]=_:=e4;obtain⟨v5,k6,e5,b5,b5',OG⟩:=qf hL Rb (lo:=-1) (hi:=2) (by omega);obtain⟨v6,k7,e6,b6,OE⟩:=z8 hL OG (n:=4) (by omega) (by omega);have e6:denC E 7 [AV.t (.ptr 0 0),AV.int .i64 4] [src L k6]=_:=e6;rw[e2];simp only[SB];rw[Lt,ck (n:=((v2/2:Nat):Int)) (by omega),e3];simp only[SB];rw[e4];simp only[SB];rw[e5];simp only[SB];rw[dE,ct (by omega),w1];have hc:∀nd:List Nat,nd.length<=4->(∀x∈nd,x<b.cons.length)->nd.Pairwise (· < ·)->Gj ⟨v2,v3,v4,v5,nd⟩ b.cons.length:=λnd n1 n2 n3=>⟨by simp only;omega,by simp only;omega,by simp only;omega,by simp only;omega,by simp only;omega,n1,n2,n3⟩
    by_cases jO:0<b.cons.length
    ·rw[iz (show(0:Int)<(b.cons.length:Int) by omega)];obtain⟨v7,k8,e7,b7,VD⟩:=z8 hL OE (n:=b.cons.length) (by omega) (by omega);simp only[SB];rw[e6];simp only[SB];by_cases h6:v6=3
     ·rw[show((v6:Int)==3)=true by simp[h6]];simp only[SB];rw[e7];simp only[SB];exact fin [v0] ⟨v2,v3,v4,v5,[v7]⟩ k8 (by simp) (by simp) (by simp;omega) (hc _ (by simp) (by simpa using b7) (by simp)) (by simp) VD _ (by simp) _ rfl
     ·rw[show((v6:Int)==3)=false by simp;omega];simp only[SB];exact fin [v0] ⟨v2,v3,v4,v5,[]⟩ k7 (by simp) (by simp) (by simp;omega) (hc _ (by simp) (by simp) (by simp)) (by simp) OE _ (by simp) _ rfl
    ·rw[b_ (show¬(0:Int)<(b.cons.length:Int) by omega)];simp only[SB];exact fin [v0] ⟨v2,v3,v4,v5,[]⟩ k6 (by simp) (by simp) (by simp;omega) (hc _ (by simp) (by simp) (by simp)) (by simp) OG _ (by simp) _ rfl
  ·rw[b_ (show¬(1:Int)<(b.n:Int) by omega)];simp only[SB];obtain⟨v2,k3,e2,b2,hk3⟩:=wM hL nz (a:=0) (c:=5) (d:=20) (e:=40) (by omega) (by omega) (by omega) (by omega);obtain⟨v3,k4,e3,b3,hk4⟩:=qg hL hk3 (a:=0) (c:=((v2/2:Nat):Int)) (d:=(v2:Int)) (by omega) (by omega) (by omega);obtain⟨v4,k5,e4,b4,Rb⟩:=z8 hL hk4 (n:=3) (by omega) (by omega);have e4:denC E 7 [AV.t (.ptr 0 0),AV.int .i64 3] [src L k4]=_:=e4;obtain⟨v5,k6,e5,b5,b5',OG⟩:=qf hL Rb (lo:=-1) (hi:=2) (by omega);obtain⟨v6,k7,e6,b6,OE⟩:=z8 hL OG (n:=4) (by omega) (by omega);have e6:denC E 7 [AV.t (.ptr 0 0),AV.int .i64 4] [src L k6]=_:=e6;rw[e2];simp only[SB];rw[Lt,ck (n:=((v2/2:Nat):Int)) (by omega),e3];simp only[SB];rw[e4];simp only[SB];rw[e5];simp only[SB];rw[dE,ct (by omega),w1];have hc:∀nd:List Nat,nd.length<=4->(∀x∈nd,x<b.cons.length)->nd.Pairwise (· < ·)->Gj ⟨v2,v3,v4,v5,nd⟩ b.cons.length:=λnd n1 n2 n3=>⟨by simp only;omega,by simp only;omega,by simp only;omega,by simp only;omega,by simp only;omega,n1,n2,n3⟩
   by_cases jO:0<b.cons.length
   ·rw[iz (show(0:Int)<(b.cons.length:Int) by omega)];obtain⟨v7,k8,e7,b7,VD⟩:=z8 hL OE (n:=b.cons.length) (by omega) (by omega);simp only[SB];rw[e6];simp only[SB];by_cases h6:v6=3
    ·rw[show((v6:Int)==3)=true by simp[h6]];simp only[SB];rw[e7];simp only[SB];exact fin [v0] ⟨v2,v3,v4,v5,[v7]⟩ k8 (by simp) (by simp) (by simp;omega) (hc _ (by simp) (by simpa using b7) (by simp)) (by simp) VD _ (by simp) _ rfl
    ·rw[show((v6:Int)==3)=false by simp;omega];simp only[SB];exact fin [v0] ⟨v2,v3,v4,v5,[]⟩ k7 (by simp) (by simp) (by simp;omega) (hc _ (by simp) (by simp) (by simp)) (by simp) OE _ (by simp) _ rfl
   ·rw[b_ (show¬(0:Int)<(b.cons.length:Int) by omega)];simp only[SB];exact fin [v0] ⟨v2,v3,v4,v5,[]⟩ k6 (by simp) (by simp) (by simp;omega) (hc _ (by simp) (by simp) (by simp)) (by simp) OG _ (by simp) _ rfl
end
end
section
structure yC (b:Bd):Prop extends pB:BV b where
 n4:b.n<=4
 g4:b.ar.length<=4
 st:∀i,i<b.ar.length->(gn b i).start<=3
 c1:b.aO.Pairwise λx y=>x.k=3->y.k=3->x.b=y.b->x.a≠y.a
 Ff:∀u,u<b.cons.length->∃x∈b.aO,x.k=3/\x.b=u
section
variable {L:List Int}
theorem ma.mkb {b:Bd}(h:ma b)(h1:b.aO.length<=24)(h2:b.ar.length<=4)(h3:b.cons.length<=16):yC b:=⟨h.bv h1 (by omega) h3,h.n4,h2,λi hi=>(h.gen _ (HB hi)).2.2.2,h.fits.c1,h.Ff⟩
theorem aaV (hL:L.length<=600){k:Nat}(hk:k<=600):∃(b:Bd) (k':Nat),denC E 6 [AV.t (.ptr 0 0)] [src L k]=some ([RV.agg [PV.int .i64 (b.n:Int),PV.sl 3 (fW b),PV.sl 3 (oW b),PV.sl 5 (nQ b),PV.int .i64 (b.phase:Int),PV.int .i64 (b.eZ:Int)]],[src L k'])/\yC b/\k'<=600:=by
 obtain⟨v0,k1,e0,b0,b0',nz⟩:=qf hL hk (lo:=1) (hi:=4) (by omega);obtain⟨n,rfl⟩:∃n:Nat,v0=(n:Int):=⟨v0.toNat,by omega⟩
 obtain⟨ph,k2,e1,b1,hk2⟩:=wM hL nz (a:=0) (c:=50) (d:=200) (e:=1800) (by omega) (by omega) (by omega) (by omega);obtain⟨fr,k3,e2,b2,hk3⟩:=qg hL hk2 (a:=0) (c:=10) (d:=50) (by omega) (by omega) (by omega);have p0:ma ⟨n,[],[],[],ph,fr⟩:=⟨by show 1<=n;omega,by show n<=4;omega,by show ph<=1800;omega,by show fr<=6000;omega,⟨λx hx=>(by cases hx),.nil,.nil⟩,λu hu=>absurd hu (rr _),λu hu=>absurd hu (rr _),λx hx=>(by cases hx),λu hu=>absurd hu (rr _)⟩
 obtain⟨k4,c1,l1,hk4,p1,n1,g1,s1,z1⟩:=Xg hL (n-1) 1 k3 ⟨n,[],[],[],ph,fr⟩ (by show 1+(n-1)=n;omega) (dB _) hk3 p0 (by simp;omega);simp only at n1 g1 s1;have z1':c1.aO.length<=3:=by simp at z1;omega
 rw[ai,r6,e0];simp only[SB,Nat.reduceAdd];rw[e1];simp only[SB];rw[e2];simp only[SB];rw[show lp E (denC E) 6 1 [] 0 {vals:=[AV.int .i64 1],aq:=[src L k3,.box [.int .i64 0,.sl 3 [],.sl 3 [],.sl 5 [],.int .i64 0,.int .i64 0],.box [.int .i64 (n:Int),.t (.ak 3),.t (.ak 4),.t (.ak 5),.int .i64 (ph:Int),.int .i64 (fr:Int)],.arr 3 [],.arr 3 [],.arr 5 []]}=_ from l1];simp only[SB];by_cases h2:2<c1.n
 ·rw[iz (show(2:Int)<(c1.n:Int) by omega)];simp only[SB];obtain⟨v,k5,e3,b3,Rb⟩:=z8 hL hk4 (n:=2) (by omega) (by omega);have e3:denC E 7 [AV.t (.ptr 0 0),AV.int .i64 2] [src L k4]=_:=e3;rw[e3];simp only[SB];by_cases hv:v=1
  ·rw[show((v:Int)==1)=true by simp[hv],bS,ct (by omega)];simp only[SB];obtain⟨c2,hc2⟩:∃c2:Bd,c2={c1 with aO:=c1.aO++[⟨1,0,c1.n-1⟩]}:=⟨_,rfl⟩
   have p2:ma c2:=by rw[hc2];exact p1.tie (by omega) (by omega)
   have q2:c2.n=c1.n/\c2.ar=c1.ar/\c2.cons=c1.cons/\c2.aO.length<=4:=by rw[hc2];exact⟨rfl,rfl,rfl,by simp;omega⟩
   have eb:fW c1++[[PV.int .i64 1,PV.int .i64 0,PV.int .i64 (IntKind.i64.wrap ((c1.n:Int)-1))]]=fW c2:=by
    rw[hc2,ck (n:=(c1.n:Int)-1) (by omega),show(c1.n:Int)-1=((c1.n-1:Nat):Int) by omega];simp[fW,Xc]
   have hm2:Q6 L=Q6 L:=rfl;rw[eb];have eh:∀k:Nat,([src L k,.box [.int .i64 0,.sl 3 [],.sl 3 [],.sl 5 [],.int .i64 0,.int .i64 0],.box [.int .i64 (c1.n:Int),.t (.ak 3),.t (.ak 4),.t (.ak 5),.int .i64 (c1.phase:Int),.int .i64 (c1.eZ:Int)],.arr 3 (fW c2),.arr 3 (oW c1),.arr 5 (nQ c1)]:List au)=Q6 L k c2:=λk=>by rw[hc2];rfl
   obtain⟨v6,k6,e6,b6,OG⟩:=z8 hL Rb (n:=5) (by omega) (by omega);have e6:denC E 7 [AV.t (.ptr 0 0),AV.int .i64 5] [src L k5]=_:=e6;obtain⟨k7,c3,l7,OE,p3,n3,s3,z3,y3⟩:=El hL v6 k6 c2 OG p2 (by omega) (by rw[q2.2.1,g1];simp;omega);obtain⟨v8,k8,e8,b8,VD⟩:=z8 hL OE (n:=6) (by omega) (by omega);have e8:denC E 7 [AV.t (.ptr 0 0),AV.int .i64 6] [src L k7]=_:=e8;obtain⟨k9,c4,l9,hk9,p4,n4,g4,z4,y4⟩:=Ek hL v8 k8 c3 VD p3 (by omega) (by rw[s3,q2.2.2.1,s1];simp;omega);refine⟨c4,k9,?_,p4.mkb (by omega) (by rw[g4,y3,q2.2.1,g1];simp;omega) (by rw[y4,s3,q2.2.2.1,s1];simp;omega),hk9⟩;rw[e6];simp only[SB];rw[eh,l7];simp only[SB];rw[e8];simp only[SB];rw[show lp E (denC E) 6 1 [] 4 {vals:=[AV.int .i64 (v8:Int)],aq:=[src L k8,.box [.int .i64 0,.sl 3 [],.sl 3 [],.sl 5 [],.int .i64 0,.int .i64 0],.box [.int .i64 (c3.n:Int),.t (.ak 3),.t (.ak 4),.t (.ak 5),.int .i64 (c3.phase:Int),.int .i64 (c3.eZ:Int)],.arr 3 (fW c3),.arr 3 (oW c3),.arr 5 (nQ c3)]}=_ from l9];simp only[SB]
  ·rw[show((v:Int)==1)=false by simp;omega];simp only[SB];obtain⟨c2,hc2⟩:∃c2:Bd,c2=c1:=⟨_,rfl⟩
   have p2:ma c2:=by rw[hc2];exact p1
   have q2:c2.n=c1.n/\c2.ar=c1.ar/\c2.cons=c1.cons/\c2.aO.length<=4:=by rw[hc2];exact⟨rfl,rfl,rfl,by omega⟩
   have eh:∀k:Nat,([src L k,.box [.int .i64 0,.sl 3 [],.sl 3 [],.sl 5 [],.int .i64 0,.int .i64 0],.box [.int .i64 (c1.n:Int),.t (.ak 3),.t (.ak 4),.t (.ak 5),.int .i64 (c1.phase:Int),.int .i64 (c1.eZ:Int)],.arr 3 (fW c1),.arr 3 (oW c1),.arr 5 (nQ c1)]:List au)=Q6 L k c2:=λk=>by rw[hc2]
   obtain⟨v6,k6,e6,b6,OG⟩:=z8 hL Rb (n:=5) (by omega) (by omega);have e6:denC E 7 [AV.t (.ptr 0 0),AV.int .i64 5] [src L k5]=_:=e6;obtain⟨k7,c3,l7,OE,p3,n3,s3,z3,y3⟩:=El hL v6 k6 c2 OG p2 (by omega) (by rw[q2.2.1,g1];simp;omega);obtain⟨v8,k8,e8,b8,VD⟩:=z8 hL OE (n:=6) (by omega) (by omega);have e8:denC E 7 [AV.t (.ptr 0 0),AV.int .i64 6] [src L k7]=_:=e8;obtain⟨k9,c4,l9,hk9,p4,n4,g4,z4,y4⟩:=Ek hL v8 k8 c3 VD p3 (by omega) (by rw[s3,q2.2.2.1,s1];simp;omega);refine⟨c4,k9,?_,p4.mkb (by omega) (by rw[g4,y3,q2.2.1,g1];simp;omega) (by rw[y4,s3,q2.2.2.1,s1];simp;omega),hk9⟩;rw[e6];simp only[SB];rw[eh,l7];simp only[SB];rw[e8];simp only[SB];rw[show lp E (denC E) 6 1 [] 4 {vals:=[AV.int .i64 (v8:Int)],aq:=[src L k8,.box [.int .i64 0,.sl 3 [],.sl 3 [],.sl 5 [],.int .i64 0,.int .i64 0],.box [.int .i64 (c3.n:Int),.t (.ak 3),.t (.ak 4),.t (.ak 5),.int .i64 (c3.phase:Int),.int .i64 (c3.eZ:Int)],.arr 3 (fW c3),.arr 3 (oW c3),.arr 5 (nQ c3)]}=_ from l9];simp only[SB]
 ·rw[b_ (show¬(2:Int)<(c1.n:Int) by omega)];simp only[SB];obtain⟨c2,hc2⟩:∃c2:Bd,c2=c1:=⟨_,rfl⟩
  have p2:ma c2:=by rw[hc2];exact p1
  have q2:c2.n=c1.n/\c2.ar=c1.ar/\c2.cons=c1.cons/\c2.aO.length<=4:=by rw[hc2];exact⟨rfl,rfl,rfl,by omega⟩
  have eh:∀k:Nat,([src L k,.box [.int .i64 0,.sl 3 [],.sl 3 [],.sl 5 [],.int .i64 0,.int .i64 0],.box [.int .i64 (c1.n:Int),.t (.ak 3),.t (.ak 4),.t (.ak 5),.int .i64 (c1.phase:Int),.int .i64 (c1.eZ:Int)],.arr 3 (fW c1),.arr 3 (oW c1),.arr 5 (nQ c1)]:List au)=Q6 L k c2:=λk=>by rw[hc2]
  have Rb:=hk4;obtain⟨v6,k6,e6,b6,OG⟩:=z8 hL Rb (n:=5) (by omega) (by omega);have e6:denC E 7 [AV.t (.ptr 0 0),AV.int .i64 5] [src L k4]=_:=e6;obtain⟨k7,c3,l7,OE,p3,n3,s3,z3,y3⟩:=El hL v6 k6 c2 OG p2 (by omega) (by rw[q2.2.1,g1];simp;omega);obtain⟨v8,k8,e8,b8,VD⟩:=z8 hL OE (n:=6) (by omega) (by omega);have e8:denC E 7 [AV.t (.ptr 0 0),AV.int .i64 6] [src L k7]=_:=e8;obtain⟨k9,c4,l9,hk9,p4,n4,g4,z4,y4⟩:=Ek hL v8 k8 c3 VD p3 (by omega) (by rw[s3,q2.2.2.1,s1];simp;omega);refine⟨c4,k9,?_,p4.mkb (by omega) (by rw[g4,y3,q2.2.1,g1];simp;omega) (by rw[y4,s3,q2.2.2.1,s1];simp;omega),hk9⟩;rw[e6];simp only[SB];rw[eh,l7];simp only[SB];rw[e8];simp only[SB];rw[show lp E (denC E) 6 1 [] 4 {vals:=[AV.int .i64 (v8:Int)],aq:=[src L k8,.box [.int .i64 0,.sl 3 [],.sl 3 [],.sl 5 [],.int .i64 0,.int .i64 0],.box [.int .i64 (c3.n:Int),.t (.ak 3),.t (.ak 4),.t (.ak 5),.int .i64 (c3.phase:Int),.int .i64 (c3.eZ:Int)],.arr 3 (fW c3),.arr 3 (oW c3),.arr 5 (nQ c3)]}=_ from l9];simp only[SB]
theorem aeO (hL:L.length<=600){k:Nat}(hk:k<=600):∃(t:p_) (k':Nat),denC E 16 [AV.t (.ptr 0 0)] [src L k]=some ([RV.agg [PV.int .i64 (t.start:Int),PV.int .i64 (t.stop:Int),PV.int .i64 (t.p6:Int)]],[src L k'])/\Ri t/\k'<=600:=by
 obtain⟨v1,k1,e1,b1,nz⟩:=qg hL hk (a:=60) (c:=80) (d:=100) (by omega) (by omega) (by omega);obtain⟨v2,k2,e2,b2,hk2⟩:=qg hL nz (a:=1) (c:=30) (d:=50) (by omega) (by omega) (by omega);obtain⟨v3,k3,e3,b3,hk3⟩:=qg hL hk2 (a:=0) (c:=1) (d:=3) (by omega) (by omega) (by omega);refine⟨⟨v1,v2,v3⟩,k3,?_,⟨by show 1<=v2;omega,by show v2<=99;omega,by show v2<v1;omega,by show v1<=100;omega,by show v3<=600;omega⟩,hk3⟩;rw[ai,r16,e1];simp only[SB,Nat.reduceAdd];rw[e2];simp only[SB,Nat.reduceAdd];rw[e3];simp only[SB,Nat.reduceAdd]
end
end
section
def Q3 (b:Bd)(u:Nat)(x:List Bool×Bool)(k:Nat):List Bool×Bool:=if ((br b k).k=3/\(br b k).b=u)/\x.1.getD k false=true then(x.1.set k x.2,false) else x
def ZR (u:Nat)(x:fX×Bool):Bool:=x.1.k==3&&x.1.b==u&&x.2
theorem HX {b:Bd}{c:List Bool}{u:Nat}:cnt b c u=(gD b c).countP (ZR u):=rfl
theorem Uj {b:Bd}{c:List Bool}(hc:c.length=b.aO.length){k:Nat}(hk:k<b.aO.length):(gD b c)[k]? =some (br b k,c.getD k false):=gC (p:=⟨c,[],[],[]⟩) hc hk
theorem JB {b:Bd}{c:List Bool}(hc:c.length=b.aO.length){k:Nat}(hk:k<b.aO.length)(v:Bool):gD b (c.set k v)=(gD b c).set k (br b k,v):=uh (p:=⟨c,[],[],[]⟩) hc hk v
theorem B2 {α:Type}{l:List α}{k:Nat}{x:α}(h:l[k]? =some x):l.take (k+1)=l.take k++[x]:=by
 rw[List.take_add_one,h];rfl
theorem GM {b:Bd}{u:Nat}:∀(m k:Nat) (x:List Bool×Bool),k+m=b.aO.length->x.1.length=b.aO.length->((gD b x.1).take k).countP (ZR u)<=1->(x.2=true->((gD b x.1).take k).countP (ZR u)=0)->
  ((List.range' k m).foldl (Q3 b u) x).1.length=b.aO.length/\cnt b ((List.range' k m).foldl (Q3 b u) x).1 u<=1/\∀w,w≠u->cnt b ((List.range' k m).foldl (Q3 b u) x).1 w<=cnt b x.1 w
 |0,k,x,hk,hl,h1,h2=>by
  refine⟨hl,?_,λw _=>dB _⟩;show cnt b x.1 u<=1;rw[HX];have:(gD b x.1).take k=gD b x.1:=List.take_of_length_le (by rw[show(gD b x.1).length=b.aO.length by simp[gD,hl]];omega);rw[this]at h1;exact h1
 |m+1,k,x,hk,hl,h1,h2=>by
  have hkb:k<b.aO.length:=by omega
  have hg:=Uj hl hkb;rw[en,je];by_cases hc:((br b k).k=3/\(br b k).b=u)/\x.1.getD k false=true
  ·have e:Q3 b u x k=(x.1.set k x.2,false):=by unfold Q3;rw[aK hc]
   rw[e];have hl':(x.1.set k x.2).length=b.aO.length:=by simpa using hl
   have ht:(gD b (x.1.set k x.2)).take (k+1)=(gD b x.1).take k++[(br b k,x.2)]:=by
    rw[JB hl hkb,B2 (x:=(br b k,x.2)) (by rw[List.getElem?_set_self (by simp[gD,hl];omega)]),List.take_set_of_le (dB _)]
   obtain⟨a1,a2,a3⟩:=GM m (k+1) (x.1.set k x.2,false) (by omega) hl' (by
    show((gD b (x.1.set k x.2)).take (k+1)).countP (ZR u)<=1;rw[ht,Cy];have:([(br b k,x.2)]:List (fX×Bool)).countP (ZR u)<=if x.2=true then 1 else 0:=by
     simp only[iw,List.countP_nil,ZR,hc.1.1,hc.1.2];cases x.2<;>simp
    cases hx2:x.2 with
    |true=>rw[hx2]at this;have:=h2 hx2;simp only[vg]at*;omega
    |false=>rw[hx2]at this;simp only[oQ,yZ]at this;omega) (λh=>by cases h)
   refine⟨a1,a2,λw hw=>jS (a3 w hw) ?_⟩;show cnt b (x.1.set k x.2) w<=cnt b x.1 w;rw[HX,HX,JB hl hkb];refine countP_set _ _ k _ _ hg λhy=> ?_;unfold ZR at hy;simp only[bO,w8,hc.1.2]at hy;exact absurd hy.1.2.symm hw
  ·have e:Q3 b u x k=x:=by unfold Q3;rw[aC hc]
   rw[e];have ht:=B2 hg;have hz:([(br b k,x.1.getD k false)]:List (fX×Bool)).countP (ZR u)=0:=by
    rw[List.countP_eq_zero];intro y hy hh;rw[jL.1 hy]at hh;unfold ZR at hh;simp only[bO,w8]at hh;exact hc ⟨hh.1,hh.2⟩
   exact GM m (k+1) x (by omega) hl (by rw[ht,Cy,hz];omega) (λh=>by rw[ht,Cy,hz,h2 h])
section
variable {L:List Int} {b:Bd}
theorem GH (hL:L.length<=600){k:Nat}(hk:k<=600)(l:List Int)(h1:1<=l.length/\l.length<=1000)(h0:∀x∈l,0<=x):∃v k':Nat,denC E 27 [AV.t (.ptr 0 0),AV.sl 1 (kv .i64 l)] [src L k]=some ([RV.p (PV.int .i64 (v:Int))],[src L k'])/\(v:Int)∈l/\k'<=600:=by
 have hm:=yG L k h1.1;have h:=Nd hL hk h1;have h2:=h0 _ hm;refine⟨(nY L k l).toNat,Xj L k,?_,?_,En hL hk⟩
 ·rw[show(((nY L k l).toNat:Nat):Int)=nY L k l by omega];exact h
 ·rw[show(((nY L k l).toNat:Nat):Int)=nY L k l by omega];exact hm
abbrev vX:au:=.box [.t (.ak 4),.t (.ak 5),.t (.ak 6),.t (.ak 7)]
abbrev uR:au:=.box [.sl 1 [],.sl 4 [],.sl 1 [],.sl 2 []]
abbrev ptE (l:List (Nat×Nat)):List (List PV):=l.map Ob
abbrev rnE (l:List gL):List (List PV):=l.map kC
theorem Xe (l:List Bool)(v:Bool):p7 l++[[PV.bool v]]=p7 (l++[v]):=by simp[p7,vG]
theorem TF (hL:L.length<=600){c5 c6 c7:List (List PV)}:∀(m i k:Nat) (c:List Bool),i+m=b.aO.length->k<=600->b.aO.length<=24->c.length+m<=1000->
  ∃k' c',lp E (denC E) 68 1 [] 0 {vals:=[AV.int .i64 b.aO.length,AV.int .i64 (i:Int)],aq:=[src L k,eG b,uR,vX,.arr 1 (p7 c),.arr 4 c5,.arr 1 c6,.arr 2 c7]}=some (Ex.exit 0,{vals:=[],aq:=[src L k',eG b,uR,vX,.arr 1 (p7 c'),.arr 4 c5,.arr 1 c6,.arr 2 c7]})/\k'<=600/\c'.length=c.length+m:=by
 intro m
 induction m with
 |zero=>
  intro i k c hi hk sg hc;refine⟨k,c,?_,hk,rfl⟩;rw[abD,ah,aC (by omega)]
 |succ m ih=>
  intro i k c hi hk sg hc;obtain⟨v,k1,e1,b1,nz⟩:=z8 hL hk (n:=2) (by omega) (by omega);have e1:denC E 7 [AV.t (.ptr 0 0),AV.int .i64 2] [src L k]=_:=e1;obtain⟨k',c',g1,g2,g3⟩:=ih (i+1) k1 (c++[(v:Int)==1]) (by omega) nz sg (by simp;omega);refine⟨k',c',?_,g2,by simp at g3;omega⟩;rw[abD,ah,aK (by omega),e1];simp only[SB];rw[iu,ct (by omega),Xe,ck (n:=(i:Int)+1) (by omega),aw i];exact g1
theorem TD {c0 c5 c6 c7:List (List PV)}{z:Int}(sg:b.aO.length<=24){u:Nat}{x30 x31:Int}:∀(m k:Nat) (x:List Bool×Bool),k+m=b.aO.length->x.1.length=b.aO.length->
  lp E (denC E) 68 1 [] 4 {vals:=[AV.int .i64 (u:Int),AV.bool x.2,AV.int .i64 x30,AV.int .i64 x31,AV.sl 3 (fW b),AV.int .i64 b.aO.length,AV.int .i64 (k:Int)],aq:=[.box [.sl 1 c0,.int .i64 z],eG b,uR,vX,.arr 1 (p7 x.1),.arr 4 c5,.arr 1 c6,.arr 2 c7]}=
   some (Ex.exit 4,{vals:=[AV.int .i64 x30,AV.int .i64 x31],aq:=[.box [.sl 1 c0,.int .i64 z],eG b,uR,vX,.arr 1 (p7 ((List.range' k m).foldl (Q3 b u) x).1),.arr 4 c5,.arr 1 c6,.arr 2 c7]}):=by
 intro m
 induction m with
 |zero=>intro k x hk hl;rw[abB,ah,aC (by omega)];rfl
 |succ m ih=>
  intro k x hk hl;have hkb:k<b.aO.length:=by omega
  have Bo:k<x.1.length:=by omega
  rw[abB,ah,aK (by omega),cF _ hkb];simp only[SB];rw[iu,bG Bo,bo,zm Bo,mW Bo,ck (n:=(k:Int)+1) (by omega),aw k,Ej,gi];simp only[eN,m_,iN,SB];rw[en,je];by_cases hc:((br b k).k=3/\(br b k).b=u)/\x.1.getD k false=true
  ·have e:Q3 b u x k=(x.1.set k x.2,false):=by unfold Q3;rw[aK hc]
   rw[e,show((br b k).k==3)=true by simp[hc.1.1],show((br b k).b==u)=true by simp[hc.1.2],hc.2];exact ih (k+1) (x.1.set k x.2,false) (by omega) (by simpa using hl)
  ·have e:Q3 b u x k=x:=by unfold Q3;rw[aC hc]
   rw[e];have ih':=ih (k+1) x (by omega) hl;have hb:((br b k).k==3&&((br b k).b==u&&x.1.getD k false))=false:=by
    rw[<-Cm];intro h;simp only[bO,w8]at h;exact hc ⟨⟨h.1,h.2.1⟩,h.2.2⟩
   cases h1:((br b k).k==3)<;>cases h2:((br b k).b==u)<;>cases h3:x.1.getD k false<;>first|exact ih'|(rw[h1,h2,h3]at hb;cases hb)
theorem TE {c0 c5 c6 c7:List (List PV)}{z:Int}(sg:b.aO.length<=24)(Fg:b.cons.length<=16):∀(m i:Nat) (c:List Bool),i+m=b.cons.length->c.length=b.aO.length->(∀u,u<i->cnt b c u<=1)->
  ∃c',lp E (denC E) 68 1 [] 2 {vals:=[AV.int .i64 b.cons.length,AV.int .i64 (i:Int)],aq:=[.box [.sl 1 c0,.int .i64 z],eG b,uR,vX,.arr 1 (p7 c),.arr 4 c5,.arr 1 c6,.arr 2 c7]}=some (Ex.exit 2,{vals:=[],aq:=[.box [.sl 1 c0,.int .i64 z],eG b,uR,vX,.arr 1 (p7 c'),.arr 4 c5,.arr 1 c6,.arr 2 c7]})/\c'.length=b.aO.length/\∀u,u<b.cons.length->cnt b c' u<=1:=by
 intro m
 induction m with
 |zero=>
  intro i c hi hc hu;refine⟨c,?_,hc,λu h=>hu u (by omega)⟩;rw[abC,ah,aC (by omega)]
 |succ m ih=>
  intro i c hi hc hu;have l4:=TD (c0:=c0) (c5:=c5) (c6:=c6) (c7:=c7) (z:=z) sg (u:=i) (x30:=(b.cons.length:Int)) (x31:=(i:Int)) b.aO.length 0 (c,true) (dy _) hc;obtain⟨t1,t2,t3⟩:=GM (b:=b) (u:=i) b.aO.length 0 (c,true) (dy _) hc (by simp) (λ_=>by simp);obtain⟨c',g1,g2,g3⟩:=ih (i+1) _ (by omega) t1 (λu h=>by
   by_cases he:u=i
   ·subst he;exact t2
   ·exact jS (t3 u he) (hu u (by omega)))
  refine⟨c',?_,g2,g3⟩;rw[fC]at l4;rw[abC,ah,aK (by omega),bS,l4];simp only[SB,Nat.reduceAdd];rw[ck (n:=(i:Int)+1) (by omega),aw i];exact g1
theorem TA (hL:L.length<=600){c4 c6 c7:List (List PV)}(h8:b.ar.length<=8):∀(m i k:Nat) (s:List gL),i+m=b.ar.length->k<=600->s.length=i->(∀x∈s,x.st<=3/\x.since<=4/\x.fr<=6000/\x.ph<3600)->
  ∃k' s',lp E (denC E) 68 1 [] 6 {vals:=[AV.int .i64 b.ar.length,AV.int .i64 (i:Int)],aq:=[src L k,eG b,uR,vX,.arr 1 c4,.arr 4 (rnE s),.arr 1 c6,.arr 2 c7]}=some (Ex.exit 6,{vals:=[],aq:=[src L k',eG b,uR,vX,.arr 1 c4,.arr 4 (rnE s'),.arr 1 c6,.arr 2 c7]})/\k'<=600/\s'.length=b.ar.length/\∀x∈s',x.st<=3/\x.since<=4/\x.fr<=6000/\x.ph<3600:=by
 intro m
 induction m with
 |zero=>
  intro i k s hi hk hs hx;refine⟨k,s,?_,hk,by omega,hx⟩;rw[abA,ah,aC (by omega)]
 |succ m ih=>
  intro i k s hi hk hs hx;obtain⟨v1,k1,e1,b1,nz⟩:=GH hL hk [0,1,2,2,2,3] (by simp) (by simp);have e1:denC E 27 [AV.t (.ptr 0 0),AV.sl 1 [[PV.int .i64 0],[PV.int .i64 1],[PV.int .i64 2],[PV.int .i64 2],[PV.int .i64 2],[PV.int .i64 3]]] [src L k]=_:=e1;obtain⟨v2,k2,e2,b2,hk2⟩:=z8 hL nz (n:=5) (by omega) (by omega);have e2:denC E 7 [AV.t (.ptr 0 0),AV.int .i64 5] [src L k1]=_:=e2;obtain⟨v3,k3,e3,b3,hk3⟩:=GH hL hk2 [5000,5000,5005,4950] (by simp) (by simp);have e3:denC E 27 [AV.t (.ptr 0 0),AV.sl 1 [[PV.int .i64 5000],[PV.int .i64 5000],[PV.int .i64 5005],[PV.int .i64 4950]]] [src L k2]=_:=e3;obtain⟨v4,k4,e4,b4,hk4⟩:=GH hL hk3 [0,0,40,1800,3590] (by simp) (by simp);have e4:denC E 27 [AV.t (.ptr 0 0),AV.sl 1 [[PV.int .i64 0],[PV.int .i64 0],[PV.int .i64 40],[PV.int .i64 1800],[PV.int .i64 3590]]] [src L k3]=_:=e4;simp only[gI,Ai,or_false]at b1 b3 b4;obtain⟨k',s',g1,g2,g3,g4⟩:=ih (i+1) k4 (s++[⟨v1,v2,v3,v4⟩]) (by omega) hk4 (by simp;omega) (λx kY=>by
   rcases eO.1 kY with h|h
   ·exact hx x h
   ·rw[jL.1 h];exact⟨by show v1<=3;omega,by show v2<=4;omega,by show v3<=6000;omega,by show v4<3600;omega⟩)
  refine⟨k',s',?_,g2,g3,g4⟩;rw[abA,ah,aK (by omega),e1];simp only[SB];rw[e2];simp only[SB];rw[e3];simp only[SB];rw[e4];simp only[SB];rw[nS,ct (by omega),ck (n:=(i:Int)+1) (by omega),aw i,<-g1,show rnE (s++[⟨v1,v2,v3,v4⟩])=rnE s++[[PV.int .i64 (v1:Int),PV.int .i64 (v2:Int),PV.int .i64 (v3:Int),PV.int .i64 (v4:Int)]] by simp[kC]];rfl
theorem adx (a:Nat):Int.tdiv (a:Int) 3=((a/3:Nat):Int):=(Int.ofNat_tdiv a 3).symm
theorem Tz (hL:L.length<=600){c4 c5 c7:List (List PV)}(hb:BV b):∀(m i k:Nat) (l:List Nat),i+m=b.cons.length->k<=600->l.length=i->(∀j,j<i->l.getD j 0<=(cn b j).load)->
  ∃k' l',lp E (denC E) 68 1 [] 8 {vals:=[AV.sl 5 (nQ b),AV.int .i64 b.cons.length,AV.int .i64 (i:Int)],aq:=[src L k,eG b,uR,vX,.arr 1 c4,.arr 4 c5,.arr 1 (bF l),.arr 2 c7]}=some (Ex.exit 8,{vals:=[],aq:=[src L k',eG b,uR,vX,.arr 1 c4,.arr 4 c5,.arr 1 (bF l'),.arr 2 c7]})/\k'<=600/\l'.length=b.cons.length/\∀j,j<b.cons.length->l'.getD j 0<=(cn b j).load:=by
 have Fg:=hb.nc;intro m
 induction m with
 |zero=>
  intro i k l hi hk hs hx;refine⟨k,l,?_,hk,by omega,λj hj=>hx j (by omega)⟩;rw[abz,ah,aC (by omega)]
 |succ m ih=>
  intro i k l hi hk hs hx;have hic:i<b.cons.length:=by omega
  obtain⟨q1,q2,_⟩:=hb.zL i hic;obtain⟨v,k1,e1,b1,nz⟩:=wM hL hk (a:=((cn b i).load:Int)) (c:=((cn b i).load:Int)) (d:=((cn b i).least:Int)) (e:=(((cn b i).load/3:Nat):Int)) (by omega) (by omega) (by omega) (by omega);obtain⟨k',l',g1,g2,g3,g4⟩:=ih (i+1) k1 (l++[v]) (by omega) nz (by simp;omega) (λj hj=>by
   by_cases OH:j<i
   ·rw[dD,Cr (by omega),<-dD];exact hx j OH
   ·have:j=i:=by omega
    subst this;rw[dD,EN (by omega),hs,FO];show v<=_;omega)
  refine⟨k',l',?_,g2,g3,g4⟩;rw[abz,ah,aK (by omega),oA _ hic];simp only[SB];rw[adx,ck (n:=(((cn b i).load/3:Nat):Int)) (by omega),e1];simp only[SB];rw[aU,ct (by omega),ue,ck (n:=(i:Int)+1) (by omega),aw i];exact g1
theorem lN (a lo hi:Int):denC E 151 [AV.int .i64 a,AV.int .i64 lo,AV.int .i64 hi] []=some ([RV.p (PV.bool (bJ lo a&&bJ a hi))],[]):=by
 rw[ai,aj7];cases bJ lo a<;>simp[ctl,aj]
theorem KH (hb:BV b){k v:Nat}(hk:1<=k/\k<=4):denC E 122 [eH b,AV.agg [PV.int .i64 (k:Int),PV.int .i64 (v:Int)]] []=some ([RV.p (PV.bool (decide (v<Pj b k)))],[]):=by
 have h1:=hb.nb;have h2:=hb.ng;have h3:=hb.nc;have h4:=hb.n6;have w:∀n:Nat,n<=100->(bJ 0 (v:Int)&&bJ (v:Int) (IntKind.i64.wrap ((n:Int)-1)))=decide (v<n):=λn hn=>by
  rw[ck (n:=(n:Int)-1) (by omega),aL (show(0:Int)<=(v:Int) by omega),xc,uQ];simp only[lR];omega
 have hc:k=1\/k=2\/k=3\/k=4:=by omega
 rw[ai,akm,dM,bS,dE];simp only[lN,SB];rw[w _ (by omega),w _ (by omega),w _ (by omega),w _ (by omega)];rcases hc with rfl|rfl|rfl|rfl<;>rfl
theorem PU (hL:L.length<=600){c4 c5 c6:List (List PV)}(hb:BV b):∀(m j k:Nat) (l:List (Nat×Nat)),j+m=5->1<=j->k<=600->l.length<=j->l.Pairwise Mn->(∀x∈l,x.1<j/\x.2<Pj b x.1)->
  ∃k' l',lp E (denC E) 68 1 [] 10 {vals:=[AV.int .i64 (j:Int)],aq:=[src L k,eG b,uR,vX,.arr 1 c4,.arr 4 c5,.arr 1 c6,.arr 2 (ptE l)]}=some (Ex.exit 10,{vals:=[],aq:=[src L k',uR,.box [.t (.ak 3),.t (.ak 4),.t (.ak 5),.t (.ak 6)],.arr 1 c4,.arr 4 c5,.arr 1 c6,.arr 2 (ptE l')]})/\k'<=600/\l'.length<=5/\l'.Pairwise Mn/\∀x∈l',x.2<Pj b x.1:=by
 intro m
 induction m with
 |zero=>
  intro j k l hj h1 hk hl hp hx;refine⟨k,l,?_,hk,by omega,hp,λx h=>(hx x h).2⟩;rw[SL,ah,aC (by omega)]
 |succ m ih=>
  intro j k l hj h1 hk hl hp hx;have adp:∀x∈l,x.1<j+1/\x.2<Pj b x.1:=λx h=>⟨by have:=(hx x h).1;omega,(hx x h).2⟩
  obtain⟨v1,k1,e1,b1,nz⟩:=z8 hL hk (n:=5) (by omega) (by omega);have e1:denC E 7 [AV.t (.ptr 0 0),AV.int .i64 5] [src L k]=_:=e1;obtain⟨v2,k2,e2,b2,hk2⟩:=z8 hL nz (n:=4) (by omega) (by omega);have e2:denC E 7 [AV.t (.ptr 0 0),AV.int .i64 4] [src L k1]=_:=e2;rw[SL,ah,aK (by omega),e1];simp only[SB];rw[ck (n:=(j:Int)+1) (by omega),aw j];by_cases h4:v1=4
  ·rw[show((v1:Int)==4)=true by simp[h4]];simp only[SB];rw[e2];simp only[SB];rw[KH hb (k:=j) (v:=v2) (by omega)];simp only[SB];rw[nS,ct (by omega)];by_cases hs:v2<Pj b j
   ·obtain⟨k',l',g1,g2,g3,g4,g5⟩:=ih (j+1) k2 (l++[(j,v2)]) (by omega) (by omega) hk2 (by simp;omega) (by
     rw[wY];exact⟨hp,List.pairwise_singleton ..,λx BO y hy=>by rw[jL.1 hy];exact .inl (hx x BO).1⟩) (λx h=>by
     rcases eO.1 h with h|h
     ·exact adp x h
     ·rw[jL.1 h];exact⟨by show j<j+1;omega,hs⟩)
    refine⟨k',l',?_,g2,g3,g4,g5⟩;rw[u_ hs,<-g1,show ptE (l++[(j,v2)])=ptE l++[[PV.int .i64 (j:Int),PV.int .i64 (v2:Int)]] by simp[Ob]];rfl
   ·obtain⟨k',l',g1,g2,g3,g4,g5⟩:=ih (j+1) k2 l (by omega) (by omega) hk2 (by omega) hp adp;refine⟨k',l',?_,g2,g3,g4,g5⟩;rw[decide_eq_false hs];exact g1
  ·rw[show((v1:Int)==4)=false by simp;omega];obtain⟨k',l',g1,g2,g3,g4,g5⟩:=ih (j+1) k1 l (by omega) (by omega) nz (by omega) hp adp;exact⟨k',l',g1,g2,g3,g4,g5⟩
theorem aaR (hL:L.length<=600)(hb:BV b){k:Nat}(hk:k<=600):∃(p:Pw) (k':Nat),denC E 68 [AV.t (.ptr 0 0),eH b] [src L k]=some ([RV.agg [PV.sl 1 (bC p),PV.sl 4 (bp p),PV.sl 1 (bE p),PV.sl 2 (bA p)]],[src L k'])/\aX b p/\(∀i,i<b.ar.length->(sr p i).since<=4)/\k'<=600:=by
 have sg:=hb.nb;have h8:=hb.ng;have Fg:=hb.nc;obtain⟨k1,c1,l0,nz,z1⟩:=TF (b:=b) (c5:=[]) (c6:=[]) (c7:=[]) hL b.aO.length 0 k [] (dy _) hk sg (by simp;omega);have z1:c1.length=b.aO.length:=by simpa using z1
 obtain⟨c2,l2,z2,u2⟩:=TE (b:=b) (c0:=kv .i64 L) (z:=(k1:Int)) (c5:=[]) (c6:=[]) (c7:=[]) sg Fg b.cons.length 0 c1 (dy _) z1 (λu hu=>absurd hu (rr _));obtain⟨k3,s3,l6,hk3,z3,u3⟩:=TA (b:=b) (c4:=p7 c2) (c6:=[]) (c7:=[]) hL h8 b.ar.length 0 k1 [] (dy _) nz rfl (by simp);obtain⟨k4,m4,l8,hk4,z4,u4⟩:=Tz (b:=b) (c4:=p7 c2) (c5:=rnE s3) (c7:=[]) hL hb b.cons.length 0 k3 [] (dy _) hk3 rfl (λu hu=>absurd hu (rr _));obtain⟨k5,m5,l10,Rb,z5,p5,u5⟩:=PU (b:=b) (c4:=p7 c2) (c5:=rnE s3) (c6:=bF m4) hL hb 4 1 k4 [] rfl (dB _) hk4 (by simp) .nil (by simp);rw[fC]at l0 l2 l6 l8;refine⟨⟨c2,s3,m4,m5⟩,k5,?_,⟨z2,z3,z4,λx hx=>by obtain⟨a,c,d,e⟩:=u3 x hx;exact⟨a,by omega,d,e⟩,u4,by show m5.length<=32;omega,u5,p5,u2⟩,λi hi=> ?_,Rb⟩
 ·rw[ai,r68,bS,show lp E (denC E) 68 1 [] 0 {vals:=[AV.int .i64 b.aO.length,AV.int .i64 0],aq:=[src L k,eG b,uR,vX,.arr 1 [],.arr 4 [],.arr 1 [],.arr 2 []]}=_ from l0];simp only[SB,Nat.reduceAdd];rw[dE,l2];simp only[SB];rw[dM,show lp E (denC E) 68 1 [] 6 {vals:=[AV.int .i64 b.ar.length,AV.int .i64 0],aq:=[src L k1,eG b,uR,vX,.arr 1 (p7 c2),.arr 4 [],.arr 1 [],.arr 2 []]}=_ from l6];simp only[SB];rw[dE,show lp E (denC E) 68 1 [] 8 {vals:=[AV.sl 5 (nQ b),AV.int .i64 b.cons.length,AV.int .i64 0],aq:=[src L k3,eG b,uR,vX,.arr 1 (p7 c2),.arr 4 (rnE s3),.arr 1 [],.arr 2 []]}=_ from l8];simp only[SB];rw[show lp E (denC E) 68 1 [] 10 {vals:=[AV.int .i64 1],aq:=[src L k4,eG b,uR,vX,.arr 1 (p7 c2),.arr 4 (rnE s3),.arr 1 (bF m4),.arr 2 []]}=_ from l10];simp only[SB];rfl
 ·have hl:i<s3.length:=by omega
  refine(u3 _ ?_).2.1;show s3.getD i default∈s3;rw[dD,dO hl];exact gH hl
end
end
section
def zl (b:Bd)(kd u:Nat):List Nat:=(List.range b.aO.length).filter λi=>(br b i).k==kd&&((br b i).b==u||(kd==1&&(br b i).a==u))
theorem Pp {l:List Nat}{a:Nat}(hd:l.Nodup)(h:∀x,x∈l↔x=a):l=[a]:=by
 cases l with
 |nil=>have:=(h a).2 rfl;cases this
 |cons x l=>
  have hx:x=a:=(h x).1 (by simp);subst hx;cases l with
  |nil=>rfl
  |cons y l=>
   have hy:y=x:=(h y).1 (by simp);subst hy;have:=(vS.1 hd).1;exact absurd (by simp) this
theorem TU {b:Bd}(hb:df b){i:Nat}(hi:i<b.ar.length):zl b 2 i=[cL b i]:=by
 refine Pp (Jc _ FP) λx=> ?_;unfold zl;rw[uO,gR];simp only[bO,rR,w8,Nat.reduceEqDiff,false_and,or_false];constructor
 ·rintro⟨h1,h2,h3⟩;exact yS hb h1 h2 h3
 ·rintro rfl;exact bu hb hi
theorem of_lt {b:Bd}{kd u i:Nat}(h:i∈zl b kd u):i<b.aO.length/\(br b i).k=kd:=by
 unfold zl at h;rw[uO,gR]at h;simp only[bO,w8]at h;exact⟨h.1,h.2.1⟩
theorem L_ (b:Bd)(kd u:Nat):(zl b kd u).length<=b.aO.length:=by
 have:=oO (λi=>(br b i).k==kd&&((br b i).b==u||(kd==1&&(br b i).a==u))) (List.range b.aO.length);simpa[zl]using this
theorem Oo {b:Bd}{p:Pw}(hp:p.closed.length=b.aO.length):gD b p.closed=(List.range b.aO.length).map λi=>(br b i,cl p i):=by
 apply List.ext_getElem?;intro i;by_cases hi:i<b.aO.length
 ·rw[gC hp hi,uP,Ar hi];rfl
 ·rw[y8 (by rw[BL hp];omega),y8 (by simp;omega)]
theorem TW {b:Bd}{p:Pw}(hp:p.closed.length=b.aO.length)(u:Nat):((zl b 3 u).find? (cl p)).map (λi=>(br b i).a)=iF b p u:=by
 unfold iF Oq zl;rw[List.find?_filter,Oo hp,List.find?_map,Option.map_map];have:(λi=>decide (((br b i).k==3&&((br b i).b==u||(3==1&&(br b i).a==u)))=true/\cl p i=true))=((λx:fX×Bool=>x.1.k==3&&x.1.b==u&&x.2)∘λi=>(br b i,cl p i)):=by
  funext i;rw[uQ];simp[and_assoc]
 rw[this];rfl
theorem P5 {b:Bd}{p:Pw}(hp:p.closed.length=b.aO.length)(u:Nat):(zl b 3 u).countP (cl p)=cnt b p.closed u:=by
 unfold cnt zl;rw[List.countP_filter,Oo hp,List.countP_map];congr 1;funext i;simp[Bool.and_assoc,Bool.and_comm]
section
variable {b:Bd} {p:Pw}
theorem Sc (hb:BV b){kd u:Nat}:∀(m k:Nat) (F:List Nat),k+m=b.aO.length->F.length+m<=1000->
  lp E (denC E) 153 0 [] 0 {vals:=[AV.int .i64 (kd:Int),AV.int .i64 (u:Int),AV.sl 3 (fW b),AV.int .i64 b.aO.length,AV.int .i64 k],aq:=[.arr 1 (bF F)]}=
   some (Ex.exit 0,{vals:=[],aq:=[.arr 1 (bF (F++(List.range' k m).filter λi=>(br b i).k==kd&&((br b i).b==u||(kd==1&&(br b i).a==u))))]}):=by
 have sg:=hb.nb;intro m
 induction m with
 |zero=>intro k F hk hF;rw[S',ah,aC (by omega)];simp
 |succ m ih=>
  intro k F hk hF;have hkb:k<b.aO.length:=by omega
  have i1:=ih (k+1) F (by omega) (by omega);have i2:=ih (k+1) (F++[k]) (by omega) (by simp;omega);rw[S',ah,aK (by omega),cF _ hkb];simp only[SB];rw[ck (n:=(k:Int)+1) (by omega),aw k,aU,ct (by omega),ue,en,gi,gi,gi,rL];have hf:(k::List.range' (k+1) m).filter (λi=>(br b i).k==kd&&((br b i).b==u||(kd==1&&(br b i).a==u)))=(if ((br b k).k==kd&&((br b k).b==u||(kd==1&&(br b k).a==u)))=true then[k] else[])++(List.range' (k+1) m).filter λi=>(br b i).k==kd&&((br b i).b==u||(kd==1&&(br b i).a==u)):=by
   rw[An];split<;>rfl
  rw[hf,<-lz];generalize (List.range' (k+1) m).filter (λi=>(br b i).k==kd&&((br b i).b==u||(kd==1&&(br b i).a==u)))=R at i1 i2|-;cases((br b k).k==kd)<;>cases((br b k).b==u)<;>cases(kd==1)<;>cases((br b k).a==u)<;>simp only[Je,CH,Bool.or_true,Jd,ay,aF,vg,yZ,oQ,uN]<;>first|exact i1|exact i2
theorem KD (hb:BV b)(kd u:Nat):denC E 153 [eH b,AV.int .i64 (kd:Int),AV.int .i64 (u:Int)] []=some ([RV.p (PV.sl 1 (bF (zl b kd u)))],[]):=by
 have sg:=hb.nb;have l0:=Sc hb (kd:=kd) (u:=u) b.aO.length 0 [] (dy _) (by simp;omega);rw[fC,<-iC,gq]at l0;rw[ai,aj5,bS,show(au.arr 1 []:au)=au.arr 1 (bF []) from rfl,l0];simp only[SB];rfl
theorem ac_ {l:List Nat}(hl:l.length<=1000)(u:Nat):denC E 192 [AV.sl 1 (bF l),AV.int .i64 (u:Int)] []=some ([RV.p (PV.bool (l.contains u))],[]):=by
 have w:∀(m k:Nat),k+m=l.length->lp E (denC E) 192 0 [] 0 {vals:=[AV.int .i64 (u:Int),AV.sl 1 (bF l),AV.int .i64 l.length,AV.int .i64 k],aq:=[]}=some (if (l.drop k).contains u=true then(Ex.ret,{vals:=[AV.bool true],aq:=[]}) else(Ex.exit 0,{vals:=[],aq:=[]})):=by
  intro m
  induction m with
  |zero=>intro k hk;rw[SP,ah,aC (by omega),Bi (by omega)];rfl
  |succ m ih=>
   intro k hk;have ir:k<l.length:=by omega
   have hd:l.drop k=l.getD k 0::l.drop (k+1):=by
    rw[wZ ir];congr 1;simp[dD,ir]
   rw[SP,ah,aK (by omega),cE _ ir];simp only[SB];rw[ck (n:=(k:Int)+1) (by omega),aw k,ih (k+1) (by omega),hd,I_,gi];by_cases he:l.getD k 0=u
   ·rw[show(l.getD k 0==u)=true by simpa using he,show(u==l.getD k 0)=true from by rw[he];exact xa u,Ct];rfl
   ·rw[show(l.getD k 0==u)=false by simpa using he,show(u==l.getD k 0)=false by simpa using vd he,vR];rfl
 have l0:=w _ 0 (dy _);rw[fC,eN]at l0;rw[ai,ajH,aU,l0];cases l.contains u<;>rfl
theorem Sz (hb:yC b){j:Nat}(hj:j<b.aO.length)(hk3:(br b j).k=3){X:List (List PV)}{x11 x12:Int}:∀(m k:Nat),k+m=j->
  lp E (denC E) 176 0 [] 3 {vals:=[AV.sl 3 X,AV.int .i64 x11,AV.int .i64 x12,AV.sl 3 (tz (fW b) 0 (j:Int)),AV.int .i64 j,AV.int .i64 k],aq:=[eG b,.box [.int .i64 ((br b j).k:Int),.int .i64 ((br b j).a:Int),.int .i64 ((br b j).b:Int)]]}=some (Ex.exit 3,{vals:=[AV.sl 3 X,AV.int .i64 x11,AV.int .i64 x12],aq:=[eG b]}):=by
 have sg:=hb.nb;have hcut:tz (fW b) 0 (j:Int)=(b.aO.take j).map Xc:=by
  unfold tz;rw[bo];simp[fW,List.map_take]
 have hp:=Ao.1 hb.c1;intro m
 induction m with
 |zero=>intro k hk;rw[S6,ah,aC (by omega)]
 |succ m ih=>
  intro k hk;have hkj:k<j:=by omega
  have ih':=ih (k+1) (by omega);rw[hcut]at ih'|-;have hg:(b.aO.take j).getD k default=br b k:=by
   unfold br;rw[dD,kG,aK hkj,<-dD]
  rw[S6,ah,aK (by omega),bI Xc default (by simp;omega),hg];simp only[Xc,SB];have hne:(((br b k).k:Int)==((br b j).k:Int)&&(((br b k).a:Int)==((br b j).a:Int)&&(((br b k).b:Int)==((br b j).b:Int))))=false:=by
   rw[<-Cm];intro h;simp only[bO,w8]at h;have e:∀i (hi:i<b.aO.length),br b i=b.aO[i]:=λi hi=>by unfold br;rw[dD,dO hi];rfl
   have:=hp k j (by omega) hj hkj;rw[<-e k (by omega),<-e j hj]at this;exact this (by omega) hk3 (by omega) (by omega)
  rw[hne];simp only[SB];rw[ck (n:=(k:Int)+1) (by omega),aw k];exact ih'
theorem SD (hb:yC b):∀(m k:Nat),k+m=b.aO.length->
  lp E (denC E) 176 0 [] 0 {vals:=[AV.sl 3 (fW b),AV.int .i64 b.aO.length,AV.int .i64 k],aq:=[eG b]}=some (Ex.exit 0,{vals:=[],aq:=[eG b]}):=by
 have sg:=hb.nb;have h8:=hb.ng;have Fg:=hb.nc;have h6:=hb.n6;intro m
 induction m with
 |zero=>intro k hk;rw[S7,ah,aC (by omega)]
 |succ m ih=>
  intro k hk;have hkb:k<b.aO.length:=by omega
  obtain⟨t1,t2,t3,t4,t5,t6⟩:=hb.tie _ (qW hb.bT hkb);have ih':=ih (k+1) (by omega);rw[S7,ah,aK (by omega),cF _ hkb];simp only[lN,SB,Nat.reduceAdd];rw[ck (n:=(b.n:Int)-1) (by omega),aL (show(0:Int)<=((br b k).a:Int) by omega),aL (show((br b k).a:Int)<=(b.n:Int)-1 by omega),ck (n:=(k:Int)+1) (by omega),aw k,rL,rK,Ej];have hc:(br b k).k=1\/(br b k).k=2\/(br b k).k=3:=by omega
  rcases hc with h|h|h
  ·obtain⟨u1,u2⟩:=t2 h;rw[show((br b k).k==1)=true by simp[h],ck (n:=((br b k).a:Int)+1) (by omega),aL (show((br b k).a:Int)+1<=((br b k).b:Int) by omega),aL (show((br b k).b:Int)<=(b.n:Int)-1 by omega)];exact ih'
  ·have u:=t3 h;rw[show((br b k).k==1)=false by simp[h],show((br b k).k==2)=true by simp[h],dM,ck (n:=(b.ar.length:Int)-1) (by omega),aL (show(0:Int)<=((br b k).b:Int) by omega),aL (show((br b k).b:Int)<=(b.ar.length:Int)-1 by omega)];exact ih'
  ·have u:=t4 h;have l3:=Sz hb hkb h (X:=fW b) (x11:=(b.aO.length:Int)) (x12:=(k:Int)) k 0 (dy _);rw[fC]at l3;rw[show((br b k).k==1)=false by simp[h],show((br b k).k==2)=false by simp[h],show((br b k).k==3)=true by simp[h],dE,ck (n:=(b.cons.length:Int)-1) (by omega),aL (show(0:Int)<=((br b k).b:Int) by omega),aL (show((br b k).b:Int)<=(b.cons.length:Int)-1 by omega),bS,aL (show(0:Int)<=(k:Int) by omega),aL (show(k:Int)<=(b.aO.length:Int) by omega)];have hlen:((tz (fW b) 0 (k:Int)).length:Int)=(k:Int):=by
    unfold tz;rw[bo];simp[bS];omega
   simp only[SB];rw[hlen,l3];simp only[SB];rw[ck (n:=(k:Int)+1) (by omega),aw k];exact ih'
theorem Sy (hb:yC b):∀(m k:Nat),k+m=b.ar.length->
  lp E (denC E) 176 0 [] 5 {vals:=[AV.int .i64 b.ar.length,AV.int .i64 k],aq:=[eG b]}=some (Ex.exit 5,{vals:=[],aq:=[eG b]}):=by
 have h8:=hb.ng;intro m
 induction m with
 |zero=>intro k hk;rw[S5,ah,aC (by omega)]
 |succ m ih=>
  intro k hk;rw[S5,ah,aK (by omega),show(2:Int)=((2:Nat):Int) from rfl,KD hb.pB,TU hb.bT (show k<b.ar.length by omega)];simp only[SB];rw[ck (n:=(k:Int)+1) (by omega),aw k,ih (k+1) (by omega)];rfl
theorem Sx (hb:yC b):∀(m k:Nat),k+m=b.cons.length->
  lp E (denC E) 176 0 [] 7 {vals:=[AV.int .i64 b.cons.length,AV.int .i64 k],aq:=[eG b]}=some (Ex.exit 7,{vals:=[],aq:=[]}):=by
 have Fg:=hb.nc;have sg:=hb.nb;intro m
 induction m with
 |zero=>intro k hk;rw[S4,ah,aC (by omega)]
 |succ m ih=>
  intro k hk;have hne:zl b 3 k≠[]:=by
   intro he;have hb2:=hb.brk;obtain⟨x,hx,h1,h2⟩:=hb.Ff k (by omega);obtain⟨i,hi,rfl⟩:=List.getElem_of_mem hx;have e:br b i=b.aO[i]:=by unfold br;rw[dD,dO hi];rfl
   have:i∈zl b 3 k:=by
    unfold zl;rw[uO,gR];refine⟨hi,?_⟩;rw[e,h1,h2];simp
   rw[he]at this;cases this
  have hl:=List.length_pos_iff.2 hne;have hl2:=L_ b 3 k;rw[S4,ah,aK (by omega),show(3:Int)=((3:Nat):Int) from rfl,KD hb.pB];simp only[SB];rw[ck (n:=(k:Int)+1) (by omega),aw k,ih (k+1) (by omega),aU,b_ (by omega)];rfl
theorem KE (hb:yC b):denC E 176 [eH b] []=some ([RV.p (PV.bool true)],[]):=by
 have l0:=SD hb _ 0 (dy _);have l5:=Sy hb _ 0 (dy _);have l7:=Sx hb _ 0 (dy _);rw[fC]at l0 l5 l7;rw[ai,ajQ,bS,l0];simp only[SB,Nat.reduceAdd];rw[dM,l5];simp only[SB];rw[dE,l7];simp only[SB]
end
end
section
section
variable {b:Bd} {p:Pw}
theorem Yc (hb:yC b):∀(m k:Nat),k+m=b.ar.length->
  lp E (denC E) 177 0 [] 0 {vals:=[AV.sl 3 (oW b),AV.int .i64 b.ar.length,AV.int .i64 k],aq:=[]}=some (Ex.exit 0,{vals:=[],aq:=[]}):=by
 have h8:=hb.ng;intro m
 induction m with
 |zero=>intro k hk;rw[S3,ah,aC (by omega)]
 |succ m ih=>
  intro k hk;have qK:k<b.ar.length:=by omega
  obtain⟨g1,g2,g3,g4⟩:=hb.gen _ (HB qK);rw[S3,ah,aK (by omega),oz _ qK];simp only[lN,SB];rw[aL (by omega),aL (by omega),aL (by omega),aL (by omega),aL (by omega),aL (by omega),ck (n:=(k:Int)+1) (by omega),aw k,ih (k+1) (by omega)];rfl
theorem Sv (hb:yC b){i:Nat}(hi:i<b.cons.length){X:List (List PV)}{x9 x10 y0 y1 y2 y3:Int}:∀(m k:Nat),k+m=(cn b i).needs.length->
  lp E (denC E) 178 0 [] 2 {vals:=[AV.int .i64 (i:Int),AV.sl 5 X,AV.int .i64 x9,AV.int .i64 x10,AV.sl 1 (bF (cn b i).needs),AV.int .i64 (cn b i).needs.length,AV.int .i64 k],aq:=[.box [.int .i64 y0,.int .i64 y1,.int .i64 y2,.int .i64 y3,.sl 1 (bF (cn b i).needs)]]}=some (Ex.exit 2,{vals:=[AV.sl 5 X,AV.int .i64 x9,AV.int .i64 x10],aq:=[]}):=by
 have Fg:=hb.nc;obtain⟨q1,q2,q3,q4,q5,q6,q7,q8⟩:=hb.zL i hi;intro m
 induction m with
 |zero=>intro k hk;rw[S1,ah,aC (by omega)]
 |succ m ih=>
  intro k hk;have ir:k<(cn b i).needs.length:=by omega
  have h1:=BQ q7 ir;rw[S1,ah,aK (by omega),cE _ ir];simp only[lN,SB];rw[ck (n:=(i:Int)-1) (by omega),aL (by omega),aL (by omega)];simp only[SB];rw[ck (n:=(k:Int)+1) (by omega),aw k,ih (k+1) (by omega)];cases k with
  |zero=>rw[b_ (by omega)];rfl
  |succ k=>
   have h2:=Jk q8 (i:=k) (by omega);rw[iz (by omega),ck (n:=((k+1:Nat):Int)-1) (by omega),show((k+1:Nat):Int)-1=(k:Int) by omega,ay,cE _ (by omega)];simp only[SB];rw[rG (by omega)];rfl
theorem Sw (hb:yC b):∀(m k:Nat),k+m=b.cons.length->
  lp E (denC E) 178 0 [] 0 {vals:=[AV.sl 5 (nQ b),AV.int .i64 b.cons.length,AV.int .i64 k],aq:=[]}=some (Ex.exit 0,{vals:=[],aq:=[]}):=by
 have Fg:=hb.nc;intro m
 induction m with
 |zero=>intro k hk;rw[S2,ah,aC (by omega)]
 |succ m ih=>
  intro k hk;have Bo:k<b.cons.length:=by omega
  obtain⟨q1,q2,q3,q4,q5,q6,q7,q8⟩:=hb.zL k Bo;have l2:=Sv hb Bo (X:=nQ b) (x9:=(b.cons.length:Int)) (x10:=(k:Int)) (y0:=((cn b k).load:Int)) (y1:=((cn b k).least:Int)) (y2:=((cn b k).vW:Int)) (y3:=(cn b k).RN) _ 0 (dy _);rw[fC]at l2;rw[S2,ah,aK (by omega),oA _ Bo];simp only[lN,SB,Nat.reduceAdd];rw[aU,aL (show(0:Int)<=((cn b k).load:Int) by omega),aL (show((cn b k).load:Int)<=50000 by omega),aL (show(0:Int)<=((cn b k).least:Int) by omega),aL (show((cn b k).least:Int)<=((cn b k).load:Int) by omega),aL (show(0:Int)<=((cn b k).vW:Int) by omega),aL (show((cn b k).vW:Int)<=15 by omega),aL (show(-1:Int)<=(cn b k).RN by omega),aL (show(cn b k).RN<=7 by omega),b_ (show¬(4:Int)<((cn b k).needs.length:Int) by omega),l2];simp only[SB];rw[ck (n:=(k:Int)+1) (by omega),aw k];exact ih (k+1) (by omega)
theorem WM (hb:yC b):denC E 150 [eH b] []=some ([RV.p (PV.int .i64 0)],[]):=by
 have h1:=hb.n1;have h2:=hb.n6;have h3:=hb.nb;have h4:=hb.ng;have h5:=hb.nc;have h6:=hb.ph;have h7:=hb.fr;have l1:=Yc hb _ 0 (dy _);have l2:=Sw hb _ 0 (dy _);rw[fC]at l1 l2;have c1:denC E 177 [eH b] []=some ([RV.p (PV.bool true)],[]):=by
  rw[ai,ajP,dM,l1];rfl
 have c2:denC E 178 [eH b] []=some ([RV.p (PV.bool true)],[]):=by
  rw[ai,ajO,dE,l2];rfl
 rw[ai,aj8,KE hb,c1,c2,bS,dM,dE];rw[b_ (show¬(b.n:Int)<1 by omega),b_ (show¬(6:Int)<(b.n:Int) by omega),b_ (show¬(24:Int)<(b.aO.length:Int) by omega),b_ (show¬(8:Int)<(b.ar.length:Int) by omega),b_ (show¬(16:Int)<(b.cons.length:Int) by omega),b_ (show¬(b.phase:Int)<0 by omega),b_ (show¬(1800:Int)<(b.phase:Int) by omega),b_ (show¬(b.eZ:Int)<0 by omega),b_ (show¬(6000:Int)<(b.eZ:Int) by omega)];rfl
theorem PH (hb:yC b)(hp:aX b p):∀(m k:Nat),k+m=p.aA.length->
  lp E (denC E) 120 0 [] 0 {vals:=[AV.sl 4 (bp p),AV.int .i64 p.aA.length,AV.int .i64 k],aq:=[eG b,kq p]}=some (Ex.exit 0,{vals:=[],aq:=[eG b,kq p]}):=by
 have h8:=hb.ng;have hs:=hp.s;intro m
 induction m with
 |zero=>intro k hk;rw[Ti,ah,aC (by omega)]
 |succ m ih=>
  intro k hk;obtain⟨q1,q2,q3,q4⟩:=hp.runs (i:=k) (by omega);rw[Ti,ah,aK (by omega),dv _ (by omega)];simp only[lN,SB];rw[aL (show(0:Int)<=((sr p k).st:Int) by omega),aL (show((sr p k).st:Int)<=3 by omega),aL (show(0:Int)<=((sr p k).since:Int) by omega),aL (show((sr p k).since:Int)<=2147483648 by omega),aL (show(0:Int)<=((sr p k).fr:Int) by omega),aL (show((sr p k).fr:Int)<=6000 by omega),aL (show(0:Int)<=((sr p k).ph:Int) by omega),aL (show((sr p k).ph:Int)<=3599 by omega),ck (n:=(k:Int)+1) (by omega),aw k,ih (k+1) (by omega)];rfl
theorem PG (hb:yC b)(hp:aX b p):∀(m k:Nat),k+m=p.gJ.length->
  lp E (denC E) 120 0 [] 2 {vals:=[AV.sl 1 (bE p),AV.int .i64 p.gJ.length,AV.int .i64 k],aq:=[eG b,kq p]}=some (Ex.exit 2,{vals:=[],aq:=[eG b,kq p]}):=by
 have Fg:=hb.nc;have hl:=hp.l;intro m
 induction m with
 |zero=>intro k hk;rw[Th,ah,aC (by omega)]
 |succ m ih=>
  intro k hk;have q1:=hp.Hd k (by omega);rw[Th,ah,aK (by omega),HC _ (by omega)];simp only[lN,SB];rw[oA _ (by omega)];simp only[SB];rw[aL (show(0:Int)<=((lm p k:Nat):Int) by omega),aL (show((lm p k:Nat):Int)<=((cn b k).load:Int) by omega),ck (n:=(k:Int)+1) (by omega),aw k,ih (k+1) (by omega)];rfl
instance decLt (x y:Nat×Nat):Decidable (Mn x y):=by unfold Mn;infer_instance
theorem W5 (x y:Nat×Nat):denC E 152 [AV.agg [PV.int .i64 (x.1:Int),PV.int .i64 (x.2:Int)],AV.agg [PV.int .i64 (y.1:Int),PV.int .i64 (y.2:Int)]] []=some ([RV.p (PV.bool (decide (Mn x y)))],[]):=by
 rw[ai,aj6];by_cases h1:x.1<y.1
 ·rw[iz (by omega),u_ (show Mn x y from Or.inl h1)];rfl
 ·rw[b_ (by omega)];by_cases h2:x.1=y.1
  ·rw[show((x.1:Int)==(y.1:Int))=true by simp[h2]];by_cases h3:x.2<y.2
   ·rw[iz (by omega),u_ (show Mn x y from Or.inr ⟨h2,h3⟩)];rfl
   ·rw[b_ (by omega),decide_eq_false (show¬Mn x y by unfold Mn;rintro(h|h)<;>omega)];rfl
  ·rw[show((x.1:Int)==(y.1:Int))=false by simp;omega,decide_eq_false (show¬Mn x y by unfold Mn;rintro(h|h)<;>omega)];rfl
theorem PF (hb:yC b)(hp:aX b p):∀(m k:Nat),k+m=p.broken.length->
  lp E (denC E) 120 0 [] 4 {vals:=[AV.sl 2 (bA p),AV.int .i64 p.broken.length,AV.int .i64 k],aq:=[eG b,kq p]}=some (Ex.exit 4,{vals:=[],aq:=[eG b,kq p]}):=by
 have h32:=hp.bk;intro m
 induction m with
 |zero=>intro k hk;rw[Tg,ah,aC (by omega)]
 |succ m ih=>
  intro k hk;have ir:k<p.broken.length:=by omega
  have hm:p.broken.getD k (0,0)∈p.broken:=by rw[dD,dO ir];exact gH ir
  have hex:=hp.ex _ hm;have hk4:1<=(p.broken.getD k (0,0)).1/\(p.broken.getD k (0,0)).1<=4:=by
   unfold Pj at hex;by_cases h1:(p.broken.getD k (0,0)).1=1
   ·omega
   ·by_cases h2:(p.broken.getD k (0,0)).1=2
    ·omega
    ·by_cases h3:(p.broken.getD k (0,0)).1=3
     ·omega
     ·by_cases h4:(p.broken.getD k (0,0)).1=4
      ·omega
      ·rw[aC h1,aC h2,aC h3,aC h4]at hex;omega
  rw[Tg,ah,aK (by omega),uz _ ir];simp only[SB];rw[KH hb.pB hk4,u_ hex];simp only[SB];rw[ck (n:=(k:Int)+1) (by omega),aw k,ih (k+1) (by omega)];cases k with
  |zero=>rw[b_ (by omega)];rfl
  |succ k=>
   have hlt:Mn (p.broken.getD k (0,0)) (p.broken.getD (k+1) (0,0)):=by
    rw[dD,dD,dO ir,dO (show k<p.broken.length by omega)];exact Ao.1 hp.asc k (k+1) (by omega) ir (by omega)
   rw[iz (by omega),ck (n:=((k+1:Nat):Int)-1) (by omega),show((k+1:Nat):Int)-1=(k:Int) by omega,ay,uz _ (by omega)];simp only[SB];rw[W5,u_ hlt];rfl
theorem PD (hp:aX b p){O:List Nat}(hO:∀i∈O,i<b.aO.length)(hl:O.length<=100){x y:Int}:∀(m k n:Nat),k+m=O.length->n+m<=1000->
  lp E (denC E) 120 0 [] 8 {vals:=[AV.int .i64 (n:Int),AV.int .i64 x,AV.int .i64 y,AV.sl 1 (bF O),AV.int .i64 O.length,AV.int .i64 k],aq:=[eG b,kq p]}=some (Ex.exit 8,{vals:=[AV.int .i64 ((n+(O.drop k).countP (cl p):Nat):Int),AV.int .i64 x,AV.int .i64 y],aq:=[eG b,kq p]}):=by
 intro m
 induction m with
 |zero=>
  intro k n hk hn;rw[Te,ah,aC (by omega),Bi (by omega)];rfl
 |succ m ih=>
  intro k n hk hn;have ir:k<O.length:=by omega
  have hm:O.getD k 0∈O:=by rw[dD,dO ir];exact gH ir
  have hd:O.drop k=O.getD k 0::O.drop (k+1):=by
   rw[wZ ir];congr 1;simp[dD,ir]
  rw[Te,ah,aK (by omega),cE _ ir];simp only[SB];rw[k_ _ (by rw[hp.c];exact hO _ hm)];simp only[SB];rw[ck (n:=(k:Int)+1) (by omega),aw k,ck (n:=(n:Int)+1) (by omega),aw n,ih (k+1) (n+1) (by omega) (by omega),ih (k+1) n (by omega) (by omega),hd,iw];cases cl p (O.getD k 0)with
  |true=>simp only[ay,vg];congr 6;omega
  |false=>simp only[aF,oQ,yZ];rfl
theorem PE (hb:yC b)(hp:aX b p):∀(m k:Nat),k+m=b.cons.length->
  lp E (denC E) 120 0 [] 6 {vals:=[AV.int .i64 b.cons.length,AV.int .i64 k],aq:=[eG b,kq p]}=some (Ex.exit 6,{vals:=[],aq:=[]}):=by
 have Fg:=hb.nc;have sg:=hb.nb;intro m
 induction m with
 |zero=>intro k hk;rw[Tf,ah,aC (by omega)]
 |succ m ih=>
  intro k hk;have hol:=L_ b 3 k;have l8:=PD hp (O:=zl b 3 k) (λi hi=>(of_lt hi).1) (by omega) (x:=(b.cons.length:Int)) (y:=(k:Int)) _ 0 0 (dy _) (by omega);rw[fC,eN,P5 hp.c,dy]at l8;have hc:=hp.one k (by omega);rw[Tf,ah,aK (by omega),show(3:Int)=((3:Nat):Int) from rfl,KD hb.pB];simp only[SB,Nat.reduceAdd];rw[aU,l8];simp only[SB];rw[b_ (show¬(1:Int)<((cnt b p.closed k:Nat):Int) by omega),ck (n:=(k:Int)+1) (by omega),aw k,ih (k+1) (by omega)];rfl
theorem tF (hb:yC b)(hp:aX b p):denC E 120 [eH b,iQ p] []=some ([RV.p (PV.int .i64 0)],[]):=by
 have h32:=hp.bk;have l0:=PH hb hp _ 0 (dy _);have l2:=PG hb hp _ 0 (dy _);have l4:=PF hb hp _ 0 (dy _);have l6:=PE hb hp _ 0 (dy _);rw[fC]at l0 l2 l4 l6;rw[ai,ako,WM hb];simp only[fB,SB,Nat.reduceAdd];rw[dU,fP,mH,bS,dM,dE,hp.c,hp.s,hp.l,show((b.aO.length:Int) !=(b.aO.length:Int))=false by simp,show((b.ar.length:Int) !=(b.ar.length:Int))=false by simp,show((b.cons.length:Int) !=(b.cons.length:Int))=false by simp];rw[hp.s]at l0;rw[l0];simp only[SB];rw[mH,l2];simp only[SB];rw[uF,b_ (show¬(32:Int)<(p.broken.length:Int) by omega),l4];simp only[SB];rw[dE,l6];simp only[SB]
theorem aaQ (hb:yC b)(hp:aX b p){i:Nat}(hi:i<b.ar.length):denC E 191 [eH b,iQ p,AV.int .i64 (i:Int)] []=some (dz (conn b p i),[]):=by
 have hs:=hp.s;obtain⟨k1,k2,k3⟩:=bu hb.bT hi;rw[ai,ajI,tF hb hp,dM,dv _ (by omega)];simp only[fB,SB];rw[b_ (show¬(i:Int)<0 by omega),rG (show¬(b.ar.length:Int)<=(i:Int) by omega),show(((sr p i).st:Int) !=2)= !((sr p i).st==2) by unfold bne;rw[rK],iY hb.bT hp.c hi];simp only[SB];by_cases h2:(sr p i).st=2
 ·rw[show((sr p i).st==2)=true by simp[h2],show(2:Int)=((2:Nat):Int) from rfl,KD hb.pB,TU hb.bT hi];simp only[SB];have e0:∀K:List PV->Option gv,aG (bF [cL b i]) 0 K=K [PV.int .i64 (cL b i:Int)]:=λK=>rfl;rw[e0];simp only[SB];rw[k_ _ (by rw[hp.c];exact k1)];simp only[SB];rw[cF _ k1];cases hc:cl p (cL b i)with
  |true=>rw[aK ⟨h2,rfl⟩];rfl
  |false=>rw[aC (by simp)];rfl
 ·rw[show((sr p i).st==2)=false by simpa using h2,aC (λh=>h2 h.1)];rfl
def amk (b:Bd)(o:Option Nat):Ex×Pack:=match o with
 |some i=>(Ex.ret,{vals:=[AV.int .i64 ((br b i).a:Int),AV.bool true],aq:=[]})
 |none=>(Ex.exit 0,{vals:=[],aq:=[]})
theorem afe (hb:yC b)(hp:aX b p){u:Nat}(hu:u<b.cons.length):denC E 193 [eH b,iQ p,AV.int .i64 (u:Int)] []=some (dz (iF b p u),[]):=by
 have sg:=hb.nb;have hol:=L_ b 3 u;have w:∀(m k:Nat),k+m=(zl b 3 u).length->lp E (denC E) 193 0 [] 0 {vals:=[AV.sl 1 (bF (zl b 3 u)),AV.int .i64 (zl b 3 u).length,AV.int .i64 k],aq:=[eG b,kq p]}=some (amk b (((zl b 3 u).drop k).find? (cl p))):=by
  intro m
  induction m with
  |zero=>intro k hk;rw[SN,ah,aC (by omega),Bi (by omega)];rfl
  |succ m ih=>
   intro k hk;have ir:k<(zl b 3 u).length:=by omega
   have hm:(zl b 3 u).getD k 0∈zl b 3 u:=by rw[dD,dO ir];exact gH ir
   have hd:(zl b 3 u).drop k=(zl b 3 u).getD k 0::(zl b 3 u).drop (k+1):=by
    rw[wZ ir];congr 1;simp[dD,ir]
   rw[SN,ah,aK (by omega),cE _ ir];simp only[SB];rw[k_ _ (by rw[hp.c];exact(of_lt hm).1)];simp only[SB];rw[cF _ (of_lt hm).1,ck (n:=(k:Int)+1) (by omega),aw k,ih (k+1) (by omega),hd,Al];cases cl p ((zl b 3 u).getD k 0)<;>rfl
 have l0:=w _ 0 (dy _);rw[fC,eN]at l0;rw[ai,ajG,tF hb hp,dE,show(3:Int)=((3:Nat):Int) from rfl,KD hb.pB];simp only[fB,SB,Nat.reduceAdd];rw[b_ (show¬(u:Int)<0 by omega),rG (show¬(b.cons.length:Int)<=(u:Int) by omega),aU,l0,<-TW hp.c u];cases(zl b 3 u).find? (cl p)<;>rfl
end
end
end Go.Proofs.YtoocplpcbdemhaaGreat.Vm
