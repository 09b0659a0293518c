import Derived.Test.YtoocplpcbdemhaaGreatZe
set_option linter.unusedVariables false
set_option linter.unusedSimpArgs false
set_option linter.unusedSectionVars false
namespace Go.Proofs.YtoocplpcbdemhaaGreat
end Go.Proofs.YtoocplpcbdemhaaGreat
namespace Go.Proofs.YtoocplpcbdemhaaGreat.Vm
section
section
variable {b:Bd} {p:Pw}
def reF (b:Bd)(p:Pw)(j:Nat):List Bool:=eL (gD b p.closed) b.n ((List.replicate b.n false).set j true)
theorem Yo {n i:Nat}:(List.replicate n false).getD i false=false:=by
 simp only[dD,pI];split<;>rfl
theorem Ys (hb:df b)(hp:p.closed.length=b.aO.length){j i:Nat}(hj:j<b.n)(hi:i<b.n):(reF b p j).getD i false=true↔key b p i=key b p j:=by
 have ht:=pX hb p.closed;have h0:((List.replicate b.n false).set j true).length=b.n:=by simp
 have hs:∀x,((List.replicate b.n false).set j true).getD x false=true↔x=j:=λx=>by
  rw[H6 (by simpa using hj)];split
  ·rename_i h;simp[h]
  ·rename_i h;rw[Yo];simp[h]
 obtain⟨r1,r2,_⟩:=mY ht b.n _ h0;have hg:(reF b p j).getD j false=true:=r2.2 j ((hs j).2 rfl);constructor
 ·intro h;obtain⟨s,rfl,h2⟩:=Ad (P:=λs=>s=j) ht b.n _ h0 (λx hx=>⟨j,rfl,by rw[(hs x).1 hx];exact .refl _⟩) i h;exact((BN hb hi hj).2 h2.symm)
 ·intro h;have hc:=(BN hb hj hi).1 h.symm;have w:∀x y,Br (gD b p.closed) x y->(reF b p j).getD x false=(reF b p j).getD y false:=λx y ⟨z,hz,z1,z2,z3,z4⟩=>by
   rw[<-z3,<-z4];exact LO ht h0 z hz z2 z1
  have:∀{x y:Nat},dG (gD b p.closed) x y->(reF b p j).getD x false=(reF b p j).getD y false:=λh=>by
   induction h with
   |refl=>rfl
   |fwd _ t ih=>exact ih.trans (w _ _ t)
   |bwd _ t ih=>exact ih.trans (w _ _ t).symm
  rw[<-this hc];exact hg
theorem Ss (hb:BV b)(hp:aX b p)(x y:Int):∀(m k:Nat) (f:List Bool),k+m=b.aO.length->f.length=b.n->
  lp E (denC E) 190 0 [] 2 {vals:=[AV.int .i64 x,AV.int .i64 y,AV.sl 3 (fW b),AV.int .i64 b.aO.length,AV.int .i64 k],aq:=[eG b,kq p,au.arr 1 (p7 f)]}=
   some (Ex.exit 2,{vals:=[AV.int .i64 x,AV.int .i64 y],aq:=[eG b,kq p,au.arr 1 (p7 (((gD b p.closed).drop k).foldl fG f))]}):=by
 have sg:=hb.nb;intro m
 induction m with
 |zero=>
  intro k f hk hf;rw[SS,ah,aC (by omega),xD hp.c (by omega)];rfl
 |succ m ih=>
  intro k f hk hf;have hkb:k<b.aO.length:=by omega
  have ht:=lY hb hkb;have ha:(br b k).a<f.length:=by omega
  have J4:((gD b p.closed).drop k).foldl fG f=((gD b p.closed).drop (k+1)).foldl fG (fG f (br b k,cl p k)):=by
   rw[sZ hp.c hkb,je]
  have ih':=ih (k+1) (fG f (br b k,cl p k)) (by omega) (by rw[Kg];exact hf);rw[SS,ah,aK (by omega),cF _ hkb];simp only[SB];rw[k_ _ (by rw[hp.c];exact hkb)];simp only[SB];rw[iu,bG ha,bo,zm ha,bo,ck (n:=(k:Int)+1) (by omega),aw k,J4,rL];simp only[eN,m_,iN,SB];by_cases h1:(br b k).k=1
  ·obtain⟨t1,t2⟩:=ht.2.1 h1;have VN:(br b k).b<f.length:=by omega
   rw[show((br b k).k==1)=true by simp[h1],bG VN,zm VN,mW ha,iu,vn,bG VN,mW (by simpa using VN)];simp only[m_,iN,SB];cases hc:cl p k with
   |false=>
    have e:fG f (br b k,cl p k)=f:=by unfold fG;rw[aC (by rw[hc];simp)]
    rw[hc]at e;rw[hc,e]at ih';rw[e];exact ih'
   |true=>
    have e:fG f (br b k,true)=(f.set (br b k).a (f.getD (br b k).a false||f.getD (br b k).b false)).set (br b k).b (f.getD (br b k).a false||f.getD (br b k).b false):=by unfold fG;rw[aK ⟨h1,rfl⟩]
    rw[hc]at ih';have same:f.getD (br b k).a false=false->f.getD (br b k).b false=false->(f.set (br b k).a false).set (br b k).b false=f:=λq1 q2=>by
     have s1:f.set (br b k).a false=f:=by
      apply List.ext_getElem?;intro i;rw[qy];split
      ·rename_i h;subst h;rw[dD,dO ha]at q1;rw[dO ha];exact congrArg some q1.symm
      ·rfl
     rw[s1];apply List.ext_getElem?;intro i;rw[qy];split
     ·rename_i h;subst h;rw[dD,dO VN]at q2;rw[dO VN];exact congrArg some q2.symm
     ·rfl
    cases q1:f.getD (br b k).a false<;>cases q2:f.getD (br b k).b false
    ·rw[q1,q2]at e;have:fG f (br b k,true)=f:=e.trans (same q1 q2);rw[this]at ih'|-;exact ih'
    ·rw[q1,q2]at e;rw[e]at ih'|-;exact ih'
    ·rw[q1,q2]at e;rw[e]at ih'|-;exact ih'
    ·rw[q1,q2]at e;rw[e]at ih'|-;exact ih'
  ·have e:fG f (br b k,cl p k)=f:=by unfold fG;rw[aC (λh=>h1 h.1)]
   rw[e]at ih'|-;rw[show((br b k).k==1)=false by simpa using h1];exact ih'
theorem Su (hb:BV b)(hp:aX b p):∀(m k:Nat) (f:List Bool),k+m=b.n->f.length=b.n->
  lp E (denC E) 190 0 [] 0 {vals:=[AV.int .i64 (b.n:Int),AV.int .i64 k],aq:=[eG b,kq p,au.arr 1 (p7 f)]}=some (Ex.exit 0,{vals:=[],aq:=[au.arr 1 (p7 (eL (gD b p.closed) m f))]}):=by
 have h6:=hb.n6;intro m
 induction m with
 |zero=>intro k f hk hf;rw[SU,ah,aC (by omega)];rfl
 |succ m ih=>
  intro k f hk hf;have l2:=Ss hb hp (b.n:Int) (k:Int) _ 0 f (dy _) hf;rw[fC,eN]at l2;have pn:((gD b p.closed).foldl fG f).length=b.n:=(uB hf (pX hb.bT _)).1.trans hf;rw[SU,ah,aK (by omega),bS,l2];simp only[SB,Nat.reduceAdd];rw[ck (n:=(k:Int)+1) (by omega),aw k];exact ih (k+1) _ (by omega) pn
theorem Sr (hb:BV b){f:List Bool}(hf:f.length=b.n):∀(m k:Nat) (O:List Nat),k+m=b.n->O.length+m<=100->
  lp E (denC E) 190 0 [] 4 {vals:=[AV.int .i64 (b.n:Int),AV.int .i64 k],aq:=[au.arr 1 (p7 f),au.arr 1 (bF O)]}=some (Ex.exit 4,{vals:=[],aq:=[au.arr 1 (bF (O++(List.range' k m).filter λi=>f.getD i false))]}):=by
 have h6:=hb.n6;intro m
 induction m with
 |zero=>intro k O hk hO;rw[SQ,ah,aC (by omega)];simp
 |succ m ih=>
  intro k O hk hO;have hkf:k<f.length:=by omega
  have i1:=ih (k+1) O (by omega) (by omega);have i2:=ih (k+1) (O++[k]) (by omega) (by simp;omega);rw[SQ,ah,aK (by omega),iu,bG hkf,bo,zm hkf];simp only[eN,m_,iN,SB];rw[aU,ct (by omega),ue,ck (n:=(k:Int)+1) (by omega),aw k,en,An];cases hc:f.getD k false with
  |true=>rw[aK rfl];rw[lz]at i2;exact i2
  |false=>rw[aC (by simp)];exact i1
theorem aaB (hb:BV b)(hp:aX b p){j:Nat}(hj:j<b.n):denC E 190 [eH b,iQ p,AV.int .i64 (j:Int)] []=some ([RV.p (PV.sl 1 (bF (aZ b p (key b p j))))],[]):=by
 have h6:=hb.n6;have hf:((List.replicate b.n false).set j true).length=b.n:=by simp
 have l0:=Su hb hp b.n 0 _ (dy _) hf;have hr:(reF b p j).length=b.n:=(mY (pX hb.bT p.closed) b.n _ hf).1;have l4:=Sr hb hr b.n 0 [] (dy _) (by simp;omega);rw[fC]at l0 l4;rw[<-iC,gq]at l4;have he:(List.range b.n).filter (λi=>(reF b p j).getD i false)=aZ b p (key b p j):=by
  unfold aZ;refine qN λx hx=> ?_;rw[Ys hb.bT hp.c hj (gR.1 hx),w8]
 rw[he]at l4;rw[ai,ajJ,bo,NW,iu,za,bG hj,bo,mW (by simpa using hj),iu,hf,l0];rw[aL (show(0:Int)<=(b.n:Int) by omega),aL (Cu (b.n:Int)),aL (show(b.n:Int)<=9223372036854775807 by omega),aL (show(b.n:Int)*1<=140737488355328 by omega)];simp only[SB];rw[iu,show(eL (gD b p.closed) b.n ((List.replicate b.n false).set j true)).length=b.n from hr,show(au.arr 1 []:au)=au.arr 1 (bF []) from rfl,show lp E (denC E) 190 0 [] 4 {vals:=[AV.int .i64 (b.n:Int),AV.int .i64 0],aq:=[au.arr 1 (p7 (eL (gD b p.closed) b.n ((List.replicate b.n false).set j true))),au.arr 1 (bF [])]}=_ from l4];simp only[SB]
abbrev ofB (f:Nat)(b:Bd)(p:Pw):au:=.box [.sl 1 (bF (aZ b p f)),.t (.ak 4),.t (.ak 5)]
abbrev ofZ:au:=.box [.sl 1 [],.sl 1 [],.sl 1 []]
theorem Eg (hb:df b){u f:Nat}(hu:u<b.n):(aZ b p f).contains u=(key b p u==f):=by
 rw[uQ,na,lD,w8];exact⟨λh=>h.2,λh=>⟨hu,h⟩⟩
theorem Se (hb:yC b)(hp:aX b p){f:Nat}{c5:List (List PV)}:∀(m k:Nat) (O:List Nat),k+m=b.ar.length->O.length+m<=100->
  lp E (denC E) 179 0 [] 0 {vals:=[AV.int .i64 b.ar.length,AV.int .i64 k],aq:=[eG b,kq p,ofZ,ofB f b p,au.arr 1 (bF O),au.arr 1 c5]}=some (Ex.exit 0,{vals:=[],aq:=[eG b,kq p,ofZ,ofB f b p,au.arr 1 (bF (O++(List.range' k m).filter λi=>atKey b p (conn b p i) f)),au.arr 1 c5]}):=by
 have h8:=hb.ng;have h6:=hb.n6;have hbl:=lO b p f;intro m
 induction m with
 |zero=>intro k O hk hO;rw[SZ,ah,aC (by omega)];simp
 |succ m ih=>
  intro k O hk hO;have qK:k<b.ar.length:=by omega
  have i1:=ih (k+1) O (by omega) (by omega);have i2:=ih (k+1) (O++[k]) (by omega) (by simp;omega);rw[SZ,ah,aK (by omega),aaQ hb hp qK,aU,ct (by omega),ue,ck (n:=(k:Int)+1) (by omega),aw k,en,An];cases hc:conn b p k with
  |none=>
   rw[aC (by unfold atKey;simp)];simp only[dz,SB];exact i1
  |some u=>
   simp only[dz,SB];rw[ac_ (by omega),Eg hb.bT (fE hb.bT hp.c qK hc)];simp only[SB];cases hk2:(key b p u==f)with
   |true=>
    rw[aK (by unfold atKey;exact hk2)];rw[lz]at i2;exact i2
   |false=>
    rw[aC (by unfold atKey;simp only;rw[hk2];simp)];exact i1
theorem Sd (hb:yC b)(hp:aX b p){f:Nat}{c4:List (List PV)}:∀(m k:Nat) (O:List Nat),k+m=b.cons.length->O.length+m<=100->
  lp E (denC E) 179 0 [] 2 {vals:=[AV.int .i64 b.cons.length,AV.int .i64 k],aq:=[eG b,kq p,ofZ,ofB f b p,au.arr 1 c4,au.arr 1 (bF O)]}=some (Ex.exit 2,{vals:=[],aq:=[ofZ,.box [.sl 1 (bF (aZ b p f)),.t (.ak 2),.t (.ak 3)],au.arr 1 c4,au.arr 1 (bF (O++(List.range' k m).filter λi=>atKey b p (iF b p i) f))]}):=by
 have Fg:=hb.nc;have h6:=hb.n6;have hbl:=lO b p f;intro m
 induction m with
 |zero=>intro k O hk hO;rw[SY,ah,aC (by omega)];simp
 |succ m ih=>
  intro k O hk hO;have qK:k<b.cons.length:=by omega
  have i1:=ih (k+1) O (by omega) (by omega);have i2:=ih (k+1) (O++[k]) (by omega) (by simp;omega);rw[SY,ah,aK (by omega),afe hb hp qK,aU,ct (by omega),ue,ck (n:=(k:Int)+1) (by omega),aw k,en,An];cases hc:iF b p k with
  |none=>
   rw[aC (by unfold atKey;simp)];simp only[dz,SB];exact i1
  |some u=>
   simp only[dz,SB];rw[ac_ (by omega),Eg hb.bT (HJ hb.bT hp.c hc)];simp only[SB];cases hk2:(key b p u==f)with
   |true=>
    rw[aK (by unfold atKey;exact hk2)];rw[lz]at i2;exact i2
   |false=>
    rw[aC (by unfold atKey;simp only;rw[hk2];simp)];exact i1
theorem aii (hb:yC b)(hp:aX b p){j:Nat}(hj:j<b.n):denC E 179 [eH b,iQ p,AV.int .i64 (j:Int)] []=some ([RV.agg (fh b p (key b p j)),RV.p (PV.bool true)],[]):=by
 have h8:=hb.ng;have Fg:=hb.nc;have l0:=Se hb hp (f:=key b p j) (c5:=[]) b.ar.length 0 [] (dy _) (by simp;omega);rw[fC,<-iC,gq,show(List.range b.ar.length).filter (λi=>atKey b p (conn b p i) (key b p j))=av b p (key b p j) from rfl]at l0;have l2:=Sd hb hp (f:=key b p j) (c4:=bF (av b p (key b p j))) b.cons.length 0 [] (dy _) (by simp;omega);rw[fC,<-iC,gq,show(List.range b.cons.length).filter (λi=>atKey b p (iF b p i) (key b p j))=dw b p (key b p j) from rfl]at l2;rw[ai,ajN,tF hb hp,aaB hb.pB hp hj];simp only[fB,SB,Nat.reduceAdd];rw[b_ (show¬(j:Int)<0 by omega),rG (show¬(b.n:Int)<=(j:Int) by omega),dM,show lp E (denC E) 179 0 [] 0 {vals:=[AV.int .i64 b.ar.length,AV.int .i64 0],aq:=[eG b,kq p,ofZ,ofB (key b p j) b p,au.arr 1 [],au.arr 1 []]}=_ from l0];simp only[SB];rw[dE,show lp E (denC E) 179 0 [] 2 {vals:=[AV.int .i64 b.cons.length,AV.int .i64 0],aq:=[eG b,kq p,ofZ,ofB (key b p j) b p,au.arr 1 (bF (av b p (key b p j))),au.arr 1 []]}=_ from l2];simp only[SB];rfl
theorem Yh (hb:yC b)(hp:aX b p):∀(m k:Nat) (O:List (List PV)),k+m=b.n->O.length+m<=100->
  lp E (denC E) 155 0 [] 0 {vals:=[AV.int .i64 k],aq:=[eG b,kq p,au.arr 3 O]}=some (Ex.exit 0,{vals:=[],aq:=[au.arr 3 (O++((List.range' k m).filter λi=>key b p i==i).map (fh b p))]}):=by
 have h6:=hb.n6;intro m
 induction m with
 |zero=>intro k O hk hO;rw[S_,ah,aC (by omega)];simp
 |succ m ih=>
  intro k O hk hO;have AJ:k<b.n:=by omega
  have XA:=Ou (p:=p) hb.bT AJ;have ir:=Hh (p:=p) hb.bT AJ;obtain⟨jj,bl,EG,_⟩:=qT (b:=b) (p:=p) ((dW hb.bT).2 ⟨ir,XA⟩);obtain rfl:=fJ hb.bT ir XA EG;have i1:=ih (k+1) O (by omega) (by omega);have i2:=ih (k+1) (O++[fh b p (key b p k)]) (by omega) (by simp;omega);have e0:∀K:List PV->Option (Ex×Pack),aG (bF (aZ b p (key b p k))) 0 K=K [PV.int .i64 (key b p k:Int)]:=λK=>by
   rw[EG];exact cE (l:=key b p k::bl) (i:=0) K (by simp)
  rw[S_,ah,aK (by omega),aii hb hp AJ];unfold fh at i2|-;simp only[SB];rw[e0];simp only[SB];rw[ct (by omega),ck (n:=(k:Int)+1) (by omega),aw k,gi,en,An];cases hc:(key b p k==k)with
  |true=>
   have:key b p k=k:=by simpa using hc
   rw[aK rfl,qx];rw[lz]at i2;rw[this]at i2|-;exact i2
  |false=>rw[aC (by simp)];exact i1
theorem Nc (hb:yC b)(hp:aX b p):denC E 155 [eH b,iQ p] []=some ([RV.p (PV.sl 3 (cI b p))],[]):=by
 have h6:=hb.n6;have l0:=Yh hb hp b.n 0 [] (dy _) (by simp;omega);have he:(List.range b.n).filter (λi=>key b p i==i)=aH b p:=by
  unfold aH;refine qN λx hx=> ?_;have hx:=gR.1 hx;have hk:=dW (b:=b) (p:=p) hb.bT (f:=x);unfold aH at hk;rw[uO,gR]at hk;constructor
  ·intro h;exact(hk.2 ⟨hx,by simpa using h⟩).2
  ·intro h;simpa using(hk.1 ⟨hx,h⟩).2
 rw[fC,<-iC,gq,he]at l0;rw[ai,aj3,tF hb hp];simp only[fB,SB];rw[l0];simp only[SB];rfl
abbrev foB (p:Pw):au:=.box [.sl 1 (bC p),.t (.ak 3),.sl 1 (bE p),.sl 2 (bA p)]
abbrev foZ:au:=.box [.sl 1 [],.sl 4 [],.sl 1 [],.sl 2 []]
theorem Iz {α:Type}(v:α):∀(l:List α) (i:Nat),(upd v l i).length=l.length
 |[],_=>rfl
 |_::l,0=>rfl
 |x::l,i+1=>by show(upd v l i).length+1=_;rw[Iz v l i];rfl
theorem VZ (hp:aX b p){f l0:Nat}{L:List Nat}(hL:av b p f=l0::L){X B C:List (List PV)}{x y:Int}:∀(l pre:List Nat) (s:List gL),av b p f=pre++l->s.length=p.aA.length->(av b p f).length<=100->
  lp E (denC E) 121 0 [] 2 {vals:=[AV.sl 3 X,AV.int .i64 x,AV.int .i64 y,AV.sl 1 (bF (av b p f)),AV.int .i64 (av b p f).length,AV.int .i64 pre.length],aq:=[kq p,foZ,foB p,au.arr 4 (s.map kC),.box [.sl 1 B,.sl 1 (bF (av b p f)),.sl 1 C]]}=
   some (Ex.exit 2,{vals:=[AV.sl 3 X,AV.int .i64 x,AV.int .i64 y],aq:=[kq p,foZ,foB p,au.arr 4 ((yO s l (sr p l0)).map kC)]}):=by
 have hlt:∀i∈av b p f,i<p.aA.length:=λi hi=>by rw[hp.s];exact n7 hi
 intro l
 induction l with
 |nil=>
  intro pre s hl hs aeT;rw[LZ,ah,aC (by rw[hl];simp)];rfl
 |cons i l ih=>
  intro pre s hl hs aeT;have hpl:pre.length<(av b p f).length:=by rw[hl];simp
  have hg:(av b p f).getD pre.length 0=i:=by rw[hl];simp[List.getD]
  have hi:i<s.length:=by rw[hs];exact hlt i (by rw[hl];simp)
  have h0:l0<p.aA.length:=hlt l0 (by rw[hL];simp);have e1:(pre.length:Int)+1=((pre++[i]).length:Int):=by simp
  have eh:∀K:List PV->Option (Ex×Pack),aG (bF (av b p f)) 0 K=K [PV.int .i64 (l0:Int)]:=λK=>by
   rw[hL];exact cE (l:=l0::L) (i:=0) K (by simp)
  have ih':=ih (pre++[i]) (s.set i (jz (s.getD i default) (sr p l0))) (by rw[hl];simp) (by simpa using hs) aeT;rw[LZ,ah,aK (by omega),cE _ hpl,hg,eh];simp only[SB];rw[dv _ h0];simp only[SB];rw[eh];simp only[SB];rw[dv _ h0];simp only[SB];have hlen:(bg (s.map kC) i 2 [PV.int .i64 ((sr p l0).fr:Int)]).length=s.length:=by simp[bg,Iz]
  rw[bo,hlen,nS,bG hi,B_ hi,ck (n:=(pre.length:Int)+1) (by omega),e1];exact ih'
theorem V0 (hb:yC b)(hp:aX b p):∀(l pre:List Nat) (s:List gL),aH b p=pre++l->s.length=p.aA.length->
  lp E (denC E) 121 0 [] 0 {vals:=[AV.sl 3 (cI b p),AV.int .i64 (aH b p).length,AV.int .i64 pre.length],aq:=[kq p,foZ,foB p,au.arr 4 (s.map kC)]}=
   some (Ex.exit 0,{vals:=[],aq:=[foZ,.box [.sl 1 (bC p),.t (.ak 2),.sl 1 (bE p),.sl 2 (bA p)],au.arr 4 ((Bq b p l s).map kC)]}):=by
 have ir:=fU b p;have h6:=hb.n6;have h8:=hb.ng;intro l
 induction l with
 |nil=>
  intro pre s hl hs;rw[Td,ah,aC (by rw[hl];simp)];rfl
 |cons f l ih=>
  intro pre s hl hs;have hpl:pre.length<(aH b p).length:=by rw[hl];simp
  have hg:(aH b p).getD pre.length 0=f:=by rw[hl];simp[List.getD]
  have e1:(pre.length:Int)+1=((pre++[f]).length:Int):=by simp
  have uu:∀K:List PV->Option (Ex×Pack),aG (cI b p) (pre.length:Int) K=K (fh b p f):=λK=>by
   have:=bI (fh b p) 0 hpl K;rw[hg]at this;exact this
  have ak:=fO b p f;obtain⟨s',dL⟩:∃s',(match av b p f with|[]=>s|x::xs=>yO s (x::xs) (sr p x))=s':=⟨_,rfl⟩
  have hlen:s'.length=p.aA.length:=by rw[<-dL,<-hs];split<;>first|rfl|exact pF ..
  have l2:lp E (denC E) 121 0 [] 2 {vals:=[AV.sl 3 (cI b p),AV.int .i64 (aH b p).length,AV.int .i64 pre.length,AV.sl 1 (bF (av b p f)),AV.int .i64 (av b p f).length,AV.int .i64 0],aq:=[kq p,foZ,foB p,au.arr 4 (s.map kC),.box [.sl 1 (bF (aZ b p f)),.sl 1 (bF (av b p f)),.sl 1 (bF (dw b p f))]]}=some (Ex.exit 2,{vals:=[AV.sl 3 (cI b p),AV.int .i64 (aH b p).length,AV.int .i64 pre.length],aq:=[kq p,foZ,foB p,au.arr 4 (s'.map kC)]}):=by
   cases hsr:av b p f with
   |nil=>
    rw[hsr]at dL;simp only at dL;rw[<-dL,LZ,ah,aC (by simp)]
   |cons x xs=>
    have:=VZ hp hsr (X:=cI b p) (B:=bF (aZ b p f)) (C:=bF (dw b p f)) (x:=((aH b p).length:Int)) (y:=(pre.length:Int)) (av b p f) [] s rfl hs (by omega);rw[hsr]at this dL;simp only at dL;rw[dL]at this;exact this
  rw[Td,ah,aK (by omega),uu];unfold fh;simp only[SB,Nat.reduceAdd];rw[aU,l2];simp only[SB];rw[ck (n:=(pre.length:Int)+1) (by omega),e1,ih (pre++[f]) s' (by rw[hl];simp) hlen];show some (Ex.exit 0,_)=some (Ex.exit 0,_);rw[show Bq b p (f::l) s=Bq b p l s' by rw[<-dL];rfl]
theorem QT (hb:yC b)(hp:aX b p):denC E 67 [eH b,iQ p] []=some ([RV.agg [PV.sl 1 (bC (follow b p)),PV.sl 4 (bp (follow b p)),PV.sl 1 (bE (follow b p)),PV.sl 2 (bA (follow b p))],RV.p (PV.int .i64 0)],[]):=by
 have h1:=hb.nb;have h2:=hb.ng;have h3:=hb.nc;have h4:=hp.bk;have q1:=hp.c;have q2:=hp.s;have q3:=hp.l;have l0:=V0 hb hp (aH b p) [] p.aA rfl rfl;rw[iD,fC,Ka hb.pB hp]at l0;have hf:denC E 121 [eH b,iQ p] []=some ([RV.agg [PV.sl 1 (bC (follow b p)),PV.sl 4 (bp (follow b p)),PV.sl 1 (bE (follow b p)),PV.sl 2 (bA (follow b p))]],[]):=by
  have ahP:denC E 154 [iQ p] []=some ([Tw p],[]):=by
   rw[ai,aj4,dU,fP,mH,uF,ct (by omega),ct (by omega),ct (by omega),ct (by omega)];rfl
  rw[ai,akn,ahP,Nc hb hp];simp only[SB,Nat.reduceAdd];rw[show(cI b p).length=(aH b p).length by simp[cI],show lp E (denC E) 121 0 [] 0 {vals:=[AV.sl 3 (cI b p),AV.int .i64 (aH b p).length,AV.int .i64 0],aq:=[kq p,foZ,foB p,au.arr 4 (bp p)]}=_ from l0];simp only[SB];rfl
 rw[ai,r67,tF hb hp,hf];simp only[fB,SB]
variable {L:List Int}
theorem Ng (hL:L.length<=600)(hb:yC b){k:Nat}(hk:k<=600):∃(p:Pw) (k':Nat),denC E 29 [AV.t (.ptr 0 0),eH b] [src L k]=some ([RV.agg [PV.sl 1 (bC p),PV.sl 4 (bp p),PV.sl 1 (bE p),PV.sl 2 (bA p)]],[src L k'])/\aX b p/\j_ b p/\(∀i,i<b.ar.length->(sr p i).since<=4)/\k'<=600:=by
 obtain⟨p,k',h1,h2,h3,h4⟩:=aaR hL hb.pB hk;refine⟨follow b p,k',?_,h2.HF,wC h2,λi hi=>by rw[(jr i).2];exact h3 i hi,h4⟩;rw[ai,r29,h1];simp only[SB];rw[QT hb h2];simp only[SB]
abbrev plZ:au:=.box [.int .i64 0,.sl 1 [],.sl 4 [],.sl 1 [],.sl 2 [],.sl 2 [],.sl 5 []]
theorem YK (hL:L.length<=600)(h6:b.n<=6){t:Int}{c1 c2 c3 c4:List (List PV)}:∀(m i k:Nat) (R:List (Int×Int)),i+m=b.n->k<=600->R.length=i->(∀r∈R,Ez 4 r)->
  ∃k' R',lp E (denC E) 8 1 [] 0 {vals:=[AV.int .i64 (i:Int)],aq:=[src L k,eG b,plZ,.box [.int .i64 t,.sl 1 c1,.sl 4 c2,.sl 1 c3,.sl 2 c4,.t (.ak 4),.sl 5 []],.arr 2 (jN R)]}=
   some (Ex.exit 0,{vals:=[],aq:=[src L k',plZ,.box [.int .i64 t,.sl 1 c1,.sl 4 c2,.sl 1 c3,.sl 2 c4,.t (.ak 3),.sl 5 []],.arr 2 (jN R')]})/\k'<=600/\R'.length=b.n/\∀r∈R',Ez 4 r:=by
 intro m
 induction m with
 |zero=>
  intro i k R hi hk hR hr;refine⟨k,R,?_,hk,by omega,hr⟩;rw[agk,ah,aC (by omega)]
 |succ m ih=>
  intro i k R hi hk hR hr;obtain⟨v1,k1,e1,b1,b1',nz⟩:=qf hL hk (lo:=-1) (hi:=4) (by omega);obtain⟨v2,k2,e2,b2,b2',hk2⟩:=qf hL nz (lo:=-1) (hi:=4) (by omega);obtain⟨k',R',g1,g2,g3,g4⟩:=ih (i+1) k2 (R++[(v1,v2)]) (by omega) hk2 (by simp;omega) (λr h=>by
   rcases eO.1 h with h|h
   ·exact hr r h
   ·rw[jL.1 h];exact⟨b1,by show v1<=(4:Nat);omega,b2,by show v2<=(4:Nat);omega⟩)
  refine⟨k',R',?_,g2,g3,g4⟩;rw[agk,ah,aK (by omega),e1];simp only[SB];rw[e2];simp only[SB];rw[tU,ct (by omega),ck (n:=(i:Int)+1) (by omega),aw i,<-g1,show jN (R++[(v1,v2)])=jN R++[[PV.int .i64 v1,PV.int .i64 v2]] by simp[jN,PJ]];rfl
theorem aaS (hL:L.length<=600)(hb:yC b){k:Nat}(hk:k<=600):∃(t:Nat) (p:Pw) (R:List (Int×Int)) (k':Nat),denC E 8 [AV.t (.ptr 0 0),eH b] [src L k]=some ([plR t p (jN R) []],[src L k'])/\5<=t/\t<=20/\aX b p/\j_ b p/\(∀i,i<b.ar.length->(sr p i).since<=4)/\R.length=b.n/\(∀r∈R,Ez 4 r)/\k'<=600:=by
 obtain⟨v0,k1,e0,b0,b0',nz⟩:=qf hL hk (lo:=5) (hi:=20) (by omega);obtain⟨t,rfl⟩:∃t:Nat,v0=(t:Int):=⟨v0.toNat,by omega⟩
 obtain⟨p,k2,h1,h2,h3,h4,hk2⟩:=Ng hL hb nz;obtain⟨k3,R,l0,hk3,r1,r2⟩:=YK (b:=b) hL (by have:=hb.n4;omega) (t:=(t:Int)) (c1:=bC p) (c2:=bp p) (c3:=bE p) (c4:=bA p) b.n 0 k2 [] (dy _) hk2 rfl (by simp);rw[fC]at l0;refine⟨t,p,R,k3,?_,by omega,by omega,h2,h3,h4,r1,r2,hk3⟩;rw[ai,r8,e0];simp only[SB,Nat.reduceAdd];rw[h1];simp only[SB];rw[show lp E (denC E) 8 1 [] 0 {vals:=[AV.int .i64 0],aq:=[src L k2,eG b,plZ,.box [.int .i64 (t:Int),.sl 1 (bC p),.sl 4 (bp p),.sl 1 (bE p),.sl 2 (bA p),.t (.ak 4),.sl 5 []],.arr 2 []]}=_ from l0];simp only[SB]
end
end
section
section
variable {b:Bd} {p:Pw}
theorem aaX {b:Bd}{p:Pw}(hb:BV b):∀(l pre:List Nat),aH b p=pre++l->∃x:Ex×Pack,lp E (denC E) 84 0 [AV.undef,AV.fn 90 []] 0 {vals:=[AV.sl 3 (cI b p),AV.int .i64 (aH b p).length,AV.int .i64 pre.length],aq:=[]}=some x/\
  ((∃i:Nat,x=(Ex.ret,{vals:=[AV.int .i64 (i:Int)],aq:=[]})/\(l.any λf=> !(av b p f).isEmpty)=true)\/(x=(Ex.exit 0,{vals:=[],aq:=[]})/\(l.any λf=> !(av b p f).isEmpty)=false)):=by
 have ir:=fU b p;have h6:=hb.n6;have hc:∀f,denC E 90 [AV.agg [PV.sl 1 (bF (aZ b p f)),PV.sl 1 (bF (av b p f)),PV.sl 1 (bF (dw b p f))]] []=some ([RV.p (PV.bool (!(av b p f).isEmpty))],[]):=λf=>by
  rw[ai,r90,aU];cases av b p f with
  |nil=>rfl
  |cons x l=>rw[iz (by simp)];rfl
 intro l
 induction l with
 |nil=>
  intro pre hk;refine⟨_,?_,.inr ⟨rfl,rfl⟩⟩;rw[LX,ah,aC (by rw[hk];simp)]
 |cons f l ih=>
  intro pre hk;have hpl:pre.length<(aH b p).length:=by rw[hk];simp
  have hg:(aH b p).getD pre.length 0=f:=by rw[hk];simp[List.getD]
  have e1:(pre.length:Int)+1=((pre++[f]).length:Int):=by simp
  have uu:∀K:List PV->Option (Ex×Pack),aG (cI b p) (pre.length:Int) K=K (fh b p f):=λK=>by
   have:=bI (fh b p) 0 hpl K;rw[hg]at this;exact this
  obtain⟨x,h1,h2⟩:=ih (pre++[f]) (by rw[hk];simp);cases hs:(!(av b p f).isEmpty)with
  |true=>
   refine⟨(Ex.ret,{vals:=[AV.int .i64 (pre.length:Int)],aq:=[]}),?_,.inl ⟨pre.length,rfl,by rw[List.any_cons,hs];rfl⟩⟩;rw[LX,ah,aK (by omega),uu];unfold fh;simp only[SB];rw[hc,hs];rfl
  |false=>
   refine⟨x,?_,?_⟩
   ·rw[LX,ah,aK (by omega),uu];unfold fh;simp only[SB];rw[hc,hs,ck (n:=(pre.length:Int)+1) (by omega),e1,h1];rfl
   ·rw[List.any_cons,hs,vR];exact h2
theorem O6 (hb:BV b)(hp:aX b p):denC E 46 [eH b,iQ p] []=some ([RV.p (PV.bool (!((aH b p).any λf=> !(av b p f).isEmpty)))],[]):=by
 obtain⟨x,h1,h2⟩:=aaX (p:=p) hb (aH b p) [] rfl;rw[iD,fC]at h1;have hc:denC E 89 [AV.sl 3 (cI b p),AV.fn 90 []] []=some ([RV.p (PV.bool ((aH b p).any λf=> !(av b p f).isEmpty))],[]):=by
  rw[ai,ajz,ai,ajA,show(cI b p).length=(aH b p).length by simp[cI],h1];rcases h2 with⟨i,rfl,h3⟩|⟨rfl,h3⟩
  ·rw[h3];simp only[SB];rw[aL (show(0:Int)<=(i:Int) by omega)]
  ·rw[h3];rfl
 rw[ai,r46,eM hb hp,mP hb hp];simp only[SB];rw[hc];rfl
end
def aB:Bd:=⟨1,[⟨2,0,0⟩],[⟨10,0,1⟩],[],0,0⟩
def aP (c:Bool)(s ph:Nat):Pw:=⟨[c],[⟨s,0,5000,ph⟩],[],[]⟩
theorem O9:yC aB:=by
 have p0:ma ⟨1,[],[],[],0,0⟩:=⟨by decide,by decide,by decide,by decide,⟨λx hx=>(by cases hx),.nil,.nil⟩,λu hu=>absurd hu (rr _),λu hu=>absurd hu (rr _),λx hx=>(by cases hx),λu hu=>absurd hu (rr _)⟩
 have p1:=p0.src (a:=0) (x:=⟨10,0,1⟩) (by decide) ⟨by decide,by decide,by decide,by decide⟩;exact p1.mkb (by decide) (by decide) (by decide)
theorem Gy {c:Bool}{s ph:Nat}(hs:s<=3)(hph:ph<3600):aX aB (aP c s ph):=by
 refine⟨rfl,rfl,rfl,λx hx=> ?_,λi hi=>absurd hi (rr _),rz _,λx hx=>(by cases hx),.nil,λu hu=>absurd hu (rr _)⟩;rw[jL.1 hx];exact⟨hs,rz _,by show 5000<=6000;decide,hph⟩
theorem afs {s ph:Nat}:j_ aB (aP false s ph):=by
 intro x y hx hy ⟨u,v,h1,h2,h3⟩;have:x=0:=by have:x<1:=hx;omega
 subst this;have:y=0:=by have:y<1:=hy;omega
 subst this;exact⟨rfl,rfl⟩
theorem aiy:denC E 44 [eH aB,AV.agg [PV.int .i64 90,PV.int .i64 10,PV.int .i64 2]] []=some ([plR 0 (aP false 0 0) (jN [(-1,-1)]) [],RV.p (PV.int .i64 0)],[]):=by
 have hT:denC E 39 [AV.agg [PV.int .i64 90,PV.int .i64 10,PV.int .i64 2]] []=some ([RV.p (PV.bool true)],[]):=yj (t:=⟨90,10,2⟩) ⟨by decide,by decide,by decide,by decide,by decide⟩;have hI:denC E 87 [AV.int .i64 ((1:Nat):Int)] []=some ([RV.own 2 (jN (List.replicate 1 (-1,-1)))],[]):=WG 1 (by decide);have hR:denC E 88 [AV.sl 4 [[PV.int .i64 0,PV.int .i64 0,PV.int .i64 5000,PV.int .i64 0]],AV.int .i64 1] []=some ([RV.own 4 [[PV.int .i64 0,PV.int .i64 0,PV.int .i64 5000,PV.int .i64 0]]],[]):=by
  rw[ai];rfl
 have l1:∀(x0 x1 x2 x3 x4 x5 y1 y2 y4 y5 y6:List (List PV)) (z y0:Int),lp E (denC E) 44 0 [] 1 {vals:=[AV.sl 5 [],AV.int .i64 0,AV.int .i64 0],aq:=[.box [.int .i64 z,.sl 1 x0,.sl 4 x1,.sl 1 x2,.sl 2 x3,.sl 2 x4,.sl 5 x5],.box [.int .i64 y0,.sl 1 y1,.sl 4 y2,.t (.ak 2),.sl 2 y4,.sl 2 y5,.sl 5 y6],.arr 1 []]}=some (Ex.exit 1,{vals:=[],aq:=[.box [.int .i64 z,.sl 1 x0,.sl 4 x1,.sl 1 x2,.sl 2 x3,.sl 2 x4,.sl 5 x5],.box [.int .i64 y0,.sl 1 y1,.sl 4 y2,.t (.ak 2),.sl 2 y4,.sl 2 y5,.sl 5 y6],.arr 1 []]}):=by
  intros;rw[agp];rfl
 rw[ai,r44,H3 O9.pB,hT];simp only[fB,SB,Nat.reduceAdd];rw[show denC E 87 [AV.int .i64 (aB.n:Int)] []=_ from hI];simp only[SB];rw[show denC E 88 [AV.sl 4 [[PV.int .i64 0,PV.int .i64 0,PV.int .i64 5000,PV.int .i64 0]],AV.int .i64 ((oW aB).length:Int)] []=_ from hR];simp only[SB];rw[show lp E (denC E) 44 0 [] 1 {vals:=[AV.sl 5 (nQ aB),AV.int .i64 ((nQ aB).length:Int),AV.int .i64 0],aq:=[.box [.int .i64 0,.sl 1 [],.sl 4 [],.sl 1 [],.sl 2 [],.sl 2 [],.sl 5 []],.box [.int .i64 0,.sl 1 (dm [PV.bool false] ((fW aB).length:Int).toNat),.sl 4 [[PV.int .i64 0,PV.int .i64 0,PV.int .i64 5000,PV.int .i64 0]],.t (.ak 2),.sl 2 [],.sl 2 (jN (List.replicate 1 (-1,-1))),.sl 5 []],.arr 1 []]}=_ from l1 ..];rfl
theorem afp:denC E 20 [eH aB,iQ (aP false 0 0)] []=some ([RV.p (PV.sl 3 (cH [⟨3,0,0⟩,⟨7,0,0⟩,⟨1,0,0⟩])),RV.p (PV.int .i64 0)],[]):=by
 have hb:=O9;have hp:aX aB (aP false 0 0):=Gy (by decide) (by decide);obtain⟨acts,e,q,pa,h1,h2,h3⟩:=aff hb.pB hp;have hq:q=aP false 0 0:=by
  have c1:=h1.ok.c;have c3:=h1.ok.l;have c4:=(h1.fl afs).1;have c5:=h1.bk;have c6:q.closed=[false]:=by
   obtain⟨qc,qs,ql,qb⟩:=q;simp only at c1|-;have c1:qc.length=1:=c1
   match qc,c1 with
   |[v],_=>
    cases v with
    |false=>rfl
    |true=>exact absurd (h1.cs 0 rfl) (by decide)
  have c7:q.gJ=[]:=qw.1 c3;obtain⟨qc,qs,ql,qb⟩:=q;simp only at c4 c5 c6 c7;subst c6 c7 c4 c5;rfl
 rcases h3 with⟨_,_,h4⟩|⟨rfl,_,L,C,p4,h5⟩
 ·exact(h4 hq.symm (by decide) (by decide) (by decide)).elim
 ·obtain⟨g1,g2,g3⟩:=h5;have ex:(List.range aB.ar.length).foldl (mg aB) (opens (aP false 0 0) (gm aB (aP false 0 0)),[],0)=(aP false 2 0,[⟨3,0,0⟩],1):=by rfl
  have ey:XG aB (aP false 2 0)=(aP true 2 0,[0]):=by rfl
  rw[ex]at g1 g3;simp only at g1 g3;rw[ey]at g1 g3;simp only at g1 g3;have hC:C=[]/\p4=aP true 2 0:=by
   cases g1 with
   |nil=>exact⟨rfl,rfl⟩
   | @cons _ _ i l k1 k2 _ _=>
    have:i=0:=by have:i<1:=k2;omega
    subst this;exact absurd k1.1 (by decide)
  obtain⟨rfl,rfl⟩:=hC;have hL:L.foldl (wJ aB) (aP true 2 0,[])=(aP true 2 0,[]):=by
   have w:∀c,svF aB (aP true 2 0) c=none:=λc=>by
    unfold svF;rw[CG];intro i hi;have:i=0:=by have:i<1:=gR.1 hi;omega
    subst this;unfold X7;rw[show((br aB 0).k==3)=false from rfl,Bg];exact Bool.false_ne_true
   clear g3
   induction L with
   |nil=>rfl
   |cons c L ih=>
    have e:wJ aB (aP true 2 0,[]) c=(aP true 2 0,[]):=by
     unfold wJ;split
     ·simp only;rw[w c]
     ·rfl
    rw[je,e];exact ih
  rw[hL]at g3;rw[h2,g3];rfl
theorem afr:iH aB (aP false 0 0) 0 ⟨3,0,0⟩=some (aP false 1 0):=by rfl
theorem afo:bt aB (aP false 1 0) 0=aP false 2 0:=by rfl
theorem afq:iH aB (aP false 2 0) 1 ⟨1,0,0⟩=some (aP true 2 0):=by rfl
theorem aix:denC E 45 [eH aB,iQ (aP false 0 0),AV.int .i64 0,AV.sl 3 (cH [⟨3,0,0⟩,⟨7,0,0⟩,⟨1,0,0⟩])] []=some ([RV.agg [PV.sl 1 (bC (aP true 2 0)),PV.sl 4 (bp (aP true 2 0)),PV.sl 1 (bE (aP true 2 0)),PV.sl 2 (bA (aP true 2 0))],RV.p (PV.int .i64 1),RV.p (PV.int .i64 3),RV.p (PV.int .i64 0)],[]):=by
 have hb:=O9;have p0:aX aB (aP false 0 0):=Gy (by decide) (by decide);have p1:aX aB (aP false 1 0):=Gy (by decide) (by decide);have p2:aX aB (aP false 2 0):=Gy (by decide) (by decide);obtain⟨e1,_,h1⟩:=W6 hb.pB p0 (t:=0) (by decide) (a:=⟨3,0,0⟩) (.inr (.inl ⟨.inl rfl,by decide⟩));rw[afr]at h1;have h2:=WL hb.pB p1 (t:=0) (by decide) 0 0;rw[afo]at h2;obtain⟨e3,_,h3⟩:=W6 hb.pB p2 (t:=1) (by decide) (a:=⟨1,0,0⟩) (.inl ⟨.inl rfl,by decide⟩);rw[afq]at h3;have g0:∀K:List PV->Option (Ex×Pack),aG (cH [⟨3,0,0⟩,⟨7,0,0⟩,⟨1,0,0⟩]) 0 K=K [PV.int .i64 3,PV.int .i64 0,PV.int .i64 0]:=λK=>rfl;have g1:∀K:List PV->Option (Ex×Pack),aG (cH [⟨3,0,0⟩,⟨7,0,0⟩,⟨1,0,0⟩]) 1 K=K [PV.int .i64 7,PV.int .i64 0,PV.int .i64 0]:=λK=>rfl;have g2:∀K:List PV->Option (Ex×Pack),aG (cH [⟨3,0,0⟩,⟨7,0,0⟩,⟨1,0,0⟩]) 2 K=K [PV.int .i64 1,PV.int .i64 0,PV.int .i64 0]:=λK=>rfl;rw[ai,r45,eM hb.pB p0,fy (p0.sm hb.pB)];simp only[fB,SB,Nat.reduceAdd];rw[show((cH [⟨3,0,0⟩,⟨7,0,0⟩,⟨1,0,0⟩]).length:Int)=3 from rfl,NZ,show aT 0 3=true from rfl,ay,g0];simp only[SB];rw[show denC E 72 [eH aB,iQ (aP false 0 0),AV.int .i64 0,AV.agg [PV.int .i64 3,PV.int .i64 0,PV.int .i64 0]] []=_ from h1];simp only[fB,SB];rw[show((3:Int)==7)=false from rfl,aF,show IntKind.i64.wrap (0+1)=1 from rfl,NZ,show aT 1 3=true from rfl,ay,g1];simp only[SB];rw[show denC E 72 [eH aB,iQ (aP false 1 0),AV.int .i64 0,AV.agg [PV.int .i64 7,PV.int .i64 0,PV.int .i64 0]] []=_ from h2];simp only[fB,SB];rw[show((7:Int)==7)=true from rfl,ay,show IntKind.i64.wrap (0+1)=1 from rfl,show IntKind.i64.wrap (1+1)=2 from rfl,NZ,show aT 2 3=true from rfl,ay,g2];simp only[SB];rw[show denC E 72 [eH aB,iQ (aP false 2 0),AV.int .i64 1,AV.agg [PV.int .i64 1,PV.int .i64 0,PV.int .i64 0]] []=_ from h3];simp only[fB,SB];rw[show((1:Int)==7)=false from rfl,aF,show IntKind.i64.wrap (2+1)=3 from rfl,NZ,show aT 3 3=false from rfl,aF];simp only[SB];rfl
theorem aaM:denC E 15 [] []=some ([RV.p (PV.bool true)],[]):=by
 have hb:=O9;have p0:aX aB (aP false 0 0):=Gy (by decide) (by decide);have p3:aX aB (aP true 2 0):=Gy (by decide) (by decide);have b0:=O6 hb.pB p0;have b3:=O6 hb.pB p3;rw[show((aH aB (aP false 0 0)).any λf=> !(av aB (aP false 0 0) f).isEmpty)=false by rfl]at b0;rw[show((aH aB (aP true 2 0)).any λf=> !(av aB (aP true 2 0) f).isEmpty)=true by rfl]at b3;rw[ai,r15,show denC E 44 [AV.agg [PV.int .i64 1,PV.sl 3 [[PV.int .i64 2,PV.int .i64 0,PV.int .i64 0]],PV.sl 3 [[PV.int .i64 10,PV.int .i64 0,PV.int .i64 1]],PV.sl 5 [],PV.int .i64 0,PV.int .i64 0],AV.agg [PV.int .i64 90,PV.int .i64 10,PV.int .i64 2]] []=_ from aiy];simp only[SB];rw[show denC E 20 [AV.agg [PV.int .i64 1,PV.sl 3 [[PV.int .i64 2,PV.int .i64 0,PV.int .i64 0]],PV.sl 3 [[PV.int .i64 10,PV.int .i64 0,PV.int .i64 1]],PV.sl 5 [],PV.int .i64 0,PV.int .i64 0],AV.agg [PV.sl 1 (bC (aP false 0 0)),PV.sl 4 (bp (aP false 0 0)),PV.sl 1 (bE (aP false 0 0)),PV.sl 2 (bA (aP false 0 0))]] []=_ from afp];simp only[SB];rw[show denC E 45 [AV.agg [PV.int .i64 1,PV.sl 3 [[PV.int .i64 2,PV.int .i64 0,PV.int .i64 0]],PV.sl 3 [[PV.int .i64 10,PV.int .i64 0,PV.int .i64 1]],PV.sl 5 [],PV.int .i64 0,PV.int .i64 0],AV.agg [PV.sl 1 (bC (aP false 0 0)),PV.sl 4 (bp (aP false 0 0)),PV.sl 1 (bE (aP false 0 0)),PV.sl 2 (bA (aP false 0 0))],AV.int .i64 0,AV.sl 3 (cH [⟨3,0,0⟩,⟨7,0,0⟩,⟨1,0,0⟩])] []=_ from aix];simp only[SB];rw[show denC E 46 [AV.agg [PV.int .i64 1,PV.sl 3 [[PV.int .i64 2,PV.int .i64 0,PV.int .i64 0]],PV.sl 3 [[PV.int .i64 10,PV.int .i64 0,PV.int .i64 1]],PV.sl 5 [],PV.int .i64 0,PV.int .i64 0],AV.agg [PV.sl 1 (bC (aP false 0 0)),PV.sl 4 (bp (aP false 0 0)),PV.sl 1 (bE (aP false 0 0)),PV.sl 2 (bA (aP false 0 0))]] []=_ from b0];simp only[SB];rw[show denC E 46 [AV.agg [PV.int .i64 1,PV.sl 3 [[PV.int .i64 2,PV.int .i64 0,PV.int .i64 0]],PV.sl 3 [[PV.int .i64 10,PV.int .i64 0,PV.int .i64 1]],PV.sl 5 [],PV.int .i64 0,PV.int .i64 0],AV.agg [PV.sl 1 (bC (aP true 2 0)),PV.sl 4 (bp (aP true 2 0)),PV.sl 1 (bE (aP true 2 0)),PV.sl 2 (bA (aP true 2 0))]] []=_ from b3];rfl
end
section
theorem filter_one {l:List Nat}(hn:l.Nodup){a:Nat}(ha:a∈l){P:Nat->Bool}(h:∀x∈l,P x=true↔x=a):l.filter P=[a]:=by
 have e:l.filter P=l.filter (· ==a):=xg λx hx=>by
  by_cases Vk:x=a
  ·rw[(h x hx).2 Vk];simp[Vk]
  ·have:P x=false:=by cases hp:P x;rfl;exact absurd ((h x hx).1 hp) Vk
   rw[this];simp[Vk]
 rw[e,List.filter_beq,hn.count,aK ha];rfl
section
variable {b:Bd} {p:Pw} {tb:p_}
theorem adA (hb:BV b){i:Nat}:∀(m k:Nat) (F:List Nat),k+m=b.aO.length->F.length+m<=1000->
  lp E (denC E) 17 0 [] 0 {vals:=[AV.int .i64 2,AV.int .i64 (i:Int),AV.sl 3 (fW b),AV.int .i64 b.aO.length,AV.int .i64 k],aq:=[.arr 1 (bF F)]}=
   some (Ex.exit 0,{vals:=[],aq:=[.arr 1 (bF (F++(List.range' k m).filter λj=>(br b j).k==2&&(br b j).b==i))]}):=by
 have sg:=hb.nb;intro m
 induction m with
 |zero=>
  intro k F hk _;rw[afH,ah,aC (by omega)];simp
 |succ m ih=>
  intro k F hk hF;have hkb:k<b.aO.length:=by omega
  have i1:=ih (k+1) F (by omega) (by omega);have i2:=ih (k+1) (F++[k]) (by omega) (by simp;omega);have hf:(k::List.range' (k+1) m).filter (λj=>(br b j).k==2&&(br b j).b==i)=(if ((br b k).k==2&&(br b k).b==i)=true then[k] else[])++(List.range' (k+1) m).filter λj=>(br b j).k==2&&(br b j).b==i:=by
   rw[An];split<;>rfl
  rw[afH,ah,aK (by omega),cF _ hkb];simp only[SB,Nat.reduceAdd];rw[ck (n:=(k:Int)+1) (by omega),aw k,aU,ct (by omega),ue,en,hf,<-lz,show((2:Int)==1)=false from rfl,show(((br b k).b:Int)==(i:Int))=((br b k).b==i) by simp[gi],show(((br b k).k:Int)==2)=((br b k).k==2) by rw[rK]];rw[i1,i2];cases(br b k).k==2<;>cases(br b k).b==i<;>simp only[Bg,CH,GZ,oQ,vg,yZ,uN,SB,Nat.reduceAdd]
theorem aiv (hb:BV b){i:Nat}(hi:i<b.ar.length):denC E 17 [eH b,AV.int .i64 2,AV.int .i64 (i:Int)] []=some ([RV.p (PV.sl 1 (bF [cL b i]))],[]):=by
 have l0:=adA hb (i:=i) _ 0 [] (dy _) (by have:=hb.nb;simp;omega);rw[fC,<-iC,gq]at l0;obtain⟨s1,s2,s3⟩:=bu hb.bT hi;rw[filter_one (a:=cL b i) FP (gR.2 s1) (λx hx=>⟨λh=>by
  simp only[bO,w8]at h;exact yS hb.bT (gR.1 hx) h.1 h.2,λh=>by subst h;simp[s2,s3]⟩)]at l0
 rw[ai,r17,H3 hb];simp only[fB,SB,Nat.reduceAdd];rw[bS,show lp E (denC E) 17 0 [] 0 {vals:=[AV.int .i64 2,AV.int .i64 (i:Int),AV.sl 3 (fW b),AV.int .i64 (b.aO.length:Int),AV.int .i64 0],aq:=[.arr 1 []]}=_ from l0];simp only[SB,Nat.reduceAdd]
theorem aeD {t u:Nat}{q:Pw}{s:List Pw}(h:BS b t p ⟨2,u,0⟩ q s):∀i,(sr q i).since=(sr p i).since:=by
 rcases h with⟨_,rfl,_⟩|⟨x,acts,h1,h2,_⟩
 ·exact λi=>rfl
 ·intro i;rw[(h2.sr i).2];have h1:rE b p u=some x:=h1;unfold rE at h1;split at h1
  ·cases h1;rfl
  ·cases h1
theorem aeR (hb:BV b){R:List (List PV)}(hR:R.length<=1000){t:Nat}(ht:t<=2147483648){y0 y1 y2:Int}:∀(m k:Nat) (p:Pw) (Ev:List (List PV)),k+m=b.ar.length->aX b p->j_ b p->Ev.length<=5001*k->
  ∃p' XJ,lp E (denC E) 4 0 [] 0 {vals:=[AV.int .i64 b.ar.length,AV.int .i64 k],aq:=[eG b,.box [.int .i64 y0,.int .i64 y1,.int .i64 y2],PW t p R Ev]}=
   some (Ex.exit 0,{vals:=[],aq:=[eG b,.box [.int .i64 y0,.int .i64 y1,.int .i64 y2],PW t p' R XJ]})/\aX b p'/\j_ b p'/\(∀i,(sr p' i).since=(sr p i).since)/\XJ.length<=5001*b.ar.length:=by
 have h8:=hb.ng;intro m
 induction m with
 |zero=>
  intro k p Ev hk hp hf hE;refine⟨p,Ev,?_,hp,hf,λi=>rfl,by rw[<-hk];exact hE⟩;rw[ajb,ah,aC (by omega)]
 |succ m ih=>
  intro k p Ev hk hp hf hE;have qK:k<b.ar.length:=by omega
  obtain⟨s1,s2,s3⟩:=bu hb.bT qK;obtain⟨p1,Ev1,st,d1,d2,d3,d4⟩:=anU hb hp hf ht hR (Ev:=Ev) (by omega) (a:=⟨2,cL b k,0⟩) (.inl ⟨.inr rfl,s1⟩);obtain⟨La,VJ⟩:=d2.ok hp hf;obtain⟨p',XJ,g1,g2,g3,g4,g5⟩:=ih (k+1) p1 Ev1 (by omega) La VJ (by omega);refine⟨p',XJ,?_,g2,g3,λi=>(g4 i).trans (aeD d2 i),g5⟩;rw[ajb,ah,aK (by omega),aiv hb qK];simp only[SB,Nat.reduceAdd];rw[aU,show((([cL b k]:List Nat).length:Int) !=1)=false from rfl];have e0:∀K:List PV->Option (Ex×Pack),aG (bF [cL b k]) 0 K=K [PV.int .i64 (cL b k:Int)]:=λK=>cE (l:=[cL b k]) (i:=0) K (by simp);simp only[SB,Nat.reduceAdd];rw[e0];simp only[SB,Nat.reduceAdd];rw[show denC E 18 [eH b,YL t p R Ev,AV.agg [PV.int .i64 2,PV.int .i64 (cL b k:Int),PV.int .i64 0]] []=_ from d1];simp only[fB,SB,Nat.reduceAdd];rw[ck (n:=(k:Int)+1) (by omega),aw k];exact g1
theorem aeQ (hb:BV b)(hp:aX b p)(hl:∀j,j<b.n->(gF b p).getD j false=true->aY b p j=true){G:List Bool}(hG:G=gF b p){z0:Int}{z5 z6:List (List PV)}:∀(m k:Nat),k+m=b.n->
  lp E (denC E) 4 0 [] 2 {vals:=[AV.sl 1 (p7 G),AV.int .i64 b.n,AV.int .i64 k],aq:=[eG b,.box [.int .i64 z0,.sl 1 (bC p),.sl 4 (bp p),.sl 1 (bE p),.sl 2 (bA p),.sl 2 z5,.sl 5 z6]]}=
   some (Ex.exit 2,{vals:=[],aq:=[eG b,.box [.int .i64 z0,.sl 1 (bC p),.sl 4 (bp p),.sl 1 (bE p),.sl 2 (bA p),.sl 2 z5,.sl 5 z6]]}):=by
 have h6:=hb.n6;have N7:=DJ (p:=p) hb.bT;intro m
 induction m with
 |zero=>intro k hk;rw[aja,ah,aC (by omega)]
 |succ m ih=>
  intro k hk;have AJ:k<b.n:=by omega
  rw[aja,ah,aK (by omega),p7,bI vG false (by rw[hG,N7];exact AJ)];simp only[vG,SB,Nat.reduceAdd];rw[nE hb hp AJ];simp only[SB,Nat.reduceAdd];have i1:=ih (k+1) (by omega);rw[p7]at i1;have hv:(G.getD k false&& !aY b p k)=false:=by
   cases hg:G.getD k false with
   |false=>rfl
   |true=>rw[hl k AJ (by rw[<-hG];exact hg)];rfl
  rw[ck (n:=(k:Int)+1) (by omega),aw k,i1];revert hv;cases G.getD k false<;>cases aY b p k<;>intro hv<;>first|(cases hv;done)|simp only[Aq,FM,SB,Nat.reduceAdd]
end
end
section
section
variable {b:Bd} {p:Pw} {tb:p_}
theorem acI {t:Nat}{old:Int}{h:Bool}(hd:tb.p6=600)(ht:t<600)(ho:-1<=old/\old<=t):fq tb t (cp old h t)=false:=by
 unfold fq cp;rw[hd];cases h with
 |false=>rfl
 |true=>
  by_cases h1:old=-1
  ·simp[h1]
  ·simp[h1];omega
theorem acZ {t j:Nat}{r:Int×Int}(hd:tb.p6=600)(ht:t<600)(hr:Ez t r):(dQ b tb p j t r).2=[]:=by
 unfold dQ;simp only[acI hd ht ⟨hr.1,hr.2.1⟩,acI hd ht ⟨hr.2.2.1,hr.2.2.2⟩,oP]
theorem aeg {p0:Pw}{t:Nat}{l0:List (Int×Int)}(hd:tb.p6=600)(ht:t<600)(h0:∀r∈l0,Ez t r){l:List Nat}{iB eQ:List (Int×Int)}{p':Pw}{s:List Pw}(h:rW b tb t p0 l0 l p iB p' eQ s):p'=p/\s=[]:=by
 induction h with
 |nil=>exact⟨rfl,rfl⟩
 |skip _ _ _ ih=>exact ih
 |step h1 h2 h3 h4 h5 ih=>
  rename_i f j bl l p q p' iB eQ s s';have hr:Ez t (l0.getD j (0,0)):=by
   rw[dD];cases hg:l0[j]? with
   |none=>exact⟨by decide,by show(0:Int)<=t;omega,by decide,by show(0:Int)<=t;omega⟩
   |some r=>exact h0 r (eC hg)
  rw[acZ hd ht hr]at h4;obtain⟨rfl,rfl⟩:=h4.Mh;obtain⟨e1,e2⟩:=ih;exact⟨e1,by rw[e2];rfl⟩
theorem aeA {t t':Nat}{q r:Pw}{l m:List Act}{w:Act}{s:List Pw}(hw:w.k=7)(h7:∀a∈l,a.k≠7)(h:BT b t p l q s)(h2:Q0 b (t+1) (bt b q t) m t' r):Q0 b t p (l++w::m) t' r:=by
 induction h with
 |nil=>exact .wait hw h2
 |cons g1 g2 ih=>exact .act (h7 _ (by simp)) g1 (ih (λa ha=>h7 a (by simp[ha])) h2)
abbrev zpl:au:=.box [.int .i64 0,.sl 1 [],.sl 4 [],.sl 1 [],.sl 2 [],.sl 2 [],.sl 5 []]
theorem aeh (hb:BV b)(hT:Ri tb)(hd:tb.p6=600){L:List Act}(hLl:L.length<=1000)(hA:∀a∈L,a.k=7\/tL b a):∀(l pre acc:List Act) (t:Nat) (p:Pw) (R:List (Int×Int)) (Ev:List (List PV)),L=pre++l->(∀a∈acc,a.k≠7/\tL b a)->acc.length+l.length<=150->t+l.length<=550->aX b p->j_ b p->R.length=b.n->(∀r∈R,Ez t r)->Ev.length<=1000000->((l=[]/\acc=[])\/∃m w,w.k=7/\l=m++[w])->
  ∃t' p' R' XJ,lp E (denC E) 22 0 [] 0 {vals:=[AV.sl 3 (cH L),AV.int .i64 L.length,AV.int .i64 pre.length],aq:=[eG b,qh tb,PW t p (jN R) Ev,zpl,.arr 3 (cH acc)]}=
   some (Ex.exit 0,{vals:=[],aq:=[PW t' p' R' XJ,zpl]})/\Q0 b t p (acc++l) t' p':=by
 have h6:=hb.n6;intro l
 induction l with
 |nil=>
  intro pre acc t p R Ev hL hac hlen htl hp hf hR hI hE hend;refine⟨t,p,jN R,Ev,?_,?_⟩
  ·rw[aei,ah,aC (by rw[hL];simp)]
  ·rcases hend with⟨_,rfl⟩|⟨m,w,_,hm⟩
   ·exact .nil t p
   ·simp at hm
 |cons a l ih=>
  intro pre acc t p R Ev hL hac hlen htl hp hf hR hI hE hend;rw[cM]at hlen htl;have hpl:pre.length<L.length:=by rw[hL];simp
  have hg:L.getD pre.length default=a:=by rw[hL];simp[List.getD]
  have uu:∀K:List PV->Option (Ex×Pack),aG (cH L) (pre.length:Int) K=K [PV.int .i64 (a.k:Int),PV.int .i64 (a.u:Int),PV.int .i64 (a.v:Int)]:=λK=>by
   have:=bI acK default hpl K;rw[hg]at this;exact this
  have e1:(pre.length:Int)+1=((pre++[a]).length:Int):=by simp
  have ham:a∈L:=by rw[hL];simp
  have afS:∀m w,w.k=7->a::l=m++[w]->(a=w/\l=[])\/∃m',l=m'++[w]:=λm w hw hm=>by
   cases m with
   |nil=>cases hm;exact .inl ⟨rfl,rfl⟩
   |cons x m=>cases hm;exact .inr ⟨m,rfl⟩
  by_cases h7:a.k=7
  ·obtain⟨p1,s1,p2,iB,s2,ev,a1,a2,a3,a4,a5,a6,a7,a8,a9⟩:=ae9 hb hT hp hf (show t<2147483648 by omega) hR hI (Ev:=Ev) hE (L:=acc) (by omega) (λx hx=>(hac x hx).2);obtain⟨rfl,rfl⟩:=aeg hd (show t<600 by omega) hI a3;have hst:=afd a1;have hEl:=F3 (Ev++ev);obtain⟨t',p',R',XJ,g1,g2⟩:=ih (pre++[a]) [] (t+1) (bt b p2 t) iB (JG (Ev++ev)) (by rw[hL];simp) (λx hx=>by cases hx) (by simp;omega) (by omega) (a5.B0 t) (tj hb.bT a5 t a6) a7 (λr hr=>by obtain⟨q1,q2,q3,q4⟩:=a8 r hr;exact⟨q1,by omega,q3,by omega⟩) (by omega) (by
    rcases hend with⟨h,_⟩|⟨m,w,hw,hm⟩
    ·cases h
    ·rcases afS m w hw hm with⟨_,h⟩|⟨m',h⟩
     ·exact .inl ⟨h,rfl⟩
     ·exact .inr ⟨m',w,hw,h⟩)
   refine⟨t',p',R',XJ,?_,aeA h7 (λx hx=>(hac x hx).1) a2 g2⟩;rw[aei,ah,aK (by omega),uu];simp only[SB,Nat.reduceAdd];rw[h7,show(((7:Nat):Int) !=7)=false from rfl,aF,show denC E 10 [eH b,vL tb,YL t p (jN R) Ev,AV.sl 3 (cH acc)] []=_ from hst];simp only[fB,SB,Nat.reduceAdd];rw[iZ,b_ (by omega)];simp only[SB,Nat.reduceAdd];rw[ck (n:=(pre.length:Int)+1) (by omega),e1];exact g1
  ·have hak:tL b a:=by
    rcases hA a ham with h|h
    ·exact absurd h h7
    ·exact h
   obtain⟨t',p',R',XJ,g1,g2⟩:=ih (pre++[a]) (acc++[a]) t p R Ev (by rw[hL];simp) (λx hx=>by
    rcases eO.1 hx with h|h
    ·exact hac x h
    ·rw[jL.1 h];exact⟨h7,hak⟩) (by simp;omega) (by omega) hp hf hR hI hE (by
    rcases hend with⟨h,_⟩|⟨m,w,hw,hm⟩
    ·cases h
    ·rcases afS m w hw hm with⟨h,_⟩|⟨m',h⟩
     ·rw[h]at h7;exact absurd hw h7
     ·exact .inr ⟨m',w,hw,h⟩)
   refine⟨t',p',R',XJ,?_,by simpa using g2⟩;rw[aei,ah,aK (by omega),uu];simp only[SB,Nat.reduceAdd];rw[show((a.k:Int) !=7)=true by simp;omega,ay,iZ,ct (by omega),yr,ck (n:=(pre.length:Int)+1) (by omega),e1];exact g1
theorem alc (hb:BV b)(hT:Ri tb)(hd:tb.p6=600){acts:List Act}(hA:∀a∈acts,a.k=7\/tL b a)(hl:acts.length<=100){t:Nat}(ht:t<=100)(hp:aX b p)(hf:j_ b p){R:List (Int×Int)}(hR:R.length=b.n)(hI:∀r∈R,Ez t r){Ev:List (List PV)}(hE:Ev.length<=1000000):
  ∃t' p' R' XJ,denC E 22 [eH b,vL tb,YL t p (jN R) Ev,AV.sl 3 (cH acts)] []=some ([plR t' p' R' XJ,RV.p (PV.bool true)],[])/\Q0 b t p (acts++[⟨7,0,0⟩]) t' p':=by
 obtain⟨t',p',R',XJ,g1,g2⟩:=aeh hb hT hd (L:=acts++[⟨7,0,0⟩]) (by simp;omega) (λa ha=>by
  rcases eO.1 ha with h|h
  ·exact hA a h
  ·rw[jL.1 h];exact .inl rfl) (acts++[⟨7,0,0⟩]) [] [] t p R Ev rfl (λx hx=>by cases hx) (by simp;omega) (by simp;omega) hp hf hR hI hE (.inr ⟨acts,⟨7,0,0⟩,rfl,rfl⟩)
 refine⟨t',p',R',XJ,?_,by simpa using g2⟩;rw[iD,fC]at g1;rw[ai,r22,iZ,ct (by omega),ct (by omega),ay,ay];rw[show cH acts++[[PV.int .i64 7,PV.int .i64 0,PV.int .i64 0]]=cH (acts++[⟨7,0,0⟩]) by simp[cH,acK],iZ];rw[show lp E (denC E) 22 0 [] 0 {vals:=[AV.sl 3 (cH (acts++[⟨7,0,0⟩])),AV.int .i64 ((acts++[(⟨7,0,0⟩:Act)]).length:Int),AV.int .i64 0],aq:=[eG b,qh tb,PW t p (jN R) Ev,zpl,.arr 3 []]}=_ from g1];simp only[SB,Nat.reduceAdd]
end
end
theorem d_TopBlackout (l:List Int)(Z':l.length<=maxLen)(hl:∀n∈l,-9223372036854775808<=n/\n<=9223372036854775807):denC E 4 [AV.sl 1 (kv .i64 l)] []=some ([RV.p (PV.bool true)],[]):=by
 have hL:(l.take 600).length<=600:=by simp;omega
 obtain⟨b,k1,e1,hb,nz⟩:=aaV hL (k:=0) (by omega);obtain⟨tb,k2,e2,hT,hk2⟩:=aeO hL nz;obtain⟨t,p,R,k3,e3,t5,t20,hp,hf,hs,hR,hI,hk3⟩:=aaS hL hb hk2;have hbv:=hb.pB;have hT2:Ri ⟨tb.start,tb.stop,600⟩:=⟨hT.1,hT.2,hT.3,hT.4,show 600<=600 by decide⟩
 obtain⟨p1,Ev1,f1,f2,f3,f4,f5⟩:=aeR hbv (R:=jN R) (by rw[tU];have:=hb.n6;omega) (show t<=2147483648 by omega) (y0:=(tb.start:Int)) (y1:=(tb.stop:Int)) (y2:=600) b.ar.length 0 p [] (dy _) hp hf (by simp);obtain⟨p2,ap,g1,g2⟩:=Gn hbv f2;obtain⟨acts,er,q,pa,h1,h2,h3⟩:=aff hbv g2.ok;rw[fC]at f1;rw[ai,r4,aij];simp only[SB,Nat.reduceAdd];rw[show denC E 6 [AV.t (.ptr 0 0)] [au.box [AV.sl 1 (kv .i64 (l.take 600)),AV.int .i64 0]]=_ from e1];simp only[SB,Nat.reduceAdd];rw[show denC E 16 [AV.t (.ptr 0 0)] [au.box [AV.sl 1 (kv .i64 (l.take 600)),AV.int .i64 (k1:Int)]]=_ from e2];simp only[SB,Nat.reduceAdd];rw[e3];simp only[SB,Nat.reduceAdd];rw[dM,show lp E (denC E) 4 0 [] 0 {vals:=[AV.int .i64 (b.ar.length:Int),AV.int .i64 0],aq:=[eG b,.box [.int .i64 (tb.start:Int),.int .i64 (tb.stop:Int),.int .i64 600],PW t p (jN R) []]}=_ from f1];simp only[aN,aR,aQ,SB,Nat.reduceAdd,aD,bb,aW,kF];rw[show denC E 19 [eH b,iQ p1] []=_ from g1];simp only[fB,SB,Nat.reduceAdd];rw[show denC E 20 [eH b,iQ p2] []=_ from h2];simp only[SB,Nat.reduceAdd];rcases h3 with⟨he,rfl,_⟩|⟨rfl,rfl,L,C,p4,hP⟩
 ·rcases he with rfl|rfl
  ·rw[show(((9:Nat):Int) !=0)=true from rfl,show(((9:Nat):Int)==9)=true from rfl,aaM];simp only[SB,Nat.reduceAdd];rfl
  ·rw[show(((11:Nat):Int) !=0)=true from rfl,show(((11:Nat):Int)==9)=false from rfl,show(((11:Nat):Int)==11)=true from rfl,aaM];simp only[SB,Nat.reduceAdd]
   try rfl
 ·have Vv:ND b p2:=g2.nd;have hgs:∀s,s<b.ar.length->(sr p2 s).since<=4:=λs ak=>by rw[(g2.sr s).2,f4];exact hs s ak
  obtain⟨n1,n2⟩:=ael hb.bT g2.ok Vv hP;have n3:=n1 3 hb.st;have sg:=hb.nb;have h8:=hb.ng;obtain⟨t',p',R',XJ,r1,r2⟩:=alc hbv hT2 rfl n2 (by omega) (show t<=100 by omega) g2.ok g2.Lh hR (λr hr=>by obtain⟨q1,q2,q3,q4⟩:=hI r hr;exact⟨q1,by omega,q3,by omega⟩) (Ev:=Ev1) (by omega);obtain⟨⟨w,rfl,hw⟩,z2,z3,z4⟩:=aem hb.bT ⟨g2.ok,g2.Lh,Vv,λs ak=>by have:=hgs s ak;omega⟩ t5 (by omega) (λs ak=>by have:=hb.st s ak;omega) hgs hP r2;obtain⟨w1,w2⟩:=hw (aco b) λs ak=>aeW ak;have hlp:=acV hb.bT;have l2:=aeQ hbv z2 (λj hj hg=>z4 j hj (by rw[<-z3];exact hg)) (G:=gF b p2) z3.symm (z0:=((t+w+1:Nat):Int)) (z5:=R') (z6:=XJ) b.n 0 (dy _);rw[fC]at l2;rw[show((((0:Nat):Int)) !=0)=false from rfl,aF,Nf hbv g2.ok];simp only[SB,Nat.reduceAdd];rw[show denC E 22 [eH b,AV.agg [PV.int .i64 (tb.start:Int),PV.int .i64 (tb.stop:Int),PV.int .i64 600],YL t p2 (jN R) Ev1,AV.sl 3 (cH acts)] []=_ from r1];simp only[SB,Nat.reduceAdd];rw[afx hbv];simp only[SB,Nat.reduceAdd];rw[iZ,b_ (by omega)];simp only[SB,Nat.reduceAdd];rw[ck (n:=1+((2*b.aO.length+b.ar.length+aco b+1:Nat):Int)) (by omega),ck (n:=((t+w+1:Nat):Int)-(t:Int)) (by omega),b_ (by omega)];simp only[SB,Nat.reduceAdd];rw[iu,DJ hb.bT,show lp E (denC E) 4 0 [] 2 {vals:=[AV.sl 1 (p7 (gF b p2)),AV.int .i64 (b.n:Int),AV.int .i64 0],aq:=[eG b,.box [.int .i64 ((t+w+1:Nat):Int),.sl 1 (bC p'),.sl 4 (bp p'),.sl 1 (bE p'),.sl 2 (bA p'),.sl 2 R',.sl 5 XJ]]}=_ from l2];simp only[SB,Nat.reduceAdd];have hre:Cg b p'=true:=by
   unfold Cg;rw[fk];intro j hj;have hj:=gR.1 hj;cases hgj:(gF b p').getD j false with
   |false=>rfl
   |true=>rw[z4 j hj (by rw[<-z3];exact hgj)];rfl
  rw[Ed hbv z2,hre,aaM];simp only[SB,Nat.reduceAdd]
end Go.Proofs.YtoocplpcbdemhaaGreat.Vm
