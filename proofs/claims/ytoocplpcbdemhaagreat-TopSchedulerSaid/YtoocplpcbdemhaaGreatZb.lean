import Derived.RangeFuncCalls
import Derived.Orders
import Derived.RangeFuncLeaves
import Derived.RangeFuncNested
import Derived.RangeFuncBound
import Derived.TacticsIn
import Derived.Test.YtoocplpcbdemhaaGreatZa
set_option linter.unusedVariables false
set_option linter.unusedSimpArgs false
set_option linter.unusedSectionVars false
namespace Go.Proofs.YtoocplpcbdemhaaGreat
theorem fk:type_of% @List.mem_cons_of_mem:=@List.mem_cons_of_mem
theorem CF:type_of% @Bool.not_false:=@Bool.not_false
theorem gq:type_of% @List.mem_of_getElem?:=@List.mem_of_getElem?
theorem Cp:type_of% @List.nodup_cons:=@List.nodup_cons
theorem uP:type_of% @List.getElem?_cons_zero:=@List.getElem?_cons_zero
theorem dD:type_of% @List.getElem?_eq_getElem:=@List.getElem?_eq_getElem
theorem Cr:type_of% @List.getElem?_append_left:=@List.getElem?_append_left
theorem jL:type_of% @List.mem_singleton:=@List.mem_singleton
theorem GZ:type_of% @Bool.not_true:=@Bool.not_true
theorem sJ:type_of% @Bool.and_false:=@Bool.and_false
theorem Ct:type_of% @Go.Calls.mono:=@Go.Calls.mono
theorem Cu:type_of% @List.mem_iff_getElem:=@List.mem_iff_getElem
theorem uO:type_of% @List.getElem?_replicate:=@List.getElem?_replicate
theorem vQ:type_of% @List.pairwise_append:=@List.pairwise_append
theorem Aq:type_of% @Ne.symm:=@Ne.symm
theorem CJ:type_of% @List.pairwise_iff_getElem:=@List.pairwise_iff_getElem
theorem Ap:type_of% @Go.World.putObj_heap_other:=@Go.World.putObj_heap_other
theorem na:type_of% @List.drop_eq_getElem_cons:=@List.drop_eq_getElem_cons
theorem eN:type_of% @List.drop_zero:=@List.drop_zero
theorem Cn:type_of% @Array.length_toList:=@Array.length_toList
theorem mC:type_of% @List.length_map:=@List.length_map
end Go.Proofs.YtoocplpcbdemhaaGreat
namespace Go.Proofs.YtoocplpcbdemhaaGreat.Vm
def items:Nat->Nat->List Oper->List It
 |_,_,[]=>[]
 |i,nid,o::l=>⟨i,nid,o⟩::items (i+1) (nid+eA o) l
theorem xK:∀(a b:List Oper) (i nid:Nat),items i nid (a++b)=items i nid a++items (i+a.length) (nid+eV a) b
 |[],b,i,nid=>by simp[items,eV]
 |o::a,b,i,nid=>by
  simp only[qy,items,xK a b,eV,bo];rw[show i+1+a.length=i+(a.length+1) by omega,show nid+eA o+eV a=nid+(eA o+eV a) by omega]
theorem zz:∀{l:List Oper} {i nid:Nat} {it:It},it∈items i nid l->it.o∈l
 |[],_,_,_,h=>by cases h
 |o::l,i,nid,it,h=>by
  rcases gR.1 h with rfl|h
  ·simp
  ·exact fk _ (zz h)
theorem u9 {d:Nat}:∀{l b:List Oper} {p:Oper} {r:List Oper},wQ d l=some (b,p,r)->l=b++p::r/\Dm d p=true
 |[],_,_,_,h=>by cases h
 |o::l,b,p,r,h=>by
  simp only[wQ]at h;cases hp:Dm d o with
  |true=>simp only[hp,en]at h;cases h;exact⟨rfl,hp⟩
  |false=>
   simp only[hp,gH]at h;split at h
   ·rename_i b' p' r' he;cases h;obtain⟨rfl,h2⟩:=u9 he;exact⟨rfl,h2⟩
   ·cases h
theorem JR {d:Nat}{p:Oper}(h:Dm d p=true):∃x y,p.op=.pick (.tmp d) x y:=by
 unfold Dm at h;split at h
 ·have:=gK h;subst this;exact⟨_,_,rfl⟩
 ·cases h
theorem z7 {E:Env}{F:d_}{ops:Array Oper}{dr:Bool}:∀{a b:List It} {st s1 s2:St} {ra rb:List Tr},i_ E F ops dr a st=some (ra,s1)->i_ E F ops dr b s1=some (rb,s2)->i_ E F ops dr (a++b) st=some (ra++rb,s2)
 |[],b,st,s1,s2,ra,rb,h1,h2=>by simp only[i_]at h1;cases h1;exact h2
 |t::a,b,st,s1,s2,ra,rb,h1,h2=>by
  obtain⟨r,e,rs,g1,g2,rfl⟩:=cV.1 h1;exact cV.2 ⟨r,e,rs++rb,g1,z7 g2 h2,rfl⟩
theorem vJ {E:Env}{F:d_}{ops:Array Oper}{dr:Bool}{t:Nat}:∀{l:List It} {st bD:St} {rs:List Tr},i_ E F ops dr l st=some (rs,bD)->(∀it∈l,it.o.dst≠some t)->nth .undef bD.slots t=nth .undef st.slots t
 |[],_,_,_,h,_=>by simp only[i_]at h;cases h;rfl
 |it::l,st,bD,rs,h,hn=>by
  obtain⟨r,e,rs',h1,h2,rfl⟩:=cV.1 h;rw[vJ h2 λx hx=>hn x (by simp[hx])];show nth .undef (cq it.o.dst e.1 st.slots) t=_;rw[e9,aC λhc=>hn it (by simp) hc.1]
theorem Io {E:Env}{F:d_}{ops:Array Oper}{dr:Bool}:∀{l:List It} {st bD:St} {rs:List Tr},i_ E F ops dr l st=some (rs,bD)->bD.slots.length=st.slots.length
 |[],_,_,_,h=>by simp only[i_]at h;cases h;rfl
 |it::l,st,bD,rs,h=>by
  obtain⟨r,e,rs',h1,h2,rfl⟩:=cV.1 h;rw[Io h2];exact e_ ..
theorem uX:∀(l:List Oper) (s:List AV) (t:Nat),nth .undef (iJ l s) t=.undef\/(nth .undef (iJ l s) t=nth .undef s t/\((∀o∈l,o.dst≠some t)\/s.length<=t))
 |[],s,t=>.inr ⟨rfl,.inl λo ho=>by cases ho⟩
 |o::l,s,t=>by
  simp only[iJ];rcases uX l (cq o.dst .undef s) t with h|⟨h,h2⟩
  ·exact .inl h
  ·rw[e9]at h;split at h
   ·exact .inl h
   ·rename_i hc;refine .inr ⟨h,?_⟩;rw[e_]at h2;rcases h2 with h2|h2
    ·by_cases ht:t<s.length
     ·refine .inl λo' Xw=> ?_;rcases gR.1 Xw with rfl|Xw
      ·exact λhe=>hc ⟨he,ht⟩
      ·exact h2 o' Xw
     ·exact .inr (by omega)
    ·exact .inr h2
theorem rF:∀(l:List Oper) (s:List AV),(iJ l s).length=s.length
 |[],_=>rfl
 |o::l,s=>by simp only[iJ];rw[rF l];exact e_ ..
theorem ud {α:Type}{d:α}{s:List α}{t:Nat}(h:s.length<=t):nth d s t=d:=by
 rw[dp];simp[List.getD,EN h]
theorem B7 {E:Env}{F:d_}{ops:Array Oper}{dr:Bool}{d:Nat}{w b:Bool}(Re:(b==w)=false):∀(l:List Oper) (ds:List Nat) (i nid:Nat) (se:St),oC ops d w l ds=true->l.all (λo=>Hp se.slots.length o)=true->
  nth .undef se.slots d=.t (.p (.bool b))->(∀e∈ds,nth .undef se.slots e=.no)->
  ∃tr yB,i_ E F ops dr (items i nid l) se=some (tr,yB)/\yB.heap=se.heap/\∀r∈tr,r.w=false
 |[],ds,i,nid,se,_,_,_,_=>⟨[],se,rfl,rfl,λr hr=>by cases hr⟩
 |o::l,ds,i,nid,se,hc,hr,hd,XE=>by
  simp only[oC,bO]at hc;obtain⟨hg,hc⟩:=hc;simp only[oO,bO]at hr;have pV:act ops o se.slots=some false:=by
   unfold act;split at hg
   ·rename_i j w' hgd;simp only[hgd];split at hg
    ·rename_i d' pU;simp only[pU];simp only[wZ,bO,Nat.beq_eq]at hg;rcases hg with⟨rfl,hw⟩|hm
     ·rw[hd];have:w=w':=by simpa using hw
      subst this;simp only[Re]
     ·rw[XE d' (cP.1 hm)]
    ·cases hg
   ·cases hg
  have alL:A3 E F ops dr ⟨i,nid,o⟩ se=some (⟨i,[],false⟩,.no,[]):=by
   unfold A3;rw[pV]
  have fin:∀Ij,oC ops d w l Ij=true->(∀e∈Ij,nth .undef (put ⟨i,nid,o⟩ (.no,[]) se).slots e=.no)->o.dst≠some d->
    ∃tr yB,i_ E F ops dr (items i nid (o::l)) se=some (tr,yB)/\yB.heap=se.heap/\∀r∈tr,r.w=false:=by
   intro Ij hc' alP Vv;have pU:nth .undef (put ⟨i,nid,o⟩ (.no,[]) se).slots d=.t (.p (.bool b)):=by
    show nth .undef (cq o.dst .no se.slots) d=_;rw[e9,aC λh=>Vv h.1,hd]
   obtain⟨tr,yB,h1,h2,h3⟩:=B7 Re l Ij (i+1) (nid+eA o) (put ⟨i,nid,o⟩ (.no,[]) se) hc' (by
    have:(put ⟨i,nid,o⟩ (AV.no,[]) se).slots.length=se.slots.length:=e_ ..;rw[this];exact hr.2) pU alP
   refine⟨⟨i,[],false⟩::tr,yB,cV.2 ⟨_,_,_,alL,h1,rfl⟩,h2,λr hr=> ?_⟩;rcases gR.1 hr with rfl|hr
   ·rfl
   ·exact h3 r hr
  cases Hv:o.dst with
  |none=>
   rw[Hv]at hc;refine fin ds hc (λe he=> ?_) (by rw[Hv];simp);show nth .undef (cq o.dst .no se.slots) e=_;rw[Hv];exact XE e he
  |some e0=>
   rw[Hv]at hc;simp only[bO,oQ]at hc;have hlt:e0<se.slots.length:=by
    have:=hr.1;simp only[Hp,Hv]at this;simpa[FQ]using this
   refine fin (e0::ds) hc.2 (λe he=> ?_) (by rw[Hv];intro h;cases h;simp at hc);show nth .undef (cq o.dst .no se.slots) e=_;rw[e9,Hv];by_cases hee:e0=e
   ·subst hee;rw[aK ⟨rfl,hlt⟩]
   ·rw[aC λh=>hee (pH h.1)];rcases gR.1 he with rfl|he
    ·exact absurd rfl hee
    ·exact XE e he
def okp (before:Array Nat)(a b:Tr):Prop:=(before.getD b.i 0).testBit a.i=true\/BJ a b
def lgT (lg:Log):List Tr:=lg.map λe=>⟨e.1,e.2.1,e.2.2⟩
structure Good (cx:Cx)(lg:Log)(its:List It)(tr:List Tr):Prop where
 dyn:Ov cx.md=true->(∀t∈tr,∀e∈lgT lg,okp cx.before e t)/\tr.Pairwise (okp cx.before)
 s1:Ov cx.md=false->lU cx.md=true->All2 (λ(it:It) (r:Tr)=>r.w=true->QL cx.E it.o.op=true) its tr
theorem Good.nil (cx:Cx)(lg:Log):Good cx lg [] []:=⟨λ_=>⟨λt ht=>(by cases ht),List.Pairwise.nil⟩,λ_ _=>trivial⟩
theorem Good.skip {cx:Cx}{lg:Log}{it:It}{its:List It}{tr:List Tr}(h:Good cx lg its tr):Good cx lg (it::its) (⟨it.i,[],false⟩::tr) where
 dyn hd:=by
  obtain⟨h1,h2⟩:=h.dyn hd;refine⟨λt ht e he=> ?_,iP.2 ⟨λt ht=>.inr λ_ x hx=>(by cases hx),h2⟩⟩;rcases gR.1 ht with rfl|ht
  ·exact .inr λ_ x _ hx=>(by cases hx)
  ·exact h1 t ht e he
 s1 hd hs:=⟨λhw=>(by cases hw),h.s1 hd hs⟩
theorem M5 {before:Array Nat}{i:Nat}{fp:List Nat}{w:Bool}{lg:Log}(h:Ws before i fp w lg=false):∀e∈lgT lg,okp before e ⟨i,fp,w⟩:=by
 intro e he;obtain⟨l,hl,rfl⟩:=fQ.1 he;unfold Ws at h;have h1:=List.any_eq_false.1 h l hl;unfold okp;cases hb:(before.getD i 0).testBit l.1 with
 |true=>exact .inl rfl
 |false=>
  refine .inr λhw x hx kY=>h1 ?_;simp only[hb,CF,CI,bO,wZ];refine⟨hw.symm,List.any_eq_true.2 ⟨x,kY,cP.2 hx⟩⟩
theorem Good.step {cx:Cx}{lg:Log}{it:It}{its:List It}{r:Tr}{tr:List Tr}(hi:r.i=it.i)(az:vM cx it.i it.o r.fp r.w lg=true)(h:Good cx (Jy cx.md it.i r.fp r.w lg) its tr):Good cx lg (it::its) (r::tr) where
 dyn hd:=by
  obtain⟨h1,h2⟩:=h.dyn hd;have hmd:cx.md=.dyn:=by cases hm:cx.md<;>rw[hm]at hd<;>first|rfl|cases hd
  rw[hmd]at h1;unfold vM at az;rw[hmd]at az;have hr:r=⟨it.i,r.fp,r.w⟩:=by rw[<-hi]
  refine⟨λt ht e he=> ?_,iP.2 ⟨λt ht=> ?_,h2⟩⟩
  ·rcases gR.1 ht with rfl|ht
   ·rw[hr];exact M5 (by simpa using az) e he
   ·exact h1 t ht e (by simp only[Jy,lgT,nS,gR];exact .inr he)
  ·rw[hr];exact h1 t ht _ (by simp[Jy,lgT])
 s1 hd hs:=by
  refine⟨λhw=> ?_,h.s1 hd hs⟩;unfold vM at az;cases hm:cx.md with
  |plain=>rw[hm]at hs;cases hs
  |dyn=>rw[hm]at hd;cases hd
  |s1=>rw[hm,hw]at az;simpa using az
theorem Good.append {cx:Cx}{lg pj:Log}(hd:Ov cx.md=false){a b:List It}{ra rb:List Tr}(h1:Good cx lg a ra)(h2:Good cx pj b rb):Good cx pj (a++b) (ra++rb) where
 dyn h:=by rw[hd]at h;cases h
 s1 h hs:=(h1.s1 h hs).append (h2.s1 h hs)
theorem Ip {E:Env}{F:d_}{ops:Array Oper}{dr:Bool}{t:It}{st:St}{v:AV}{us:cD}{fp:List Nat}{w:Bool}(ha:act ops t.o st.slots=some true)(h:wL E F dr t.nid t.o st=some (v,us,fp,w)):
  A3 E F ops dr t st=some (⟨t.i,fp,w⟩,v,us):=by
 unfold A3;rw[ha];exact adl h _
theorem X_ {cx:Cx}{α:Type}{i nid:Nat}{o:Oper}{pu:Bool}{st se:St}{lg:Log}{K:St->Log->Option α}{r:α}(h:lr cx i nid o pu st lg K=some r)(hle:Le st se)(ha:act cx.ops o se.slots=some true):
  ∃tr e rO,A3 cx.E cx.F cx.ops (lU cx.md) ⟨i,nid,o⟩ se=some (tr,e)/\Le rO (put ⟨i,nid,o⟩ e se)/\K rO (Jy cx.md i tr.fp tr.w lg)=some r/\(pu=true->e.2=[])/\vM cx i o tr.fp tr.w lg=true/\tr.i=i:=by
 unfold lr at h;obtain⟨v,us,fp,w,h1,h2⟩:=Ru h;split at h2
 ·rename_i hc;simp only[bO,wZ,oQ]at hc;obtain⟨v',g1,g2⟩:=XK hle h1;refine⟨⟨i,fp,w⟩,(v',us),_,Ip (t:=⟨i,nid,o⟩) ha g1,hle.put _ g2 us,h2,λhp=> ?_,hc.2,rfl⟩;rcases hc.1 with h|h
  ·rw[hp]at h;cases h
  ·simpa using h
 ·cases h2
theorem oK {st se:St}(hle:Le st se){d:Nat}{b:Bool}(h:nth .undef st.slots d=.t (.p (.bool b))):Le ⟨upd (.t (.p (.bool b))) st.slots d,st.heap⟩ se:=by
 refine⟨hle.heap,by simp[bU,hle.len],λt=> ?_⟩;simp only[ep];by_cases hc:d=t/\t<st.slots.length
 ·rw[aK hc];obtain⟨rfl,_⟩:=hc;rw[<-h];exact hle.slot d
 ·rw[aC hc];exact hle.slot t
theorem Le.bool {st se:St}(h:Le st se){d:Nat}{b:Bool}(hd:nth .undef st.slots d=.t (.p (.bool b))):nth .undef se.slots d=.t (.p (.bool b)):=by
 rcases h.slot d with h'|h'
 ·rw[hd]at h';cases h'
 ·rw[<-h',hd]
theorem A9 {v:AV}{b:Bool}(h:H7 v=some b):v=.t (.p (.bool b)):=by
 unfold H7 at h;split at h
 ·cases h;rfl
 ·cases h
theorem KZ {ops:Array Oper}{o:Oper}{slots:List AV}(h:o.guard=none):act ops o slots=some true:=by unfold act;rw[h]
theorem Wc {E:Env}{F:d_}{ops:Array Oper}{dr:Bool}{t:It}{st:St}(h:act ops t.o st.slots=some false):A3 E F ops dr t st=some (⟨t.i,[],false⟩,.no,[]):=by
 unfold A3;rw[h]
theorem z_ {E:Env}{F:d_}{ops:Array Oper}{dr:Bool}{i nid:Nat}{body:List Oper}{st se LL:St}{tr:List Tr}(hle:Le st se)(hx:i_ E F ops dr (items i nid body) se=some (tr,LL))(hh:LL.heap=se.heap):
  Le ⟨iJ body st.slots,st.heap⟩ LL:=by
 refine⟨by rw[hh,hle.heap],by rw[Io hx,hle.len];exact(rF ..).symm,λt=> ?_⟩;simp only;rcases uX body st.slots t with h|⟨h,h2⟩
 ·exact .inl h
 ·rw[h];rcases h2 with h2|h2
  ·rw[vJ hx λit hit=>h2 it.o (zz hit)];exact hle.slot t
  ·exact .inl (ud h2)
theorem TG {E:Env}{F:d_}{ops:Array Oper}{dr:Bool}{i nid:Nat}{pk:Oper}{d:Nat}{b v:Bool}{x y:Operand}{se:St}(hg:pk.guard=none)(hop:pk.op=.pick (.tmp d) x y)
  (hd:nth .undef se.slots d=.t (.p (.bool b))) (hv:aS se.slots (cond b x y)=.t (.p (.bool v))):A3 E F ops dr ⟨i,nid,pk⟩ se=some (⟨i,[],false⟩,.t (.p (.bool v)),[]):=by
 have hres:wL E F dr nid pk se=some (.t (.p (.bool v)),[],[],false):=by
  have Vt:∀look (β:Type) (K:Step β),qa E F look nid pk.op (aS se.slots) K=K (.t (.p (.bool v))) []:=by
   intro look β K;rw[hop];have pU:aS se.slots (.tmp d)=.t (.p (.bool b)):=hd;simp only[qa,eD,jC,gH,gZ,pU];cases b<;>simp only[en,gH]at hv<;>rw[hv]<;>rfl
  unfold wL mm;have alS:Kk (aS se.slots) pk.op=true:=by rw[hop];rfl
  rw[aK alS];have jO:dA pk.op=false:=by rw[hop];rfl
  cases dr with
  |false=>dsimp only;rw[Vt]
  |true=>
   dsimp only;rw[Vt,jO];rfl
 exact Ip (t:=⟨i,nid,pk⟩) (KZ hg) hres
theorem zM {ops:Array Oper}{d:Nat}{w:Bool}:∀{l:List Oper} {ds:List Nat},oC ops d w l ds=true->∀o∈l,o.dst≠some d
 |[],_,_,o,ho=>by cases ho
 |a::l,ds,h,o,ho=>by
  simp only[oC,bO]at h;obtain⟨_,h⟩:=h;cases hd:a.dst with
  |none=>
   rw[hd]at h;rcases gR.1 ho with rfl|ho
   ·rw[hd];simp
   ·exact zM h o ho
  |some e=>
   rw[hd]at h;simp only[bO,oQ]at h;rcases gR.1 ho with rfl|ho
   ·rw[hd];intro he;cases he;simp at h
   ·exact zM h.2 o ho
theorem R6 (cx:Cx):∀(n:Nat) (α:Type) (pu:Bool) (i nid:Nat) (l:List Oper) (st se:St) (lg:Log) (K:St->Log->Option α) (r:α),kB cx n α pu i nid l st lg K=some r->Le st se->
  ∃tr yB bD pj,i_ cx.E cx.F cx.ops (lU cx.md) (items i nid l) se=some (tr,yB)/\Le bD yB/\K bD pj=some r/\(pu=true->yB.heap=se.heap)/\Good cx lg (items i nid l) tr
 |0,_,_,_,_,[],st,se,lg,_,_,h,hle=>⟨[],se,st,lg,rfl,hle,h,λ_=>rfl,Good.nil _ _⟩
 |_+1,_,_,_,_,[],st,se,lg,_,_,h,hle=>⟨[],se,st,lg,rfl,hle,h,λ_=>rfl,Good.nil _ _⟩
 |0,_,_,_,_,_::_,_,_,_,_,_,h,_=>by cases h
 |n+1,α,pu,i,nid,o::rest,st,se,lg,K,r,h,hle=>by
  have ih:=R6 cx n;have Qs:∀{st:St},Le st se->act cx.ops o se.slots=some true->(lr cx i nid o pu st lg λbD pj=>kB cx n α pu (i+1) (nid+eA o) rest bD pj K)=some r->
    ∃tr yB bD pj,i_ cx.E cx.F cx.ops (lU cx.md) (items i nid (o::rest)) se=some (tr,yB)/\Le bD yB/\K bD pj=some r/\(pu=true->yB.heap=se.heap)/\Good cx lg (items i nid (o::rest)) tr:=by
   intro st hle ha h;obtain⟨r1,e,rO,h1,h2,h3,h4,h5,h6⟩:=X_ h hle ha;obtain⟨tr,yB,bD,pj,g1,g2,g3,g4,g5⟩:=ih α pu _ _ rest rO _ _ K r h3 h2;refine⟨r1::tr,yB,bD,pj,cV.2 ⟨_,_,_,h1,g1,rfl⟩,g2,g3,λhp=> ?_,Good.step h6 h5 g5⟩;rw[g4 hp];show bh e.2 se.heap=_;rw[h4 hp];rfl
  have acv:∀{st:St},Le st se->act cx.ops o se.slots=some false->kB cx n α pu (i+1) (nid+eA o) rest ⟨cq o.dst .no st.slots,st.heap⟩ lg K=some r->
    ∃tr yB bD pj,i_ cx.E cx.F cx.ops (lU cx.md) (items i nid (o::rest)) se=some (tr,yB)/\Le bD yB/\K bD pj=some r/\(pu=true->yB.heap=se.heap)/\Good cx lg (items i nid (o::rest)) tr:=by
   intro st hle ha h;have aey:Le ⟨cq o.dst .no st.slots,st.heap⟩ (put ⟨i,nid,o⟩ (.no,[]) se):=hle.put o.dst (.inr rfl) [];obtain⟨tr,yB,bD,pj,g1,g2,g3,g4,g5⟩:=ih α pu _ _ rest _ _ _ K r h aey;exact⟨_,yB,bD,pj,cV.2 ⟨_,_,_,Wc (t:=⟨i,nid,o⟩) ha,g1,rfl⟩,g2,g3,λhp=>g4 hp,Good.skip (it:=⟨i,nid,o⟩) g5⟩
  simp only[kB]at h;split at h
  ·rename_i hg;exact Qs hle (KZ hg) h
  ·rename_i j w hg;split at h
   ·cases h
   ·rename_i d hgd;split at h
    ·rename_i hno;refine acv hle ?_ h;unfold act;simp only[hg,hgd];rcases hle.slot d with h'|h'
     ·rw[hno]at h';cases h'
     ·rw[<-h',hno]
    ·rename_i b hb;have hse:=hle.bool hb;have pV:act cx.ops o se.slots=some (b==w):=by
      unfold act;simp only[hg,hgd,hse]
     have Dt:ctl (cond w b (!b))
        (lr cx i nid o pu ⟨upd (.bool w) st.slots d,st.heap⟩ lg λbD pj=>kB cx n α pu (i+1) (nid+eA o) rest bD pj K)
        (kB cx n α pu (i+1) (nid+eA o) rest ⟨cq o.dst .no (upd (.bool (!w)) st.slots d),st.heap⟩ lg K)=some r->
       ∃tr yB bD pj,i_ cx.E cx.F cx.ops (lU cx.md) (items i nid (o::rest)) se=some (tr,yB)/\Le bD yB/\K bD pj=some r/\(pu=true->yB.heap=se.heap)/\Good cx lg (items i nid (o::rest)) tr:=by
      intro h0;rcases HP h0 with⟨hc,h1⟩|⟨hc,h1⟩
      ·have Re:b=w:=by cases w<;>cases b<;>first|rfl|cases hc
       subst Re;exact Qs (oK hle hb) (by rw[pV];simp) h1
      ·have Re:(!w)=b:=by cases w<;>cases b<;>first|rfl|cases hc
       rw[Re]at h1;exact acv (oK hle hb) (by rw[pV,<-Re];cases w<;>rfl) h1
     split at h
     ·rename_i body pk NV hsp;split at h
      ·rename_i cz;simp only[bO,oQ]at cz;obtain⟨⟨⟨⟨ahM,hpg⟩,hpd⟩,VM⟩,VL⟩:=cz;split at h
       ·rename_i c y' x hop;obtain⟨hl,ahe⟩:=u9 hsp;obtain⟨x2,y2,ahg⟩:=JR ahe;rw[hop]at ahg;obtain⟨rfl,rfl,rfl⟩:c=Operand.tmp d/\y'=x2/\x=y2:=by injection ahg with h1 h2 h3;exact⟨h1,h2,h3⟩
        unfold aj at h;obtain⟨v,hv,h⟩:=gI.1 h;have alb:pk.guard=none:=by simpa using hpg
        have alF:∃tr1 LL,i_ cx.E cx.F cx.ops (lU cx.md) (items i nid body) se=some (tr1,LL)/\LL.heap=se.heap/\Good cx [] (items i nid body) tr1/\aS LL.slots (cond b y' x)=.t (.p (.bool v)):=by
         rcases HP hv with⟨hc,hv⟩|⟨hc,hv⟩
         ·have Re:b=w:=by cases w<;>cases b<;>first|rfl|cases hc
          subst Re;obtain⟨tr1,LL,rO,lg1,g1,g2,g3,g4,g5⟩:=ih Bool true i nid body _ se [] _ v hv (oK hle hb);refine⟨tr1,LL,g1,g4 rfl,g5,?_⟩;have:=A9 g3;rcases g2.ev (cond b y' x)with h'|h'
          ·rw[this]at h';cases h'
          ·rw[<-h',this]
         ·have Re:b= !w:=by cases w<;>cases b<;>first|rfl|cases hc
          have al0:(b==w)=false:=by subst Re;cases w<;>rfl
          obtain⟨tr1,LL,g1,g2,g3⟩:=B7 (E:=cx.E) (F:=cx.F) (dr:=lU cx.md) al0 body [] i nid se VL (by
           rw[hle.len];refine iC.2 λo ho=> ?_;have:=iC.1 VM o ho;simp only[bO]at this;exact this.2) hse (λe he=>by cases he)
          refine⟨tr1,LL,g1,g2,⟨λhd=>(by rw[ahM]at hd;cases hd),λ_ _=> ?_⟩,?_⟩
          ·refine All2.nj (zZ g1).symm λk a r' _ Fa hw=> ?_;rw[g3 r' (gq Fa)]at hw;cases hw
          ·have:=A9 hv;have aex:=z_ hle g1 g2;have e0:cond b y' x=cond w x y':=by subst Re;cases w<;>rfl
           rw[e0];rcases aex.ev (cond w x y')with h'|h'
           ·simp only at h';rw[this]at h';cases h'
           ·simp only at h';rw[<-h',this]
        obtain⟨tr1,LL,g1,g2,g3,g4⟩:=alF;have hd1:nth .undef LL.slots d=.t (.p (.bool b)):=by
         rw[vJ g1 λit hit=>zM VL it.o (zz hit)];exact hse
        have hpe:=TG (E:=cx.E) (F:=cx.F) (ops:=cx.ops) (dr:=lU cx.md) (i:=i+body.length) (nid:=nid+eV body) alb hop hd1 g4;have aex:=z_ hle g1 g2;have alx:Le ⟨cq pk.dst (.bool v) (iJ body st.slots),st.heap⟩ (put ⟨i+body.length,nid+eV body,pk⟩ (.t (.p (.bool v)),[]) LL):=aex.put pk.dst (.inr rfl) [];obtain⟨tr2,se2,yL,lg2,k1,k2,k3,k4,k5⟩:=ih α pu _ _ NV _ _ _ K r h alx;have alB:items i nid (o::rest)=items i nid body++⟨i+body.length,nid+eV body,pk⟩::items (i+body.length+1) (nid+eV body+eA pk) NV:=by
         rw[hl,xK];rfl
        rw[alB];refine⟨tr1++⟨i+body.length,[],false⟩::tr2,se2,yL,lg2,z7 g1 (cV.2 ⟨_,_,_,hpe,k1,rfl⟩),k2,k3,λhp=> ?_,?_⟩
        ·rw[k4 hp];show bh [] LL.heap=_;exact g2
        ·refine⟨λhd=>(by rw[ahM]at hd;cases hd),λh1 h2=>(g3.s1 h1 h2).append ⟨λhw=>(by cases hw),k5.s1 h1 h2⟩⟩
       ·cases h
      ·exact Dt h
     ·exact Dt h
    ·cases h
section
theorem lB (bs:List au)(i:Nat)(b:au):nth bw.fresh (bs.map bw.blk) i=.blk b↔bs[i]? =some b:=by
 rw[dp];simp only[dO,qA];cases bs[i]?<;>simp
theorem VP.sub {w:World}{O O':Nat->Prop}(h:∀b,b<w.heap.size->O' b->O b){v:PV}{u:Value}(hv:VP w O v u):VP w O' v u:=
 hv.ext (dB _) (λ_ _ _=>rfl) h
theorem zq {l:List Nat}(hn:l.Nodup):∀{i j x:Nat},l[i]? =some x->l[j]? =some x->i=j:=by
 induction l with
 |nil=>intro i j x h;simp at h
 |cons a l ih=>
  obtain⟨h1,h2⟩:=Cp.1 hn;intro i j x hi hj;cases i with
  |zero=>
   cases j with
   |zero=>rfl
   |succ j=>
    simp only[uP,kE,je]at hi hj;subst hi;exact absurd (gq hj) h1
  |succ i=>
   cases j with
   |zero=>
    simp only[uP,kE,je]at hi hj;subst hj;exact absurd (gq hi) h1
   |succ j=>
    simp only[je]at hi hj;rw[ih h2 hi hj]
theorem xP {x:Nat}:∀{l:List Nat},x∈l->l[idx x l]? =some x
 |[],h=>by cases h
 |y::l,h=>by
  unfold idx;cases hb:Nat.beq x y with
  |true=>have:=gK hb;subst this;rfl
  |false=>
   have hne:x≠y:=λe=>by subst e;simp at hb
   have hm:x∈l:=(gR.1 h).resolve_left hne;show(y::l)[idx x l+1]? =some x;rw[je];exact xP hm
theorem Hq {l:List Nat}(hn:l.Nodup){k x:Nat}(h:l[k]? =some x):idx x l=k:=by
 have hm:=gq h;exact zq hn (xP hm) h
def adk (ids:List Nat)(t:TV):Prop:=(∃j o,t=.ptr j o/\j∈ids)\/∃cs,t=.agg cs
def K4 (ids:List Nat)(c a:AV):Prop:=
 (∃v:PV,c=.p v/\a=.p v)\/(∃j,j∈ids/\c=.t (.ak j)/\a=.t (.ak (idx j ids)))\/(∃j o,j∈ids/\c=.t (.ptr j o)/\a=.t (.ptr (idx j ids) o))\/
  ∃g caps,c=.fn g caps/\a=.fn g (caps.map (GW ids))/\∀t∈caps,adk ids t
def Handed (ids:List Nat):au->au->Prop
 | .arr sz es,b=>b=.arr sz es
 | .box cs,b=>∃af,b=.box af/\All2 (K4 ids) cs af
 | .tab _ _ _,_=>False
theorem Handed.arr {ids:List Nat}{b0:au}{sz:Nat}{es:List (List PV)}(h:Handed ids b0 (.arr sz es)):b0=.arr sz es:=by
 cases b0 with
 |arr=>cases h;rfl
 |box=>obtain⟨_,h,_⟩:=h;cases h
 |tab=>exact h.elim
theorem Handed.box {ids:List Nat}{b0:au}{af:List AV}(h:Handed ids b0 (.box af)):∃cs,b0=.box cs/\All2 (K4 ids) cs af:=by
 cases b0 with
 |arr=>cases h
 |box cs=>obtain⟨_,h,h2⟩:=h;cases h;exact⟨cs,rfl,h2⟩
 |tab=>exact h.elim
theorem Handed.Oi {ids:List Nat}{b0:au}{m:Bool}{sz:Nat}{jA:List (Int×MV)}(h:Handed ids b0 (.tab m sz jA)):False:=by
 cases b0 with
 |arr=>cases h
 |box=>obtain⟨_,h,_⟩:=h;cases h
 |tab=>exact h.elim
def ajn (C:Ctx)(ids L:List Nat)(b:Nat):Prop:=C.O b/\∀id,id∈ids\/id∈L->¬C.at id b
def Ctx.sub (C:Ctx)(ids L:List Nat)(bs:List au):Ctx:=⟨C.w,λi=>(ids[i]?).bind C.ι,bs.map bw.blk,ajn C ids L,λi n=>∃id,ids[i]? =some id/\C.κ id n⟩
theorem Np {C:Ctx}{ids L:List Nat}{bs:List au}{i id n:Nat}(h:ids[i]? =some id):(C.sub ids L bs).at i n↔C.at id n:=by
 have e:(C.sub ids L bs).ι i=C.ι id:=by show(ids[i]?).bind C.ι=_;rw[h];rfl
 unfold Ctx.at;rw[e];refine⟨λk=>k.imp (λk=>k) λ⟨cT,h1,h2⟩=> ?_,λk=>k.imp (λk=>k) λh2=>⟨id,h,h2⟩⟩;rw[h]at h1;cases h1;exact h2
structure fL (C:Ctx)(ids L:List Nat)(bs:List au):Prop where
 ok:Ok C
 nodup:ids.Nodup
 len:bs.length=ids.length
 at_:∀(i:Nat) id,ids[i]? =some id->∃b0 b,bs[i]? =some b/\live C.h id b0/\Handed ids b0 b
 akK:∀id∈L,(∃b,live C.h id b)/\id∉ids
section sub
variable {C:Ctx} {ids L:List Nat} {bs:List au} (H:fL C ids L bs)
include H
theorem fL.uj {i:Nat}{b:au}(h:live (C.sub ids L bs).h i b):bs[i]? =some b/\∃id b0,ids[i]? =some id/\live C.h id b0/\Handed ids b0 b/\(C.sub ids L bs).ι i=C.ι id:=by
 have hb:=(lB bs i b).1 h;refine⟨hb,?_⟩;have hlt:i<ids.length:=by rw[<-H.len];exact(ko.1 hb).1
 obtain⟨b0,b',h1,h2,h3⟩:=H.at_ i ids[i] (dD hlt);rw[hb]at h1;cases h1;exact⟨ids[i],b0,dD hlt,h2,h3,by simp[Ctx.sub,dD hlt]⟩
theorem fL.own {b:Nat}(h:(C.sub ids L bs).own b):∃id∈ids,∃B,live C.h id B/\C.at id b:=by
 obtain⟨i,B,hl,hi⟩:=h;obtain⟨_,id,b0,h1,h2,_,h4⟩:=H.uj hl;exact⟨id,gq h1,b0,h2,(Np h1).1 hi⟩
theorem fL.O {b:Nat}(h:(C.sub ids L bs).O b):C.O b:=by
 rcases h with h|h
 ·exact h.1
 ·obtain⟨id,_,B,h1,h2⟩:=H.own h;exact .inr ⟨id,B,h1,h2⟩
theorem fL.vp {v:PV}{u:Value}(h:C.P v u):(C.sub ids L bs).P v u:=VP.sub (λ_ _=>H.O) h
theorem fL.known {id:Nat}(h:id∈ids):known (C.sub ids L bs).h (idx id ids):=by
 obtain⟨_,b,h1,_⟩:=H.at_ _ id (xP h);exact dX ((lB bs _ b).2 h1)
theorem fL.back {id:Nat}{b:au}(h:id∈ids)(hl:live (C.sub ids L bs).h (idx id ids) b):∃b0,live C.h id b0/\Handed ids b0 b/\(C.sub ids L bs).ι (idx id ids)=C.ι id:=by
 obtain⟨_,cT,b0,h1,h2,h3,h4⟩:=H.uj hl;rw[xP h]at h1;cases h1;exact⟨b0,h2,h3,h4⟩
theorem fL.ptr {id o:Nat}{u:Value}(h:id∈ids)(hv:VT C (.ptr id o) u):VT (C.sub ids L bs) (.ptr (idx id ids) o) u:=by
 obtain⟨_,b,hu,hp⟩:=hv;refine⟨H.known h,b,hu,λcs hl=> ?_⟩;obtain⟨b0,h1,h2,h3⟩:=H.back h hl;obtain⟨cs0,rfl,_⟩:=h2.box;rw[h3];exact hp cs0 h1
theorem fL.ak {id:Nat}{u:Value}(h:id∈ids)(hv:VT C (.ak id) u):VT (C.sub ids L bs) (.ak (idx id ids)) u:=by
 obtain⟨_,DA,hp⟩:=hv;refine⟨H.known h,DA,λsz es hl=> ?_⟩;obtain⟨b0,h1,h2,h3⟩:=H.back h hl;cases h2.arr;have:=hp sz es h1;unfold HS at this|-;rw[h3];exact this
theorem fL.agg {cs:List PV}{u:Value}(hv:VT C (.agg cs) u):VT (C.sub ids L bs) (.agg cs) u:=by
 obtain⟨us,rfl,ha⟩:=hv;exact⟨us,rfl,ha.mono λ_ _=>H.vp⟩
theorem fL.VQ:∀{caps:List TV} {us:List Value},(∀t∈caps,adk ids t)->All2 (VT C) caps us->All2 (VT (C.sub ids L bs)) (caps.map (GW ids)) us
 |[],[],_,_=>trivial
 |[],_::_,_,h=>h.elim
 |_::_,[],_,h=>h.elim
 |t::caps,u::us,ht,ha=>by
  refine⟨?_,fL.VQ (λx hx=>ht x (by simp[hx])) ha.2⟩;rcases ht t (by simp)with⟨j,o,rfl,hj⟩|⟨cs,rfl⟩
  ·exact H.ptr hj ha.1
  ·exact H.agg ha.1
theorem fL.DG {c a:AV}{u:Value}(h:K4 ids c a)(hv:VA C c u):VA (C.sub ids L bs) a u:=by
 rcases h with⟨v,rfl,rfl⟩|⟨j,hj,rfl,rfl⟩|⟨j,o,hj,rfl,rfl⟩|⟨g,caps,rfl,rfl,hc⟩
 ·exact H.vp hv
 ·exact H.ak hj hv
 ·exact H.ptr hj hv
 ·obtain⟨us,rfl,ha⟩:=hv;exact⟨us,rfl,fL.VQ H hc ha⟩
theorem fL.sub:Ok (C.sub ids L bs) where
 gr:=⟨λb hb=>⟨(H.ok.gr.low b hb).1,λho=>by
  obtain⟨id,_,B,h1,h2⟩:=H.own ho;exact(H.ok.gr.low b hb).2 ⟨id,B,h1,h2⟩⟩,H.ok.gr.at_⟩
 blk i b hl:=by
  obtain⟨_,id,b0,_,h2,h3,h4⟩:=H.uj hl;have hb:=H.ok.blk id b0 h2;cases b with
  |tab=>exact h3.Oi.elim
  |arr sz es=>
   cases h3.arr;rcases hb with⟨g1,g2⟩|⟨n,carr,e,fr,g1,g2,g3,g4,g5,g6,g7⟩
   ·exact .inl ⟨h4.trans g1,g2⟩
   ·exact .inr ⟨n,carr,e,fr,h4.trans g1,g2,g3,g4,g5,g6,λi j e c he hj=>by
     obtain⟨u,k1,k2⟩:=g7 i j e c he hj;exact⟨u,k1,H.vp k2⟩⟩
  |box af=>
   obtain⟨cs,rfl,hall⟩:=h3.box;obtain⟨n,carr,e,fr,g1,g2,g3,g4,g5⟩:=hb;refine⟨n,carr,e,fr,h4.trans g1,g2,g3.trans hall.length,g4,λj a ha=> ?_⟩;have hlt:j<cs.length:=by rw[hall.length];exact(ko.1 ha).1
   obtain⟨a',k1,k2⟩:=hall.get j cs[j] (dD hlt);rw[ha]at k1;cases k1;obtain⟨u,e1,e2,e3⟩:=g5 j cs[j] (dD hlt);exact⟨u,e1,H.DG k2 e2,e3⟩
 inj i i' n b b' h1 h2 e1 e2:=by
  obtain⟨_,id,_,g1,g2,_,g4⟩:=H.uj h1;obtain⟨_,cT,_,k1,k2,_,k4⟩:=H.uj h2;have:=H.ok.inj id cT n _ _ g2 k2 ((Np g1).1 e1) ((Np k1).1 e2);subst this;exact zq H.nodup g1 k1
 Mr i b n hl hn:=by
  obtain⟨_,id,_,g1,g2,_,g4⟩:=H.uj hl;obtain⟨cT,h1,h2⟩:=hn;rw[g1]at h1;cases h1;exact H.ok.Mr id _ n g2 h2
 x n hn:=by
  refine⟨?_,λho=> ?_⟩
  ·rcases hn.1 with h|⟨id,b,h1,h2⟩
   ·exact(H.ok.x n h).1
   ·exact H.ok.Q7 h1 h2
  ·obtain⟨id,hm,B,_,h2⟩:=H.own ho;exact hn.2 id (.inl hm) h2
end sub
def TT (cid:List Nat)(t t':TV):Prop:=(∃k id o,t=.ptr k o/\t'=.ptr id o/\cid[k]? =some id)\/∃k id,t=.ak k/\t'=.ak id/\cid[k]? =some id
def TC (cid:List Nat)(c d:AV):Prop:=
 (∃(v:PV) (s:Sh),c=.p v/\d=.p (uT s v)/\xp s v=true)\/(∃t t',c=.t t/\d=.t t'/\TT cid t t')\/∃g l l',c=.fn g l/\d=.fn g l'/\All2 (TT cid) l l'
def TB (cid:List Nat)(raw can:au):Prop:=(raw=can/\∃sz es,raw=.arr sz es)\/∃cs ds,raw=.box cs/\can=.box ds/\All2 (TC cid) cs ds
def qE:au->Bool
 | .box cs=>cs.all om
 | .arr _ es=>es.all λe=>e.all fA
 | .tab _ _ _=>false
theorem VP.ad1 {w:World}{O O':Nat->Prop}{v:PV}{u:Value}(hn:fA v=true)(h:VP w O v u):VP w O' v u:=by
 cases h<;>first|(cases hn;done)|(constructor;done)
def xu (C D:Ctx)(cid:List Nat):Nat->Option Nat:=λid=>if id∈cid then D.ι (idx id cid) else C.ι id
def Ctx.merge (C D:Ctx)(cid dJ:List Nat)(ds:List au):Ctx:=⟨D.w,xu C D cid,bh (fM cid ds) (bh (vE dJ) C.h),C.X,λid n=>(id∈cid/\D.κ (idx id cid) n)\/(id∉cid/\C.κ id n)⟩
theorem oZ (l:List Nat):bK (vE l):=λu hu=>by
 obtain⟨x,_,rfl⟩:=fQ.1 hu;rfl
theorem np:∀{cid:List Nat} {ds:List au} {id:Nat} {e:bw},(id,e)∈fM cid ds->∃(k:Nat) (b:au),cid[k]? =some id/\ds[k]? =some b/\e=.blk b
 |[],_,_,_,h=>by simp[fM]at h
 |_::_,[],_,_,h=>by simp[fM]at h
 |x::cid,b::ds,id,e,h=>by
  simp only[fM,gR,xh]at h;rcases h with⟨rfl,rfl⟩|h
  ·exact⟨0,b,rfl,rfl,rfl⟩
  ·obtain⟨k,b',h1,h2,h3⟩:=np h;exact⟨k+1,b',h1,h2,h3⟩
theorem zo:∀{cid:List Nat} {ds:List au} {h:List bw} {k id:Nat} {b:au},cid.Nodup->cid[k]? =some id->ds[k]? =some b->id<h.length->nth bw.fresh (bh (fM cid ds) h) id=.blk b
 |[],_,_,k,_,_,_,h1,_,_=>by simp at h1
 |_::_,[],_,k,_,_,_,_,h2,_=>by simp at h2
 |x::cid,d::ds,h,0,id,b,hn,h1,h2,hl=>by
  simp only[uP,kE]at h1 h2;subst h1 h2;rw[fM,bh,dR,ep,aK ⟨rfl,hl⟩];intro u hu he;obtain⟨k,b',g1,_,_⟩:=np (show(u.1,u.2)∈_ from hu);rw[he]at g1;exact(Cp.1 hn).1 (gq g1)
 |x::cid,d::ds,h,k+1,id,b,hn,h1,h2,hl=>by
  rw[fM,bh];exact zo (Cp.1 hn).2 (by simpa using h1) (by simpa using h2) (by rw[bU];exact hl)
theorem BM {h:List bw}{id:Nat}{b:au}(hl:live h id b):id<h.length:=by
 rcases y7 id h.length with h'|h'
 ·exact h'
 ·unfold live at hl;rw[ud h']at hl;cases hl
theorem vv:∀{l:List Nat} {h:List bw} {id:Nat} {b:au},id∈l->id<h.length->¬live (bh (vE l) h) id b
 |[],_,_,_,hm,_=>by cases hm
 |x::l,h,id,b,hm,hlt=>by
  intro hl;by_cases hx:id∈l
  ·exact vv (l:=l) (h:=upd .dead h x) hx (by rw[bU];exact hlt) hl
  ·have:id=x:=(gR.1 hm).resolve_right hx;subst this;rcases lG (us:=vE l) (h:=upd .dead h id) hl with h1|h1
   ·have:=oZ l _ h1;cases this
   ·rcases bR.1 h1 with⟨_,_,h2⟩|⟨h2,_⟩
    ·cases h2
    ·exact h2 ⟨rfl,hlt⟩
structure bj (C:Ctx)(kid dJ L:List Nat)(bs:List au)(D:Ctx)(cN:List Nat)(R ds:List au):Prop where
 sub:fL C (kid++dJ) L bs
 ext:fV kid.length (C.sub (kid++dJ) L bs) D
 ok:Ok D
 h:D.h=R.map bw.blk
 len:R.length=kid.length+cN.length
 ae1:ds.length=R.length
 tb:∀(k:Nat) r d,R[k]? =some r->ds[k]? =some d->TB (kid++cN) r d
 fresh:∀n∈cN,nth bw.fresh C.h n=.fresh/\n<C.h.length
 akH:cN.Nodup
 ad1:L=[]\/∀b∈R,qE b=true
section merge
variable {C:Ctx} {kid dJ L:List Nat} {bs:List au} {D:Ctx} {cN:List Nat} {R ds:List au} (M:bj C kid dJ L bs D cN R ds)
include M
theorem bj.Hr {id:Nat}(h:id∈kid++dJ):∃b,live C.h id b:=by
 obtain⟨i,hi⟩:=List.getElem?_of_mem h;obtain⟨b,_,_,h2,_⟩:=M.sub.at_ i id hi;exact⟨b,h2⟩
theorem bj.ne {id n:Nat}(h:known C.h id)(hn:n∈cN):id≠n:=λhe=>h (he▸(M.fresh n hn).1)
theorem bj.nodup:(kid++cN).Nodup:=by
 refine List.nodup_append.2 ⟨(List.nodup_append.1 M.sub.nodup).1,M.akH,λa ha b hb=> ?_⟩;obtain⟨B,hB⟩:=M.Hr (eO.2 (.inl ha));exact M.ne (dX hB) hb
theorem bj.clt {k id:Nat}(h:(kid++cN)[k]? =some id):id<C.h.length:=by
 rcases eO.1 (gq h)with h1|h1
 ·obtain⟨B,hB⟩:=M.Hr (eO.2 (.inl h1));exact BM hB
 ·exact(M.fresh id h1).2
theorem bj.Uk {k:Nat}{r:au}(h:R[k]? =some r):live D.h k r:=by
 unfold live;rw[M.h];exact(lB R k r).2 h
theorem bj.aa4 {k id:Nat}(h:(kid++cN)[k]? =some id):(C.merge D (kid++cN) dJ ds).ι id=D.ι k:=by
 show xu C D (kid++cN) id=_;unfold xu;rw[aK (gq h),Hq M.nodup h]
theorem bj.Rk {id:Nat}(h:id∉kid++cN):(C.merge D (kid++cN) dJ ds).ι id=C.ι id:=by
 show xu C D (kid++cN) id=_;unfold xu;rw[aC h]
theorem bj.at_at {k id n:Nat}(h:(kid++cN)[k]? =some id):(C.merge D (kid++cN) dJ ds).at id n↔D.at k n:=by
 unfold Ctx.at;rw[M.aa4 h];have hm:=gq h;refine⟨λk=>k.imp (λk=>k) λk=> ?_,λk=>k.imp (λk=>k) λk=>.inl ⟨hm,by rw[Hq M.nodup h];exact k⟩⟩;rcases k with⟨_,k⟩|⟨k,_⟩
 ·rw[Hq M.nodup h]at k;exact k
 ·exact absurd hm k
theorem bj.Em {id n:Nat}(h:id∉kid++cN):(C.merge D (kid++cN) dJ ds).at id n↔C.at id n:=by
 unfold Ctx.at;rw[M.Rk h];refine⟨λk=>k.imp (λk=>k) λk=> ?_,λk=>k.imp (λk=>k) λk=>.inr ⟨h,k⟩⟩;rcases k with⟨k,_⟩|⟨_,k⟩
 ·exact absurd k h
 ·exact k
theorem bj.handed {k id:Nat}(h:kid[k]? =some id):∃b0 b r,bs[k]? =some b/\R[k]? =some r/\live C.h id b0/\D.ι k=C.ι id/\pQ b0 r:=by
 have Lc:k<kid.length:=(ko.1 h).1;have h':(kid++dJ)[k]? =some id:=by rw[Cr Lc];exact h
 obtain⟨b0,b,h1,h2,h3⟩:=M.sub.at_ k id h';have hlt:k<R.length:=by
  have:=M.len;omega
 have hR:R[k]? =some R[k]:=dD hlt;have hk:live (C.sub (kid++dJ) L bs).h k b:=(lB bs k b).2 h1;obtain⟨_,he⟩:=M.ext.qd k Lc (dX hk);obtain⟨b',g1,g2,g3⟩:=he R[k] (M.Uk hR);have:=lH g1 hk;subst this;refine⟨_,_,_,h1,hR,h2,?_,?_⟩
 ·rw[g2];show(((kid++dJ)[k]?).bind C.ι)=_;rw[h'];rfl
 ·refine jg ?_ g3;cases b' with
  |arr=>cases h3.arr;exact dx _
  |box=>obtain⟨cs,rfl,hall⟩:=h3.box;exact hall.length
  |tab=>exact h3.Oi.elim
theorem bj.cases {id:Nat}{b:au}(h:live (C.merge D (kid++cN) dJ ds).h id b):
  (∃k r,(kid++cN)[k]? =some id/\ds[k]? =some b/\R[k]? =some r/\TB (kid++cN) r b/\live D.h k r/\(C.merge D (kid++cN) dJ ds).ι id=D.ι k)\/
  (id∉kid++cN/\id∉kid++dJ/\live C.h id b/\(C.merge D (kid++cN) dJ ds).ι id=C.ι id):=by
 have jO:(kid++cN).length=ds.length:=by rw[eC,M.ae1,M.len]
 by_cases hm:id∈kid++cN
 ·left;obtain⟨k,hk⟩:=List.getElem?_of_mem hm;have hlt:k<ds.length:=by rw[<-jO];exact(ko.1 hk).1
  have hd:ds[k]? =some ds[k]:=dD hlt;have hp:=zo (h:=bh (vE dJ) C.h) M.nodup hk hd (by rw[ew];exact M.clt hk);have h':nth bw.fresh (bh (fM (kid++cN) ds) (bh (vE dJ) C.h)) id=.blk b:=h;rw[hp]at h';cases h';have hR:R[k]? =some (R[k]'(by rw[<-M.ae1];exact hlt)):=dD _;exact⟨k,_,hk,hd,hR,M.tb k _ _ hR hd,M.Uk hR,M.aa4 hk⟩
 ·right;have h2:live (bh (vE dJ) C.h) id b:=by
   rcases lG h with h1|h1
   ·obtain⟨k,b',g1,_,_⟩:=np h1;exact absurd (gq g1) hm
   ·exact h1
  have h3:live C.h id b:=by
   rcases lG h2 with h1|h1
   ·have:=oZ dJ _ h1;cases this
   ·exact h1
  refine⟨hm,λhi=> ?_,h3,M.Rk hm⟩;rcases eO.1 hi with hi|hi
  ·exact hm (eO.2 (.inl hi))
  ·exact vv hi (BM h3) h2
theorem bj.agM {n:Nat}(h:D.own n)(hn:n<C.w.heap.size):∃id∈kid++dJ,∃B,live C.h id B/\C.at id n:=M.sub.own (M.ext.own n hn h)
theorem bj.zg {n:Nat}(h:(C.merge D (kid++cN) dJ ds).own n):D.own n\/∃id b,id∉kid++cN/\id∉kid++dJ/\live C.h id b/\C.at id n:=by
 obtain⟨id,b,hl,hi⟩:=h;rcases M.cases hl with⟨k,r,h0,_,_,_,h5,h6⟩|⟨h1,Lg,h2,h3⟩
 ·exact .inl ⟨k,r,h5,(M.at_at h0).1 hi⟩
 ·exact .inr ⟨id,b,h1,Lg,h2,(M.Em h1).1 hi⟩
theorem bj.Og {id:Nat}{b:au}{n:Nat}(h1:id∉kid++dJ)(h2:live C.h id b)(h3:C.at id n):¬D.own n:=by
 intro ho;obtain⟨cT,hm,B,g1,g2⟩:=M.agM ho (M.sub.ok.Q7 h2 h3);have:=M.sub.ok.inj cT id n B b g1 h2 g2 h3;subst this;exact h1 hm
theorem bj.aai:Ext C (C.merge D (kid++cN) dJ ds) where
 tape:=M.ext.tape
 os:=M.ext.os
 out:=M.ext.out
 size:=M.ext.size
 X:=rfl
 keep b hb ho:=M.ext.keep b hb λh=>by
  obtain⟨id,_,B,h1,h2⟩:=M.sub.own h;exact ho ⟨id,B,h1,h2⟩
 own b hb h:=by
  rcases M.zg h with h|⟨id,B,_,_,h2,h3⟩
  ·obtain⟨id,_,B,h1,h2⟩:=M.agM h hb;exact⟨id,B,h1,h2⟩
  ·exact⟨id,B,h2,h3⟩
 qd id hk:=by
  refine⟨iq (λu hu=> ?_) (iq (λu hu=> ?_) hk),λb' hb'=> ?_⟩
  ·obtain⟨k,b,_,_,h3⟩:=np (show(u.1,u.2)∈_ from hu);rw[h3];simp
  ·rw[oZ dJ u hu];simp
  ·rcases M.cases hb' with⟨k,r,h1,h2,h3,h4,h5,h6⟩|⟨h1,_,h2,h3⟩
   ·have ir:kid[k]? =some id:=by
     rw[Co]at h1;split at h1
     ·exact h1
     ·exact absurd rfl (M.ne hk (gq h1))
    obtain⟨b,_,r',_,g2,g3,g4,g5⟩:=M.handed ir;rw[h3]at g2;cases g2;refine⟨b,g3,h6.trans g4,jg g5 ?_⟩;rcases h4 with⟨rfl,_⟩|⟨cs,Ij,rfl,rfl,hall⟩
    ·exact dx _
    ·exact hall.length
   ·exact⟨b',h2,h3,dx _⟩
 row b carr e fr ho hc:=by
  by_cases hb:(C.sub (kid++dJ) L bs).own b
  ·exact M.ext.row b carr e fr hb hc
  ·exact⟨carr,fr,by rw[show(C.merge D (kid++cN) dJ ds).w=D.w from rfl,M.ext.keep b (c_.1 hc).1 hb];exact hc,rfl⟩
theorem bj.vp {v:PV}{u:Value}(hn:L=[]\/fA v=true)(h:D.P v u):(C.merge D (kid++cN) dJ ds).P v u:=by
 rcases hn with hn|hn
 ·refine VP.sub (w:=D.w) (O:=D.O) (λb hb ho=> ?_) h;have hX:∀b,(∀id,id∈kid++dJ->¬C.at id b)->C.O b->D.X b:=λb h1 h2=>by
   rw[M.ext.X];refine⟨h2,λid bn=> ?_⟩;rcases bn with h3|h3
   ·exact h1 id h3
   ·rw[hn]at h3;cases h3
  rcases ho with hx|ho
  ·refine .inl (hX b (λid bn he=> ?_) (.inl hx));obtain⟨B,hB⟩:=M.Hr bn;exact(M.sub.ok.x b hx).2 ⟨id,B,hB,he⟩
  ·rcases M.zg ho with h|⟨id,B,h1,Lg,h2,h3⟩
   ·exact .inr h
   ·refine .inl (hX b (λcT MH he=> ?_) (.inr ⟨id,B,h2,h3⟩));obtain⟨B',Hx⟩:=M.Hr MH;have:=M.sub.ok.inj cT id b B' B Hx h2 he h3;subst this;exact Lg MH
 ·exact VP.ad1 hn h
theorem bj.JM {k id:Nat}(h:(kid++cN)[k]? =some id):known (C.merge D (kid++cN) dJ ds).h id:=by
 have jO:(kid++cN).length=ds.length:=by rw[eC,M.ae1,M.len]
 have hlt:k<ds.length:=by rw[<-jO];exact(ko.1 h).1
 have:=zo (h:=bh (vE dJ) C.h) M.nodup h (dD hlt) (by rw[ew];exact M.clt h);exact dX (b:=ds[k]) this
theorem bj.aiq {k id:Nat}{b:au}(h:(kid++cN)[k]? =some id)(hl:live (C.merge D (kid++cN) dJ ds).h id b):∃r,TB (kid++cN) r b/\live D.h k r/\(C.merge D (kid++cN) dJ ds).ι id=D.ι k:=by
 rcases M.cases hl with⟨k',r,h1,_,_,h4,h5,h6⟩|⟨h1,_⟩
 ·have:=zq M.nodup h h1;subst this;exact⟨r,h4,h5,h6⟩
 ·exact absurd (gq h) h1
theorem bj.ak {k id:Nat}{u:Value}(h:(kid++cN)[k]? =some id)(hv:VT D (.ak k) u):VT (C.merge D (kid++cN) dJ ds) (.ak id) u:=by
 obtain⟨_,DA,hp⟩:=hv;refine⟨M.JM h,DA,λsz es hl=> ?_⟩;obtain⟨r,h1,h2,h3⟩:=M.aiq h hl;rcases h1 with⟨rfl,_⟩|⟨_,_,_,he,_⟩
 ·have:=hp sz es h2;unfold HS at this|-;rw[h3];exact this
 ·cases he
theorem bj.ptr {k id o:Nat}{u:Value}(h:(kid++cN)[k]? =some id)(hv:VT D (.ptr k o) u):VT (C.merge D (kid++cN) dJ ds) (.ptr id o) u:=by
 obtain⟨_,b,hu,hp⟩:=hv;refine⟨M.JM h,b,hu,λcs hl=> ?_⟩;obtain⟨r,h1,h2,h3⟩:=M.aiq h hl;rw[h3];rcases h1 with⟨rfl,_,_,he⟩|⟨cs',Ij,rfl,_,_⟩
 ·cases he
 ·exact hp _ h2
theorem bj.tt {t t':TV}{u:Value}(h:TT (kid++cN) t t')(hv:VT D t u):VT (C.merge D (kid++cN) dJ ds) t' u:=by
 rcases h with⟨k,id,o,rfl,rfl,h⟩|⟨k,id,rfl,rfl,h⟩
 ·exact M.ptr h hv
 ·exact M.ak h hv
theorem bj.tts:∀{l l':List TV} {us:List Value},All2 (TT (kid++cN)) l l'->All2 (VT D) l us->All2 (VT (C.merge D (kid++cN) dJ ds)) l' us
 |[],[],us,_,hv=>by cases us with|nil=>trivial|cons=>exact hv.elim
 |[],_::_,_,h,_=>h.elim
 |_::_,[],_,h,_=>h.elim
 |t::l,t'::l',us,h,hv=>by
  cases us with
  |nil=>exact hv.elim
  |cons u us=>exact⟨M.tt h.1 hv.1,bj.tts h.2 hv.2⟩
theorem bj.tc {c d:AV}{u:Value}(hn:L=[]\/om c=true)(h:TC (kid++cN) c d)(hv:VA D c u):VA (C.merge D (kid++cN) dJ ds) d u:=by
 rcases h with⟨v,s,rfl,rfl,az⟩|⟨t,t',rfl,rfl,h⟩|⟨g,l,l',rfl,rfl,h⟩
 ·exact jm az (M.vp hn hv)
 ·exact M.tt h hv
 ·obtain⟨us,rfl,ha⟩:=hv;exact⟨us,rfl,bj.tts M h ha⟩
theorem bj.amw {k id:Nat}{r b:au}(hR:R[k]? =some r)(hι:(C.merge D (kid++cN) dJ ds).ι id=D.ι k)(htb:TB (kid++cN) r b):q9 (C.merge D (kid++cN) dJ ds) id b:=by
 have hb:=M.ok.blk k r (M.Uk hR);have Z5:L=[]\/qE r=true:=M.ad1.imp (λh=>h) λh=>h r (gq hR);rcases htb with⟨rfl,sz,es,rfl⟩|⟨cs,Ij,rfl,rfl,hall⟩
 ·rcases hb with⟨g1,g2⟩|⟨n,carr,e,fr,g1,g2,g3,g4,g5,g6,g7⟩
  ·exact .inl ⟨hι.trans g1,g2⟩
  ·refine .inr ⟨n,carr,e,fr,hι.trans g1,g2,g3,g4,g5,g6,λi j e c he hj=> ?_⟩;obtain⟨u,k1,k2⟩:=g7 i j e c he hj;refine⟨u,k1,M.vp (Z5.imp (λh=>h) λh=> ?_) k2⟩;exact iC.1 (iC.1 h e (gq he)) c (gq hj)
 ·obtain⟨n,carr,e,fr,g1,g2,g3,g4,g5⟩:=hb;refine⟨n,carr,e,fr,hι.trans g1,g2,g3.trans hall.length,g4,λj d hd=> ?_⟩;have hlt:j<cs.length:=by rw[hall.length];exact(ko.1 hd).1
  obtain⟨d',k1,k2⟩:=hall.get j cs[j] (dD hlt);rw[hd]at k1;cases k1;obtain⟨u,e1,e2,e3⟩:=g5 j cs[j] (dD hlt);exact⟨u,e1,M.tc (Z5.imp (λh=>h) λh=>iC.1 h _ (mZ hlt)) k2 e2,e3⟩
theorem bj.okC:Ok (C.merge D (kid++cN) dJ ds) where
 gr:=M.aai.gr M.sub.ok.gr
 blk id b hl:=by
  rcases M.cases hl with⟨k,r,_,_,h3,h4,_,h6⟩|⟨h1,Lg,h2,h3⟩
  ·exact M.amw h3 h6 h4
  ·refine M.aai.QV (M.sub.ok.blk id b h2) h3 (λn=> ?_) λn hn=> ?_
   ·exact⟨λh=>h.elim (λh=>absurd h.1 h1) (λh=>h.2),λh=>.inr ⟨h1,h⟩⟩
   exact M.ext.keep n (M.sub.ok.Q7 h2 hn) λho=>by
    obtain⟨cT,hm,B,g1,g2⟩:=M.sub.own ho;have:=M.sub.ok.inj cT id n B b g1 h2 g2 hn;subst this;exact Lg hm
 inj id cT n b b' h1 h2 e1 e2:=by
  rcases M.cases h1 with⟨k,r,a1,_,_,_,a5,a6⟩|⟨a1,a1',a2,a3⟩<;>rcases M.cases h2 with⟨k',r',c1,_,_,_,c5,c6⟩|⟨c1,c1',c2,c3⟩
  ·have:=M.ok.inj k k' n r r' a5 c5 ((M.at_at a1).1 e1) ((M.at_at c1).1 e2);subst this;rw[a1]at c1;exact pH c1
  ·exact absurd ⟨k,r,a5,(M.at_at a1).1 e1⟩ (M.Og c1' c2 ((M.Em c1).1 e2))
  ·exact absurd ⟨k',r',c5,(M.at_at c1).1 e2⟩ (M.Og a1' a2 ((M.Em a1).1 e1))
  ·exact M.sub.ok.inj id cT n b b' a2 c2 ((M.Em a1).1 e1) ((M.Em c1).1 e2)
 Mr id b n hl hn:=by
  rcases M.cases hl with⟨k,r,a1,_,_,_,a5,a6⟩|⟨a1,_,a2,a3⟩
  ·rcases hn with⟨_,hn⟩|⟨hn,_⟩
   ·rw[Hq M.nodup a1]at hn;exact M.ok.Mr k r n a5 hn
   ·exact absurd (gq a1) hn
  ·rcases hn with⟨hn,_⟩|⟨_,hn⟩
   ·exact absurd hn a1
   ·exact gp (M.sub.ok.Mr id b n a2 hn) M.ext.size
 x n hn:=by
  obtain⟨h1,h2⟩:=M.sub.ok.x n hn;exact⟨gp h1 M.ext.size,λh=>h2 (M.aai.own n h1 h)⟩
theorem bj.vpF {v:PV}{u:Value}(h:VP D.w (λb=>D.O b\/b<C.w.heap.size) v u):(C.merge D (kid++cN) dJ ds).P v u:=by
 refine VP.sub (w:=D.w) (λb hb ho=> ?_) h;rcases ho with hx|ho
 ·exact .inr (M.sub.ok.x b hx).1
 ·rcases M.zg ho with h|⟨id,B,h1,Lg,h2,h3⟩
  ·exact .inl (.inr h)
  ·exact .inr (M.sub.ok.Q7 h2 h3)
end merge
end
section
def Bf:Nat->List RC->List TV
 |_,[]=>[]
 |n,.p v::l=>.p v::Bf n l
 |n,.own _ _::l=>.ak n::Bf (n+1) l
def rh:List RC->List au
 |[]=>[]
 | .p _::l=>rh l
 | .own sz es::l=>.arr sz es::rh l
def mK:List RC->Nat
 |[]=>0
 | .p _::l=>mK l
 | .own _ _::l=>mK l+1
def kD:Nat->List RV->List (TV⊕List TV)
 |_,[]=>[]
 |n,.p v::l=>.inl (.p v)::kD n l
 |n,.agg cs::l=>.inl (.agg cs)::kD n l
 |n,.own _ _::l=>.inl (.ak n)::kD (n+1) l
 |n,.kI _::l=>.inl (.ptr n 0)::kD (n+1) l
 |n,.bm cs::l=>.inr (Bf n cs)::kD (n+mK cs) l
 |n,.nU cs::l=>.inl (.ptr n 0)::kD (n+(mK cs+1)) l
def ee:Nat->List RV->List au
 |_,[]=>[]
 |n,.p _::l=>ee n l
 |n,.agg _::l=>ee n l
 |n,.own sz es::l=>.arr sz es::ee (n+1) l
 |n,.kI cs::l=>.box (cs.map AV.p)::ee (n+1) l
 |n,.bm cs::l=>rh cs++ee (n+mK cs) l
 |n,.nU cs::l=>.box ((Bf (n+1) cs).map AV.t)::(rh cs++ee (n+(mK cs+1)) l)
def K7 (E:Env)(f:Nat)(args:List AV)(hs:List au)(rs:List RV)(dL:List au):Prop:=
 ∀C:Ctx,Ok C->C.h=hs.map bw.blk->∀us:Array Value,All2 (VA C) args us.toList->
  Calls E.P f us C.w λe w'=>match e with
   | .returned u=>∃D:Ctx,D.w=w'/\fV (ku hs) C D/\Ok D/\D.h=(dL++ee hs.length rs).map bw.blk/\dL.length=hs.length/\VA D (valOf (kD hs.length rs)) u
   |_=>False
def Ctx.over (D:Ctx)(n:Nat):Ctx:=⟨D.w,D.ι,D.h,λb=>D.X b\/b<n,D.κ⟩
def QZ (E:Env)(f:Nat)(args:List AV)(rs:List RV):Prop:=
 ee 0 rs=[]/\∀C:Ctx,Ok C->C.h=[]->∀us:Array Value,All2 (VA C) args us.toList->
  Calls E.P f us C.w λe w'=>match e with
   | .returned u=>∃D:Ctx,D.w=w'/\fV 0 C D/\Ok D/\D.h=[]/\VA (D.over C.w.heap.size) (valOf (kD 0 rs)) u
   |_=>False
def qu (Bs:Nat)(sv:Value)(b:Nat):Prop:=b=Bs\/∃o l c,sv=.slice (some ⟨b,o,none⟩) l c/\0<l
def O_ (P:Program)(gf:Nat):Prop:=
 (∀args w,(callFunc gf args).run P w=.ok (.enter gf args) w)/\
 ∀(N l Bs:Nat) (sv:Value) (n:Nat) (g:Nat->Value) (W:World) (J:Nat->World->Prop) (Jx:World->Prop),2<=N->n<=140737488351232->W.cell? ⟨Bs,0,none⟩=some sv->
  ((∃a cap,sv=.slice a 0 cap/\n=0)\/∃b off cap,sv=.slice (some ⟨b,off,none⟩) n cap/\∀j,j<n->W.cell? ⟨b,off+j,none⟩=some (g j))->
  (∀k W1,k<n->J k W1->YieldAt Fence.wide (N-1) P l #[.int .i64 ((n-1-k:Nat):Int),g (n-1-k)] W1 λe W'=>
   (e=.returned (.bool true)/\J (k+1) W'/\∀b,qu Bs sv b->W'.heap[b]? =W1.heap[b]?)\/(e=.returned (.bool false)/\Jx W'))->
  J 0 W->CallsIn Fence.wide N P gf #[.func (.yield l) #[] #[],.pointer (some ⟨Bs,0,none⟩)] W λe W'=>(∃v,e=.returned v)/\(J n W'\/Jx W')
def Xr (E:Env):Prop:=∀g k,iA g E.hpr=some k->bH g E.v_=true/\∀(C:Ctx) (look:aJ) (nid:Nat) (args:List AV) (v:AV) (us:cD) (et:Array Value),Ok C->bQ C look->
 (∀n,nid<=n->n<nid+ly->nth bw.fresh C.h n=.fresh/\n<C.h.length)->All2 (VA C) args et.toList->Bn k look nid args two=some (v,us)->
  Calls E.P g et C.w λe w'=>match e with
   | .returned u=>bq C us v u w'
   |_=>False
def pvU:PV->Value
 | .int k n=>.int k n
 | .bool b=>.bool b
 |_=>Go.undef
def G1:PV->Bool
 | .int _ _=>true
 | .bool _=>true
 |_=>false
def roU (bs ps:Array Value)(z:Value):Bool->Array Value
 |true=> #[.agg bs,.agg ps,z]
 |false=> #[.agg bs,z]
def QY (P:Program)(f:Nat)(p:Ey):Prop:=
 ∀(b0 b1 b2 b3 b4 b5 p0 p1 p2 p3 z:Value) (B:Nat) (w:World) (vs ds:List PV),
  (∀(j:Nat) x,[b0,b1,b2,b3,b4,b5,p0,p1,p2,p3][j]? =some x->w.cell? ⟨B,j,none⟩=some x/\x.oneCell'=true)->All2 (VP w λ_=>False) ds [p0,p1,p2,p3]->vs.length=p.gs.length->p.ok vs ds=true->
  (∀(i:Nat) g fu s x,p.gs[i]? =some (g,fu,s)->vs[i]? =some x->xp s x=true/\∀W,RowKit.Below w.heap.size w W->Calls P g (roU #[b0,b1,b2,b3,b4,b5] #[p0,p1,p2,p3] z fu) W λe w'=>e=.returned (pvU x)/\RowKit.Below W.heap.size W w')->
  G1 (p.val vs ds)=true/\Calls P f #[.pointer (some ⟨B,0,none⟩),z] w λe w'=>e=.returned (pvU (p.val vs ds))/\RowKit.Below w.heap.size w w'
structure eI (E:Env)(F:d_):Prop where
 fn:∀f args hs rs dL,F f args hs=some (rs,dL)->bH f E.v_=true->K7 E f args hs rs dL
 fr:∀f args hs rs dL,F f args hs=some (rs,dL)->bH f E.fresh=true->hs=[]->QZ E f args rs
 hp:Xr E
 rv:∀f,FD E f=true->O_ E.P f
 ro:∀f p,iA f E.ro=some p->QY E.P f p
structure yx (E:Env):Prop where
 pr:∀f p,iA f E.Oc=some p->∀F,eI E F->∀args rs,p.run F args=some rs->K7 E f args [] rs []
 fr:∀f,bH f E.fresh=true->∃p,iA f E.Oc=some p/\∀F,eI E F->∀args rs,p.run F args=some rs->QZ E f args rs
 hp:Xr E
 rv:∀f,FD E f=true->O_ E.P f
 ro:∀f p,iA f E.ro=some p->QY E.P f p
theorem jW {l:List Nat}{x y:Nat}:y∈addN l x↔y∈l\/y=x:=by
 unfold addN;cases h:bH x l with
 |true=>simp only[en];exact⟨.inl,λh'=>h'.elim id λe=>e▸cP.1 h⟩
 |false=>simp
def D_ (s:List Nat)(c:TV):List Nat:=match c with| .ptr id _=>addN s id|_=>s
theorem A5 {caps:List TV}:∀{s:List Nat} {x:Nat},x∈s->x∈caps.foldl D_ s:=by
 induction caps with
 |nil=>intro s x h;exact h
 |cons c caps ih=>
  intro s x h;refine ih ?_;unfold D_;split
  ·exact jW.2 (.inl h)
  ·exact h
theorem M6 {caps:List TV}:∀{s:List Nat} {id o:Nat},TV.ptr id o∈caps->id∈caps.foldl D_ s:=by
 induction caps with
 |nil=>intro s id o h;cases h
 |cons c caps ih=>
  intro s id o h;rcases gR.1 h with rfl|h
  ·show id∈caps.foldl D_ (addN s id);exact A5 (jW.2 (.inr rfl))
  ·exact ih h
theorem Bb {l:List Nat}:∀{s:List Nat} {x:Nat},x∈s->x∈H' l s:=by
 induction l with
 |nil=>intro s x h;exact h
 |cons c l ih=>intro s x h;exact ih (jW.2 (.inl h))
theorem vF {look:aJ}:∀(n:Nat) {ids:List Nat} {x:Nat},x∈ids->x∈yb look n ids
 |0,_,_,h=>h
 |n+1,_,_,h=>vF n (Bb h)
def Eo (E:Env)(f i:Nat)(a:AV)(ids:List Nat):List Nat:=
 match a with
 | .t (.ptr id _)=>addN ids id
 | .t (.ak id)=>cond (lJ f i E.rV) (addN ids id) ids
 | .fn _ caps=>caps.foldl D_ ids
 | .bm vs=>cond (lJ f i E.rV) (H' (vs.flatMap Du) ids) ids
 | .iG _ id _=>addN ids id
 |_=>ids
theorem G6 (E:Env)(f i:Nat)(a:AV)(l:List AV)(ids:List Nat):kX E f i (a::l) ids=kX E f (i+1) l (Eo E f i a ids):=rfl
theorem KT {E:Env}{f i:Nat}{a:AV}{ids:List Nat}{x:Nat}(h:x∈ids):x∈Eo E f i a ids:=by
 unfold Eo;split
 ·exact jW.2 (.inl h)
 ·cases lJ f i E.rV
  ·exact h
  ·exact jW.2 (.inl h)
 ·exact A5 h
 ·cases lJ f i E.rV
  ·exact h
  ·exact Bb h
 ·exact jW.2 (.inl h)
 ·exact h
theorem xl {E:Env}{f:Nat}:∀{l:List AV} {i:Nat} {ids:List Nat} {x:Nat},x∈ids->x∈kX E f i l ids
 |[],_,_,_,h=>h
 |a::l,i,ids,x,h=>xl (l:=l) (KT h)
def cR (E:Env)(f:Nat):Nat->List AV->List Nat
 |_,[]=>[]
 |i,a::l=>(match a with| .t (.ak id)=>cond (lJ f i E.rV) [] [id]| .bm vs=>cond (lJ f i E.rV) [] (vs.flatMap Du)|_=>[])++cR E f (i+1) l
theorem AE {E:Env}{f:Nat}:∀{l:List AV} {i:Nat},vz E f i l=false->cR E f i l=[]
 |[],_,_=>rfl
 |a::l,i,h=>by
  have ih:=AE (E:=E) (f:=f) (l:=l) (i:=i+1);cases a with
  |t v=>
   cases v with
   |ak id=>
    simp only[vz,CC,Bool.not_eq_false']at h;simp only[cR,h.1,en,eB];exact ih h.2
   |_=>simp only[vz]at h;simp only[cR,eB];exact ih h
  |bm vs=>
   simp only[vz,CC,Bool.not_eq_false']at h;simp only[cR,h.1,en,eB];exact ih h.2
  |_=>simp only[vz]at h;simp only[cR,eB];exact ih h
theorem vo:∀{cs:List AV} {vs:List PV},pK cs=some vs->cs=vs.map AV.p
 |[],_,h=>by simp only[pK]at h;cases h;rfl
 |a::l,vs,h=>by
  unfold pK at h;split at h
  ·rename_i he;cases he
  ·rename_i v l' he;cases he;split at h
   ·rename_i r hr;cases h;rw[vo hr];rfl
   ·cases h
  ·cases h
theorem ML {ids:List Nat}{c a:AV}{s:wH}(h:DG ids c=some (a,s)):K4 ids c a:=by
 unfold DG at h;split at h
 ·split at h
  ·cases h;exact .inl ⟨_,rfl,rfl⟩
  ·cases h
 ·rename_i j;cases hb:bH j ids with
  |true=>rw[hb]at h;cases h;exact .inr (.inl ⟨j,cP.1 hb,rfl,rfl⟩)
  |false=>rw[hb]at h;cases h
 ·rename_i j o;cases hb:bH j ids with
  |true=>rw[hb]at h;cases h;exact .inr (.inr (.inl ⟨j,o,cP.1 hb,rfl,rfl⟩))
  |false=>rw[hb]at h;cases h
 ·rename_i g caps;cases hb:caps.all λc=>Cl ids c&& !Bk c with
  |true=>
   rw[hb]at h;cases h;refine .inr (.inr (.inr ⟨g,caps,rfl,rfl,λt ht=> ?_⟩));have:=iC.1 hb t ht;simp only[bO,oQ]at this;cases t with
   |p v=>cases this.2
   |ak j=>cases this.2
   |agg cs=>exact .inr ⟨cs,rfl⟩
   |ptr j o=>exact .inl ⟨j,o,rfl,cP.1 this.1⟩
  |false=>rw[hb]at h;cases h
 ·cases h
theorem AO {ids:List Nat}:∀{cs af:List AV} {ss:List wH},s9 ids cs=some (af,ss)->All2 (K4 ids) cs af/\ss.length=cs.length
 |[],_,_,h=>by simp only[s9]at h;cases h;exact⟨trivial,rfl⟩
 |c::cs,af,ss,h=>by
  simp only[s9]at h;split at h
  ·rename_i a s as' ss' h1 h2;cases h;obtain⟨g1,g2⟩:=AO h2;exact⟨⟨ML h1,g1⟩,by simp[g2]⟩
  ·cases h
theorem xm {look:aJ}{all:List Nat}:∀{ids:List Nat} {bs:List au} {ss:List (List wH⊕Nat)},Aw look all ids=some (bs,ss)->bs.length=ids.length/\ss.length=ids.length/\∀(i:Nat) id,ids[i]? =some id->∃b0 b,bs[i]? =some b/\look id=some b0/\Handed all b0 b
 |[],_,_,h=>by simp only[Aw]at h;cases h;exact⟨rfl,rfl,λi id h=>by simp at h⟩
 |id::l,bs,ss,h=>by
  unfold Aw at h;split at h
  ·rename_i bs' ss' cs h1 h2;split at h
   ·rename_i af s hs;cases h;obtain⟨g1,g2,g3⟩:=xm h1;refine⟨by simp[g1],by simp[g2],λi cT hi=> ?_⟩;cases i with
    |zero=>
     simp only[uP,kE]at hi;subst hi;exact⟨_,_,rfl,h2,_,rfl,(AO hs).1⟩
    |succ i=>simpa using g3 i cT (by simpa using hi)
   ·cases h
  ·rename_i bs' ss' sz es h1 h2;cases h;obtain⟨g1,g2,g3⟩:=xm h1;refine⟨by simp[g1],by simp[g2],λi cT hi=> ?_⟩;cases i with
   |zero=>
    simp only[uP,kE]at hi;subst hi;exact⟨_,_,rfl,h2,rfl⟩
   |succ i=>simpa using g3 i cT (by simpa using hi)
  ·cases h
theorem oq {look:aJ}{ids:List Nat}:∀{vs:List TV} {cs:List PV},jh look ids vs=some cs->∀id∈vs.flatMap Du,id∉ids/\∃sz es,look id=some (.arr sz es)
 |[],_,_,id,h=>by cases h
 |v::vs,cs,h,id,bn=>by
  cases v with
  |agg _=>simp only[jh]at h;cases h
  |ptr _ _=>simp only[jh]at h;cases h
  |p v=>
   simp only[jh]at h;split at h
   ·rename_i r hr;simp only[Ah,Du,eB]at bn;exact oq hr id bn
   ·cases h
  |ak j=>
   simp only[jh]at h;cases hh:bH j ids with
   |true=>rw[hh]at h;cases h
   |false=>
    rw[hh]at h;simp only[gH]at h;split at h
    ·rename_i sz es r hl hr;simp only[Ah,Du,qy,eB,gR]at bn;rcases bn with rfl|bn
     ·exact⟨λhm=>(by rw[cP.2 hm]at hh;cases hh),sz,es,hl⟩
     ·exact oq hr id bn
    ·cases h
theorem vZ {E:Env}{look:aJ}{f:Nat}{ids:List Nat}:∀{l:List AV} {i:Nat} {af:List AV},xn E look f ids i l=some af->∀id∈cR E f i l,id∉ids/\∃sz es,look id=some (.arr sz es)
 |[],_,_,_,id,h=>by cases h
 |a::l,i,af,h,id,bn=>by
  unfold xn at h;split at h
  ·cases h
  ·rename_i r hr;unfold cR at bn;rcases eO.1 bn with h1|h1
   ·split at h1
    ·rename_i cT;simp only at h;cases hm:lJ f i E.rV with
     |true=>rw[hm]at h1;cases h1
     |false=>
      rw[hm]at h1 h;simp only[gH,jL]at h1 h;subst h1;cases hh:bH id ids with
      |true=>rw[hh]at h;cases h
      |false=>
       rw[hh]at h;simp only[gH]at h;split at h
       ·rename_i sz es hl;exact⟨λhm=>(by rw[cP.2 hm]at hh;cases hh),sz,es,hl⟩
       ·cases h
    ·rename_i vs;simp only at h;cases hm:lJ f i E.rV with
     |true=>rw[hm]at h1;cases h1
     |false=>
      rw[hm]at h1 h;simp only[gH]at h1 h;split at h
      ·rename_i cs hcs;exact oq hcs id h1
      ·cases h
    ·cases h1
   ·exact vZ hr id h1
section args
variable {C:Ctx} {ids L:List Nat} {bs:List au} (H:fL C ids L bs)
include H
theorem fL.agS {id sz:Nat}{es:List (List PV)}{u:Value}(hL:id∈L)(hl:live C.h id (.arr sz es))(hv:VT C (.ak id) u):(C.sub ids L bs).P (.sl sz es) u:=by
 obtain⟨_,_,hp⟩:=hv;have hu:=hp sz es hl;unfold HS at hu;have hb:=H.ok.blk id _ hl;cases hi:C.ι id with
 |none=>
  rw[hi]at hu;obtain⟨rfl,rfl⟩:=hu;exact .yA sz none 0
 |some n=>
  rw[hi]at hu;obtain⟨cap,carr,e,fr,rfl,hle,hr,j0⟩:=hu;rcases hb with⟨h1,_⟩|⟨m,O1,e2,fr2,h1,h2,hs,hf,hz,ji,hc⟩
  ·rw[hi]at h1;cases h1
  ·rw[hi]at h1;cases h1;rw[hr]at h2;cases h2;have hO:¬(C.sub ids L bs).O n:=by
    rintro(hx|ho)
    ·exact hx.2 id (.inr hL) (.inl hi)
    ·obtain⟨Ql,hm,B,g1,g2⟩:=H.own ho;have:=H.ok.inj Ql id n B _ g1 hl g2 (.inl hi);subst this;exact(H.akK Ql hL).2 hm
   refine .sl sz es n 0 cap (λi j=>carr.getD (i*sz+j) Go.undef) (c_.1 hr).1 hO hle hz (λi j e c he hj=> ?_) (λi j e c he hj=> ?_)
   ·obtain⟨x,hx,_⟩:=hc i j e c he hj;show C.w.cell? _=_;rw[show 0+i*sz+j=i*sz+j by omega,jG carr n _ hr,hx];simp[uQ,hx]
   ·obtain⟨x,hx,hp⟩:=hc i j e c he hj;simp only[uQ,hx,y_];exact H.vp hp
theorem mF:∀{l r:List TV} {us:List Value},oT ids l=some r->(∀id o,TV.ptr id o∈l->id∈ids)->All2 (VT C) l us->All2 (VT (C.sub ids L bs)) r us
 |[],_,[],h,_,_=>by simp only[oT]at h;cases h;trivial
 |[],_,_::_,_,_,h=>h.elim
 |_::_,_,[],_,_,h=>h.elim
 |a::l,r,u::us,h,hm,ha=>by
  have MF:∀id o,TV.ptr id o∈l->id∈ids:=λid o ho=>hm id o (by simp[ho]);cases a with
  |ak id=>simp only[oT]at h;cases h
  |ptr id o=>
   simp only[oT]at h;split at h
   ·rename_i r' hr;cases h;exact⟨H.ptr (hm id o (by simp)) ha.1,mF hr MF ha.2⟩
   ·cases h
  |p v=>
   simp only[oT]at h;split at h
   ·rename_i r' hr;cases h;exact⟨H.vp ha.1,mF hr MF ha.2⟩
   ·cases h
  |agg cs=>
   simp only[oT]at h;split at h
   ·rename_i r' hr;cases h;exact⟨H.agg ha.1,mF hr MF ha.2⟩
   ·cases h
theorem mI {look:aJ}(hl:bQ C look):∀{vs:List TV} {cs:List PV} {us:List Value},jh look ids vs=some cs->(∀id∈vs.flatMap Du,id∈L)->All2 (VT C) vs us->All2 (C.sub ids L bs).P cs us
 |[],_,[],h,_,_=>by simp only[jh]at h;cases h;trivial
 |[],_,_::_,_,_,h=>h.elim
 |_::_,_,[],_,_,h=>h.elim
 |v::vs,cs,u::us,h,hL,ha=>by
  cases v with
  |agg _=>simp only[jh]at h;cases h
  |ptr _ _=>simp only[jh]at h;cases h
  |p v=>
   simp only[jh]at h;split at h
   ·rename_i r hr;cases h;exact⟨H.vp ha.1,mI hl hr (λid bn=>hL id (by simpa[Du]using bn)) ha.2⟩
   ·cases h
  |ak j=>
   simp only[jh]at h;cases hh:bH j ids with
   |true=>rw[hh]at h;cases h
   |false=>
    rw[hh]at h;simp only[gH]at h;split at h
    ·rename_i sz es r hlk hr;cases h;exact⟨H.agS (hL j (by simp[Du])) (hl _ _ hlk) ha.1,mI hl hr (λid bn=>hL id (by
      simp only[Ah];exact eO.2 (.inr bn))) ha.2⟩
    ·cases h
theorem fL.GW {v:TV}{u:Value}(h:(Bk v&&Cl ids v)=true)(hv:VT C v u):VT (C.sub ids L bs) (GW ids v) u:=by
 simp only[bO]at h;cases v with
 |p v=>exact H.vp hv
 |agg cs=>cases h.1
 |ak j=>exact H.ak (cP.1 h.2) hv
 |ptr j o=>cases h.1
theorem fL.abp:∀{vs:List TV} {us:List Value},(vs.all λv=>Bk v&&Cl ids v)=true->All2 (VT C) vs us->All2 (VT (C.sub ids L bs)) (vs.map (Vm.GW ids)) us
 |[],[],_,_=>trivial
 |[],_::_,_,h=>h.elim
 |_::_,[],_,h=>h.elim
 |v::vs,u::us,h,ha=>by
  simp only[oO,bO]at h;exact⟨fL.GW H (by simp only[bO];exact h.1) ha.1,fL.abp h.2 ha.2⟩
theorem sR {E:Env}{look:aJ}(hl:bQ C look){f:Nat}:∀{l:List AV} {i:Nat} {cur:List Nat} {af:List AV} {us:List Value},(∀x∈kX E f i l cur,x∈ids)->(∀id∈cR E f i l,id∈L)->
  xn E look f ids i l=some af->All2 (VA C) l us->All2 (VA (C.sub ids L bs)) af us
 |[],_,_,_,[],_,_,h,_=>by simp only[xn]at h;cases h;trivial
 |[],_,_,_,_::_,_,_,_,h=>h.elim
 |_::_,_,_,_,[],_,_,_,h=>h.elim
 |a::l,i,cur,af,u::us,aeE,Vx,h,ha=>by
  unfold xn at h;split at h
  ·cases h
  ·rename_i r hr;rw[G6]at aeE;have ih:=sR hl (l:=l) (us:=us) aeE (λid bn=>Vx id (by unfold cR;exact eO.2 (.inr bn))) hr ha.2;have Fc:∀id,id∈Eo E f i a cur->id∈ids:=λid bn=>aeE id (xl bn);have ha1:=ha.1;split at h
   ·cases h;exact⟨H.vp ha1,ih⟩
   ·cases h;exact⟨H.agg ha1,ih⟩
   ·rename_i id o;cases h;exact⟨H.ptr (Fc id (jW.2 (.inr rfl))) ha1,ih⟩
   ·rename_i id;cases hm:lJ f i E.rV with
    |true=>
     rw[hm]at h;simp only[en]at h;cases h;exact⟨H.ak (Fc id (by simp only[Eo,hm,en];exact jW.2 (.inr rfl))) ha1,ih⟩
    |false=>
     rw[hm]at h;simp only[gH]at h;cases hh:bH id ids with
     |true=>rw[hh]at h;cases h
     |false=>
      rw[hh]at h;simp only[gH]at h;split at h
      ·rename_i sz es hlk;cases h;exact⟨H.agS (Vx id (by unfold cR;simp[hm])) (hl _ _ hlk) ha1,ih⟩
      ·cases h
   ·rename_i g caps;split at h
    ·rename_i c hc;cases h;obtain⟨Lo,hu,hall⟩:=ha1;exact⟨⟨Lo,hu,mF H hc (λid o ho=>Fc id (M6 ho)) hall⟩,ih⟩
    ·cases h
   ·rename_i cs;cases h;obtain⟨b,off,hu,hb,hO,hc⟩:=ha1;refine⟨⟨b,off,hu,hb,λho=>hO (H.O ho),λj c hj=> ?_⟩,ih⟩;obtain⟨x,h1,h2⟩:=hc j c hj;exact⟨x,h1,H.vp h2⟩
   ·cases h;obtain⟨mb,rfl,hall⟩:=ha1;exact⟨⟨mb,rfl,hall.mono λ_ _=>H.vp⟩,ih⟩
   ·rename_i vs;cases hm:lJ f i E.rV with
    |true=>
     rw[hm]at h;simp only[en]at h;cases hb:vs.all λv=>Bk v&&Cl ids v with
     |false=>rw[hb]at h;cases h
     |true=>
      rw[hb]at h;cases h;obtain⟨mb,rfl,hall⟩:=ha1;exact⟨⟨mb,rfl,fL.abp H hb hall⟩,ih⟩
    |false=>
     rw[hm]at h;simp only[gH]at h;split at h
     ·rename_i cs hcs;cases h;obtain⟨mb,rfl,hall⟩:=ha1;exact⟨⟨mb,rfl,mI H hl hcs (λid bn=>Vx id (by unfold cR;simp only[hm,gH];exact eO.2 (.inl bn))) hall⟩,ih⟩
     ·cases h
   ·rename_i g id o;cases h;obtain⟨u',rfl,hp⟩:=ha1;exact⟨⟨u',rfl,H.ptr (Fc id (jW.2 (.inr rfl))) hp⟩,ih⟩
   ·cases h
end args
end
section
def Fk:List Im->Nat->List RC->List au
 |[],_,_=>[]
 | .pl _::l,i,cs=>Fk l (i+1) cs
 | .ow sz::l,i,cs=>.arr sz (nth (.p .aM) cs i).di::Fk l (i+1) cs
def jo (nid:Nat):List uI->Nat->List RV->List au
 |[],_,_=>[]
 | .one _::l,i,rs=>jo nid l (i+1) rs
 | .agg _::l,i,rs=>jo nid l (i+1) rs
 | .own sz::l,i,rs=>.arr sz (nth (.p .aM) rs i).di::jo (nid+1) l (i+1) rs
 | .kI ss::l,i,rs=>.box ((oD ss (nth (.p .aM) rs i).gl 0).map AV.p)::jo (nid+1) l (i+1) rs
 | .bm ss::l,i,rs=>Fk ss 0 (nth (.p .aM) rs i).sw++jo (nid+gA ss) l (i+1) rs
 | .nU ss::l,i,rs=>.box ((qV (nid+1) ss 0 (nth (.p .aM) rs i).sw).1.map AV.t)::(Fk ss 0 (nth (.p .aM) rs i).sw++jo (nid+(gA ss+1)) l (i+1) rs)
def gz:Nat->List au->cD
 |_,[]=>[]
 |n,b::l=>(n,.blk b)::gz (n+1) l
theorem mR:∀(n:Nat) (a b:List au),gz n (a++b)=gz n a++gz (n+a.length) b
 |_,[],_=>rfl
 |n,x::a,b=>by
  simp only[qy,gz,bo];rw[mR (n+1) a b,show n+1+a.length=n+(a.length+1) by omega]
theorem fI:∀(ss:List Im) (i:Nat) (cs:List RC),(Fk ss i cs).length=gA ss
 |[],_,_=>rfl
 | .pl _::l,i,cs=>fI l _ _
 | .ow _::l,i,cs=>by simp only[Fk,gA,bo];rw[fI l]
theorem qU:∀(ss:List Im) (nid i:Nat) (cs:List RC),(qV nid ss i cs).2=gz nid (Fk ss i cs)
 |[],_,_,_=>rfl
 | .pl _::l,nid,i,cs=>by simp only[qV,Fk];exact qU l _ _ _
 | .ow _::l,nid,i,cs=>by simp only[qV,Fk,gz];rw[qU l]
theorem jI:∀(rsh:List uI) (nid i:Nat) (rs:List RV),(bring nid rsh i rs).2=gz nid (jo nid rsh i rs)
 |[],_,_,_=>rfl
 | .one _::l,nid,i,rs=>by simp only[bring,jo];exact jI l _ _ _
 | .agg _::l,nid,i,rs=>by simp only[bring,jo];exact jI l _ _ _
 | .own _::l,nid,i,rs=>by simp only[bring,jo,gz];rw[jI l]
 | .kI _::l,nid,i,rs=>by simp only[bring,jo,gz];rw[jI l]
 | .bm ss::l,nid,i,rs=>by simp only[bring,jo];rw[mR,fI,qU,jI l]
 | .nU ss::l,nid,i,rs=>by
  simp only[bring,jo,gz];rw[mR,fI,qU,jI l,show nid+1+gA ss=nid+(gA ss+1) by omega]
theorem BU:∀(n:Nat) (l:List au),gz n l=fM (List.range' n l.length) l
 |_,[]=>rfl
 |n,b::l=>by simp only[gz,bo,lR,fM];rw[BU (n+1) l]
theorem uW:∀{a a':List Nat} {b b':List au},a.length=b.length->fM (a++a') (b++b')=fM a b++fM a' b'
 |[],_,[],_,_=>rfl
 |[],_,_::_,_,h=>by cases h
 |_::_,_,[],_,h=>by cases h
 |x::a,a',y::b,b',h=>by simp only[qy,fM];rw[uW (by simpa using h)]
theorem xV:∀(n k:Nat),lL n k=List.range' n k
 |_,0=>rfl
 |n,k+1=>by simp only[lL,lR];rw[xV (n+1) k]
def Ny (rs:List RV)(i:Nat)(rs':List RV):Prop:=∀j,j<rs'.length->nth (.p .aM) rs (i+j)=nth (.p .aM) rs' j
theorem Ny.head {rs:List RV}{i:Nat}{r:RV}{l:List RV}(h:Ny rs i (r::l)):nth (.p .aM) rs i=r:=by
 have:=h 0 (by simp);simpa[nth]using this
theorem Ny.tail {rs:List RV}{i:Nat}{r:RV}{l:List RV}(h:Ny rs i (r::l)):Ny rs (i+1) l:=by
 intro j hj;have:=h (j+1) (by simp;omega);rw[show i+1+j=i+(j+1) by omega,this];rfl
def tK (rc:List RC)(i:Nat)(cs:List RC):Prop:=∀j,j<cs.length->nth (.p .aM) rc (i+j)=nth (.p .aM) cs j
theorem tK.head {rs:List RC}{i:Nat}{r:RC}{l:List RC}(h:tK rs i (r::l)):nth (.p .aM) rs i=r:=by
 have:=h 0 (by simp);simpa[nth]using this
theorem tK.tail {rs:List RC}{i:Nat}{r:RC}{l:List RC}(h:tK rs i (r::l)):tK rs (i+1) l:=by
 intro j hj;have:=h (j+1) (by simp;omega);rw[show i+1+j=i+(j+1) by omega,this];rfl
theorem tK.refl (cs:List RC):tK cs 0 cs:=λj _=>by rw[dy]
def TP (cid:List Nat)(t t':TV):Prop:=(∃v s,t=.p v/\t'=.p (uT s v)/\xp s v=true)\/TT cid t t'
theorem TP.tc {cid:List Nat}{t t':TV}(h:TP cid t t'):TC cid (.t t) (.t t'):=by
 rcases h with⟨v,s,rfl,rfl,h⟩|h
 ·exact .inl ⟨v,s,rfl,rfl,h⟩
 ·exact .inr (.inl ⟨t,t',rfl,rfl,h⟩)
theorem TP.tcs {cid:List Nat}:∀{l l':List TV},All2 (TP cid) l l'->All2 (TC cid) (l.map AV.t) (l'.map AV.t)
 |[],[],_=>trivial
 |[],_::_,h=>h.elim
 |_::_,[],h=>h.elim
 |_::_,_::_,h=>⟨h.1.tc,TP.tcs h.2⟩
theorem pM:∀{ss:List Im} {cs:List RC},rU ss cs=true->mK cs=gA ss
 |[],[],_=>rfl
 |[],_::_,h=>by cases h
 | .pl _::_,[],h=>by cases h
 | .ow _::_,[],h=>by cases h
 | .pl s::ss,.p v::cs,h=>by simp only[rU,bO]at h;show mK cs=gA ss;exact pM h.2
 | .ow sz::ss,.own nN es::cs,h=>by simp only[rU,bO]at h;simp only[mK,gA,pM (ss:=ss) h.2]
 | .pl s::ss,.own _ _::cs,h=>by cases h
 | .ow sz::ss,.p _::cs,h=>by cases h
theorem wW {cid rc:_}:∀{ss:List Im} {cs:List RC} {m nid i:Nat},rU ss cs=true->tK rc i cs->(∀j,j<gA ss->cid[m+j]? =some (nid+j))->
  All2 (TP cid) (Bf m cs) (qV nid ss i rc).1/\All2 (TB cid) (rh cs) (Fk ss i rc)
 |[],[],_,_,_,_,_,_=>⟨trivial,trivial⟩
 |[],_::_,_,_,_,h,_,_=>by cases h
 | .pl _::_,[],_,_,_,h,_,_=>by cases h
 | .ow _::_,[],_,_,_,h,_,_=>by cases h
 | .pl s::ss,.p v::cs,m,nid,i,h,hf,hc=>by
  simp only[rU,bO]at h;obtain⟨h1,h2⟩:=wW (ss:=ss) (m:=m) (nid:=nid) h.2 hf.tail hc;refine⟨⟨.inl ⟨v,s,rfl,?_,h.1⟩,h1⟩,h2⟩;show TV.p (uT s (nth (.p .aM) rc i).dC)=_;rw[hf.head];rfl
 | .ow sz::ss,.own nN es::cs,m,nid,i,h,hf,hc=>by
  simp only[rU,bO]at h;obtain⟨h1,h2⟩:=wW (ss:=ss) (m:=m+1) (nid:=nid+1) h.2 hf.tail (λj hj=>by
   have:=hc (j+1) (by simp only[gA];omega);rw[show m+1+j=m+(j+1) by omega,show nid+1+j=nid+(j+1) by omega];exact this)
  have h0:=hc 0 (by simp only[gA];omega);refine⟨⟨.inr (.inr ⟨m,nid,rfl,rfl,by simpa using h0⟩),h1⟩,⟨.inl ⟨?_,_,_,rfl⟩,h2⟩⟩;have:=gK h.1;subst this;rw[hf.head];rfl
 | .pl s::ss,.own _ _::cs,_,_,_,h,_,_=>by cases h
 | .ow sz::ss,.p _::cs,_,_,_,h,_,_=>by cases h
theorem mA:∀{cs:List RC},(rh cs).length=mK cs
 |[]=>rfl
 | .p _::l=>mA (cs:=l)
 | .own _ _::l=>by simp only[rh,mK,bo,mA (cs:=l)]
theorem O2 {cid:List Nat}:∀{rsh:List uI} {rs':List RV} {rs:List RV} {m nid i:Nat},cC rsh rs'=true->Ny rs i rs'->(∀j,j<owns rsh->cid[m+j]? =some (nid+j))->
  (jo nid rsh i rs).length=owns rsh/\(ee m rs').length=owns rsh/\All2 (TB cid) (ee m rs') (jo nid rsh i rs)
 |[],[],_,_,_,_,_,_,_=>⟨rfl,rfl,trivial⟩
 |[],_::_,_,_,_,_,h,_,_=>by simp[cC]at h
 |s::rsh,[],_,_,_,_,h,_,_=>by cases s<;>simp[cC]at h
 |s::rsh,r::rs',rs,m,nid,i,h,hf,hc=>by
  have hh:=hf.head;have ih:=λ(m nid:Nat) h hc=>O2 (cid:=cid) (rsh:=rsh) (rs':=rs') (m:=m) (nid:=nid) h hf.tail hc;have sh:∀d,(∀j,j<owns rsh+d->cid[m+j]? =some (nid+j))->∀j,j<owns rsh->cid[m+d+j]? =some (nid+d+j):=λd hc j hj=>by
   have:=hc (d+j) (by omega)
   rwa [<-uM,<-uM]at this
  cases s<;>cases r<;>simp only[cC,bO]at h<;>first|(cases h;done)|skip
  ·exact ih m nid h.2 hc
  ·exact ih m nid h.2 hc
  ·obtain⟨h1,h2,h3⟩:=ih (m+1) (nid+1) h.2 (sh 1 hc);simp only[jo,ee,owns,hh,RV.di];have:=gK h.1;subst this;exact⟨by simp[h1],by simp[h2],.inl ⟨rfl,_,_,rfl⟩,h3⟩
  ·obtain⟨h1,h2,h3⟩:=ih (m+1) (nid+1) h.2 (sh 1 hc);simp only[jo,ee,owns,hh,RV.gl];refine⟨by simp[h1],by simp[h2],.inr ⟨_,_,rfl,rfl,?_⟩,h3⟩;have key:∀{ss:List Sh} {cs:List PV} {cs0:List PV} {i:Nat},bL ss cs=true->(∀j,j<cs.length->nth .aM cs0 (i+j)=nth .aM cs j)->All2 (TC cid) (cs.map AV.p) ((oD ss cs0 i).map AV.p):=by
    intro ss
    induction ss with
    |nil=>intro cs cs0 i h _;cases cs with|nil=>trivial|cons=>cases h
    |cons s ss ihh=>
     intro cs cs0 i h hn;cases cs with
     |nil=>cases h
     |cons c cs=>
      simp only[bL,bO]at h;have h0:=hn 0 (by simp);rw[G0]at h0;refine⟨.inl ⟨c,s,rfl,?_,h.1⟩,ihh h.2 λj hj=> ?_⟩
      ·rw[h0];rfl
      ·have:=hn (j+1) (by simp;omega);rw[show i+1+j=i+(j+1) by omega,this];rfl
   exact key h.1 λj _=>by rw[dy]
  ·rename_i ss cs;have J5:=pM h.1;simp only[owns]at hc;obtain⟨h1,h2,h3⟩:=ih (m+mK cs) (nid+gA ss) h.2 (by rw[J5];exact sh (gA ss) hc);obtain⟨_,g2⟩:=wW (cid:=cid) (m:=m) (nid:=nid) h.1 (tK.refl cs) (λj hj=>hc j (by omega));simp only[jo,ee,owns,hh,RV.sw];exact⟨by rw[eC,h1,fI];omega,by rw[eC,h2,mA,J5];omega,g2.append h3⟩
  ·rename_i ss cs;have J5:=pM h.1;simp only[owns]at hc;obtain⟨h1,h2,h3⟩:=ih (m+(mK cs+1)) (nid+(gA ss+1)) h.2 (by rw[J5];exact sh (gA ss+1) hc);obtain⟨g1,g2⟩:=wW (cid:=cid) (m:=m+1) (nid:=nid+1) h.1 (tK.refl cs) (λj hj=>by
    have:=hc (1+j) (by omega)
    rwa [<-uM,<-uM]at this)
   simp only[jo,ee,owns,hh,RV.sw];exact⟨by rw[bo,eC,h1,fI];omega,by rw[bo,eC,h2,mA,J5];omega,.inr ⟨_,_,rfl,rfl,TP.tcs g1⟩,g2.append h3⟩
def zW (n:Nat):TV->Prop
 | .ak k=>k<n
 | .ptr k _=>k<n
 |_=>True
def GA (n:Nat):AV->Prop
 | .t t=>zW n t
 | .fn _ caps=>∀t∈caps,zW n t
 |_=>True
theorem MA {x:Nat}{l:List Nat}(h:x∈l):idx x l<l.length:=(ko.1 (xP h)).1
theorem Qu {ids:List Nat}{c a x:AV}(h:DG ids c=some (a,.inr x)):GA ids.length x:=by
 unfold DG at h;split at h
 ·split at h<;>cases h
 ·rename_i j;cases hb:bH j ids with
  |true=>rw[hb]at h;cases h;exact MA (cP.1 hb)
  |false=>rw[hb]at h;cases h
 ·rename_i j o;cases hb:bH j ids with
  |true=>rw[hb]at h;cases h;exact MA (cP.1 hb)
  |false=>rw[hb]at h;cases h
 ·rename_i g caps;cases hb:caps.all λc=>Cl ids c&& !Bk c with
  |true=>
   rw[hb]at h;cases h;intro t ht;obtain⟨t0,ht0,rfl⟩:=fQ.1 ht;have:=iC.1 hb t0 ht0;simp only[bO,oQ]at this;cases t0 with
   |p v=>trivial
   |ak j=>cases this.2
   |agg cs=>trivial
   |ptr j o=>exact MA (cP.1 this.1)
  |false=>rw[hb]at h;cases h
 ·cases h
theorem DF {ids:List Nat}:∀{cs af:List AV} {ss:List wH},s9 ids cs=some (af,ss)->∀x,Sum.inr x∈ss->GA ids.length x
 |[],_,_,h,x,hx=>by simp only[s9]at h;cases h;cases hx
 |c::cs,af,ss,h,x,hx=>by
  simp only[s9]at h;split at h
  ·rename_i a s as' ss' h1 h2;cases h;rcases gR.1 hx with rfl|hx
   ·exact Qu h1
   ·exact DF h2 x hx
  ·cases h
theorem ze {look:aJ}{all:List Nat}:∀{ids:List Nat} {bs:List au} {ss:List (List wH⊕Nat)},Aw look all ids=some (bs,ss)->∀hs,Sum.inl hs∈ss->∀x,Sum.inr x∈hs->GA all.length x
 |[],_,_,h,hs,hm=>by simp only[Aw]at h;cases h;cases hm
 |id::l,bs,ss,h,hs,hm=>by
  unfold Aw at h;split at h
  ·rename_i bs' ss' cs h1 h2;split at h
   ·rename_i af s dL;cases h;rcases gR.1 hm with he|hm
    ·cases he;exact DF dL
    ·exact ze h1 hs hm
   ·cases h
  ·rename_i bs' ss' sz es h1 h2;cases h;rcases gR.1 hm with he|hm
   ·cases he
   ·exact ze h1 hs hm
  ·cases h
theorem NI {cid:List Nat}{a b:TV}(h:bb a b=true)(hr:zW cid.length a):TT cid b (unT cid a):=by
 cases a<;>cases b<;>simp only[bb]at h<;>first|(cases h;done)|skip
 ·cases gK h;exact .inr ⟨_,_,rfl,rfl,by simp only[zW]at hr;rw[dp];simp[List.getD,hr]⟩
 ·simp only[bO]at h;cases gK h.1;cases gK h.2;exact .inl ⟨_,_,_,rfl,rfl,by simp only[zW]at hr;rw[dp];simp[List.getD,hr]⟩
theorem IB {cid:List Nat}:∀{a b:List TV},uY a b=true->(∀t∈a,zW cid.length t)->All2 (TT cid) b (a.map (unT cid))
 |[],[],_,_=>trivial
 |[],_::_,h,_=>by cases h
 |_::_,[],h,_=>by cases h
 |x::a,y::b,h,hr=>by
  simp only[uY,bO]at h;exact⟨NI h.1 (hr x (by simp)),IB h.2 λt ht=>hr t (by simp[ht])⟩
theorem Sp {cid:List Nat}{a c:AV}(h:aD a c=true)(hr:GA cid.length a):TC cid c (unA cid a):=by
 cases a<;>cases c<;>simp only[aD]at h<;>first|(cases h;done)|skip
 ·exact .inr (.inl ⟨_,_,rfl,rfl,NI h hr⟩)
 ·simp only[bO]at h;cases gK h.1;exact .inr (.inr ⟨_,_,_,rfl,rfl,IB h.2 hr⟩)
theorem zT {cid:List Nat}:∀{ss:List wH} {ds cs:List AV} {i:Nat},aW ss ds=true->(∀x,Sum.inr x∈ss->GA cid.length x)->(∀j,j<ds.length->nth .undef cs (i+j)=nth .undef ds j)->All2 (TC cid) ds (H9 cid ss i cs)
 |[],[],_,_,_,_,_=>trivial
 |[],_::_,_,_,h,_,_=>by cases h
 | .inl _::_,[],_,_,h,_,_=>by cases h
 | .inr _::_,[],_,_,h,_,_=>by cases h
 | .inl s::ss,d::ds,cs,i,h,hr,hn=>by
  have h0:=hn 0 (by simp);rw[G0]at h0;have ht:∀j,j<ds.length->nth .undef cs (i+1+j)=nth .undef ds j:=λj hj=>by
   have:=hn (j+1) (by simp;omega);rw[show i+1+j=i+(j+1) by omega,this];rfl
  cases d with
  |t v=>
   cases v with
   |p v=>
    simp only[aW,bO]at h;refine⟨.inl ⟨v,s,rfl,?_,h.1⟩,zT h.2 (λx hx=>hr x (by simp[hx])) ht⟩;rw[h0];rfl
   |_=>cases h
  |_=>cases h
 | .inr a::ss,d::ds,cs,i,h,hr,hn=>by
  have ht:∀j,j<ds.length->nth .undef cs (i+1+j)=nth .undef ds j:=λj hj=>by
   have:=hn (j+1) (by simp;omega);rw[show i+1+j=i+(j+1) by omega,this];rfl
  have h':(aD a d&&aW ss ds)=true:=by cases d<;>exact h
  simp only[bO]at h';exact⟨Sp h'.1 (hr a (by simp)),zT h'.2 (λx hx=>hr x (by simp[hx])) ht⟩
theorem KR {cid:List Nat}:∀{ss:List (List wH⊕Nat)} {bs' bs:List au} {i:Nat},okB ss bs'=true->(∀hs,Sum.inl hs∈ss->∀x,Sum.inr x∈hs->GA cid.length x)->(∀j,j<bs'.length->nth (.box []) bs (i+j)=nth (.box []) bs' j)->
  (nK cid ss i bs).length=ss.length/\bs'.length=ss.length/\All2 (TB cid) bs' (nK cid ss i bs)
 |[],[],_,_,_,_,_=>⟨rfl,rfl,trivial⟩
 |[],_::_,_,_,h,_,_=>by simp[okB]at h
 |s::ss,[],_,_,h,_,_=>by cases s<;>simp[okB]at h
 |s::ss,b::bs',bs,i,h,hr,hf=>by
  have hh:nth (.box []) bs i=b:=by
   have:=hf 0 (by simp);simpa[nth]using this
  have ih:=λh=>KR (cid:=cid) (ss:=ss) (bs':=bs') (bs:=bs) (i:=i+1) h (λhs hm=>hr hs (by simp[hm])) (λj hj=>by
   have:=hf (j+1) (by simp;omega);rw[show i+1+j=i+(j+1) by omega,this];rfl)
  cases s<;>cases b<;>simp only[okB,bO]at h<;>first|(cases h;done)|skip
  ·obtain⟨h1,h2,h3⟩:=ih h.2;simp only[nK,hh,au.gl];exact⟨by simp[h1],by simp[h2],.inr ⟨_,_,rfl,rfl,zT h.1 (hr _ (by simp)) λj _=>by rw[dy]⟩,h3⟩
  ·obtain⟨h1,h2,h3⟩:=ih h.2;have:=gK h.1;subst this;simp only[nK,hh,au.di];exact⟨by simp[h1],by simp[h2],.inl ⟨rfl,_,_,rfl⟩,h3⟩
theorem rJ {l m:List Nat}{k x:Nat}(h:l[k]? =some x):(l++m)[k]? =some x:=by
 rw[Cr (ko.1 h).1];exact h
theorem TT.mono {l m:List Nat}{t t':TV}(h:TT l t t'):TT (l++m) t t':=by
 rcases h with⟨k,id,o,h1,h2,h3⟩|⟨k,id,h1,h2,h3⟩
 ·exact .inl ⟨k,id,o,h1,h2,rJ h3⟩
 ·exact .inr ⟨k,id,h1,h2,rJ h3⟩
theorem TC.mono {l m:List Nat}{c d:AV}(h:TC l c d):TC (l++m) c d:=by
 rcases h with h|⟨t,t',h1,h2,h3⟩|⟨g,a,b,h1,h2,h3⟩
 ·exact .inl h
 ·exact .inr (.inl ⟨t,t',h1,h2,h3.mono⟩)
 ·exact .inr (.inr ⟨g,a,b,h1,h2,h3.mono λ_ _=>TT.mono⟩)
theorem TB.mono {l m:List Nat}{a b:au}(h:TB l a b):TB (l++m) a b:=by
 rcases h with h|⟨cs,ds,h1,h2,h3⟩
 ·exact .inl h
 ·exact .inr ⟨cs,ds,h1,h2,h3.mono λ_ _=>TC.mono⟩
theorem qD:∀{cs:List RC},cs.all jV=true->∀b∈rh cs,qE b=true
 |[],_,b,hb=>by cases hb
 | .p _::l,h,b,hb=>by
  simp only[oO,bO]at h;exact qD (cs:=l) h.2 b hb
 | .own sz es::l,h,b,hb=>by
  simp only[oO,bO]at h;rcases gR.1 hb with rfl|hb
  ·exact h.1
  ·exact qD (cs:=l) h.2 b hb
theorem zn:∀{cs:List RC} {n:Nat},cs.all jV=true->((Bf n cs).map AV.t).all om=true
 |[],_,_=>rfl
 | .p _::l,n,h=>by
  simp only[oO,bO]at h;simp only[Bf,nS,oO,bO];exact⟨h.1,zn (cs:=l) h.2⟩
 | .own sz es::l,n,h=>by
  simp only[oO,bO]at h;simp only[Bf,nS,oO,bO];exact⟨rfl,zn (cs:=l) h.2⟩
theorem kJ:∀{rs:List RV} {n:Nat},bM rs=true->∀b∈ee n rs,qE b=true
 |[],_,_,b,hb=>by cases hb
 |r::rs,n,h,b,hb=>by
  cases r<;>simp only[bM,bO]at h<;>simp only[ee]at hb
  ·exact kJ h.2 b hb
  ·exact kJ h.2 b hb
  ·rcases gR.1 hb with rfl|hb
   ·exact h.1
   ·exact kJ h.2 b hb
  ·rcases gR.1 hb with rfl|hb
   ·simp only[qE,List.all_map];exact h.1
   ·exact kJ h.2 b hb
  ·rcases eO.1 hb with hb|hb
   ·exact qD h.1 b hb
   ·exact kJ h.2 b hb
  ·rcases gR.1 hb with rfl|hb
   ·exact zn h.1
   ·rcases eO.1 hb with hb|hb
    ·exact qD h.1 b hb
    ·exact kJ h.2 b hb
theorem T4:∀{bs:List au},cr bs=true->∀b∈bs,qE b=true
 |[],_,b,hb=>by cases hb
 |x::bs,h,b,hb=>by
  cases x<;>first|(cases h;done)|skip
  all_goals
   simp only[cr,bO]at h;rcases gR.1 hb with rfl|hb
   ·exact h.1
   ·exact T4 h.2 b hb
def QC (Q:PV->Prop):List RC->Prop
 |[]=>True
 | .p v::l=>Q v/\QC Q l
 | .own _ _::l=>QC Q l
def QR (Q:PV->Prop):List RV->Prop
 |[]=>True
 | .p v::l=>Q v/\QR Q l
 | .agg cs::l=>(∀c∈cs,Q c)/\QR Q l
 | .bm cs::l=>QC Q cs/\QR Q l
 |_::l=>QR Q l
theorem Nx {Q:PV->Prop}(h:∀v,Q v):∀l,QC Q l
 |[]=>trivial
 | .p _::l=>⟨h _,Nx h l⟩
 | .own _ _::l=>Nx h l
theorem tJ {Q:PV->Prop}(h:∀v,Q v):∀l,QR Q l
 |[]=>trivial
 | .p _::l=>⟨h _,tJ h l⟩
 | .agg _::l=>⟨λc _=>h c,tJ h l⟩
 | .bm cs::l=>⟨Nx h cs,tJ h l⟩
 | .own _ _::l=>tJ h l
 | .kI _::l=>tJ h l
 | .nU _::l=>tJ h l
theorem Ic {Q:PV->Prop}(h:∀v,fA v=true->Q v):∀{l:List RC},l.all jV=true->QC Q l
 |[],_=>trivial
 | .p _::l,hl=>by simp only[oO,bO]at hl;exact⟨h _ hl.1,Ic h hl.2⟩
 | .own _ _::l,hl=>by simp only[oO,bO]at hl;exact Ic (l:=l) h hl.2
theorem qZ {Q:PV->Prop}(h:∀v,fA v=true->Q v):∀{l:List RV},bM l=true->QR Q l
 |[],_=>trivial
 |r::l,hl=>by
  cases r<;>simp only[bM,bO]at hl
  ·exact⟨h _ hl.1,qZ h hl.2⟩
  ·exact⟨λc hc=>h c (iC.1 hl.1 c hc),qZ h hl.2⟩
  ·exact qZ (l:=l) h hl.2
  ·exact qZ (l:=l) h hl.2
  ·exact⟨Ic h hl.1,qZ h hl.2⟩
  ·exact qZ (l:=l) h hl.2
def Ctx.wX (D:Ctx)(X':Nat->Prop):Ctx:=⟨D.w,D.ι,D.h,X',D.κ⟩
section res
variable {C:Ctx} {kid dJ L:List Nat} {bs:List au} {D:Ctx} {cN:List Nat} {R ds:List au} (M:bj C kid dJ L bs D cN R ds)
include M
theorem bj.adI {X':Nat->Prop}{Q:PV->Prop}(hP:∀v u,Q v->(D.wX X').P v u->(C.merge D (kid++cN) dJ ds).P v u):∀{cs:List RC} {l l':List TV} {us:List Value} {m:Nat},
  l=Bf m cs->All2 (TP (kid++cN)) l l'->QC Q cs->All2 (VT (D.wX X')) l us->All2 (VT (C.merge D (kid++cN) dJ ds)) l' us
 |[],l,l',us,m,hl,ht,hq,hu=>by
  subst hl;cases l' with
  |nil=>cases us with|nil=>trivial|cons=>exact hu.elim
  |cons=>exact ht.elim
 | .p v::cs,l,l',us,m,hl,ht,hq,hu=>by
  subst hl;cases l' with
  |nil=>exact ht.elim
  |cons t' l'=>
   cases us with
   |nil=>exact hu.elim
   |cons u us=>
    refine⟨?_,bj.adI hP rfl ht.2 hq.2 hu.2⟩;rcases ht.1 with⟨v',s,e,rfl,az⟩|⟨_,_,_,e,_⟩|⟨_,_,e,_⟩
    ·cases e;exact jm az (hP _ _ hq.1 hu.1)
    ·cases e
    ·cases e
 | .own sz es::cs,l,l',us,m,hl,ht,hq,hu=>by
  subst hl;cases l' with
  |nil=>exact ht.elim
  |cons t' l'=>
   cases us with
   |nil=>exact hu.elim
   |cons u us=>
    refine⟨?_,bj.adI hP rfl ht.2 hq hu.2⟩;rcases ht.1 with⟨v',s,e,rfl,az⟩|⟨_,_,_,e,_⟩|⟨k,id,e,rfl,hk⟩
    ·cases e
    ·cases e
    ·cases e;exact M.ak hk hu.1
theorem bj.res {X':Nat->Prop}{Q:PV->Prop}(hP:∀v u,Q v->(D.wX X').P v u->(C.merge D (kid++cN) dJ ds).P v u):∀{rsh:List uI} {rs':List RV} {rs:List RV} {m nid i:Nat} {us:List Value},cC rsh rs'=true->Ny rs i rs'->
  (∀j,j<owns rsh->(kid++cN)[m+j]? =some (nid+j))->QR Q rs'->All2 (kA (D.wX X')) (kD m rs') us->All2 (kA (C.merge D (kid++cN) dJ ds)) (bring nid rsh i rs).1 us
 |[],[],_,_,_,_,us,_,_,_,_,h=>by simp only[kD]at h;simp only[bring];cases us with|nil=>trivial|cons=>exact h.elim
 |[],_::_,_,_,_,_,_,h,_,_,_,_=>by simp[cC]at h
 |s::rsh,[],_,_,_,_,_,h,_,_,_,_=>by cases s<;>simp[cC]at h
 |s::rsh,r::rs',rs,m,nid,i,us,h,hf,hc,hq,hu=>by
  have hh:=hf.head;have sh:∀d,(∀j,j<owns rsh+d->(kid++cN)[m+j]? =some (nid+j))->∀j,j<owns rsh->(kid++cN)[m+d+j]? =some (nid+d+j):=λd hc j hj=>by
   have:=hc (d+j) (by omega)
   rwa [<-uM,<-uM]at this
  cases us with
  |nil=>cases r<;>exact hu.elim
  |cons u us=>
  cases s<;>cases r<;>simp only[cC,bO]at h<;>first|(cases h;done)|skip
  ·simp only[kD]at hu;simp only[bring,hh,RV.dC];exact⟨jm h.1 (hP _ _ hq.1 hu.1),bj.res hP h.2 hf.tail hc hq.2 hu.2⟩
  ·rename_i ss cs;simp only[kD]at hu;simp only[bring,hh,RV.gl];refine⟨?_,bj.res hP h.2 hf.tail hc hq.2 hu.2⟩;obtain⟨Lo,rfl,ha⟩:=hu.1;refine⟨Lo,rfl,jH h.1 (λj _=>by rw[dy]) (All2.nj ha.length λj a b ha' hb'=> ?_)⟩;obtain⟨b',k1,k2⟩:=ha.get j a ha';rw[hb']at k1;cases k1;exact hP _ _ (hq.1 a (gq ha')) k2
  ·simp only[kD]at hu;simp only[bring];have h0:=hc 0 (by simp only[owns];omega);exact⟨M.ak (by simpa using h0) hu.1,bj.res hP h.2 hf.tail (sh 1 hc) hq hu.2⟩
  ·simp only[kD]at hu;simp only[bring];have h0:=hc 0 (by simp only[owns];omega);exact⟨M.ptr (by simpa using h0) hu.1,bj.res hP h.2 hf.tail (sh 1 hc) hq hu.2⟩
  ·rename_i ss cs;simp only[kD]at hu;simp only[bring,hh,RV.sw];simp only[owns]at hc;have J5:=pM h.1;obtain⟨g1,_⟩:=wW (cid:=kid++cN) (m:=m) (nid:=nid) h.1 (tK.refl cs) (λj hj=>hc j (by omega));obtain⟨Lo,rfl,ha⟩:=hu.1;refine⟨⟨Lo,rfl,bj.adI M hP rfl g1 hq.1 ha⟩,bj.res hP h.2 hf.tail (sh (gA ss) hc) hq.2 ?_⟩;rw[<-J5];exact hu.2
  ·rename_i ss cs;simp only[kD]at hu;simp only[bring,hh,RV.sw];simp only[owns]at hc;have J5:=pM h.1;have h0:=hc 0 (by omega);refine⟨M.ptr (by simpa using h0) hu.1,bj.res hP h.2 hf.tail (sh (gA ss+1) hc) hq ?_⟩;rw[<-J5];exact hu.2
end res
theorem ym:∀{rsh:List uI} {rs' rs:List RV} {nid m i:Nat},cC rsh rs'=true->(bring nid rsh i rs).1.length=(kD m rs').length
 |[],[],_,_,_,_,_=>rfl
 |[],_::_,_,_,_,_,h=>by simp[cC]at h
 |s::rsh,[],_,_,_,_,h=>by cases s<;>simp[cC]at h
 |s::rsh,r::rs',rs,nid,m,i,h=>by
  cases s<;>cases r<;>simp only[cC,bO]at h<;>first|(cases h;done)|skip
  all_goals
   simp only[bring,kD,bo];rw[ym h.2]
theorem qX {C:Ctx}:∀{ps:List (TV⊕List TV)} {vs:List TV} {us:List Value},Er ps=some vs->(All2 (kA C) ps us↔All2 (VT C) vs us)
 |[],_,us,h=>by cases h;cases us<;>exact FK
 | .inl v::l,vs,us,h=>by
  simp only[Er]at h;split at h
  ·rename_i r hr;cases h;cases us with
   |nil=>exact FK
   |cons u us=>exact and_congr FK (qX hr)
  ·cases h
 | .inr _::_,_,_,h=>by cases h
theorem mM {C:Ctx}{ps:List (TV⊕List TV)}{u:Value}:VA C (valOf ps) u↔(∃p,ps=[p]/\kA C p u)\/((∀p,ps≠[p])/\∃us,u=.tuple us/\All2 (kA C) ps us.toList):=by
 have Ol:∀ps:List (TV⊕List TV),VA C (match Er ps with|some vs=>.XU vs|none=>.IE ps) u↔∃us,u=.tuple us/\All2 (kA C) ps us.toList:=by
  intro ps;split
  ·rename_i vs E9;exact⟨λ⟨us,h1,h2⟩=>⟨us,h1,(qX E9).2 h2⟩,λ⟨us,h1,h2⟩=>⟨us,h1,(qX E9).1 h2⟩⟩
  ·exact FK
 match ps with
 |[]=>exact⟨λh=>.inr ⟨(λp h=>by cases h),(Ol []).1 h⟩,λh=>h.elim (λ⟨p,h,_⟩=>by cases h) λh=>(Ol []).2 h.2⟩
 |[p]=>
  refine⟨λh=>.inl ⟨p,rfl,?_⟩,λh=> ?_⟩
  ·cases p<;>exact h
  ·rcases h with⟨q,h,h2⟩|⟨h,_⟩
   ·cases h;cases p<;>exact h2
   ·exact absurd rfl (h p)
 |a::b::l=>exact⟨λh=>.inr ⟨(λp h=>by cases h),(Ol _).1 h⟩,λh=>h.elim (λ⟨p,h,_⟩=>by cases h) λh=>(Ol _).2 h.2⟩
theorem Iu {C D:Ctx}{ts ts':List (TV⊕List TV)}{u:Value}(hl:ts'.length=ts.length)(h:∀us,All2 (kA D) ts us->All2 (kA C) ts' us)(hv:VA D (valOf ts) u):VA C (valOf ts') u:=by
 rcases mM.1 hv with⟨p,rfl,hp⟩|⟨hne,us,hu,ha⟩
 ·match ts',hl with
  |[p'],_=>exact mM.2 (.inl ⟨p',rfl,(h [u] ⟨hp,trivial⟩).1⟩)
 ·refine mM.2 (.inr ⟨λp hp=> ?_,us,hu,h _ ha⟩);subst hp
  match ts,hl with
  |[q],_=>exact hne q rfl
theorem wj:∀{l:List Nat},C9 l=true->l.Nodup
 |[],_=>List.nodup_nil
 |x::l,h=>by
  simp only[C9,bO,oQ]at h;exact Cp.2 ⟨λhm=>(by rw[cP.2 hm]at h;cases h.1),wj h.2⟩
theorem KA {C:Ctx}(az:Ok C){E:Env}{F:d_}(hF:eI E F){look:aJ}(hl:bQ C look){nid f:Nat}{args:List AV}{v:AV}{us:cD}(h:tC E F look nid f args two=some (v,us))
  (hn:∀n,nid<=n->n<nid+ly->nth bw.fresh C.h n=.fresh/\n<C.h.length) {et:Array Value} (ha:All2 (VA C) args et.toList):
  bH f E.v_=true/\Calls E.P f et C.w λe w'=>match e with
   | .returned u=>bq C us v u w'
   |_=>False:=by
 unfold tC at h;split at h
 case isFalse=>cases h
 rename_i JW;refine⟨JW,?_⟩;split at h
 ·cases h
 rename_i fn hfn;split at h
 ·cases h
 rename_i rsh ak8;dsimp only at h;split at h
 case h_2=>cases h
 rename_i af bs ss hpa K_;split at h
 case isFalse=>cases h
 rename_i hown;unfold aj at h;obtain⟨⟨rs,dL⟩,hFr,h⟩:=gI.1 h;obtain⟨hc,h⟩:=bX h;obtain⟨rfl,rfl⟩:=ax h;dsimp only at hc hFr|-;generalize alz:yb look 2 (kX E f 0 args [])=kid at*;generalize apM:kid.flatMap (ag9 look)=dJ at*;simp only[bO]at hown;obtain⟨Vv,VC,hres⟩:=hown;have Vv:=wj Vv;have VC:=gK VC;have hres:=lz hres;obtain⟨hbl,ak,al5⟩:=xm K_;have H:fL C (kid++dJ) (cR E f 0 args) bs:=⟨az,Vv,hbl,λi id hi=>by
  obtain⟨b0,b,h1,h2,h3⟩:=al5 i id hi;exact⟨b0,b,h1,hl _ _ h2,h3⟩,λid bn=>by
  obtain⟨h1,sz,es,h2⟩:=vZ hpa id bn;exact⟨⟨_,hl _ _ h2⟩,h1⟩⟩
 have ou:=sR H hl (cur:=[]) (λx hx=>eO.2 (.inl (by rw[<-alz];exact vF 2 hx))) (λid bn=>bn) hpa ha;have aeM:kid++List.range' nid (dJ.length+owns rsh)=(kid++lL nid dJ.length)++List.range' (nid+dJ.length) (owns rsh):=by
  rw[xV,kF,List.range'_append_1]
 have Z2:(kid++lL nid dJ.length).length=(kid++dJ).length:=by rw[xV];simp
 have hat:∀j,j<owns rsh->(kid++List.range' nid (dJ.length+owns rsh))[bs.length+j]? =some (nid+dJ.length+j):=λj hj=>by
  rw[aeM,I8 (by rw[Z2,hbl];omega),Z2,hbl,Nat.add_sub_cancel_left,dD (by simpa using hj),List.getElem_range'];simp
 have alW:cC rsh rs=true/\okB ss dL=true/\(cR E f 0 args=[]\/(bM rs=true/\cr dL=true)\/(bH f E.fresh=true/\bs=[])):=by
  cases hle:vz E f 0 args with
  |true=>
   rw[hle]at hc;cases uv:bH f E.fresh&&Vc bs with
   |true=>
    rw[uv]at hc;simp only[GZ,sJ,gH,bO]at hc uv;exact⟨hc.1,hc.2,.inr (.inr ⟨uv.1,by cases bs with|nil=>rfl|cons=>cases uv.2⟩)⟩
   |false=>
    rw[uv]at hc;simp only[CF,pJ,en,bO]at hc;exact⟨hc.1.1,hc.1.2,.inr (.inl hc.2)⟩
  |false=>
   rw[hle]at hc;simp only[yZ,gH,bO]at hc;exact⟨hc.1,hc.2,.inl (AE hle)⟩
 obtain⟨hoR,hoB,aho⟩:=alW;obtain⟨al3,ahU,al2⟩:=KR (cid:=kid++lL nid dJ.length) (bs:=dL) (i:=0) hoB (λhs hm x hx=>by rw[Z2];exact ze K_ hs hm x hx) (λj _=>by rw[dy]);obtain⟨alZ,alY,alX⟩:=O2 (cid:=kid++List.range' nid (dJ.length+owns rsh)) (rs:=rs) (m:=bs.length) (nid:=nid+dJ.length) (i:=0) hoR (λj _=>by rw[dy]) hat;have hall:All2 (TB (kid++List.range' nid (dJ.length+owns rsh))) (dL++ee bs.length rs) (nK (kid++lL nid dJ.length) ss 0 dL++jo (nid+dJ.length) rsh 0 rs):=
  (al2.mono λa b hab=>by rw[aeM];exact hab.mono).append alX
 have fin:∀(D:Ctx),fV kid.length (C.sub (kid++dJ) (cR E f 0 args) bs) D->Ok D->D.h=(dL++ee bs.length rs).map bw.blk->(cR E f 0 args=[]\/∀b∈dL++ee bs.length rs,qE b=true)->
   ∀(X':Nat->Prop) (Q:PV->Prop) (u:Value),(∀v u,Q v->(D.wX X').P v u->(C.merge D (kid++List.range' nid (dJ.length+owns rsh)) dJ (nK (kid++lL nid dJ.length) ss 0 dL++jo (nid+dJ.length) rsh 0 rs)).P v u\/¬bj C kid dJ (cR E f 0 args) bs D (List.range' nid (dJ.length+owns rsh)) (dL++ee bs.length rs) (nK (kid++lL nid dJ.length) ss 0 dL++jo (nid+dJ.length) rsh 0 rs))->QR Q rs->VA (D.wX X') (valOf (kD bs.length rs)) u->
   bq C (vE dJ++(fM (kid++lL nid dJ.length) (nK (kid++lL nid dJ.length) ss 0 dL)++(bring (nid+dJ.length) rsh 0 rs).2)) (valOf (bring (nid+dJ.length) rsh 0 rs).1) u D.w:=by
  intro D hx Qp hDh Z5 X' Q u hP hq Vl;have M:bj C kid dJ (cR E f 0 args) bs D (List.range' nid (dJ.length+owns rsh)) (dL++ee bs.length rs) (nK (kid++lL nid dJ.length) ss 0 dL++jo (nid+dJ.length) rsh 0 rs):=by
   refine⟨H,hx,Qp,hDh,?_,hall.length.symm,λk r d hr hd=> ?_,λn hnm=> ?_,List.nodup_range',Z5⟩
   ·simp[ahU,ak,alY];omega
   ·obtain⟨d',h1,h2⟩:=hall.get k r hr;rw[hd]at h1;cases h1;exact h2
   ·have hm:=List.mem_range'_1.1 hnm;exact hn n hm.1 (by omega)
  refine⟨C.merge D (kid++List.range' nid (dJ.length+owns rsh)) dJ (nK (kid++lL nid dJ.length) ss 0 dL++jo (nid+dJ.length) rsh 0 rs),rfl,?_,M.aai,M.okC,?_⟩
  ·show bh (fM _ _) (bh _ C.h)=_;rw[aeM,uW (by rw[Z2,al3,ak]),jI,BU,alZ];simp only[kW]
  ·refine Iu (ym hoR) (λLo hu=> ?_) Vl;exact bj.res M (X':=X') (Q:=Q) (λv u h1 h2=>(hP v u h1 h2).resolve_right λh=>h M) hoR (λj _=>by rw[dy]) hat hq hu
 by_cases AM:cR E f 0 args=[]\/(bM rs=true/\cr dL=true)
 ·refine Ct (hF.fn f af bs rs dL hFr JW (C.sub (kid++dJ) (cR E f 0 args) bs) H.sub rfl et ou) λe w' he=> ?_;cases e with
  |panicked c=>exact he
  |outgrown=>exact he
  |returned u=>
   obtain⟨D,rfl,hx,Qp,hDh,hlen,Vl⟩:=he;rw[VC]at hx;refine fin D hx Qp hDh ?_ D.X (λv=>cR E f 0 args=[]\/fA v=true) u (λv u hq hv=> ?_) ?_ Vl
   ·refine AM.imp id λhh b hb=> ?_;rcases eO.1 hb with hb|hb
    ·exact T4 hh.2 b hb
    ·exact kJ hh.1 b hb
   ·by_cases hM:bj C kid dJ (cR E f 0 args) bs D (List.range' nid (dJ.length+owns rsh)) (dL++ee bs.length rs) (nK (kid++lL nid dJ.length) ss 0 dL++jo (nid+dJ.length) rsh 0 rs)
    ·exact .inl (hM.vp hq hv)
    ·exact .inr hM
   ·rcases AM with AM|AM
    ·exact tJ (λv=>.inl AM) rs
    ·exact qZ (λv hv=>.inr hv) AM.1
 ·have uv:bH f E.fresh=true/\bs=[]:=by
   rcases aho with h|h|h
   ·exact absurd (.inl h) AM
   ·exact absurd (.inr h) AM
   ·exact h
  obtain⟨uv,rfl⟩:=uv;have hs0:dL=[]:=by
   have:dL.length=0:=by rw[ahU,ak,<-hbl];rfl
   exact Bj.1 this
  subst hs0;have Lc:kid.length=0:=by
   have:(kid++dJ).length=0:=by rw[<-hbl];rfl
   rw[eC]at this;omega
  obtain⟨hr0,hN⟩:=hF.fr f af [] rs [] hFr uv rfl;refine Ct (hN (C.sub (kid++dJ) (cR E f 0 args) []) H.sub rfl et ou) λe w' he=> ?_;cases e with
  |panicked c=>exact he
  |outgrown=>exact he
  |returned u=>
   obtain⟨D,rfl,hx,Qp,hDh,Vl⟩:=he;refine fin D (by rw[Lc];exact hx) Qp (by rw[hDh];simp only[cO,hr0];rfl) (.inr λb hb=> ?_) (λb=>D.X b\/b<C.w.heap.size) (λ_=>True) u (λv u _ hv=> ?_) (tJ (λ_=>trivial) rs) Vl
   ·simp only[cO,hr0]at hb;cases hb
   ·by_cases hM:bj C kid dJ (cR E f 0 args) [] D (List.range' nid (dJ.length+owns rsh)) ([]++ee 0 rs) (nK (kid++lL nid dJ.length) ss 0 []++jo (nid+dJ.length) rsh 0 rs)
    ·refine .inl (hM.vpF (VP.sub (λb _ hb=> ?_) hv));rcases hb with hb|hb
     ·rcases hb with hb|hb
      ·exact .inl (.inl hb)
      ·exact .inr hb
     ·exact .inl (.inr hb)
    ·exact .inr hM
end
def okFns (E:Env):Bool:=E.v_.all λf=>match E.P.funcs[f]? with|some fn=>fn.body.isSome&& !(fn.name== "runtime.NumGoroutine")|none=>false
theorem TS {E:Env}(h:okFns E=true){f:Nat}(hf:bH f E.v_=true):∃fn c,E.P.funcs[f]? =some fn/\fn.body=some c/\(fn.name== "runtime.NumGoroutine")=false:=by
 have:=iC.1 h f (cP.1 hf);split at this
 ·rename_i fn hfn;simp only[bO,oQ]at this;obtain⟨c,hc⟩:=Option.isSome_iff_exists.1 this.1;exact⟨fn,c,hfn,hc,this.2⟩
 ·cases this
theorem wU {E:Env}(h:okFns E=true){f:Nat}(hf:bH f E.v_=true)(args:Array Value)(w:World):(callFunc f args).run E.P w=.ok (.enter f args) w:=by
 obtain⟨fn,c,h1,h2,h3⟩:=TS h hf;have h4:¬fn.name= "runtime.NumGoroutine" :=by simpa using h3
 simp[callFunc,h1,h2,h4]
theorem Cb {E:Env}(h:okFns E=true){o:Oper}{c:Call}{f:Operand}{ρ:Operand->Value}(hop:o.op=.call c)(hc:c.callee=.value f){g:Nat}{caps:Array Value}(hf:ρ f=.func (.func g) #[] caps)(hg:bH g E.v_=true)(w:World):
  (execOp ρ o).run E.P w=.ok (.enter g (c.args.map ρ++caps)) w:=by
 have h1:=wU h hg (c.args.map ρ++caps) w;unfold execOp;rw[hop];simp only[resolve,hc,hf,Deferred.ofValue,rQ,iO,rS,invoke];simpa using h1
theorem FB {E:Env}(h:okFns E=true){o:Oper}{c:Call}{f:Operand}{ρ:Operand->Value}(hop:o.op=.call c)(hc:c.callee=.value f){g:Nat}{x:Value}(hf:ρ f=.func (.func g) #[x] #[])(hg:bH g E.v_=true)(w:World):
  (execOp ρ o).run E.P w=.ok (.enter g (#[x]++c.args.map ρ)) w:=by
 have h1:=wU h hg (#[x]++c.args.map ρ) w;unfold execOp;rw[hop];simp only[resolve,hc,hf,Deferred.ofValue,rQ,iO,rS,invoke];simpa using h1
theorem DN {C:Ctx}(az:Ok C){E:Env}{look:aJ}(hl:bQ C look){f:Nat}:∀{args:List AV} {i:Nat} {us:List Value},All2 (VA C) args us->
  bK (dY E look f i args).2/\(∀u∈(dY E look f i args).2,∃b,look u.1=some b)/\∀K,bK K->(∀u∈(dY E look f i args).2,u∈K)->All2 (VA (C.kill K)) (dY E look f i args).1 us
 |[],i,us,h=>by
  cases us with
  |nil=>exact⟨λu hu=>(by cases hu),λu hu=>(by cases hu),λ_ _ _=>trivial⟩
  |cons=>exact h.elim
 |a::l,i,us,h=>by
  cases us with
  |nil=>exact h.elim
  |cons u us=>
   obtain⟨d1,d2,d3⟩:=DN (E:=E) (f:=f) az hl (i:=i+1) h.2;have plain:dY E look f i (a::l)=(a::(dY E look f (i+1) l).1,(dY E look f (i+1) l).2)->bK (dY E look f i (a::l)).2/\(∀u∈(dY E look f i (a::l)).2,∃b,look u.1=some b)/\∀K,bK K->(∀u∈(dY E look f i (a::l)).2,u∈K)->All2 (VA (C.kill K)) (dY E look f i (a::l)).1 (u::us):=by
    intro e;rw[e];exact⟨d1,d2,λK hK pT=>⟨(cB C hK).va h.1,d3 K hK pT⟩⟩
   by_cases hc:∃id sz es,a=.t (.ak id)/\lJ f i E.J8=true/\look id=some (.arr sz es)
   ·obtain⟨id,sz,es,rfl,h1,h2⟩:=hc;have e:dY E look f i (.t (.ak id)::l)=(.t (.p (.sl sz es))::(dY E look f (i+1) l).1,(id,.dead)::(dY E look f (i+1) l).2):=by
     simp only[dY,h1,h2,en]
    rw[e];refine⟨λv hv=> ?_,λv hv=> ?_,λK hK pT=>⟨?_,d3 K hK λv hv=>pT v (by simp[hv])⟩⟩
    ·rcases gR.1 hv with rfl|hv
     ·rfl
     ·exact d1 v hv
    ·rcases gR.1 hv with rfl|hv
     ·exact⟨_,h2⟩
     ·exact d2 v hv
    ·obtain⟨_,_,h3⟩:=h.1;exact eY az (hl _ _ h2) (h3 _ _ (hl _ _ h2)) hK (pT _ (by simp))
   ·by_cases hc2:∃vs cs mb,a=.bm vs/\lJ f i E.J8=true/\kH look vs=some (cs,mb)
    ·obtain⟨vs,cs,mb,rfl,hz,hp⟩:=hc2;have e:dY E look f i (.bm vs::l)=(.t (.agg cs)::(dY E look f (i+1) l).1,mb++(dY E look f (i+1) l).2):=by
      simp only[dY,hz,en,hp]
     rw[e];refine⟨λv hv=> ?_,λv hv=> ?_,λK hK pT=>⟨?_,d3 K hK λv hv=>pT v (by simp[hv])⟩⟩
     ·rcases eO.1 hv with hv|hv
      ·exact oc hp v hv
      ·exact d1 v hv
     ·rcases eO.1 hv with hv|hv
      ·obtain⟨w,x,z,h1,h2⟩:=jv hp v hv;cases w with
       |p _=>cases h1;cases h2
       |agg _=>cases h1;cases h2
       |ak id=>
        simp only[rA]at h1;split at h1
        ·rename_i hlk;cases h1;simp only[jL]at h2;subst h2;exact⟨_,hlk⟩
        ·cases h1
       |ptr _ _=>cases h1
      ·exact d2 v hv
     ·obtain⟨Lo,rfl,ha⟩:=h.1;exact⟨Lo,rfl,jT az hl ha hp hK λv hv=>pT v (by simp[hv])⟩
    refine plain ?_;simp only[dY];split
    ·rename_i id;cases hb:lJ f i E.J8 with
     |false=>rfl
     |true=>
      rw[en];split
      ·rename_i sz es hl';exact absurd ⟨id,sz,es,rfl,hb,hl'⟩ hc
      ·rfl
    ·rename_i vs;cases hb:lJ f i E.J8 with
     |false=>rfl
     |true=>
      rw[en];split
      ·rename_i cs mb hp;exact absurd ⟨vs,cs,mb,rfl,hb,hp⟩ hc2
      ·rfl
    ·rfl
theorem KC {C:Ctx}(az:Ok C){E:Env}{F:d_}(hF:eI E F){look:aJ}(hl:bQ C look){nid f:Nat}{args:List AV}{v:AV}{us:cD}(h:yg E F look nid f args two=some (v,us))
  (hn:∀n,nid<=n->n<nid+ly->nth bw.fresh C.h n=.fresh/\n<C.h.length) {et:Array Value} (ha:All2 (VA C) args et.toList):
  bH f E.v_=true/\Calls E.P f et C.w λe w'=>match e with
   | .returned u=>bq C us v u w'
   |_=>False:=by
 obtain⟨hd,hlk,ou⟩:=DN (E:=E) (f:=f) az hl (i:=0) ha;unfold yg at h;have ot:=(zN E F (uA look (dY E look f 0 args).2) nid f (dY E look f 0 args).1 two (λp:P2=>two p.1 ((dY E look f 0 args).2++p.2))).trans h;obtain⟨⟨v',mb⟩,h1,h2⟩:=gI.1 ot;obtain⟨rfl,rfl⟩:=ax h2;have alk:∀n,nth bw.fresh C.h n=.fresh->∀e,(n,e)∉(dY E look f 0 args).2:=λn hf e he=>by
  obtain⟨b,hb⟩:=hlk _ he;have:=hl _ _ hb;unfold live at this;rw[hf]at this;cases this
 have hl':bQ (C.kill (dY E look f 0 args).2) (uA look (dY E look f 0 args).2):=λid b hb=>by
  unfold uA at hb;cases hc:(dY E look f 0 args).2.any λu=>Nat.beq u.1 id with
  |true=>rw[hc]at hb;cases hb
  |false=>
   rw[hc]at hb;refine gW (λe he=> ?_) (hl _ _ hb);have:=List.any_eq_false.1 hc _ he;simp at this
 obtain⟨g1,g2⟩:=KA (ic az hd) hF hl' h1 (λn h1 h2=>⟨gB (alk _ (hn n h1 h2).1) (hn n h1 h2).1,by show _<(bh _ C.h).length;rw[ew];exact(hn n h1 h2).2⟩)
  (ou _ hd λu hu=>hu)
 refine⟨g1,Ct g2 λe w' he=> ?_⟩;cases e with
 |returned u=>exact bq.after hd he
 |panicked _=>exact he
 |outgrown=>exact he
theorem NH:∀{cs:List AV} {ts:List TV},iK cs=some ts->cs=ts.map AV.t
 |[],ts,h=>by simp only[iK]at h;cases h;rfl
 |a::l,ts,h=>by
  cases a with
  |t v=>
   simp only[iK]at h;split at h
   ·rename_i r hr;cases h;rw[nS,<-NH hr]
   ·cases h
  |_=>simp[iK]at h
theorem NU {E:Env}{F:d_}{look:aJ}{args:Bool->List AV}{ok:List PV->Bool}{val:List PV->PV}{v:AV}{us:cD}:∀{gs:List (Nat×Bool×Sh)} {acc:List PV},Q4 E F look args gs acc (λvs=>ctl (ok vs) (two (.t (.p (val vs))) []) none)=some (v,us)->
  ∃vs x,vs.length=gs.length/\(ok (acc.reverse++vs)=true/\val (acc.reverse++vs)=x)/\v=.t (.p x)/\us=[]/\∀(i:Nat) g fu s y,gs[i]? =some (g,fu,s)->vs[i]? =some y->
   bH g E.v_=true/\Od s=true/\kX E g 0 (args fu) []=[]/\∃af rs dL,xn E look g [] 0 (args fu)=some af/\F g af []=some (rs,dL)/\cC [.one s] rs=true/\okB [] dL=true/\y=uT s (nth (.p .aM) rs 0).dC
 |[],acc,h=>by
  have h:ctl (ok acc.reverse) (two (.t (.p (val acc.reverse))) []) none=some (v,us):=h;obtain⟨hx,h⟩:=bX h;obtain⟨h1,h2⟩:=ax h;exact⟨[],_,rfl,by rw[qx];exact⟨hx,rfl⟩,h1.symm,h2.symm,λi g fu s y hg=>by cases hg⟩
 |(g,fu,s)::l,acc,h=>by
  unfold Q4 at h;split at h
  case isFalse=>cases h
  rename_i h0;split at h
  case h_2=>cases h
  rename_i af has;unfold aj at h;obtain⟨⟨rs,dL⟩,hq,h⟩:=gI.1 h;obtain⟨hc,h⟩:=bX h;obtain⟨vs,x,h1,h2,h3,h4,h5⟩:=NU h;simp only[bO]at h0 hc;refine⟨uT s (nth (.p .aM) rs 0).dC::vs,x,by simp[h1],by simpa using h2,h3,h4,λi g' fu' s' y hg hy=> ?_⟩;cases i with
  |zero=>
   cases hg;cases hy;refine⟨h0.1,h0.2.1,?_,af,rs,dL,has,hq,hc.1,hc.2,rfl⟩;have:=h0.2.2;cases hpi:kX E g 0 (args fu) []with
   |nil=>rfl
   |cons a l=>rw[hpi]at this;cases this
  |succ i=>exact h5 i g' fu' s' y (by simpa using hg) (by simpa using hy)
theorem LQ {look:aJ}{args:List AV}{r:List PV×List TV×PV}(h:LR look args=some r):∃id z cs c0 c1 c2 c3 c4 c5 t0 t1 t2 t3 l,args=[.t (.ptr id 0),.t (.p z)]/\look id=some (.box cs)/\cs=(.p c0::.p c1::.p c2::.p c3::.p c4::.p c5::t0::t1::t2::t3::l).map AV.t/\r=([c0,c1,c2,c3,c4,c5],[t0,t1,t2,t3],z):=by
 unfold LR at h;split at h
 case h_2=>cases h
 rename_i id z;split at h
 case h_2=>cases h
 rename_i cs hlk;split at h
 case h_2=>cases h
 rename_i c0 c1 c2 c3 c4 c5 t0 t1 t2 t3 l K9;cases h;exact⟨id,z,cs,c0,c1,c2,c3,c4,c5,t0,t1,t2,t3,l,rfl,hlk,NH K9,rfl⟩
theorem IG {C:Ctx}(az:Ok C){W:World}(hB:RowKit.Below C.w.heap.size C.w W):Ok (C.ag W C.X)/\Ext C (C.ag W C.X):=
 ⟨acb az az.Q7 hB.size (λb hb _=>hB.block b hb) (λb _ h=>.inl h) (λb hb=>⟨gp (az.x b hb).1 hB.size,(az.x b hb).2⟩) (λb hb=>hB.block b (az.gr.low b hb).1),
  ⟨hB.tape,hB.os,hB.output,hB.size,rfl,λb hb _=>hB.block b hb,λ_ _ h=>h,λid h=>⟨h,λb' hb=>⟨b',hb,rfl,dx _⟩⟩,λb carr e fr _ hc=>⟨carr,fr,(hB.block b (c_.1 hc).1).trans hc,rfl⟩⟩⟩
theorem PI {C:Ctx}(az:Ok C){E:Env}{F:d_}(hF:eI E F){look:aJ}(hl:bQ C look){f:Nat}{p:Ey}(hp:iA f E.ro=some p){args:List AV}{v:AV}{us:cD}(h:roK E F look f p args two=some (v,us))
  {et:Array Value} (ha:All2 (VA C) args et.toList):
  bH f E.v_=true/\Calls E.P f et C.w λe w'=>match e with
   | .returned u=>bq C us v u w'
   |_=>False:=by
 unfold roK at h;split at h
 case isFalse=>cases h
 rename_i JW;refine⟨JW,?_⟩;split at h
 case h_2=>cases h
 rename_i cs' ts' z' has;obtain⟨id,z,cs,c0,c1,c2,c3,c4,c5,t0,t1,t2,t3,l,rfl,hlk,hcs,hr⟩:=LQ has;cases hr;split at h
 case h_2=>cases h
 rename_i ds XE;obtain⟨vs,x,hlen,⟨Bp,hval⟩,rfl,rfl,iE⟩:=NU (ok:=λvs=>p.ok vs ds) (val:=λvs=>p.val vs ds) h;have hval:p.val vs ds=x:=hval;subst hval;obtain⟨ul⟩:=et;obtain⟨u0,u1,rfl⟩:∃u0 u1,ul=[u0,u1]:=by
  match ul,ha with
  |[u0,u1],_=>exact⟨u0,u1,rfl⟩
  |[],h=>exact h.elim
  |[_],h=>exact h.2.elim
  |_::_::_::_,h=>exact h.2.2.elim
 obtain⟨hk,n,hu0,hι⟩:=ha.1;subst hu0;have jZ:=hl _ _ hlk;obtain⟨b,carr,e,fr,hi,ahF,hsize,_,hcell⟩:=az.blk id _ jZ;have OJ:b=n:=by have:=hι _ jZ;rw[hi]at this;exact pH this
 subst OJ;subst hcs;obtain⟨v0,k0,a0,o0⟩:=hcell 0 _ rfl;obtain⟨v1,k1,a1,o1⟩:=hcell 1 _ rfl;obtain⟨v2,k2,a2,o2⟩:=hcell 2 _ rfl;obtain⟨v3,k3,a3,o3⟩:=hcell 3 _ rfl;obtain⟨v4,k4,a4,o4⟩:=hcell 4 _ rfl;obtain⟨v5,k5,a5,o5⟩:=hcell 5 _ rfl;obtain⟨v6,k6,a6,o6⟩:=hcell 6 _ rfl;obtain⟨v7,k7,a7,o7⟩:=hcell 7 _ rfl;obtain⟨v8,k8,a8,o8⟩:=hcell 8 _ rfl;obtain⟨v9,k9,a9,o9⟩:=hcell 9 _ rfl;have ou:∀fu,All2 (VA C) (roA [c0,c1,c2,c3,c4,c5] [t0,t1,t2,t3] z' fu) (roU #[v0,v1,v2,v3,v4,v5] #[v6,v7,v8,v9] u1 fu).toList:=λfu=>by
  cases fu with
  |true=>exact⟨⟨_,rfl,a0,a1,a2,a3,a4,a5,trivial⟩,⟨_,rfl,a6,a7,a8,a9,trivial⟩,ha.2.1,trivial⟩
  |false=>exact⟨⟨_,rfl,a0,a1,a2,a3,a4,a5,trivial⟩,ha.2.1,trivial⟩
 have alO:All2 (VP C.w λ_=>False) ds [v6,v7,v8,v9]:=by
  have H:fL C [] ([t0,t1,t2,t3].flatMap Du) []:=⟨az,List.nodup_nil,rfl,(λi id hi=>by cases hi),λid bn=>(λ⟨h1,sz,es,h2⟩=>⟨⟨_,hl _ _ h2⟩,h1⟩) (oq XE id bn)⟩
  exact(mI H hl (us:=[v6,v7,v8,v9]) XE (λid bn=>bn) ⟨a6,a7,a8,a9,trivial⟩).mono λa b h=>VP.sub (λ_ _ h=>h.elim) h
 have hce:∀(j:Nat) u,carr[j]? =some u->C.w.cell? ⟨b,j,none⟩=some u:=λj u hu=>by simp[World.cell?,ahF,hu]
 obtain⟨r1,r2⟩:=hF.ro f p hp v0 v1 v2 v3 v4 v5 v6 v7 v8 v9 u1 b C.w vs ds (λj y hy=>by
   match j,hy with
   |0,hy=>cases hy;exact⟨hce _ _ k0,o0⟩
   |1,hy=>cases hy;exact⟨hce _ _ k1,o1⟩
   |2,hy=>cases hy;exact⟨hce _ _ k2,o2⟩
   |3,hy=>cases hy;exact⟨hce _ _ k3,o3⟩
   |4,hy=>cases hy;exact⟨hce _ _ k4,o4⟩
   |5,hy=>cases hy;exact⟨hce _ _ k5,o5⟩
   |6,hy=>cases hy;exact⟨hce _ _ k6,o6⟩
   |7,hy=>cases hy;exact⟨hce _ _ k7,o7⟩
   |8,hy=>cases hy;exact⟨hce _ _ k8,o8⟩
   |9,hy=>cases hy;exact⟨hce _ _ k9,o9⟩
   |j+10,hy=>simp at hy) alO hlen Bp (λi g fu s y hg hy=>by
  obtain⟨g1,g2,g3,af,rs,dL,g4,g5,g6,g7,g8⟩:=iE i g fu s y hg hy;obtain⟨v',rfl,hv'⟩:∃v',rs=[.p v']/\xp s v'=true:=by
   cases rs with
   |nil=>cases g6
   |cons a l=>
    cases a with
    |p v'=>
     cases l with
     |nil=>simp only[cC,pJ]at g6;exact⟨v',rfl,g6⟩
     |cons b l=>simp[cC]at g6
    |_=>cases g6
  have hs0:dL=[]:=by
   cases dL with
   |nil=>rfl
   |cons a l=>cases g7
  subst hs0;have hpl:G1 v'=true/\y=v':=by
   rw[g8];cases s<;>first|cases g2|skip
   all_goals (cases v'<;>first|cases hv'|skip)
   ·have hk:=fe _ _ hv';subst hk;exact⟨rfl,rfl⟩
   ·exact⟨rfl,rfl⟩
  obtain⟨hpl,rfl⟩:=hpl;refine⟨hv',λW hB=> ?_⟩;obtain⟨pg,x1⟩:=IG az hB;have H:fL (C.ag W C.X) [] (cR E g 0 (roA [c0,c1,c2,c3,c4,c5] [t0,t1,t2,t3] z' fu)) []:=⟨pg,List.nodup_nil,rfl,(λi id hi=>by cases hi),λid bn=>by
   obtain⟨h1,sz,es,h2⟩:=vZ g4 id bn;exact⟨⟨_,hl _ _ h2⟩,h1⟩⟩
  have DD:=sR H (show bQ (C.ag W C.X) look from hl) (cur:=[]) (λx hx=>by rw[g3]at hx;exact hx) (λid bn=>bn) g4 ((ou fu).mono λa b h=>x1.va h);refine Ct (hF.fn g af [] _ _ g5 g1 _ H.sub rfl (roU #[v0,v1,v2,v3,v4,v5] #[v6,v7,v8,v9] u1 fu) DD) λe w' he=> ?_;cases e with
  |panicked c=>exact he.elim
  |outgrown=>exact he.elim
  |returned u=>
   obtain⟨D,rfl,hx,Qp,hDh,_,Vl⟩:=he;refine⟨?_,hx.os,hx.tape,hx.out,hx.size,λb hb=>hx.keep b hb λho=> ?_⟩
   ·have Vl:D.P y u:=Vl;cases y<;>first|(cases Vl;rfl)|cases hpl
   ·obtain⟨id,bn,_⟩:=H.own ho;cases bn)
 refine r2.mono λe w' he=> ?_;obtain⟨rfl,hB⟩:=he;obtain⟨pg,x1⟩:=IG az hB;refine⟨C.ag w' C.X,rfl,rfl,x1,pg,?_⟩;generalize p.val vs ds=x at r1;cases x<;>first|exact VP.int _ _|exact VP.bool _|cases r1
theorem tD {C:Ctx}(az:Ok C){E:Env}{F:d_}(hF:eI E F){look:aJ}(hl:bQ C look){nid f:Nat}{args:List AV}{v:AV}{us:cD}(h:nD E F look nid f args two=some (v,us))
  (hn:∀n,nid<=n->n<nid+ly->nth bw.fresh C.h n=.fresh/\n<C.h.length) {et:Array Value} (ha:All2 (VA C) args et.toList):
  bH f E.v_=true/\Calls E.P f et C.w λe w'=>match e with
   | .returned u=>bq C us v u w'
   |_=>False:=by
 unfold nD at h;split at h
 ·rename_i p hp;exact PI az hF hl hp h ha
 ·exact KC az hF hl h hn ha
theorem C6 {C:Ctx}:∀{ss:List Sh} {cs:List TV} {us:List Value},All2 (VT C) cs us->All2 (VT C) (adY ss cs) us
 |[],cs,us,h=>by cases cs<;>exact h
 |s::ss,[],us,h=>h
 |s::ss,c::cs,us,h=>by
  cases us with
  |nil=>exact h.elim
  |cons u us=>
   refine⟨?_,C6 h.2⟩;split
   ·split
    ·have h0:u=.slice none 0 0:=(λu (h:C.P .bN u)=>show u=.slice none 0 0 by cases h;rfl) _ h.1;rw[h0];exact .yA _ none 0
    ·exact h.1
   ·exact h.1
theorem Me {C:Ctx}{P:Program}{t:TypeId}{a:AV}{u:Value}(h:VA C a u):VA C (ad0 P t a) u:=by
 unfold ad0;split
 ·split
  ·obtain⟨us,rfl,ha⟩:=h;exact⟨us,rfl,wh ha⟩
  ·exact h
 ·split
  ·have h0:u=.slice none 0 0:=(λu (h:C.P .bN u)=>show u=.slice none 0 0 by cases h;rfl) _ h;rw[h0];exact .yA _ none 0
  ·exact h
 ·split
  ·obtain⟨us,rfl,ha⟩:=h;exact⟨us,rfl,C6 ha⟩
  ·exact h
 ·exact h
theorem C7 {C:Ctx}{P:Program}:∀{ts:List TypeId} {af:List AV} {us:List Value},All2 (VA C) af us->All2 (VA C) (adZ P ts af) us
 |[],af,us,h=>by cases af<;>exact h
 |t::ts,[],us,h=>h
 |t::ts,a::af,us,h=>by
  cases us with
  |nil=>exact h.elim
  |cons u us=>exact⟨Me h.1,C7 h.2⟩
theorem oh {C:Ctx}{P:Program}{g:Nat}{af:List AV}{us:List Value}(h:All2 (VA C) af us):All2 (VA C) (AA P g af) us:=by
 unfold AA;split
 ·exact C7 h
 ·exact h
theorem TN {C:Ctx}(az:Ok C){E:Env}{F:d_}(hE:okFns E=true)(hF:eI E F){look:aJ}(hl:bQ C look){nid:Nat}{o:Oper}
  (hn:∀n,nid<=n->n<nid+wV o.op->nth bw.fresh C.h n=.fresh/\n<C.h.length) {ev:Operand->AV} {a:Act} (hρ:∀x,VA C (ev x) (a.eval x))
  {v:AV} {us:cD} (h:qa E F look nid o.op ev two=some (v,us)) {next:Act->World->Prop} {Q:Exit->Act->World->Prop} (AH:∀u w',bq C us v u w'->next (a.put o.dst u) w'):
  o.wp E.P a C.w next Q:=by
 have plain:eD E.P look nid o.op ev two=some (v,us)->o.wp E.P a C.w next Q:=by
  intro h;obtain⟨u,w',hr,hg⟩:=G3 az hl (λhb=>hn nid (dB _) (by unfold wV;rw[hb,en];cases Hk o.op<;>simp[ly])) hρ (λy hy=>by
   unfold wq at hy;split at hy
   ·rfl
   ·cases hy) h
  unfold Oper.wp;rcases hr with hr|⟨hr,rfl⟩
  ·rw[hr];exact AH u w' hg
  ·rw[hr];exact AH _ w' hg
 have ahT:∀(c:Call) (f:Operand) (g:Nat) (k:EB),o.op=.call c->c.callee=.value f->a.eval f=.func (.func g) #[] #[]->iA g E.hpr=some k->
   Bn k look nid (c.args.toList.map ev) two=some (v,us)->o.wp E.P a C.w next Q:=by
  intro c f g k hop hc hf hk h;have hb:wV o.op=ly:=by rw[hop];obtain⟨cc,_,_⟩:=c;cases hc;rfl
  rw[hb]at hn;obtain⟨hg,iE⟩:=hF.hp g k hk;unfold Oper.wp;rw[Cb hE hop hc hf hg];refine Ct (iE C look nid _ v us _ az hl hn (by simpa using fK hρ c.args.toList) h) λe w' he=> ?_;cases e with
  |returned u=>exact AH u w' he
  |panicked _=>exact he.elim
  |outgrown=>exact he.elim
 have call:∀(c:Call) (f:Operand) (g:Nat) (caps:Array Value) (af:List AV),o.op=.call c->c.callee=.value f->a.eval f=.func (.func g) #[] caps->All2 (VA C) af (c.args.map a.eval++caps).toList->
   nD E F look nid g af two=some (v,us)->o.wp E.P a C.w next Q:=by
  intro c f g caps af hop hc hf ha hk;have hb:wV o.op=ly:=by rw[hop];obtain⟨cc,_,_⟩:=c;cases hc;rfl
  rw[hb]at hn;obtain⟨hg,iE⟩:=tD az hF hl hk hn ha;unfold Oper.wp;rw[Cb hE hop hc hf hg];refine Ct iE λe w' he=> ?_;cases e with
  |returned u=>exact AH u w' he
  |panicked _=>exact he.elim
  |outgrown=>exact he.elim
 unfold qa at h;split at h
 ·rename_i f args ats hop;have ou:All2 (VA C) (args.toList.map ev) (args.toList.map a.eval):=fK hρ args.toList;have hf:=hρ f;split at h
  ·rename_i g caps he;rw[he]at hf;obtain⟨mb,hu,hc⟩:=hf;split at h
   ·rename_i k hk;split at h
    ·have:mb= #[]:=by
      have:=hc.length;exact Array.toList_eq_nil_iff.1 (Bj.1 (by simpa using this.symm))
     subst this;exact ahT _ f g k hop rfl hu hk h
    ·cases h
   refine call _ f g mb _ hop rfl hu ?_ h;have ahR:All2 (VA C) (caps.map AV.t) mb.toList:=by
    clear hop h he call plain ou;revert hc;generalize mb.toList=l
    induction caps generalizing l with
    |nil=>intro hc;cases l with|nil=>trivial|cons=>exact hc.elim
    |cons c caps ih=>intro hc;cases l with|nil=>exact hc.elim|cons x l=>exact⟨hc.1,ih l hc.2⟩
   exact oh (by simpa using ou.append ahR)
  ·rename_i g he;rw[he]at hf;cases hfv:a.eval f with
   |func fn first caps=>
    rw[hfv]at hf;cases hf;refine call _ f g #[] _ hop rfl hfv ?_ h;exact oh (by simpa using ou)
   |_=>rw[hfv]at hf;cases hf
  ·rename_i g cs he;rw[he]at hf;obtain⟨mb,hu,hcs⟩:=hf;have hb:wV o.op=ly:=by rw[hop];rfl
   rw[hb]at hn;have DD:All2 (VA C) (AA E.P g (.t (.agg cs)::args.toList.map ev)) (#[Value.agg mb]++args.map a.eval).toList:=oh (by
    rw[Array.toList_append,wY];exact⟨⟨mb,rfl,hcs⟩,ou⟩)
   obtain⟨hg,iE⟩:=tD az hF hl h hn DD;unfold Oper.wp;rw[FB hE hop rfl hu hg];refine Ct iE λe w' he=> ?_;cases e with
   |returned u=>exact AH u w' he
   |panicked _=>exact he.elim
   |outgrown=>exact he.elim
  ·rename_i g id off he;rw[he]at hf;obtain⟨u0,hu,hp⟩:=hf;have hb:wV o.op=ly:=by rw[hop];rfl
   rw[hb]at hn;have DD:All2 (VA C) (AA E.P g (.t (.ptr id off)::args.toList.map ev)) (#[u0]++args.map a.eval).toList:=oh (by
    rw[Array.toList_append,wY];exact⟨hp,ou⟩)
   obtain⟨hg,iE⟩:=tD az hF hl h hn DD;unfold Oper.wp;rw[FB hE hop rfl hu hg];refine Ct iE λe w' he=> ?_;cases e with
   |returned u=>exact AH u w' he
   |panicked _=>exact he.elim
   |outgrown=>exact he.elim
  ·cases h
 ·exact plain h
structure SR (C:Ctx)(st:St)(a:Act):Prop where
 h:C.h=st.heap
 s:l_ C st.slots a.tmps
 n:st.slots.length<=a.tmps.size
theorem IH {a:Act}{d:Nat}{u:Value}(h:a.tmps.getD d Go.undef=u):a.tmps[d]? =some u\/(a.tmps[d]? =none/\u=Go.undef):=by
 rw[uQ]at h;cases hd:a.tmps[d]? with
 |none=>rw[hd]at h;exact .inr ⟨rfl,h.symm⟩
 |some x=>rw[hd]at h;exact .inl (by rw[<-h];rfl)
theorem SR.yield {C:Ctx}{st:St}{a:Act}(hs:SR C st a){ops:Array Oper}{o:Oper}{b:Bool}(h:act ops o st.slots=some b):Region.wanted o (yielded ops a.tmps)=b:=by
 unfold act at h;unfold Region.wanted;split at h
 ·rename_i hg;simp only[hg];exact pH h
 ·rename_i j w hg;simp only[hg];split at h
  ·cases h
  ·rename_i d hd;have pU:(ops[j]?).bind (·.dst)=some d:=hd;split at h
   ·rename_i hno;cases h;have h1:=hs.s d;rw[hno]at h1;have h1:a.tmps.getD d Go.undef=Go.undef:=h1;have:yielded ops a.tmps j=none:=by
     unfold yielded;rw[pU];simp only[oP];rcases IH h1 with h2|⟨h2,_⟩
     ·rw[h2];rfl
     ·rw[h2]
    rw[this];rfl
   ·rename_i c hc;have h1:=hs.s d;rw[hc]at h1;have h1:a.tmps.getD d Go.undef=.bool c:=(λu (h:C.P (.bool c) u)=>show u=.bool c by cases h;rfl) _ h1;have:yielded ops a.tmps j=some c:=by
     unfold yielded;rw[pU];simp only[oP];rcases IH h1 with h2|⟨_,h2⟩
     ·rw[h2]
     ·cases h2
    rw[this];have h:=pH h;subst h;cases c<;>cases w<;>rfl
   ·cases h
theorem xj (a:Act)(d:Option Nat)(u:Value):(a.put d u).tmps.size=a.tmps.size:=by
 cases d<;>simp[Act.put]
theorem put_defers (a:Act)(d:Option Nat)(u:Value):(a.put d u).defers=a.defers:=by
 cases d<;>rfl
theorem SR.put {C C':Ctx}{st:St}{a:Act}(hs:SR C st a)(hx:Ext C C'){us:cD}(hh:C'.h=bh us C.h)(d:Option Nat){v:AV}{u:Value}(hv:VA C' v u):
  SR C' ⟨cq d v st.slots,bh us st.heap⟩ (a.put d u):=by
 refine⟨by rw[hh,hs.h],λt=> ?_,by rw[xj];exact fZ (Nat.le_of_eq (e_ ..)) hs.n⟩;have h0:=hx.va (hs.s t);show VA C' (nth .undef (cq d v st.slots) t) _;rw[e9];cases d with
 |none=>rw[aC (by simp)];exact h0
 |some d=>
  simp only[Act.put,uQ]at h0|-;by_cases hdt:d=t
  ·subst hdt;by_cases hlt:d<st.slots.length
   ·rw[aK ⟨rfl,hlt⟩,Array.getElem?_setIfInBounds_self_of_lt (gp hlt hs.n)];exact hv
   ·rw[aC λh=>hlt h.2,ud (Nat.not_lt.1 hlt)];trivial
  ·rw[aC λh=>hdt (pH h.1),Array.getElem?_setIfInBounds_ne hdt];exact h0
theorem Wd {E:Env}{F:d_}{ops:Array Oper}{dr:Bool}{t:It}{st:St}{r:Tr}{v:AV}{us:cD}(h:A3 E F ops dr t st=some (r,v,us)):
  (act ops t.o st.slots=some false/\v=.no/\us=[])\/
  (act ops t.o st.slots=some true/\∃look:aJ,(∀id b,look id=some b->cw st.heap id=some b)/\qa E F look t.nid t.o.op (aS st.slots) two=some (v,us)):=by
 unfold A3 at h;split at h
 ·cases h
 ·rename_i ha;refine .inr ⟨ha,?_⟩;unfold mm at h;split at h
  ·cases dr with
   |false=>
    dsimp only at h;refine⟨cw st.heap,λ_ _ h=>h,?_⟩;have hn:=(tZ E F (cw st.heap) t.nid t.o.op (aS st.slots) two (λp:AV×cD=>some (Tr.mk t.i [] false,p.1,p.2))).trans h;obtain⟨p,hp,he⟩:=gI.1 hn;cases he;exact hp
   |true=>
    dsimp only at h;refine⟨Cc (dA t.o.op) (jM E.P (dA t.o.op) st.heap (aS st.slots) t.o.op) st.heap,λid b hb=> ?_,?_⟩
    rotate_left
    ·have hn:=(tZ E F (Cc (dA t.o.op) (jM E.P (dA t.o.op) st.heap (aS st.slots) t.o.op) st.heap) t.nid t.o.op (aS st.slots) two
      (λp:AV×cD=>if (Iy (dA t.o.op) (eA t.o) (jM E.P (dA t.o.op) st.heap (aS st.slots) t.o.op) t.nid p.2&&yY (oM E.P (dA t.o.op) st.heap (aS st.slots) t.o.op) p.2 p.1)=true then
       some (Tr.mk t.i (cond (dA t.o.op) (jM E.P (dA t.o.op) st.heap (aS st.slots) t.o.op) []) (dA t.o.op&&p.2.any λu=>bH u.1 (jM E.P (dA t.o.op) st.heap (aS st.slots) t.o.op)),p.1,p.2) else none)).trans h
     obtain⟨p,hp,he⟩:=gI.1 hn;split at he
     ·cases he;exact hp
     ·cases he
    ·unfold Cc at hb;cases hc:(dA t.o.op&&bH id (jM E.P (dA t.o.op) st.heap (aS st.slots) t.o.op))with
     |false=>rw[hc]at hb;cases hb
     |true=>rw[hc]at hb;exact hb
  ·cases h
 ·rename_i ha;cases h;exact .inl ⟨ha,rfl,rfl⟩
def qY (a b:Act):Prop:=b.defers=a.defers/\b.tmps.size=a.tmps.size
theorem qY.refl (a:Act):qY a a:=⟨rfl,rfl⟩
theorem qY.trans {a b c:Act}(h:qY a b)(k:qY b c):qY a c:=⟨k.1.trans h.1,k.2.trans h.2⟩
theorem qY.put (a:Act)(d:Option Nat)(u:Value):qY a (a.put d u):=⟨put_defers ..,xj ..⟩
theorem Kh {C:Ctx}(az:Ok C){E:Env}{F:d_}(hE:okFns E=true)(hF:eI E F){st:St}{a:Act}(hs:SR C st a){ops:Array Oper}{dr:Bool}{t:It}(ho:ops[t.i]? =some t.o)
  (hn:∀n,t.nid<=n->n<t.nid+eA t.o->nth bw.fresh C.h n=.fresh/\n<C.h.length)
  {r:Tr} {e:AV×cD} (h:A3 E F ops dr t st=some (r,e)) {K:Act->World->Prop} {Q:Exit->Act->World->Prop}
  (hK:∀C' a',Ok C'->Ext C C'->SR C' (put t e st) a'->qY a a'->K a' C'.w):wpOp E.P ops Q t.i K a C.w:=by
 obtain⟨v,us⟩:=e;unfold wpOp;rw[ho];dsimp only;rcases Wd h with⟨ha,rfl,rfl⟩|⟨ha,look,hl,hop⟩
 ·rw[hs.yield ha];simp only[pI,sL];exact hK C _ az (Ext.refl C) (hs.put (Ext.refl C) rfl t.o.dst rfl) (qY.put ..)
 ·rw[hs.yield ha];simp only[xd];refine .inl (TN az hE hF (λid b hb=>gV.1 (by rw[hs.h];exact hl id b hb)) hn (λx=>jE hs.s x) hop λu w' hg=> ?_);obtain⟨C',rfl,hh,hx,f_,hv⟩:=hg;exact hK C' _ f_ hx (hs.put hx hh t.o.dst hv) (qY.put ..)
def Touch (look:aJ)(b:Bool)(nid:Nat)(us:cD):Prop:=∀u∈us,(look u.1).isSome=true\/(b=true/\(u.1=nid\/u.1=nid+1))
theorem Touch.nil {look:aJ}{b:Bool}{nid:Nat}:Touch look b nid []:=λu hu=>by cases hu
theorem Touch.append {look:aJ}{b:Bool}{nid:Nat}{us vs:cD}(h:Touch look b nid us)(k:Touch look b nid vs):Touch look b nid (us++vs):=λu hu=>(eO.1 hu).elim (h u) (k u)
theorem Touch.one {look:aJ}{b:Bool}{nid:Nat}{id:Nat}{e:bw}{x:au}(h:look id=some x):Touch look b nid [(id,e)]:=λu hu=>by
 simp only[jL]at hu;subst hu;exact .inl (by rw[h];rfl)
theorem Touch.new {look:aJ}{nid:Nat}{e:bw}:Touch look true nid [(nid,e)]:=λu hu=>by
 simp only[jL]at hu;subst hu;exact .inr ⟨rfl,.inl rfl⟩
theorem Touch.cons {look:aJ}{b:Bool}{nid:Nat}{id:Nat}{e:bw}{x:au}{us:cD}(h:look id=some x)(k:Touch look b nid us):Touch look b nid ((id,e)::us):=Touch.append (us:=[(id,e)]) (.one h) k
theorem sO {look:aJ}{b:Bool}{nid:Nat}{v:TV}{vs:List PV}{us:cD}(h:rA look v=some (vs,us)):Touch look b nid us:=by
 cases v with
 |p v=>cases h;exact .nil
 |agg cs=>cases h;exact .nil
 |ak id=>
  simp only[rA]at h;split at h
  ·rename_i hl;cases h;exact .one hl
  ·cases h
 |ptr id o=>cases h
theorem Au {look:aJ}{b:Bool}{nid:Nat}{v:AV}{vs:List PV}{us:cD}(h:rB look v=some (vs,us)):Touch look b nid us:=by
 unfold rB at h;split at h
 ·exact sO h
 ·cases h;exact .nil
 ·intro y hy;obtain⟨w,x,z,h1,h2⟩:=jv h y hy;exact sO h1 y h2
 ·cases h
theorem tq {look:aJ}{b:Bool}{nid:Nat}{pl:Nat->Option (Nat×Nat)}{ev:Operand->AV}:∀{parts:List (Nat×Operand)} {cells r:List PV} {us:cD},kx pl look ev cells parts=some (r,us)->Touch look b nid us
 |[],_,_,_,h=>by cases h;exact .nil
 |(i,x)::l,cells,r,us,h=>by
  simp only[kx]at h;split at h
  ·rename_i h2;split at h
   ·split at h
    ·rename_i h3;cases h;exact(Au h2).append (tq h3)
    ·cases h
   ·cases h
  ·cases h
theorem JA {P:Program}{look:aJ}{b:Bool}{nid:Nat}{t:TypeId}{a v:AV}{us:cD}(h:xA P look t a two=some (v,us)):Touch look b nid us:=by
 unfold xA at h;split at h
 ·split at h
  ·split at h
   ·rename_i hl;split at h
    ·split at h
     ·obtain⟨_,rfl⟩:=ax h;exact .nil
     ·split at h
      ·obtain⟨_,rfl⟩:=ax h;exact .nil
      ·cases h
     ·cases h
    ·split at h
     ·obtain⟨_,rfl⟩:=ax h;exact .nil
     ·cases h
   ·cases h
  ·split at h
   ·split at h
    ·obtain⟨_,rfl⟩:=ax h;exact .nil
    ·cases h
   ·split at h
    ·obtain⟨_,rfl⟩:=ax h;exact .nil
    ·cases h
  ·split at h
   ·split at h
    ·obtain⟨_,h⟩:=bX h;split at h
     ·obtain⟨_,rfl⟩:=ax h;exact .nil
     ·cases h
    ·cases h
   ·cases h
  ·cases h
 ·cases h
theorem GN {P:Program}{look:aJ}{b:Bool}{nid:Nat}{t:TypeId}{a x v:AV}{us:cD}(h:sA P look t a x two=some (v,us)):Touch look b nid us:=by
 unfold sA at h;split at h
 ·split at h
  ·split at h
   ·rename_i hl _;split at h
    ·obtain⟨_,rfl⟩:=ax h;exact .one hl
    ·cases h
   ·cases h
  ·split at h
   ·rename_i hl hp;split at h
    ·obtain⟨_,rfl⟩:=ax h;exact(Au hp).append (.one hl)
    ·cases h
   ·cases h
  ·cases h
 ·cases h
theorem zA {P:Program}{look:aJ}{b:Bool}{nid:Nat}{t:TypeId}{x ix v:AV}{us:cD}(h:gY P look t x ix two=some (v,us)):Touch look b nid us:=by
 unfold gY at h;split at h
 ·split at h
  ·split at h
   ·split at h
    ·obtain⟨_,_,_,h⟩:=Gb h;obtain⟨_,h⟩:=bX h;obtain⟨_,rfl⟩:=ax h;exact .nil
    ·cases h
   ·cases h
  ·split at h
   ·split at h
    ·obtain⟨_,h⟩:=bX h;obtain⟨_,rfl⟩:=ax h;exact .nil
    ·cases h
   ·cases h
  ·cases h
 ·split at h
  ·split at h
   ·obtain⟨_,_,_,_,h⟩:=g_ h;obtain⟨_,rfl⟩:=ax h;exact .nil
   ·obtain⟨_,_,_,_,h⟩:=g_ h;obtain⟨_,rfl⟩:=ax h;exact .nil
   ·obtain⟨_,_,_,_,h⟩:=g_ h;obtain⟨_,rfl⟩:=ax h;exact .nil
   ·cases h
  ·cases h
 ·cases h
theorem Hm {P:Program}{look:aJ}{b:Bool}{nid:Nat}{t:TypeId}{x ix v:AV}{us:cD}(h:Dq P t x ix two=some (v,us)):Touch look b nid us:=by cases h
theorem GR {P:Program}{look:aJ}{b:Bool}{nid:Nat}{t:TypeId}{x v:AV}{lo hi:Option Int}{us:cD}(h:sF P look t x lo hi two=some (v,us)):Touch look b nid us:=by
 unfold sF at h;split at h
 ·split at h
  ·obtain⟨_,h⟩:=bX h;obtain⟨_,rfl⟩:=ax h;exact .nil
  ·cases h
 ·split at h
  ·rename_i hl;split at h
   ·obtain⟨_,h⟩:=bX h;obtain⟨_,rfl⟩:=ax h;exact .one hl
   ·cases h
  ·cases h
 ·cases h
theorem Fm {P:Program}{look:aJ}{nid:Nat}{ts:List TypeId}{s x v:AV}{us:cD}(h:oJ P look nid ts s x two=some (v,us)):Touch look true nid us:=by
 unfold oJ at h;split at h
 ·split at h
  ·split at h
   ·split at h
    ·split at h
     ·obtain⟨_,h⟩:=bX h;obtain⟨_,rfl⟩:=ax h;exact .new
     ·split at h
      ·rename_i hl;split at h
       ·obtain⟨_,h⟩:=bX h;obtain⟨_,rfl⟩:=ax h;exact .cons hl .new
       ·cases h
      ·cases h
     ·cases h
    ·cases h
   ·cases h
  ·cases h
 ·cases h
theorem zu {P:Program}{look:aJ}{nid:Nat}{t:TypeId}{l c v:AV}{us:cD}(h:gU P nid t l c two=some (v,us)):Touch look true nid us:=by
 unfold gU at h;split at h
 ·split at h
  ·split at h
   ·obtain⟨_,h⟩:=bX h;obtain⟨_,rfl⟩:=ax h;exact .new
   ·cases h
  ·cases h
 ·cases h
theorem Nl {P:Program}{look:aJ}{b:Bool}{nid:Nat}{op:BinOp}{xt:TypeId}{x y v:AV}{us:cD}(h:H8 P op xt x y (λv=>two (.t (.p v)) [])=some (v,us)):Touch look b nid us:=by
 have hn:=yo P op xt x y some (λv=>two (.t (.p v)) []);have h':=hn.trans h;obtain⟨p,_,hp⟩:=gI.1 h';obtain⟨_,rfl⟩:=ax hp;exact .nil
theorem Kd {P:Program}{look:aJ}{nid:Nat}{op:Op}{ev:Operand->AV}{v:AV}{us:cD}(h:gZ P look nid op ev two=some (v,us)):Touch look (wE op) nid us:=by
 unfold gZ at h;split at h
 ·obtain⟨_,rfl⟩:=ax h;exact .nil
 ·obtain⟨_,rfl⟩:=ax h;exact .nil
 ·split at h
  ·rename_i t hc;cases t
   ·obtain⟨_,rfl⟩:=ax h;exact .nil
   ·obtain⟨_,rfl⟩:=ax h;exact .nil
  ·cases h
 ·split at h
  ·split at h
   ·obtain⟨_,rfl⟩:=ax h;exact .new
   ·cases h
  ·cases h
 ·split at h
  ·obtain⟨_,rfl⟩:=ax h;exact .new
  ·cases h
 ·split at h
  ·split at h
   ·split at h
    ·split at h
     ·split at h
      ·obtain⟨_,rfl⟩:=ax h;exact .nil
      ·cases h
     ·cases h
    ·split at h
     ·rename_i hf;obtain⟨_,rfl⟩:=ax h;exact tq (xW hf)
     ·cases h
   ·cases h
  ·cases h
 ·split at h
  ·split at h
   ·split at h
    ·split at h
     ·rename_i hf;obtain⟨_,rfl⟩:=ax h;exact(tq (xW hf)).append .new
     ·cases h
    ·cases h
   ·cases h
  ·cases h
 ·exact JA h
 ·exact GN h
 ·split at h
  ·obtain⟨_,rfl⟩:=ax h;exact .nil
  ·obtain⟨_,rfl⟩:=ax h;exact .nil
  ·obtain⟨_,rfl⟩:=ax h;exact .nil
  ·cases h
 ·rename_i y _;cases Z6:wq y with
  |true=>
   rw[Z6,en]at h;cases h
  |false=>rw[Z6,gH]at h;exact Nl h
 ·unfold unK at h;split at h
  ·obtain⟨_,rfl⟩:=ax h;exact .nil
  ·obtain⟨_,rfl⟩:=ax h;exact .nil
  ·cases h
 ·cases h
 ·split at h
  ·obtain⟨_,rfl⟩:=ax h;exact .nil
  ·split at h
   ·obtain⟨_,rfl⟩:=ax h;exact .nil
   ·obtain⟨_,rfl⟩:=ax h;exact .nil
   ·cases h
  ·cases h
 ·exact zu h
 ·split at h
  ·exact GR h
  ·cases h
 ·split at h
  ·split at h
   ·split at h
    ·split at h
     ·obtain⟨_,rfl⟩:=ax h;exact .nil
     ·cases h
    ·cases h
   ·cases h
  ·cases h
 ·split at h
  ·split at h
   ·split at h
    ·split at h
     ·obtain⟨_,rfl⟩:=ax h;exact .nil
     ·cases h
    ·cases h
   ·cases h
  ·cases h
 ·exact zA h
 ·exact Hm h
 ·split at h
  ·split at h
   ·obtain⟨_,rfl⟩:=ax h;exact .nil
   ·cases h
  ·split at h
   ·obtain⟨_,rfl⟩:=ax h;exact .nil
   ·obtain⟨_,rfl⟩:=ax h;exact .nil
   ·cases h
  ·cases h
 ·unfold nI at h;split at h
  ·split at h
   ·split at h
    ·obtain⟨_,rfl⟩:=ax h;exact .nil
    ·split at h
     ·obtain⟨_,rfl⟩:=ax h;exact .nil
     ·cases h
    ·split at h
     ·obtain⟨_,rfl⟩:=ax h;exact .nil
     ·cases h
    ·cases h
   ·cases h
  ·split at h
   ·obtain⟨_,rfl⟩:=ax h;exact .nil
   ·cases h
  ·split at h
   ·obtain⟨_,rfl⟩:=ax h;exact .nil
   ·cases h
  ·exact Fm h
  ·cases h
 ·cases h
def lZ (look:aJ)(n nid:Nat)(us:cD):Prop:=∀u∈us,(look u.1).isSome=true\/(nid<=u.1/\u.1<nid+n)
theorem lZ.append {look:aJ}{n nid:Nat}{us vs:cD}(h:lZ look n nid us)(k:lZ look n nid vs):lZ look n nid (us++vs):=λu hu=>(eO.1 hu).elim (h u) (k u)
theorem Touch.n {look:aJ}{b:Bool}{n nid:Nat}{us:cD}(h:Touch look b nid us)(hn:b=true->2<=n):lZ look n nid us:=λu hu=>(h u hu).imp id λ⟨h1,h2⟩=>by
 have:=hn h1;omega
theorem hZ:∀(rsh:List uI) (nid i:Nat) (rs:List RV),(jo nid rsh i rs).length=owns rsh
 |[],_,_,_=>rfl
 | .one _::l,nid,i,rs=>hZ l _ _ _
 | .agg _::l,nid,i,rs=>hZ l _ _ _
 | .own _::l,nid,i,rs=>by simp only[jo,owns,bo,hZ l]
 | .kI _::l,nid,i,rs=>by simp only[jo,owns,bo,hZ l]
 | .bm ss::l,nid,i,rs=>by simp only[jo,owns,eC,fI,hZ l];omega
 | .nU ss::l,nid,i,rs=>by simp only[jo,owns,bo,eC,fI,hZ l];omega
theorem zY:∀{l:List au} {n:Nat} {u:Nat×bw},u∈gz n l->n<=u.1/\u.1<n+l.length
 |[],_,_,h=>by cases h
 |b::l,n,u,h=>by
  rcases gR.1 h with rfl|h
  ·simp
  ·have:=zY h;simp only[bo];omega
theorem KQ {look:aJ}{k nid:Nat}{rsh:List uI}{n i:Nat}{rs:List RV}(h1:nid<=n)(h2:n+owns rsh<=nid+k):lZ look k nid (bring n rsh i rs).2:=λu hu=>by
 rw[jI]at hu;have:=zY hu;rw[hZ]at this;exact .inr (by omega)
theorem Kz {E:Env}{F:d_}{look:aJ}{nid f:Nat}{args:List AV}{v:AV}{us:cD}(h:tC E F look nid f args two=some (v,us)):lZ look ly nid us:=by
 unfold tC at h;split at h
 ·split at h
  ·cases h
  ·split at h
   ·cases h
   ·dsimp only at h;split at h
    ·rename_i hpa K_;split at h
     ·rename_i hown;unfold aj at h;obtain⟨r,_,h⟩:=gI.1 h;obtain⟨_,h⟩:=bX h;obtain⟨_,rfl⟩:=ax h;simp only[bO]at hown;have hres:=lz hown.2.2;obtain⟨_,_,hat⟩:=xm K_;have pT:∀id,id∈_->(look id).isSome=true:=λid bn=>by
       obtain⟨k,hk⟩:=List.getElem?_of_mem bn;obtain⟨b0,b,_,h4,_⟩:=hat k _ hk;rw[h4];rfl
      refine lZ.append (λu hu=> ?_) (lZ.append (λu hu=> ?_) (KQ (by omega) (by omega)))
      ·obtain⟨x,hx,rfl⟩:=fQ.1 hu;exact .inl (pT x (eO.2 (.inr hx)))
      ·obtain⟨k,b,h1,h2,h3⟩:=np (id:=u.1) (e:=u.2) hu;rcases eO.1 (gq h1)with h4|h4
       ·exact .inl (pT _ (eO.2 (.inl h4)))
       ·rw[xV]at h4;have:=List.mem_range'_1.1 h4;exact .inr (by omega)
     ·cases h
    ·cases h
 ·cases h
theorem DM {E:Env}{look:aJ}{f:Nat}{b:Bool}{nid:Nat}:∀{args:List AV} {i:Nat},Touch look b nid (dY E look f i args).2
 |[],i=>.nil
 |a::l,i=>by
  have ih:=DM (E:=E) (look:=look) (f:=f) (b:=b) (nid:=nid) (args:=l) (i:=i+1);simp only[dY];split
  ·cases lJ f i E.J8 with
   |false=>exact ih
   |true=>
    rw[en];split
    ·rename_i hl;exact .cons hl ih
    ·exact ih
  ·cases lJ f i E.J8 with
   |false=>exact ih
   |true=>
    rw[en];split
    ·rename_i hp;refine Touch.append (λy hy=> ?_) ih;obtain⟨w,x,z,h1,h2⟩:=jv hp y hy;exact sO h1 y h2
    ·exact ih
  ·exact ih
theorem KB {E:Env}{F:d_}{look:aJ}{nid f:Nat}{args:List AV}{v:AV}{us:cD}(h:yg E F look nid f args two=some (v,us)):lZ look ly nid us:=by
 unfold yg at h;have ot:=(zN E F (uA look (dY E look f 0 args).2) nid f (dY E look f 0 args).1 two (λp:P2=>two p.1 ((dY E look f 0 args).2++p.2))).trans h;obtain⟨⟨v',mb⟩,h1,h2⟩:=gI.1 ot;obtain⟨rfl,rfl⟩:=ax h2;refine((DM (b:=true) (nid:=nid)).n λ_=>by decide).append λu hu=>(Kz h1 u hu).imp (λh=> ?_) λh=>h;unfold uA at h;cases hc:(dY E look f 0 args).2.any λx=>Nat.beq x.1 u.1 with
 |true=>rw[hc]at h;cases h
 |false=>rw[hc]at h;exact h
theorem Sf {E:Env}{F:d_}{look:aJ}{args:Bool->List AV}{ok:List PV->Bool}{val:List PV->PV}{v:AV}{us:cD}:∀{gs:List (Nat×Bool×Sh)} {acc:List PV},Q4 E F look args gs acc (λvs=>ctl (ok vs) (two (.t (.p (val vs))) []) none)=some (v,us)->us=[]
 |[],acc,h=>by
  have h:ctl (ok acc.reverse) (two (.t (.p (val acc.reverse))) []) none=some (v,us):=h;exact(ax (bX h).2).2.symm
 |(g,fu,s)::l,acc,h=>by
  unfold Q4 at h;split at h
  ·split at h
   ·unfold aj at h;obtain⟨q,_,h⟩:=gI.1 h;exact Sf (bX h).2
   ·cases h
  ·cases h
theorem oG {E:Env}{F:d_}{look:aJ}{nid f:Nat}{args:List AV}{v:AV}{us:cD}(h:nD E F look nid f args two=some (v,us)):lZ look ly nid us:=by
 unfold nD at h;split at h
 ·unfold roK at h;split at h
  ·split at h
   ·split at h
    ·rename_i ds _;rw[Sf (ok:=λvs=>_) (val:=λvs=>_) h];exact λu hu=>by cases hu
    ·cases h
   ·cases h
  ·cases h
 ·exact KB h
theorem MC {k:EB}{look:aJ}{nid:Nat}{args:List AV}{v:AV}{us:cD}(h:Bn k look nid args two=some (v,us)):Touch look true nid us:=by
 have hjs:∀{js:List Nat} {b:Bool},(∀j∈js,∃b,look j=some b)->Touch look b nid (js.map λj=>(j,bw.dead)):=λhj u hu=>by
  obtain⟨j,hm,rfl⟩:=fQ.1 hu;obtain⟨b,hb⟩:=hj j hm;exact .inl (by show(look j).isSome=true;rw[hb];rfl)
 unfold Bn at h;split at h
 ·split at h
  ·obtain⟨_,rfl⟩:=ax h;exact λu hu=>by cases hu
  ·obtain⟨_,rfl⟩:=ax h;exact λu hu=>by cases hu
  ·split at h
   ·rename_i hl;obtain⟨_,rfl⟩:=ax h;exact .one hl
   ·cases h
  ·cases h
 ·split at h
  ·rename_i hl _;split at h
   ·obtain⟨_,h⟩:=bX h;split at h
    ·obtain⟨_,rfl⟩:=ax h;exact .cons hl .new
    ·cases h
   ·cases h
  ·cases h
 ·cases h
theorem Lv {P:Program}{look:aJ}{nid:Nat}{op:Op}{ev:Operand->AV}{v:AV}{us:cD}(ht:jC P op ev=true)(h:uK P look nid op ev two=some (v,us)):Touch look (wE op) nid us:=by cases h
theorem G2 {P:Program}{look:aJ}{nid:Nat}{op:Op}{ev:Operand->AV}{v:AV}{us:cD}(h:eD P look nid op ev two=some (v,us)):Touch look (wE op) nid us:=by
 unfold eD at h;cases ht:jC P op ev with
 |true=>rw[ht]at h;exact Lv ht h
 |false=>rw[ht]at h;exact Kd h
theorem P1 {E:Env}{F:d_}{look:aJ}{nid:Nat}{op:Op}{ev:Operand->AV}{v:AV}{us:cD}(h:qa E F look nid op ev two=some (v,us)):lZ look (wV op) nid us:=by
 unfold qa at h;split at h
 ·rename_i hop;split at h
  ·split at h
   ·split at h
    ·exact(MC h).n λ_=>show 2<=ly by decide
    ·cases h
   ·exact oG h
  ·exact oG h
  ·exact oG h
  ·exact oG h
  ·cases h
 ·exact(G2 h).n λhb=>by unfold wV;rw[hb,en];cases Hk op<;>simp[ly]
theorem QI {E:Env}{F:d_}{ops:Array Oper}{dr:Bool}{t:It}{st:St}{r:Tr}{e:AV×cD}(h:A3 E F ops dr t st=some (r,e)){n:Nat}(hf:nth bw.fresh st.heap n=.fresh)(hn:¬(t.nid<=n/\n<t.nid+eA t.o)):
  nth bw.fresh (put t e st).heap n=.fresh:=by
 obtain⟨v,us⟩:=e;show nth bw.fresh (bh us st.heap) n=_;rw[dR,hf];rcases Wd h with⟨_,_,rfl⟩|⟨_,look,hl,hop⟩
 ·intro u hu;cases hu
 ·intro u hu he;rcases P1 hop u hu with h1|h1
  ·obtain⟨b,hb⟩:=Option.isSome_iff_exists.1 h1;have:=gV.1 (hl _ _ hb);rw[he]at this;unfold live at this;rw[hf]at this;cases this
  ·exact hn (by rw[<-he];exact h1)
theorem L3 (t:It)(e:AV×cD)(st:St):(put t e st).heap.length=st.heap.length:=ew _ _
section
theorem wO {C:Ctx}{v:TV}{u:Value}(h:VT C v u):∀id∈v.refs,known C.h id:=by
 intro id bn;cases v with
 |p v=>cases bn
 |agg cs=>cases bn
 |ak i=>simp only[TV.refs,jL]at bn;subst bn;exact h.1
 |ptr i o=>simp only[TV.refs,jL]at bn;subst bn;exact h.1
theorem pz {C:Ctx}:∀{l:List TV} {us:List Value},All2 (VT C) l us->∀id∈l.flatMap TV.refs,known C.h id
 |[],_,_,id,bn=>by cases bn
 |v::l,[],h,_,_=>h.elim
 |v::l,u::us,h,id,bn=>by
  simp only[Ah,eO]at bn;exact bn.elim (wO h.1 id) (pz h.2 id)
theorem Iw {C:Ctx}{v:AV}{u:Value}(h:VA C v u):∀id∈v.refs,known C.h id:=by
 intro id bn;cases v with
 |undef=>cases bn
 |no=>cases bn
 |t v=>exact wO h id bn
 |uJ cs=>cases bn
 |xR i k o=>simp only[AV.refs,jL]at bn;subst bn;exact h.1
 |fn f caps=>obtain⟨us,_,ha⟩:=h;exact pz ha id bn
 |XU vs=>obtain⟨us,_,ha⟩:=h;exact pz ha id bn
 |bm vs=>obtain⟨us,_,ha⟩:=h;exact pz ha id bn
 |C8 i=>simp only[AV.refs,jL]at bn;subst bn;exact h.1
 |aj f cs=>cases bn
 |NK i=>simp only[AV.refs,jL]at bn;subst bn;exact h.1
 |Pf i k=>simp only[AV.refs,jL]at bn;subst bn;exact h.1
 |hmap i=>simp only[AV.refs,jL]at bn;subst bn;exact h.1
 |IE ps=>
  obtain⟨us,_,ha⟩:=h;simp only[AV.refs]at bn;obtain⟨p,hp,bn⟩:=CG.1 bn;obtain⟨i,hi⟩:=List.getElem?_of_mem hp;obtain⟨u,_,hv⟩:=ha.get i p hi;cases p with
  |inl v=>exact wO hv id bn
  |inr vs=>obtain⟨mb,_,ha'⟩:=hv;exact pz ha' id bn
 |iG f i o=>
  obtain⟨u',_,hv⟩:=h;exact wO hv id bn
 |rev f es=>cases bn
theorem SR.closed {C:Ctx}{st:St}{a:Act}(hs:SR C st a)(az:Ok C):kV st where
 slot t id bn:=by rw[<-hs.h];exact Iw (hs.s t) id bn
 box id cs hl c hc cT bn:=by
  rw[<-hs.h]at hl|-;obtain⟨n,carr,e,fr,_,_,_,_,hcell⟩:=az.blk id _ hl;obtain⟨j,hj,hjc⟩:=Cu.1 hc;obtain⟨u,_,hv,_⟩:=hcell j c (by rw[<-hjc];exact dD hj);exact Iw hv cT bn
theorem SR.le {C:Ctx}{st se:St}{a:Act}(hs:SR C se a)(hle:Le st se):SR C st a:=by
 refine⟨by rw[hs.h,hle.heap],λt=> ?_,by rw[<-hle.len];exact hs.n⟩;rcases hle.slot t with h|h
 ·rw[h];trivial
 ·rw[h];exact hs.s t
def Ctx.more (C:Ctx)(n:Nat):Ctx:=⟨C.w,C.ι,C.h++dm .fresh n,C.X,C.κ⟩
theorem pN (h:List bw)(n id:Nat):nth bw.fresh (h++dm .fresh n) id=nth bw.fresh h id:=by
 rw[dp,dp,n_,dO,dO,Co];split
 ·rfl
 ·rename_i hn;rw[EN (l:=h) (by omega),uO];split<;>rfl
theorem pY (C:Ctx)(n:Nat):Ext C (C.more n):=by
 have hl:∀id b,live (C.more n).h id b↔live C.h id b:=λid b=>by
  show nth bw.fresh (C.h++dm .fresh n) id=_↔_;rw[pN];rfl
 refine⟨rfl,rfl,rfl,dB _,rfl,λ_ _ _=>rfl,λb _ ho=> ?_,λid hk=>⟨?_,λb' hb=>⟨b',(hl id b').1 hb,rfl,dx _⟩⟩,λb carr e fr _ h=>⟨carr,fr,h,rfl⟩⟩
 ·obtain⟨id,blk,h1,h2⟩:=ho;exact⟨id,blk,(hl id blk).1 h1,h2⟩
 ·show nth bw.fresh (C.h++dm .fresh n) id≠_;rw[pN];exact hk
theorem BF {C:Ctx}(az:Ok C)(n:Nat):Ok (C.more n):=by
 have hl:∀id b,live (C.more n).h id b->live C.h id b:=λid b h=>by
  have h:nth bw.fresh (C.h++dm .fresh n) id=_:=h;rw[pN]at h;exact h
 exact az.step (pY C n) (λid b h=>.inr ⟨hl id b h,rfl,λ_=>FK,λ_ _=>rfl⟩) (λid cT n' b b' h1 h2 e1 e2=>az.inj id cT n' b b' (hl _ _ h1) (hl _ _ h2) e1 e2) (λid b m h1 h2=>.inl ⟨b,hl _ _ h1,h2⟩)
theorem SR.more {C:Ctx}{st:St}{a:Act}(hs:SR C st a)(n:Nat):SR (C.more n) ⟨st.slots,st.heap++dm .fresh n⟩ a:=
 ⟨by show C.h++_=_;rw[hs.h],hs.s.ext (pY C n),hs.n⟩
theorem SR.ext {C C':Ctx}{st:St}{a:Act}(hs:SR C st a)(hx:Ext C C')(hh:C'.h=C.h):SR C' st a:=⟨hh.trans hs.h,hs.s.ext hx,hs.n⟩
section
variable {E:Env} {F:d_} (hE:okFns E=true) (hF:eI E F) {ops:Array Oper} {Q:Exit->Act->World->Prop} {bD:St}
include hE hF
theorem FU (rest:List Nat):∀(l:List Oper) (i nid:Nat) (C:Ctx) (st:St) (a:Act) (tr:List Tr),(∀(m:Nat) o,l[m]? =some o->ops[i+m]? =some o)->i_ E F ops false (items i nid l) st=some (tr,bD)->Ok C->SR C st a->
  (∀n,nid<=n->n<nid+eV l->nth bw.fresh st.heap n=.fresh)->nid+eV l<=st.heap.length->
  (∀C' a',Ok C'->Ext C C'->SR C' bD a'->qY a a'->wpOps E.P ops Q rest a' C'.w)->wpOps E.P ops Q (List.range' i l.length++rest) a C.w
 |[],i,nid,C,st,a,tr,_,hx,az,hs,_,_,hQ=>by
  simp only[items,i_]at hx;cases hx;exact hQ C a az (Ext.refl C) hs (qY.refl a)
 |o::l,i,nid,C,st,a,tr,hd,hx,az,hs,hf,hlen,hQ=>by
  obtain⟨r,e,rs,h1,h2,rfl⟩:=cV.1 hx;have ho:ops[i]? =some o:=hd 0 o rfl;have pU:∀(m:Nat) o',l[m]? =some o'->ops[i+1+m]? =some o':=λm o' hm=>by
   have:=hd (m+1) o' (by simpa using hm)
   rwa [show i+(m+1)=i+1+m by omega]at this
  simp only[eV]at hf hlen;rw[bo,lR,qy,wpOps_cons];refine Kh (t:=⟨i,nid,o⟩) az hE hF hs ho (λn h3 h4=> ?_) h1 λC' a' f_ kY dL hdf=> ?_
  ·have h3:nid<=n:=h3;have h4:n<nid+eA o:=h4;rw[hs.h];exact⟨hf n h3 (by omega),by omega⟩
  ·refine FU rest l (i+1) (nid+eA o) C' _ a' rs pU h2 f_ dL (λn h3 h4=> ?_) ?_ λC2 a2 Ht hx2 hs2 Qt=>hQ C2 a2 Ht (kY.trans hx2) hs2 (hdf.trans Qt)
   ·refine QI h1 (hf n (by omega) (by omega)) ?_;show¬(nid<=n/\n<nid+eA o);omega
   ·rw[L3];omega
end
theorem A_ (ops:Array Oper){i k:Nat}(h:((Region.before ops).getD i 0).testBit k=true):∃o,ops[i]? =some o/\∃e∈o.after,Region.binds .any e=true/\(k=e.on\/(e.on<i/\((Region.before ops).getD e.on 0).testBit k=true)):=by
 have main:∀(l:List Oper) (A:Array Nat) (o0:Nat->Option Oper),(∀j,j<A.size->∀k,(A.getD j 0).testBit k=true->∃o,o0 j=some o/\∃e∈o.after,Region.binds .any e=true/\(k=e.on\/(e.on<j/\(A.getD e.on 0).testBit k=true)))->
   (∀m,o0 (A.size+m)=l[m]?)->
   ∀B,B=l.foldl (λacc o=>acc.push (o.after.foldl (λs e=>if Region.binds .any e then s|||2^e.on|||acc.getD e.on 0 else s) 0)) A->
   ∀j,j<B.size->∀k,(B.getD j 0).testBit k=true->∃o,o0 j=some o/\∃e∈o.after,Region.binds .any e=true/\(k=e.on\/(e.on<j/\(B.getD e.on 0).testBit k=true)):=by
  intro l
  induction l with
  |nil=>intro A o0 hA _ B hB;subst hB;exact hA
  |cons o l ih=>
   intro A o0 hA ho B hB;refine ih (A.push (o.after.foldl (λs e=>if Region.binds .any e then s|||2^e.on|||A.getD e.on 0 else s) 0)) o0 (λj hj k hk=> ?_) (λm=> ?_) B hB
   ·have Vs:∀j,j<A.size->(A.push (o.after.foldl (λs e=>if Region.binds .any e then s|||2^e.on|||A.getD e.on 0 else s) 0)).getD j 0=A.getD j 0:=λj hj=>by
     simp only[uQ,Array.getElem?_push,aC (Nat.ne_of_lt hj)]
    rw[Array.size_push]at hj;by_cases hlt:j<A.size
    ·rw[Vs j hlt]at hk;obtain⟨o',h1,e,h2,h3,h4⟩:=hA j hlt k hk;refine⟨o',h1,e,h2,h3,h4.imp (λh=>h) λh=>⟨h.1,?_⟩⟩;rw[Vs e.on (by omega)];exact h.2
    ·have EF:j=A.size:=by omega
     subst EF;have h0:=ho 0;simp only[G0,uP]at h0;refine⟨o,h0,?_⟩;have hv:(A.push (o.after.foldl (λs e=>if Region.binds .any e then s|||2^e.on|||A.getD e.on 0 else s) 0)).getD A.size 0=o.after.foldl (λs e=>if Region.binds .any e then s|||2^e.on|||A.getD e.on 0 else s) 0:=by
      simp[uQ]
     rw[hv,<-Array.foldl_toList]at hk;have fold:∀(es:List Edge) (s:Nat),(es.foldl (λs e=>if Region.binds .any e then s|||2^e.on|||A.getD e.on 0 else s) s).testBit k=true->s.testBit k=true\/∃e∈es,Region.binds .any e=true/\(k=e.on\/(A.getD e.on 0).testBit k=true):=by
      intro es
      induction es with
      |nil=>intro s h;exact .inl h
      |cons e es ih2=>
       intro s h;rw[pG]at h;rcases ih2 _ h with h|⟨e',h1,h2,h3⟩
       ·split at h
        ·rename_i hb;simp only[Nat.testBit_or,wZ]at h;rcases h with(h|h)|h
         ·exact .inl h
         ·rw[Nat.testBit_two_pow]at h;have h:e.on=k:=by simpa using h
          exact .inr ⟨e,by simp,hb,.inl h.symm⟩
         ·exact .inr ⟨e,by simp,hb,.inr h⟩
        ·exact .inl h
       ·exact .inr ⟨e',by simp[h1],h2,h3⟩
     rcases fold _ _ hk with h|⟨e,h1,h2,h3⟩
     ·simp at h
     ·refine⟨e,by simpa using h1,h2,h3.imp (λh=>h) λh=> ?_⟩;have Qq:e.on<A.size:=by
       rcases y7 e.on A.size with h'|h'
       ·exact h'
       ·rw[uQ,Array.getElem?_eq_none h']at h;simp at h
      exact⟨Qq,by rw[Vs _ Qq];exact h⟩
   ·have:=ho (m+1);rw[Array.size_push,uM,Nat.add_comm 1 m,this];rfl
 have hB:Region.before ops=ops.toList.foldl (λacc o=>acc.push (o.after.foldl (λs e=>if Region.binds .any e then s|||2^e.on|||acc.getD e.on 0 else s) 0)) #[]:=by
  unfold Region.before;rw[<-Array.foldl_toList]
 refine main ops.toList #[] (λj=>ops[j]?) (λj hj=>by simp at hj) (λm=>by simp) _ hB i ?_ k h;rcases y7 i (Region.before ops).size with h'|h'
 ·exact h'
 ·rw[uQ,Array.getElem?_eq_none h']at h;simp at h
theorem vH {ops:Array Oper}{listed:Array Bool}(F8:∀(j:Nat) o,ops[j]? =some o->listed.getD j false=true->∀e∈o.after,Region.binds .any e=true->listed.getD e.on false=true):
  ∀(i:Nat) o,ops[i]? =some o->(∀e∈o.after,Region.binds .any e=true->listed.getD e.on false=true)->∀k,((Region.before ops).getD i 0).testBit k=true->listed.getD k false=true:=by
 intro i
 induction i using Nat.strongRecOn with
 |_ i ih=>
  intro o ho hall k hk;obtain⟨o',Xw,e,he,hb,h⟩:=A_ ops hk;rw[ho]at Xw;cases Xw;have hl:=hall e he hb;rcases h with rfl|⟨hlt,h⟩
  ·exact hl
  ·cases hoe:ops[e.on]? with
   |none=>
    obtain⟨o2,h2,_⟩:=A_ ops h;rw[hoe]at h2;cases h2
   |some o2=>exact ih e.on hlt o2 hoe (F8 e.on o2 hoe hl) k h
theorem uC {ops:Array Oper}{before:Array Nat}:∀{l:List Oper} {j:Nat},zK ops before j l=true->∀(m:Nat) o,l[m]? =some o->BR o (j+m)=true/\tH ops before o (j+m) 0 ops.toList=true
 |[],_,_,m,o,h=>by simp at h
 |x::l,j,h,m,o,hm=>by
  simp only[zK,bO]at h;cases m with
  |zero=>simp at hm;subst hm;exact h.1
  |succ m=>
   have:=uC h.2 m o (by simpa using hm)
   rwa [show j+1+m=j+(m+1) by omega]at this
theorem Ba {ops:Array Oper}{before:Array Nat}{oj:Oper}{j:Nat}:∀{l:List Oper} {i:Nat},tH ops before oj j i l=true->∀(m:Nat) o,l[m]? =some o->i+m<j->(before.getD j 0).testBit (i+m)=true\/wG ops o oj=true
 |[],_,_,m,o,h,_=>by simp at h
 |x::l,i,h,m,o,hm,hlt=>by
  simp only[tH,bO]at h;cases m with
  |zero=>
   simp at hm;subst hm;simp only[wZ]at h;rcases h.1 with(h1|h1)|h1
   ·have:=lz h1;omega
   ·exact .inl h1
   ·exact .inr h1
  |succ m=>
   have:=Ba h.2 m o (by simpa using hm) (by omega)
   rwa [show i+1+m=i+(m+1) by omega]at this
theorem NS {E:Env}{before:Array Nat}{all:List Oper}:∀{l:List Oper} {j:Nat},LM E before all j l=true->∀(m:Nat) o,l[m]? =some o->I1 E before o (j+m) 0 all=true
 |[],_,_,m,o,h=>by simp at h
 |x::l,j,h,m,o,hm=>by
  simp only[LM,bO]at h;cases m with
  |zero=>simp at hm;subst hm;exact h.1
  |succ m=>
   have:=NS h.2 m o (by simpa using hm)
   rwa [show j+1+m=j+(m+1) by omega]at this
theorem I0 {E:Env}{before:Array Nat}{oj:Oper}{j:Nat}:∀{l:List Oper} {i:Nat},I1 E before oj j i l=true->∀(m:Nat) o,l[m]? =some o->i+m<j->
  (before.getD j 0).testBit (i+m)=true\/((QL E o.op&&dA oj.op)||(dA o.op&&QL E oj.op))=false
 |[],_,_,m,o,h,_=>by simp at h
 |x::l,i,h,m,o,hm,hlt=>by
  simp only[I1,bO]at h;cases m with
  |zero=>
   simp at hm;subst hm;simp only[wZ,oQ]at h;rcases h.1 with(h1|h1)|h1
   ·have:=lz h1;omega
   ·exact .inl h1
   ·exact .inr h1
  |succ m=>
   have:=I0 h.2 m o (by simpa using hm) (by omega)
   rwa [show i+1+m=i+(m+1) by omega]at this
def aiz (t:It)(r:Tr):Prop:=r.i=t.i/\(dA t.o.op=false->r.fp=[])
theorem GG {E:Env}{F:d_}{ops:Array Oper}:∀{l:List It} {st bD:St} {tr:List Tr},i_ E F ops true l st=some (tr,bD)->All2 aiz l tr
 |[],_,_,_,h=>by simp only[i_]at h;cases h;trivial
 |t::l,st,bD,tr,h=>by
  obtain⟨r,e,rs,h1,h2,rfl⟩:=cV.1 h;obtain⟨hi,h3⟩:=xY (v:=e.1) (us:=e.2) h1;refine⟨⟨hi,λhc=> ?_⟩,GG h2⟩;rcases h3 with⟨_,rfl,_⟩|⟨_,fp,_,rfl,_⟩
  ·rfl
  ·simp only[hc,gH]
theorem kM:∀(l:List Oper) (i nid m:Nat) (t:It),(items i nid l)[m]? =some t->l[m]? =some t.o/\t.i=i+m
 |[],_,_,m,t,h=>by simp[items]at h
 |o::l,i,nid,0,t,h=>by simp[items]at h;subst h;exact⟨rfl,rfl⟩
 |o::l,i,nid,m+1,t,h=>by
  have:=kM l (i+1) (nid+eA o) m t (by simpa[items]using h);exact⟨by simpa using this.1,by omega⟩
theorem ur:∀(l:List Oper) (i nid:Nat),(items i nid l).length=l.length
 |[],_,_=>rfl
 |o::l,i,nid=>by simp[items,ur l]
theorem zy:∀(l:List Oper) (i nid:Nat) (t:It),t∈items i nid l->nid<=t.nid/\t.nid+eA t.o<=nid+eV l
 |[],_,_,t,h=>by cases h
 |o::l,i,nid,t,h=>by
  simp only[eV];rcases gR.1 h with rfl|h
  ·exact⟨dB _,by show nid+eA o<=_;omega⟩
  ·have:=zy l (i+1) (nid+eA o) t h;omega
theorem AG:∀(l:List Oper) (i nid:Nat),(items i nid l).Pairwise λa b=>a.nid+eA a.o<=b.nid\/b.nid+eA b.o<=a.nid
 |[],_,_=>List.Pairwise.nil
 |o::l,i,nid=>by
  refine iP.2 ⟨λt ht=>.inl ?_,AG l _ _⟩;have:=zy l _ _ t ht;show nid+eA o<=t.nid;omega
theorem xJ:∀(l:List Oper) (i nid:Nat),(items i nid l).Pairwise λa b=>a.i<b.i
 |[],_,_=>List.Pairwise.nil
 |o::l,i,nid=>by
  refine iP.2 ⟨λt ht=> ?_,xJ l _ _⟩;obtain⟨m,hm,he⟩:=Cu.1 ht;have:=kM l (i+1) (nid+eA o) m t (by rw[<-he];exact dD hm);show i<t.i;omega
theorem All2.mid {α β:Type}{R:α->β->Prop}:∀{p:List α} {x:α} {q:List α} {rp:List β} {y:β} {rq:List β},p.length=rp.length->All2 R (p++x::q) (rp++y::rq)->R x y/\All2 R (p++q) (rp++rq)/\All2 R p rp
 |[],x,q,[],y,rq,_,h=>⟨h.1,h.2,trivial⟩
 |a::p,x,q,b::rp,y,rq,hl,h=>by
  obtain⟨h1,h2,h3⟩:=All2.mid (p:=p) (rp:=rp) (by simpa using hl) h.2;exact⟨h1,⟨h.1,h2⟩,h.1,h3⟩
 |[],_,_,_::_,_,_,hl,_=>by simp at hl
 |_::_,_,_,[],_,_,hl,_=>by simp at hl
section
variable {E:Env} {F:d_} (hE:okFns E=true) (hF:eI E F) {ops:Array Oper} {Q:Exit->Act->World->Prop} {bD:St}
include hE hF
theorem TM (hdr:zK ops (Region.before ops) 0 ops.toList=true)(k:Nat)(lst:Option Nat):∀(n:Nat) (its:List It) (listed:Array Bool) (C:Ctx) (st:St) (a:Act) (tr:List Tr),its.length=n->i_ E F ops true its st=some (tr,bD)->Ok C->SR C st a->Fit its st->
  (∀t∈its,ops[t.i]? =some t.o)->its.Pairwise (λx y=>x.i<y.i)->listed.size=ops.size->(∀j,listed.getD j true=false↔(∃t∈its,t.i=j)\/lst=some j)->
  (∀j,lst=some j->(∃o,ops[j]? =some o)/\∀t∈its,t.i<j/\((Region.before ops).getD j 0).testBit t.i=true)->
  (∀(j:Nat) o,ops[j]? =some o->listed.getD j false=true->∀e∈o.after,Region.binds .any e=true->listed.getD e.on false=true)->tr.Pairwise (okp (Region.before ops))->
  (∀C' a' (listed':Array Bool),listed'.size=ops.size->(∀j,listed'.getD j true=false↔lst=some j)->Ok C'->Ext C C'->SR C' bD a'->qY a a'->wpAny E.P .any ops Q k listed' a' C'.w)->wpAny E.P .any ops Q (n+k) listed a C.w:=by
 intro n
 induction n with
 |zero=>
  intro its listed C st a tr hlen hx az hs lI hat JU hsize vC Qr F8 Dz hQ;have:its=[]:=Bj.1 hlen;subst this;simp only[i_]at hx;cases hx;rw[dy];refine hQ C a listed hsize (λj=> ?_) az (Ext.refl C) hs (qY.refl a);rw[vC j];exact⟨λh=>h.elim (λ⟨t,ht,_⟩=>by cases ht) λh=>h,.inr⟩
 |succ n ih=>
  intro its listed C st a tr hlen hx az hs lI hat JU hsize vC Qr F8 Dz hQ;rw[Nat.succ_add];have qL:∀j,j<ops.size->(listed.getD j true=true↔listed.getD j false=true):=λj hj=>by
   rw[<-hsize]at hj;simp[Array.getD,hj]
  refine⟨λhnil=> ?_,λi hi=> ?_⟩
  ·
   exfalso;cases its with
   |nil=>simp at hlen
   |cons t its=>
    have hto:=hat t (by simp);have hlt:t.i<ops.size:=(c_.1 hto).1;have:t.i∈Region.ready .any ops listed:=by
     refine mem_ready.2 ⟨(vC t.i).2 (.inl ⟨t,by simp,rfl⟩),t.o,hto,λe he hb=> ?_⟩;have hed:=(uC hdr t.i t.o (by simpa using hto)).1;unfold BR at hed;have h1:=Array.all_eq_true_iff_forall_mem.1 hed e he;simp only[hb,GZ,w7,dy]at h1;have h1:e.on<t.i:=by simpa[FQ]using h1
     refine(qL e.on (by omega)).1 ?_;cases hc:listed.getD e.on true with
     |true=>rfl
     |false=>
      rcases(vC e.on).1 hc with⟨t',ht',he'⟩|hl
      ·rcases gR.1 ht' with rfl|ht'
       ·omega
       ·have:=(iP.1 JU).1 t' ht';omega
      ·have:=((Qr e.on hl).2 t (by simp)).1;omega
    rw[hnil]at this;cases this
  ·obtain⟨hun,o,ho,hall⟩:=mem_ready.1 hi;have pT:∃t∈its,t.i=i:=by
    rcases(vC i).1 hun with h|hl
    ·exact h
    ·exfalso;cases its with
     |nil=>simp at hlen
     |cons t its=>
      have h1:=vH F8 i o ho hall t.i ((Qr i hl).2 t (by simp)).2;have h2:=(vC t.i).2 (.inl ⟨t,by simp,rfl⟩);have:=(qL t.i (c_.1 (hat t (by simp))).1).2 h1;rw[h2]at this;cases this
   obtain⟨it,hit,rfl⟩:=pT;have ahz:=hat it hit;rw[ho]at ahz;cases ahz;obtain⟨p,q,rfl⟩:=List.append_of_mem hit;have hnb:∀k∈p,((Region.before ops).getD it.i 0).testBit k.i=false:=λk hk=>by
    cases hb:((Region.before ops).getD it.i 0).testBit k.i with
    |false=>rfl
    |true=>
     have h1:=vH F8 it.i it.o ho hall k.i hb;have h2:=(vC k.i).2 (.inl ⟨k,by simp[hk],rfl⟩);have oV:=hat k (by simp[hk]);have:=(qL k.i (c_.1 oV).1).2 h1;rw[h2]at this;cases this
   have hlt:∀k∈p,k.i<it.i:=λk hk=>(vQ.1 JU).2.2 k hk it (by simp);have hap:∀k∈p,wG ops k.o it.o=true:=λk hk=>by
    have h1:=(uC hdr it.i it.o (by simpa using ho)).2;rw[dy]at h1;have h2:=Ba h1 k.i k.o (by simpa using hat k (by simp[hk])) (by have:=hlt k hk;omega);rw[dy,hnb k hk]at h2;exact h2.resolve_left (by simp)
   have htr:=GG hx;obtain⟨ri,rp,rq,rfl,hlp,hrun⟩:=front p lI hap hx λrp ri rq he hl rk hrk=>by
    subst he;obtain⟨hi1,_,La⟩:=All2.mid hl.symm htr;obtain⟨j,hj,hje⟩:=Cu.1 hrk;obtain⟨k,nz,hk2⟩:∃k,p[j]? =some k/\aiz k rk:=by
     have hjp:j<p.length:=by omega
     obtain⟨b,h1,h2⟩:=La.get j p[j] (dD hjp);rw[dD hj,hje]at h1;cases h1;exact⟨p[j],dD hjp,h2⟩
    have az:=(vQ.1 Dz).2.2 rk hrk ri (by simp);unfold okp at az;rw[hi1.1,hk2.1,hnb k (gq nz)]at az;exact az.resolve_left (by simp)
   obtain⟨r',e,rs',h1,h2,he⟩:=cV.1 hrun;simp only[List.cons.injEq]at he;obtain⟨rfl,rfl⟩:=he;have vD:Fit (it::(p++q)) st:=by
    refine⟨lI.closed,λt ht=>lI.fresh t ?_,?_⟩
    ·simp only[gR,eO]at ht|-;rcases ht with h|h|h
     ·exact .inr (.inl h)
     ·exact .inl h
     ·exact .inr (.inr h)
    ·have ahf:(p++it::q).Perm (it::(p++q)):=List.perm_middle;exact(ahf.pairwise_iff (λ{x y} h=>h.symm)).1 lI.apart
   have ahB:=xO (v:=e.1) (us:=e.2) lI.closed h1;have ahH:Fit (p++q) (put it e st):=vD.step ahB;have ahA:it.i<listed.size:=by rw[hsize];exact(c_.1 ho).1
   refine Kh az hE hF hs ho (λn h3 h4=>by rw[hs.h];exact lI.fresh it (by simp) n h3 h4) h1 λC' a' f_ kY dL hdf=> ?_;have Z7:(p++q).length=n:=by simp at hlen|-;omega
   refine ih (p++q) _ C' _ a' (rp++rq) Z7 h2 f_ dL ahH (λt ht=>hat t ?_) ?_ (by simp[hsize]) (λj=> ?_) (λj hj=>⟨(Qr j hj).1,λt ht=>(Qr j hj).2 t ?_⟩) (λj o2 JY J2 e2 he2 hb2=> ?_) ?_
    λC2 a2 l2 z2 y2 Ht hx2 hs2 Qt=>hQ C2 a2 l2 z2 y2 Ht (kY.trans hx2) hs2 (hdf.trans Qt)
   ·simp only[eO,gR]at ht|-;exact ht.imp (λh=>h) λh=>.inr h
   ·exact JU.sublist (List.append_sublist_append_left p |>.2 (List.sublist_cons_self ..))
   ·by_cases OH:j=it.i
    ·subst OH;constructor
     ·intro h;simp[Array.getD,ahA]at h
     ·rintro(⟨t,ht,hti⟩|hl)
      ·exfalso;rcases eO.1 ht with ht|ht
       ·have:=hlt t ht;omega
       ·have:=(iP.1 (vQ.1 JU).2.1).1 t ht;omega
      ·have:=((Qr it.i hl).2 it (by simp)).1;omega
    ·rw[getD_set_ne true (Aq OH),vC j];constructor
     ·rintro(⟨t,ht,hti⟩|hl)
      ·refine .inl ⟨t,?_,hti⟩;simp only[eO,gR]at ht|-;rcases ht with h|h|h
       ·exact .inl h
       ·subst h;exact absurd hti.symm OH
       ·exact .inr h
      ·exact .inr hl
     ·rintro(⟨t,ht,hti⟩|hl)
      ·refine .inl ⟨t,?_,hti⟩;simp only[eO,gR]at ht|-;exact ht.imp (λh=>h) λh=>.inr h
      ·exact .inr hl
   ·simp only[eO,gR]at ht|-;exact ht.imp (λh=>h) λh=>.inr h
   ·refine getD_set_true ?_;by_cases OH:j=it.i
    ·subst OH;rw[ho]at JY;cases JY;exact hall e2 he2 hb2
    ·rw[getD_set_ne false (Aq OH)]at J2;exact F8 j o2 JY J2 e2 he2 hb2
   ·exact Dz.sublist (List.append_sublist_append_left rp |>.2 (List.sublist_cons_self ..))
end
def Ib (P:Program)(ops:Array Oper)(draw:Bool)(Q:Exit->Act->World->Prop)(a:Act)(w:World):Prop:=
 cond draw (wpAny P .any ops Q ops.size (Array.replicate ops.size false) a {w with drawn:=w.drawn+1}) (wpOps P ops Q (List.range ops.size) a w)
theorem Ib.wp {P:Program}(hm:P.follows .mixedOrders=true){id:Nat}{ops:Array Oper}{draw:Bool}{Q:Exit->Act->World->Prop}{a:Act}{w:World}(h:Ib P ops draw Q a w):(Code.region id ops draw).wp P Q a w:=by
 cases draw with
 |false=>exact wp_region h
 |true=>exact wp_region_any hm h
theorem Ck {E:Env}{F:d_}(hE:okFns E=true)(hF:eI E F)(hm:E.P.follows .mixedOrders=true){C:Ctx}(az:Ok C){st:St}{a:Act}(hs:SR C st a){ops:Array Oper}{draw:Bool}{l:List Oper}{k:Nat}(Ih:l.length+k=ops.size)(hla:∀(m:Nat) o,l[m]? =some o->ops[m]? =some o){α:Type}{K:St->Option α}{r:α}
  (h:EM E F ops draw l st K=some r) {Q:Exit->Act->World->Prop} (hk:k=0\/(k=1/\(draw=true->∀m,m<l.length->((Region.before ops).getD l.length 0).testBit m=true)))
  (hQ1:draw=false->∀C' bD a',Ok C'->Ext C C'->SR C' bD a'->qY a a'->K bD=some r->wpOps E.P ops Q (List.range' l.length k) a' C'.w)
  (hQ2:draw=true->zK ops (Region.before ops) 0 ops.toList=true->∀C' bD a' (listed':Array Bool),listed'.size=ops.size->(∀j,listed'.getD j true=false↔k=1/\j=l.length)->Ok C'->Ext C C'->SR C' bD a'->qY a a'->K bD=some r->wpAny E.P .any ops Q k listed' a' C'.w):
  Ib E.P ops draw Q a C.w:=by
 unfold EM at h;dsimp only at h;split at h
 case isFalse=>cases h
 rename_i hc;obtain⟨tr,yB,yL,pj,h1,h2,h3,_,Dz⟩:=R6 _ _ _ _ _ _ _ _ _ _ _ _ h (Le.refl _);have uv:∀n,st.heap.length<=n->nth bw.fresh (st.heap++dm .fresh (eV l)) n=.fresh:=λn hn=>by
  rw[pN,ud hn]
 have Z':(st.heap++dm bw.fresh (eV l)).length=st.heap.length+eV l:=by simp[eW]
 cases draw with
 |false=>
  show wpOps E.P ops Q (List.range ops.size) a C.w;simp only[gH,lU]at h1;have hx:=pY C (eV l);have:=FU hE hF (List.range' l.length k) l 0 st.heap.length (C.more (eV l)) _ a tr (λm o hm=>by rw[dy];exact hla m o hm) h1 (BF az _) (hs.more _) (λn h1 _=>uv n h1) (by rw[Z'];exact dB _)
   (λC' a' f_ kY dL pU=>hQ1 rfl C' yL a' f_ (hx.trans kY) (dL.le h2) pU h3) (Q:=Q)
  have e:(C.more (eV l)).w=C.w:=rfl;have e2:List.range' 0 l.length++List.range' l.length k=List.range' 0 ops.size:=by
   have:=List.range'_append_1 (s:=0) (m:=l.length) (n:=k);rw[dy]at this;rw[this,Ih]
  rw[e,e2]at this;simpa[jK]using this
 |true=>
  show wpAny E.P .any ops Q ops.size (Array.replicate ops.size false) a {C.w with drawn:=C.w.drawn+1};simp only[GZ,w7,en]at hc h1 Dz;have ahN:lU (cond (LM E (Region.before ops) l 0 l) Md.s1 Md.dyn)=true:=by cases LM E (Region.before ops) l 0 l<;>rfl
  rw[ahN]at h1;let W:World:={C.w with drawn:=C.w.drawn+1}
  have hxw:=zJ C W rfl rfl rfl rfl;have alf:=Jq az W rfl rfl rfl rfl;have hsw:SR (C.ke W) st a:=hs.ext hxw rfl;have hx:=pY (C.ke W) (eV l);have JX:=BF alf (eV l);have hs0:=hsw.more (eV l);have aeC:∀(m:Nat) t,(items 0 st.heap.length l)[m]? =some t->ops[t.i]? =some t.o:=λm t hm=>by
   obtain⟨g1,g2⟩:=kM _ _ _ _ _ hm;rw[dy]at g2;subst g2;exact hla _ _ g1
  have htr:=GG h1;have hpw:tr.Pairwise (okp (Region.before ops)):=by
   cases hs1:LM E (Region.before ops) l 0 l with
   |false=>exact(Dz.dyn (by rw[hs1];rfl)).2
   |true=>
    have hg:=Dz.s1 (by rw[hs1];rfl) (by rw[hs1];rfl);refine CJ.2 λx y hx hy hxy=> ?_;have hlen:=htr.length;have gx:=dD (l:=items 0 st.heap.length l) (i:=x) (by omega);have gy:=dD (l:=items 0 st.heap.length l) (i:=y) (by omega);obtain⟨rx,ex,tx⟩:=htr.get x _ gx;obtain⟨ry,ey,ty⟩:=htr.get y _ gy;obtain⟨rx',ex',wx⟩:=hg.get x _ gx;obtain⟨ry',ey',wy⟩:=hg.get y _ gy;rw[dD hx]at ex ex';rw[dD hy]at ey ey';cases ex;cases ey;cases ex';cases ey';obtain⟨ox,ix⟩:=kM _ _ _ _ _ gx;obtain⟨oy,iy⟩:=kM _ _ _ _ _ gy;rw[dy]at ix iy;unfold okp;rw[tx.1,ty.1,ix,iy];have h5:=NS hs1 y _ oy;rw[dy]at h5;have h6:=I0 h5 x _ ox (by omega);rw[dy]at h6;refine h6.imp (λh=>h) λh6 hw z hz hz'=> ?_;simp only[CC,Bool.and_eq_false_iff]at h6;have cx:dA (items 0 st.heap.length l)[x].o.op=true:=by
     cases hc:dA (items 0 st.heap.length l)[x].o.op with
     |true=>rfl
     |false=>rw[tx.2 hc]at hz;cases hz
    have cy:dA (items 0 st.heap.length l)[y].o.op=true:=by
     cases hc:dA (items 0 st.heap.length l)[y].o.op with
     |true=>rfl
     |false=>rw[ty.2 hc]at hz';cases hz'
    rcases hw with hw|hw
    ·have:=wx hw;rcases h6.1 with h|h
     ·rw[this]at h;cases h
     ·rw[cy]at h;cases h
    ·have:=wy hw;rcases h6.2 with h|h
     ·rw[cx]at h;cases h
     ·rw[this]at h;cases h
  have lI:Fit (items 0 st.heap.length l) ⟨st.slots,st.heap++dm .fresh (eV l)⟩:=by
   refine⟨hs0.closed JX,λt ht n h3 h4=> ?_,AG _ _ _⟩;have:=zy _ _ _ t ht;exact⟨uv _ (by omega),by show _<(st.heap++dm bw.fresh (eV l)).length;rw[Z'];omega⟩
  have aha:∀(j:Nat) (d:Bool),(Array.replicate ops.size false).getD j d=if j<ops.size then false else d:=λj d=>by
   rw[uQ,Array.getElem?_replicate];split<;>rfl
  have aeB:∀t∈items 0 st.heap.length l,t.i<l.length:=λt ht=>by
   obtain⟨m,hm,he⟩:=Cu.1 ht;have:=(kM _ _ _ _ _ (by rw[<-he];exact dD hm:(items 0 st.heap.length l)[m]? =some t)).2;rw[ur]at hm;omega
  have Bp:=TM hE hF hc k (if k=1 then some l.length else none) l.length (items 0 st.heap.length l) (Array.replicate ops.size false) (((C.ke W)).more (eV l)) _ a tr (by rw[ur]) h1 JX hs0 lI (λt ht=> ?_) (xJ _ _ _) (by simp) (λj=> ?_)
   (λj hj=> ?_) (λj o ho hj=> ?_) hpw (Q:=Q) (λC' a' l' hz' hl' f_ kY dL pU=>hQ2 rfl hc C' yL a' l' hz' (λj=> ?_) f_ ((hxw.trans hx).trans kY) (dL.le h2) pU h3)
  ·rw[Ih]at Bp;exact Bp
  ·obtain⟨m,hm,he⟩:=Cu.1 ht;exact aeC m t (by rw[<-he];exact dD hm)
  ·rw[aha];constructor
   ·intro h;have hj:j<ops.size:=by
     by_cases hlt:j<ops.size
     ·exact hlt
     ·rw[aC hlt]at h;cases h
    by_cases Ld:j<l.length
    ·have EF:j<(items 0 st.heap.length l).length:=by rw[ur];exact Ld
     have g:=dD EF;exact .inl ⟨_,mZ EF,by have:=(kM _ _ _ _ _ g).2;omega⟩
    ·refine .inr ?_;rcases hk with rfl|⟨rfl,_⟩
     ·omega
     ·rw[aK rfl];congr 1;omega
   ·rintro(⟨t,ht,rfl⟩|hj)
    ·have:=aeB t ht;rw[aK (by omega)]
    ·split at hj
     ·rename_i h1;cases hj;rw[aK (by omega)]
     ·cases hj
  ·split at hj
   ·rename_i nz;cases hj;refine⟨⟨ops[l.length]'(by omega),I9 _⟩,λt ht=>⟨aeB t ht,?_⟩⟩;rcases hk with Lc|⟨_,hkb⟩
    ·omega
    ·exact hkb rfl _ (aeB t ht)
   ·cases hj
  ·rw[aha]at hj;split at hj<;>cases hj
  ·rw[hl' j];by_cases nz:k=1
   ·rw[aK nz];constructor
    ·intro h;cases h;exact⟨nz,rfl⟩
    ·rintro⟨_,rfl⟩;rfl
   ·rw[aC nz];constructor
    ·intro h;cases h
    ·rintro⟨h,_⟩;exact absurd h nz
theorem FF {ops:Array Oper}{listed:Array Bool}(h:∀j,listed.getD j true=true):Region.ready .any ops listed=[]:=
 List.eq_nil_iff_forall_not_mem.2 λj hj=>by
  have:=(mem_ready.1 hj).1;rw[h j]at this;cases this
theorem LW {E:Env}{F:d_}(hE:okFns E=true)(hF:eI E F)(hm:E.P.follows .mixedOrders=true){C:Ctx}(az:Ok C){st:St}{a:Act}(hs:SR C st a){ops:Array Oper}{draw:Bool}{α:Type}{K:St->Option α}{r:α}
  (h:Yr E F ops draw st K=some r) {Q:Exit->Act->World->Prop} (hQ:∀C' bD a',Ok C'->Ext C C'->SR C' bD a'->qY a a'->K bD=some r->Q .normal a' C'.w):Ib E.P ops draw Q a C.w:=by
 refine Ck hE hF hm az hs (l:=ops.toList) (k:=0) (by simp) (λm o hm=>by simpa using hm) h (.inl rfl) (λ_ C' bD a' h1 h2 h3 h4 h5=>hQ C' bD a' h1 h2 h3 h4 h5) λ_ _ C' bD a' l' h0 hl h1 h2 h3 h4 h5=>⟨FF λj=> ?_,hQ C' bD a' h1 h2 h3 h4 h5⟩
 cases hc:l'.getD j true with
 |true=>rfl
 |false=>have:=((hl j).1 hc).1;omega
end
section
def Ctx.ren (C:Ctx)(σ:Nat->Option Nat)(hD:List bw):Ctx:=⟨C.w,λj=>(σ j).bind C.ι,hD,C.X,λj n=>∃id,σ j=some id/\C.κ id n⟩
theorem Nq {C:Ctx}{σ:Nat->Option Nat}{hD:List bw}{j n:Nat}(h:(C.ren σ hD).at j n):∃id,σ j=some id/\C.at id n:=by
 rcases h with h|⟨id,h1,h2⟩
 ·obtain⟨id,h3,h4⟩:=gI.1 h;exact⟨id,h3,.inl h4⟩
 ·exact⟨id,h1,.inr h2⟩
structure eP (C:Ctx)(σ:Nat->Option Nat)(hD:List bw):Prop where
 ok:Ok C
 inj:∀j j' id,σ j=some id->σ j'=some id->j=j'
 live:∀j b,live hD j b->(∃id b0,σ j=some id/\live C.h id b0/\pQ b0 b)\/(σ j=none/\∃sz,b=.arr sz [])
section
variable {C:Ctx} {σ:Nat->Option Nat} {hD:List bw} (R:eP C σ hD)
include R
theorem eP.own {b:Nat}(h:(C.ren σ hD).own b):∃j id blk b0,Vm.live hD j blk/\σ j=some id/\Vm.live C.h id b0/\C.at id b:=by
 obtain⟨j,blk,h1,h2⟩:=h;obtain⟨id,h3,h4⟩:=Nq h2;rcases R.live j blk h1 with⟨cT,b0,h5,h6,_⟩|⟨h5,_⟩
 ·rw[h3]at h5;cases h5;exact⟨j,id,blk,b0,h1,h3,h6,h4⟩
 ·rw[h3]at h5;cases h5
theorem eP.L6 {b:Nat}(h:(C.ren σ hD).own b):C.own b:=by
 obtain⟨_,id,_,b0,_,_,h1,h2⟩:=R.own h;exact⟨id,b0,h1,h2⟩
theorem eP.O {b:Nat}(h:(C.ren σ hD).O b):C.O b:=h.imp (λh=>h) R.L6
theorem eP.vp {v:PV}{u:Value}(h:C.P v u):(C.ren σ hD).P v u:=VP.sub (λ_ _=>R.O) h
theorem eP.vps {cs:List PV}{us:List Value}(h:All2 C.P cs us):All2 (C.ren σ hD).P cs us:=h.mono λ_ _=>R.vp
theorem eP.frozen {id sz:Nat}{es:List (List PV)}{u:Value}(hl:Vm.live C.h id (.arr sz es))(hu:HS C id sz es u)(hn:∀j b,Vm.live hD j b->σ j≠some id):(C.ren σ hD).P (.sl sz es) u:=by
 unfold HS at hu;have hb:=R.ok.blk id _ hl;cases hi:C.ι id with
 |none=>
  rw[hi]at hu;obtain⟨rfl,rfl⟩:=hu;exact .yA sz none 0
 |some n=>
  rw[hi]at hu;obtain⟨cap,carr,e,fr,rfl,hle,hr,j0⟩:=hu;rcases hb with⟨h1,_⟩|⟨m,O1,e2,fr2,h1,h2,hs,hf,hz,ji,hc⟩
  ·rw[hi]at h1;cases h1
  ·rw[hi]at h1;cases h1;rw[hr]at h2;cases h2;have hO:¬(C.ren σ hD).O n:=by
    rintro(hx|ho)
    ·exact(R.ok.x n hx).2 ⟨id,_,hl,.inl hi⟩
    ·obtain⟨j,Ql,blk,b0,h3,h4,h5,h6⟩:=R.own ho;have:=R.ok.inj Ql id n b0 _ h5 hl h6 (.inl hi);subst this;exact hn j blk h3 h4
   refine .sl sz es n 0 cap (λi j=>carr.getD (i*sz+j) Go.undef) (c_.1 hr).1 hO hle hz (λi j e c he hj=> ?_) (λi j e c he hj=> ?_)
   ·obtain⟨x,hx,_⟩:=hc i j e c he hj;show C.w.cell? _=_;rw[show 0+i*sz+j=i*sz+j by omega,jG carr n _ hr,hx];simp[uQ,hx]
   ·obtain⟨x,hx,hp⟩:=hc i j e c he hj;simp only[uQ,hx,y_];exact R.vp hp
theorem eP.ak {j id:Nat}{u:Value}(hj:known hD j)(hσ:σ j=some id)(h:VT C (.ak id) u):VT (C.ren σ hD) (.ak j) u:=by
 obtain⟨_,h1,h2⟩:=h;refine⟨hj,h1,λsz es hl=> ?_⟩;rcases R.live j _ hl with⟨cT,b0,h3,h4,h5⟩|⟨h3,_⟩
 ·rw[hσ]at h3;cases h3;obtain⟨QG,rfl,hlen⟩:=xI h5;have:=h2 sz QG h4;have hι:(C.ren σ hD).ι j=C.ι id:=by show(σ j).bind C.ι=_;rw[hσ];rfl
  unfold HS at this|-;rw[hι];cases hi:C.ι id with
  |none=>rw[hi]at this;obtain⟨rfl,hu⟩:=this;exact⟨Bj.1 hlen.symm,hu⟩
  |some n=>
   rw[hi]at this;obtain⟨cap,carr,e,fr,hu,hle,hrow,j0⟩:=this;exact⟨cap,carr,e,fr,by rw[hu,hlen],by omega,hrow,j0⟩
 ·rw[hσ]at h3;cases h3
theorem eP.bN {j:Nat}{u:Value}(hj:known hD j)(hσ:σ j=none)(h:C.P .bN u):VT (C.ren σ hD) (.ak j) u:=by
 cases h;refine⟨hj,⟨_,_,_,rfl⟩,λsz es hl=> ?_⟩;rcases R.live j _ hl with⟨cT,b0,h3,_⟩|⟨_,nN,h3⟩
 ·rw[hσ]at h3;cases h3
 ·cases h3;have hι:(C.ren σ hD).ι j=none:=by show(σ j).bind C.ι=_;rw[hσ];rfl
  unfold HS;rw[hι];exact⟨rfl,rfl⟩
theorem eP.ptr {j id o:Nat}{u:Value}(hj:known hD j)(hσ:σ j=some id)(h:VT C (.ptr id o) u):VT (C.ren σ hD) (.ptr j o) u:=by
 obtain⟨_,n,hu,h2⟩:=h;refine⟨hj,n,hu,λcs hl=> ?_⟩;rcases R.live j _ hl with⟨cT,b0,h3,h4,h5⟩|⟨h3,_⟩
 ·rw[hσ]at h3;cases h3;obtain⟨cs0,rfl,_⟩:=xH h5;show(σ j).bind C.ι=_;rw[hσ];exact h2 cs0 h4
 ·rw[hσ]at h3;cases h3
theorem eP.arr {j id sz:Nat}{es:List (List PV)}(hσ:σ j=some id)(hl:Vm.live C.h id (.arr sz es)):q9 (C.ren σ hD) j (.arr sz es):=by
 have hι:(C.ren σ hD).ι j=C.ι id:=by show(σ j).bind C.ι=_;rw[hσ];rfl
 rcases R.ok.blk id _ hl with⟨h1,h2⟩|⟨m,carr,e,fr,h1,h2,hs,hf,hz,ji,hc⟩
 ·exact .inl ⟨hι.trans h1,h2⟩
 ·refine .inr ⟨m,carr,e,fr,hι.trans h1,h2,hs,hf,hz,ji,λi j e c he hj=> ?_⟩;obtain⟨u,h3,h4⟩:=hc i j e c he hj;exact⟨u,h3,R.vp h4⟩
theorem eP.box {j id:Nat}{ds cs:List AV}(hσ:σ j=some id)(hl:Vm.live C.h id (.box ds))(hlen:cs.length=ds.length)
  (hc:∀(k:Nat) c d u,cs[k]? =some c->ds[k]? =some d->VA C d u->VA (C.ren σ hD) c u):q9 (C.ren σ hD) j (.box cs):=by
 have hι:(C.ren σ hD).ι j=C.ι id:=by show(σ j).bind C.ι=_;rw[hσ];rfl
 obtain⟨n,carr,e,fr,h1,h2,h3,h4,h5⟩:=R.ok.blk id _ hl;refine⟨n,carr,e,fr,hι.trans h1,h2,h3.trans hlen.symm,h4,λk c hk=> ?_⟩;have hlt:k<ds.length:=by rw[<-hlen];exact(ko.1 hk).1
 obtain⟨u,g1,g2,g3⟩:=h5 k ds[k] (dD hlt);exact⟨u,g1,hc k c _ u hk (dD hlt) g2,g3⟩
theorem eP.tab {j id sz:Nat}{m:Bool}{jA:List (Int×MV)}(hσ:σ j=some id)(hl:Vm.live C.h id (.tab m sz jA)):q9 (C.ren σ hD) j (.tab m sz jA):=by
 have hι:(C.ren σ hD).ι j=C.ι id:=by show(σ j).bind C.ι=_;rw[hσ];rfl
 have hκ:∀n,C.κ id n->(C.ren σ hD).κ j n:=λn hn=>⟨id,hσ,hn⟩
 obtain⟨b,vals,h1,h2,h3,h4⟩:=R.ok.blk id _ hl;refine⟨b,vals,hι.trans h1,λhq=> ?_,h3,h4.len,h4.one,λi x u hx hu=> ?_,h4.apart⟩
 ·obtain⟨cT,e1,e2⟩:=hq;rw[hσ]at e1;cases e1;exact h2 e2
 ·have hm:=h4.val i x u hx hu;obtain⟨k,mv⟩:=x;cases mv with
  |pv v=>exact R.vp hm
  |gone=>exact hm
  |row es=>
   rcases hm with hm|⟨g,cap,carr,e,fr,g1,g2,g3,g4,g5,g6,g7,g8,g9⟩
   ·exact .inl hm
   ·refine .inr ⟨g,cap,carr,e,fr,g1,g2,hκ g g3,g4,g5,g6,g7,g8,λi j e c he hj=> ?_⟩;obtain⟨v,a1,a2⟩:=g9 i j e c he hj;exact⟨v,a1,R.vp a2⟩
theorem eP.acp {j id sz:Nat}{m:Bool}{jA:List (Int×MV)}(hσ:σ j=some id)(hl:Vm.live hD j (.tab m sz jA)):∃s qI,Vm.live C.h id (.tab m s qI)/\(m=false->qI.length=jA.length):=by
 rcases R.live j _ hl with⟨cT,b0,h3,h4,h5⟩|⟨h3,_⟩
 ·rw[hσ]at h3;cases h3;obtain⟨s,qI,rfl,h6⟩:=xG h5;exact⟨s,qI,h4,h6⟩
 ·rw[hσ]at h3;cases h3
theorem eP.NK {j id:Nat}{u:Value}(hj:known hD j)(hσ:σ j=some id)(h:VA C (.NK id) u):VA (C.ren σ hD) (.NK j) u:=by
 obtain⟨_,b,cap,n,hu,hc,h2⟩:=h;refine⟨hj,b,cap,n,hu,hc,λsz jA hl=> ?_⟩;obtain⟨s,qI,h4,h6⟩:=R.acp hσ hl;show(σ j).bind C.ι=_/\_;rw[hσ,<-h6 rfl];exact h2 s qI h4
theorem eP.hmap {j id:Nat}{u:Value}(hj:known hD j)(hσ:σ j=some id)(h:VA C (.hmap id) u):VA (C.ren σ hD) (.hmap j) u:=by
 obtain⟨_,b,hu,h2⟩:=h;refine⟨hj,b,hu,λsz jA hl=> ?_⟩;obtain⟨s,qI,h4,h6⟩:=R.acp hσ hl;show(σ j).bind C.ι=_;rw[hσ];exact h2 s qI h4
theorem eP.okD (hb:∀j b,Vm.live hD j b->q9 (C.ren σ hD) j b):Ok (C.ren σ hD) where
 gr:=⟨λb hb=>⟨(R.ok.gr.low b hb).1,λho=>(R.ok.gr.low b hb).2 (R.L6 ho)⟩,R.ok.gr.at_⟩
 blk:=hb
 inj j j' n b b' h1 h2 h3 h4:=by
  obtain⟨id,e1,e2⟩:=Nq h3;obtain⟨cT,e3,e4⟩:=Nq h4;rcases R.live j b h1 with⟨i1,b1,f1,f2,_⟩|⟨f1,_⟩
  ·rw[e1]at f1;cases f1;rcases R.live j' b' h2 with⟨i2,b2,f3,f4,_⟩|⟨f3,_⟩
   ·rw[e3]at f3;cases f3;have:=R.ok.inj id cT n b1 b2 f2 f4 e2 e4;subst this;exact R.inj j j' id e1 e3
   ·rw[e3]at f3;cases f3
  ·rw[e1]at f1;cases f1
 x n hx:=⟨(R.ok.x n hx).1,λh=>(R.ok.x n hx).2 (R.L6 h)⟩
 Mr j b n hl hn:=by
  obtain⟨id,e1,e2⟩:=hn;rcases R.live j b hl with⟨i1,b1,f1,f2,_⟩|⟨f1,_⟩
  ·rw[e1]at f1;cases f1;exact R.ok.Mr id b1 n f2 e2
  ·rw[e1]at f1;cases f1
theorem eP.Kc {m:Nat}{C0:Ctx}(hx:fV m C0 C)(h0:∀id,id<m->known C0.h id->known hD id/\σ id=some id):fV m C0 (C.ren σ hD) where
 tape:=hx.tape
 os:=hx.os
 out:=hx.out
 size:=hx.size
 X:=hx.X
 keep:=hx.keep
 own b hb ho:=hx.own b hb (R.L6 ho)
 qd id him bn:=by
  obtain⟨h1,h2⟩:=h0 id him bn;refine⟨h1,λb' hb=> ?_⟩;rcases R.live id b' hb with⟨cT,b0,h3,h4,h5⟩|⟨h3,_⟩
  ·rw[h2]at h3;cases h3;obtain⟨b,h6,h7,h8⟩:=(hx.qd id him bn).2 b0 h4;exact⟨b,h6,by show(σ id).bind C.ι=_;rw[h2];exact h7,jg h8 h5⟩
  ·rw[h2]at h3;cases h3
 row:=hx.row
theorem eP.ext {C0:Ctx}(hx:Ext C0 C)(h0:∀id,known C0.h id->known hD id/\σ id=some id):Ext C0 (C.ren σ hD) where
 tape:=hx.tape
 os:=hx.os
 out:=hx.out
 size:=hx.size
 X:=hx.X
 keep:=hx.keep
 own b hb ho:=hx.own b hb (R.L6 ho)
 qd id bn:=by
  obtain⟨h1,h2⟩:=h0 id bn;refine⟨h1,λb' hb=> ?_⟩;rcases R.live id b' hb with⟨cT,b0,h3,h4,h5⟩|⟨h3,_⟩
  ·rw[h2]at h3;cases h3;obtain⟨b,h6,h7,h8⟩:=(hx.qd id bn).2 b0 h4;exact⟨b,h6,by show(σ id).bind C.ι=_;rw[h2];exact h7,jg h8 h5⟩
  ·rw[h2]at h3;cases h3
 row:=hx.row
end
theorem I3 {C:Ctx}{σ:Nat->Option Nat}{hD:List bw}{j sz:Nat}(hσ:σ j=none):q9 (C.ren σ hD) j (.arr sz []):=
 .inl ⟨by show(σ j).bind C.ι=_;rw[hσ];rfl,rfl⟩
end
section
def Bt (mp iV:Mp):Prop:=∀j y,bZ j mp=some y->bZ j iV=some y
def rX (mp:Mp):Prop:=∀j j' id,bZ j mp=some (some id)->bZ j' mp=some (some id)->j=j'
theorem Bt.refl (mp:Mp):Bt mp mp:=λ_ _ h=>h
theorem Bt.trans {a b c:Mp}(h:Bt a b)(k:Bt b c):Bt a c:=λj y hj=>k j y (h j y hj)
theorem mG (j:Nat):∀(mp:Mp) (k:Nat) (x:Option Nat),bZ j (mp++[(k,x)])=match bZ j mp with|some y=>some y|none=>if j=k then some x else none
 |[],k,x=>by
  simp only[eB,bZ];by_cases h:j=k
  ·subst h;simp
  ·rw[aC h];have:Nat.beq j k=false:=by cases hb:Nat.beq j k with|false=>rfl|true=>exact absurd (gK hb) h
   rw[this];rfl
 |(k',x')::mp,k,x=>by
  simp only[qy,bZ];cases h:Nat.beq j k' with
  |true=>rfl
  |false=>exact mG j mp k x
theorem Da {mp:Mp}{j id:Nat}(h:bZ j mp=some (some id)):sX id mp=true:=by
 induction mp with
 |nil=>cases h
 |cons x mp ih=>
  obtain⟨k,y⟩:=x;simp only[bZ]at h;cases hb:Nat.beq j k with
  |true=>
   rw[hb]at h;simp only[en]at h;cases h;simp[sX]
  |false=>
   rw[hb]at h;have:=ih h;cases y with
   |none=>simpa[sX]using this
   |some y=>simp[sX,this]
theorem P8 {mp:Mp}{j:Nat}{y:Option Nat}(h:bZ j mp=some y):∃x∈mp,x.1=j:=by
 induction mp with
 |nil=>cases h
 |cons x mp ih=>
  obtain⟨k,z⟩:=x;simp only[bZ]at h;cases hb:Nat.beq j k with
  |true=>exact⟨(k,z),by simp,(gK hb).symm⟩
  |false=>
   rw[hb]at h;obtain⟨x,h1,h2⟩:=ih h;exact⟨x,by simp[h1],h2⟩
theorem PY {a b:Option Nat}(h:TL a b=true):a=b:=by
 cases a<;>cases b<;>first|rfl|(cases h;done)|(have:=gK h;subst this;rfl)
theorem jy {j:Nat}{x:Option Nat}{mp iV:Mp}(h:link j x mp=some iV):bZ j iV=some x/\Bt mp iV/\(rX mp->rX iV):=by
 unfold link at h;split at h
 ·rename_i y hy;cases hb:TL x y with
  |true=>
   rw[hb]at h;cases h;exact⟨by rw[hy,PY hb],Bt.refl _,λh=>h⟩
  |false=>rw[hb]at h;cases h
 ·rename_i hno;have key:∀x:Option Nat,(∀id,x=some id->sX id mp=false)->bZ j (mp++[(j,x)])=some x/\Bt mp (mp++[(j,x)])/\(rX mp->rX (mp++[(j,x)])):=by
   intro x hx;refine⟨by rw[mG,hno];simp,λk y hk=>by rw[mG,hk],λhi a b id ha hb=> ?_⟩;rw[mG]at ha hb;cases hga:bZ a mp with
   |some y=>
    rw[hga]at ha;simp only[kE]at ha;subst ha;cases hgb:bZ b mp with
    |some z=>
     rw[hgb]at hb;simp only[kE]at hb;subst hb;exact hi a b id hga hgb
    |none=>
     rw[hgb]at hb;simp only at hb;split at hb
     ·have:=hx id (pH hb);rw[Da hga]at this;cases this
     ·cases hb
   |none=>
    rw[hga]at ha;simp only at ha;split at ha
    ·rename_i haj;cases hgb:bZ b mp with
     |some z=>
      rw[hgb]at hb;simp only[kE]at hb;subst hb;have:=hx id (pH ha);rw[Da hgb]at this;cases this
     |none=>
      rw[hgb]at hb;simp only at hb;split at hb
      ·rename_i hbj;rw[haj,hbj]
      ·cases hb
    ·cases ha
  split at h
  ·rename_i id;cases hb:sX id mp with
   |true=>rw[hb]at h;cases h
   |false=>
    rw[hb]at h;cases h;exact key _ λcT he=>by cases he;exact hb
  ·cases h;exact key _ λcT he=>by cases he
def jJ (mp:Mp):List TV->List TV->Prop
 |[],[]=>True
 | .ptr j o::l,.ptr id o'::r=>o=o'/\bZ j mp=some (some id)/\jJ mp l r
 |_,_=>False
def pd (mp:Mp)(w a:AV):Prop:=
 match w,a with
 | .t (.ak j),.t (.ak id)=>bZ j mp=some (some id)
 | .t (.ak j),.t (.p .bN)=>bZ j mp=some none
 | .t (.ptr j o),.t (.ptr id o')=>o=o'/\bZ j mp=some (some id)
 | .C8 j,.C8 id=>bZ j mp=some (some id)
 | .NK j,.NK id=>bZ j mp=some (some id)
 | .hmap j,.hmap id=>bZ j mp=some (some id)
 | .iG f j o,.iG g id o'=>f=g/\o=o'/\bZ j mp=some (some id)
 | .C8 j,.t (.p .aM)=>∃id,bZ j mp=some (some id)
 | .fn f l,.fn g r=>f=g/\jJ mp l r
 | .fn f [],.t (.p (.fn g))=>f=g
 |_,_=>False
theorem jJ.mono {mp iV:Mp}(hm:Bt mp iV):∀{l r:List TV},jJ mp l r->jJ iV l r
 |[],[],_=>trivial
 | .ptr j o::l,.ptr id o'::r,h=>⟨h.1,hm _ _ h.2.1,jJ.mono hm h.2.2⟩
 |[],_::_,h=>h.elim
 | .p _::_,_,h=>by cases h
 | .agg _::_,_,h=>by cases h
 | .ak _::_,_,h=>by cases h
 | .ptr _ _::_,[],h=>h.elim
 | .ptr _ _::_,.p _::_,h=>h.elim
 | .ptr _ _::_,.agg _::_,h=>h.elim
 | .ptr _ _::_,.ak _::_,h=>h.elim
theorem pd.mono {mp iV:Mp}(hm:Bt mp iV){w a:AV}(h:pd mp w a):pd iV w a:=by
 unfold pd at h|-;split at h
 ·exact hm _ _ h
 ·exact hm _ _ h
 ·exact⟨h.1,hm _ _ h.2⟩
 ·exact hm _ _ h
 ·exact hm _ _ h
 ·exact hm _ _ h
 ·exact⟨h.1,h.2.1,hm _ _ h.2.2⟩
 ·obtain⟨id,h⟩:=h;exact⟨id,hm _ _ h⟩
 ·exact⟨h.1,h.2.mono hm⟩
 ·exact h
 ·exact h.elim
theorem ez {α:Type}{b:Bool}{x:Option α}{r:α}(h:cond b x none=some r):b=true/\x=some r:=by
 cases b
 ·cases h
 ·exact⟨rfl,h⟩
theorem xE:∀{l r:List TV} {mp iV:Mp},qG l r mp=some iV->jJ iV l r/\Bt mp iV/\(rX mp->rX iV)
 |[],[],mp,iV,h=>by cases h;exact⟨trivial,Bt.refl _,λh=>h⟩
 | .ptr j o::l,.ptr id o'::r,mp,iV,h=>by
  simp only[qG]at h;obtain⟨hb,h⟩:=ez h;split at h
  ·rename_i mp1 h1;obtain⟨a1,a2,a3⟩:=jy h1;obtain⟨b1,b2,b3⟩:=xE h;exact⟨⟨gK hb,b2 _ _ a1,b1⟩,a2.trans b2,λh=>b3 (a3 h)⟩
  ·cases h
 |[],_::_,_,_,h=>by cases h
 | .p _::_,_,_,_,h=>by simp[qG]at h
 | .agg _::_,_,_,_,h=>by simp[qG]at h
 | .ak _::_,_,_,_,h=>by simp[qG]at h
 | .ptr _ _::_,[],_,_,h=>by cases h
 | .ptr _ _::_,.p _::_,_,_,h=>by cases h
 | .ptr _ _::_,.agg _::_,_,_,h=>by cases h
 | .ptr _ _::_,.ak _::_,_,_,h=>by cases h
theorem xF {w a:AV}{mp iV:Mp}(h:linkRef w a mp=some iV):pd iV w a/\Bt mp iV/\(rX mp->rX iV):=by
 unfold linkRef at h;split at h
 ·exact jy h
 ·exact jy h
 ·obtain⟨hb,h⟩:=ez h;obtain⟨h1,h2⟩:=jy h;exact⟨⟨gK hb,h1⟩,h2⟩
 ·exact jy h
 ·exact jy h
 ·exact jy h
 ·obtain⟨hb,h⟩:=ez h;simp only[bO]at hb;obtain⟨h1,h2⟩:=jy h;exact⟨⟨gK hb.1,gK hb.2,h1⟩,h2⟩
 ·split at h
  ·rename_i id bn;cases h;exact⟨⟨id,bn⟩,Bt.refl _,λh=>h⟩
  ·cases h
 ·obtain⟨hb,h⟩:=ez h;obtain⟨h1,h2⟩:=xE h;exact⟨⟨gK hb,h1⟩,h2⟩
 ·obtain⟨hb,h⟩:=ez h;cases h;exact⟨gK hb,Bt.refl _,λh=>h⟩
 ·cases h
theorem gX {slots:List AV}:∀{l:List (Nat×yw)} {mp iV:Mp},mO slots l mp=some iV->Bt mp iV/\(rX mp->rX iV)/\∀i w,(i,Sum.inr (Sum.inr w))∈l->JS w=false->pd iV w (nth .undef slots i)
 |[],_,_,h=>by cases h;exact⟨Bt.refl _,λh=>h,λi w hw=>by cases hw⟩
 |(i,.inr (.inr w))::l,mp,iV,h=>by
  simp only[mO]at h;cases OJ:JS w with
  |true=>
   rw[OJ,en]at h;obtain⟨b1,b2,b3⟩:=gX (l:=l) h;refine⟨b1,b2,λi' w' hw hb=> ?_⟩;rcases gR.1 hw with he|hw
   ·cases he;rw[OJ]at hb;cases hb
   ·exact b3 i' w' hw hb
  |false=>
  rw[OJ,gH]at h;split at h
  ·rename_i mp1 h1;obtain⟨a1,a2,a3⟩:=xF h1;obtain⟨b1,b2,b3⟩:=gX h;refine⟨a2.trans b1,λh=>b2 (a3 h),λi' w' hw hb=> ?_⟩;rcases gR.1 hw with he|hw
   ·cases he;exact a1.mono b1
   ·exact b3 i' w' hw hb
  ·cases h
 |(i,.inl s)::l,mp,iV,h=>by
  obtain⟨b1,b2,b3⟩:=gX (l:=l) h;exact⟨b1,b2,λi' w' hw hb=>b3 i' w' (by simpa using hw) hb⟩
 |(i,.inr (.inl s))::l,mp,iV,h=>by
  obtain⟨b1,b2,b3⟩:=gX (l:=l) h;exact⟨b1,b2,λi' w' hw hb=>b3 i' w' (by simpa using hw) hb⟩
theorem CX {look:aJ}{slots:List AV}:∀{l:List (Nat×yw)} {i:Nat} {s:yw},od look slots l=true->(i,s)∈l->Ay look s (nth .undef slots i)=true
 |[],_,_,_,h=>by cases h
 |(i',s')::l,i,s,az,h=>by
  simp only[od,bO]at az;rcases gR.1 h with he|h
  ·cases he;exact az.1
  ·exact CX az.2 h
def ED (mp:Mp)(s:Sh⊕AV)(c:AV):Prop:=match s with| .inr w=>pd mp w c| .inl _=>True
theorem nv:∀{l:List (Sh⊕AV)} {cs:List AV} {mp iV:Mp},pP l cs mp=some iV->Bt mp iV/\(rX mp->rX iV)/\All2 (ED iV) l cs
 |[],[],_,_,h=>by cases h;exact⟨Bt.refl _,λh=>h,trivial⟩
 | .inr w::l,c::cs,mp,iV,h=>by
  simp only[pP]at h;split at h
  ·rename_i mp1 h1;obtain⟨a1,a2,a3⟩:=xF h1;obtain⟨b1,b2,b3⟩:=nv h;exact⟨a2.trans b1,λh=>b2 (a3 h),a1.mono b1,b3⟩
  ·cases h
 | .inl s::l,c::cs,mp,iV,h=>by
  obtain⟨b1,b2,b3⟩:=nv (l:=l) (cs:=cs) h;exact⟨b1,b2,trivial,b3⟩
 |[],_::_,_,_,h=>by cases h
 | .inl _::_,[],_,_,h=>by cases h
 | .inr _::_,[],_,_,h=>by cases h
theorem ED.mono {mp iV:Mp}(hm:Bt mp iV){s:Sh⊕AV}{c:AV}(h:ED mp s c):ED iV s c:=by
 cases s with
 |inl=>trivial
 |inr w=>exact pd.mono hm h
abbrev K8:=List (Sh⊕AV)⊕Nat
def Q2 (look:aJ)(mp:Mp)(j:Nat):K8->Prop
 | .inr sz=>((∃id es,bZ j mp=some (some id)/\look id=some (.arr sz es))\/∃id m s jA,bZ j mp=some (some id)/\look id=some (.tab m s jA)/\sz=Lu m s)\/bZ j mp=some none
 | .inl cs=>∃id ds,bZ j mp=some (some id)/\look id=some (.box ds)/\All2 (ED mp) cs ds
theorem Q2.mono {look:aJ}{mp iV:Mp}(hm:Bt mp iV){j:Nat}{b:K8}(h:Q2 look mp j b):Q2 look iV j b:=by
 cases b with
 |inr sz=>exact h.imp (λh=>h.imp (λ⟨id,es,h1,h2⟩=>⟨id,es,hm _ _ h1,h2⟩) λ⟨id,m,s,jA,h1,h2⟩=>⟨id,m,s,jA,hm _ _ h1,h2⟩) λh=>hm _ _ h
 |inl cs=>obtain⟨id,ds,h1,h2,h3⟩:=h;exact⟨id,ds,hm _ _ h1,h2,h3.mono λ_ _=>ED.mono hm⟩
theorem oU {look:aJ}:∀{l:List K8} {j:Nat} {mp iV:Mp},jY look j l mp=some iV->Bt mp iV/\(rX mp->rX iV)/\∀(k:Nat) b,l[k]? =some b->Q2 look iV (j+k) b
 |[],_,_,_,h=>by cases h;exact⟨Bt.refl _,λh=>h,λk b hk=>by simp at hk⟩
 | .inr sz::l,j,mp,iV,h=>by
  simp only[jY]at h;have fin:∀{mp1:Mp},jY look (j+1) l mp=some iV->Q2 look mp j (.inr sz)->Bt mp iV/\(rX mp->rX iV)/\∀(k:Nat) b,(Sum.inr sz::l)[k]? =some b->Q2 look iV (j+k) b:=by
   intro _ h hb;obtain⟨b1,b2,b3⟩:=oU h;refine⟨b1,b2,λk b hk=> ?_⟩;cases k with
   |zero=>simp at hk;subst hk;exact hb.mono b1
   |succ k=>rw[show j+(k+1)=j+1+k by omega];exact b3 k b (by simpa using hk)
  split at h
  ·rename_i id hg;split at h
   ·rename_i nN es hl;obtain⟨hb,h'⟩:=ez h;have:=gK hb;subst this;exact fin (mp1:=mp) h' (.inl (.inl ⟨id,es,hg,hl⟩))
   ·rename_i m s jA hl;obtain⟨hb,h'⟩:=ez h;exact fin (mp1:=mp) h' (.inl (.inr ⟨id,m,s,jA,hg,hl,gK hb⟩))
   ·cases h
  ·rename_i hg;exact fin (mp1:=mp) h (.inr hg)
  ·cases h
 | .inl cs::l,j,mp,iV,h=>by
  simp only[jY]at h;split at h
  ·rename_i id hg;split at h
   ·rename_i ds hl;split at h
    ·rename_i mp1 h1;obtain⟨a1,a2,a3⟩:=nv h1;obtain⟨b1,b2,b3⟩:=oU h;refine⟨a1.trans b1,λh=>b2 (a2 h),λk b hk=> ?_⟩;cases k with
     |zero=>
      simp at hk;subst hk;exact⟨id,ds,b1 _ _ (a1 _ _ hg),hl,a3.mono λ_ _=>ED.mono b1⟩
     |succ k=>rw[show j+(k+1)=j+1+k by omega];exact b3 k b (by simpa using hk)
    ·cases h
   ·cases h
  ·cases h
theorem Ds:∀(n s j:Nat),bZ j (Vi s n)=if s<=j/\j<s+n then some (some j) else none
 |0,s,j=>by rw[aC (by omega)];rfl
 |n+1,s,j=>by
  simp only[Vi,bZ];cases hb:Nat.beq j s with
  |true=>
   have:=gK hb;subst this;rw[aK (by omega)];rfl
  |false=>
   have hne:j≠s:=λh=>by subst h;simp at hb
   rw[gH,Ds n (s+1) j];by_cases h:s+1<=j/\j<s+1+n
   ·rw[aK h,aK (by omega)]
   ·rw[aC h,aC (by omega)]
theorem Vh (s n:Nat):rX (Vi s n):=by
 intro j j' id h h';rw[Ds]at h h';split at h
 ·split at h'
  ·cases h;cases h';rfl
  ·cases h'
 ·cases h
def jn (look:aJ)(x:Option (Option Nat)):K8->au
 | .inr sz=>match x with|some (some id)=>(match look id with|some (.arr _ es)=>au.arr sz es|some (.tab m s jA)=>.tab m s jA|_=>.arr sz [])|_=>.arr sz []
 | .inl cs=>match x with|some (some id)=>(match look id with|some (.box ds)=>au.box (j6 look cs ds)|_=>.box [])|_=>.box []
def vU (x:au):K8->au
 | .inl cs=>.box (putCells cs 0 x.gl)
 | .inr sz=>YG sz x
theorem oF {look:aJ}{mp:Mp}:∀{l:List K8} {j k:Nat} {b:K8},l[k]? =some b->(j7 look mp j l)[k]? =some (jn look (bZ (j+k) mp) b)
 |[],_,k,b,h=>by simp at h
 |x::l,j,0,b,h=>by
  simp at h;subst h;cases x<;>simp only[j7,jn,uP]<;>rfl
 |x::l,j,k+1,b,h=>by
  have:=oF (look:=look) (mp:=mp) (l:=l) (j:=j+1) (k:=k) (b:=b) (by simpa using h);rw[show j+(k+1)=j+1+k by omega,<-this];cases x<;>simp[j7]
theorem sN:∀{l:List K8} {j k:Nat} {b:K8} {bs:List au},l[k]? =some b->(fR l j bs)[k]? =some (.blk (vU (nth (.box []) bs (j+k)) b))
 |[],_,k,b,_,h=>by simp at h
 |x::l,j,0,b,bs,h=>by
  simp at h;subst h;cases x<;>simp[fR,vU]
 |x::l,j,k+1,b,bs,h=>by
  have:=sN (l:=l) (j:=j+1) (k:=k) (b:=b) (bs:=bs) (by simpa using h);rw[show j+(k+1)=j+1+k by omega,<-this];cases x<;>simp[fR]
theorem YF {sz:Nat}{b:au}(h:nw sz b=true):YG sz b=b:=by
 unfold nw at h;unfold YG;cases hb:Nat.blt sz 1000000 with
 |true=>
  rw[hb,en]at h;cases b with
  |arr nN es=>cases gK h;rfl
  |box _=>cases h
  |tab _ _ _=>cases h
 |false=>
  rw[hb,gH]at h;cases b with
  |arr _ _=>cases h
  |box _=>cases h
  |tab m s jA=>
   cases gK h;have h1:adw (Lu m s)=m:=by
    unfold adw Lu;cases m with
    |true=>simp only[en];rw[show 1000000+(2*s+1)-1000000=2*s+1 by omega,show(2*s+1) %2=1 by omega];rfl
    |false=>simp only[gH];rw[show 1000000+(2*s+0)-1000000=2*s by omega,show(2*s) %2=0 by omega];rfl
   have h2:adv (Lu m s)=s:=by
    unfold adv Lu;cases m<;>simp only[en,gH]<;>omega
   simp only[gH,h1,h2];rfl
theorem vu:∀{l:List K8} {j k sz:Nat} {bs:List au},dI l j bs=true->l[k]? =some (.inr sz)->nw sz (nth (.box []) bs (j+k))=true
 |[],_,k,_,_,_,h=>by simp at h
 |x::l,j,0,sz,bs,az,h=>by
  simp at h;subst h;simp only[dI,bO]at az;exact az.1
 |x::l,j,k+1,sz,bs,az,h=>by
  rw[show j+(k+1)=j+1+k by omega];refine vu (l:=l) ?_ (by simpa using h);cases x<;>simp only[dI,bO]at az<;>exact az.2
theorem sM:∀(l:List K8) (j:Nat) (bs:List au),(fR l j bs).length=l.length
 |[],_,_=>rfl
 |x::l,j,bs=>by cases x<;>simp[fR,sM l]
theorem afl {look:aJ}{mp:Mp}{l:List K8}{j:Nat}{b:K8}(h:l[j]? =some b):nth bw.fresh (fR l 0 (j7 look mp 0 l)) j=.blk (vU (jn look (bZ j mp) b) b):=by
 refine jU _ ?_;rw[sN h,dy,jU _ (oF h),dy]
theorem xo:∀{l:List K8} {j k:Nat} {cs:List (Sh⊕AV)} {bs:List au},dI l j bs=true->l[k]? =some (.inl cs)->dH cs 0 (nth (.box []) bs (j+k)).gl=true
 |[],_,k,_,_,_,h=>by simp at h
 |x::l,j,0,cs,bs,az,h=>by
  simp at h;subst h;simp only[dI,bO]at az;exact az.1.2
 |x::l,j,k+1,cs,bs,az,h=>by
  rw[show j+(k+1)=j+1+k by omega];refine xo (l:=l) ?_ (by simpa using h);cases x<;>simp only[dI,bO]at az<;>exact az.2
theorem FW {look:aJ}{mp:Mp}:∀{l:List K8} {j k:Nat} {cs:List (Sh⊕AV)},zj look mp j l=true->l[k]? =some (.inl cs)->∃id ds,bZ (j+k) mp=some (some id)/\look id=some (.box ds)/\ub look cs ds=true
 |[],_,k,_,_,h=>by simp at h
 |x::l,j,0,cs,az,h=>by
  simp at h;subst h;simp only[zj,bO]at az;obtain⟨h1,_⟩:=az;split at h1
  ·rename_i id hg;split at h1
   ·rename_i ds hl;exact⟨id,ds,hg,hl,h1⟩
   ·cases h1
  ·cases h1
 |x::l,j,k+1,cs,az,h=>by
  rw[show j+(k+1)=j+1+k by omega];refine FW (l:=l) ?_ (by simpa using h);cases x with
  |inl=>simp only[zj,bO]at az;exact az.2
  |inr=>exact az
theorem DL {look:aJ}{mp:Mp}:∀{l:List K8} {j k id:Nat} {cs:List (Sh⊕AV)} {ds:List AV},l[k]? =some (.inl cs)->bZ (j+k) mp=some (some id)->look id=some (.box ds)->∀x∈xT cs ds,x∈qM look mp j l
 |[],_,k,_,_,_,h,_,_=>by simp at h
 |x::l,j,0,id,cs,ds,h,hg,hl=>by
  simp at h;subst h;intro y hy;simp only[G0]at hg;simp only[qM,hg,hl];exact eO.2 (.inl hy)
 |x::l,j,k+1,id,cs,ds,h,hg,hl=>by
  rw[show j+(k+1)=j+1+k by omega]at hg;intro y hy;have:=DL (l:=l) (by simpa using h) hg hl y hy;cases x with
  |inl=>simp only[qM];exact eO.2 (.inr this)
  |inr=>exact this
theorem AU:∀{cs:List (Sh⊕AV)} {ds:List AV} {k:Nat} {s:Sh⊕AV} {d:AV},cs[k]? =some s->ds[k]? =some d->∀x∈J8 (HY s) d,x∈xT cs ds
 |[],_,k,_,_,h,_=>by simp at h
 |s::cs,[],k,_,_,_,h=>by simp at h
 |s::cs,d::ds,0,_,_,h1,h2=>by
  simp at h1 h2;subst h1;subst h2;intro x hx;exact eO.2 (.inl hx)
 |s::cs,d::ds,k+1,_,_,h1,h2=>by
  intro x hx;exact eO.2 (.inr (AU (by simpa using h1) (by simpa using h2) x hx))
theorem CZ {look:aJ}:∀{cs:List (Sh⊕AV)} {ds:List AV} {k:Nat} {s:Sh⊕AV} {d:AV},ub look cs ds=true->cs[k]? =some s->ds[k]? =some d->Ay look (HY s) d=true
 |[],_,k,_,_,_,h,_=>by simp at h
 |s::cs,[],k,_,_,h,_,_=>by cases h
 |s::cs,d::ds,0,_,_,h,h1,h2=>by
  simp at h1 h2;subst h1;subst h2;simp only[ub,bO]at h;exact h.1
 |s::cs,d::ds,k+1,_,_,h,h1,h2=>by
  simp only[ub,bO]at h;exact CZ h.2 (by simpa using h1) (by simpa using h2)
theorem Ea (look:aJ)(s:Sh)(d:AV):∃x,qQ look (.inl s) d=[x]:=by
 unfold qQ;split
 ·exact⟨_,rfl⟩
 ·split<;>exact⟨_,rfl⟩
 ·rename_i h;cases h
 ·rename_i h;cases h
 ·exact⟨_,rfl⟩
theorem A6 {look:aJ}:∀{cs:List (Sh⊕AV)} {ds:List AV} {k:Nat} {s:Sh} {d:AV},cs.length=ds.length->cs[k]? =some (.inl s)->ds[k]? =some d->qQ look (.inl s) d=[nth .undef (j6 look cs ds) k]
 |[],_,k,_,_,_,h,_=>by simp at h
 |s::cs,[],k,_,_,h,_,_=>by simp at h
 |s::cs,d::ds,0,_,_,h,h1,h2=>by
  simp at h1 h2;subst h1;subst h2;rename_i s';obtain⟨x,hx⟩:=Ea look s' d;simp only[j6,hx];rfl
 |s::cs,d::ds,k+1,s0,d0,h,h1,h2=>by
  have ih:=A6 (look:=look) (cs:=cs) (ds:=ds) (k:=k) (by simpa using h) (by simpa using h1) (by simpa using h2);rw[ih];cases s with
  |inl s=>
   obtain⟨x,hx⟩:=Ea look s d;simp only[j6,hx];rfl
  |inr w=>rfl
theorem xk:∀{cs:List (Sh⊕AV)} {i k:Nat} {xs:List AV} {s:Sh⊕AV},cs[k]? =some s->(putCells cs i xs)[k]? =some (match s with| .inl s=>.t (.p (uT s (nth .undef xs (i+k)).dC))| .inr w=>w)
 |[],_,k,_,_,h=>by simp at h
 |s::cs,i,0,xs,_,h=>by
  simp at h;subst h;cases s<;>rfl
 |s::cs,i,k+1,xs,s',h=>by
  have:=xk (cs:=cs) (i:=i+1) (k:=k) (xs:=xs) (by simpa using h);rw[show i+(k+1)=i+1+k by omega,<-this];cases s<;>rfl
theorem lS:∀(cs:List (Sh⊕AV)) (i:Nat) (xs:List AV),(putCells cs i xs).length=cs.length
 |[],_,_=>rfl
 |s::cs,i,xs=>by cases s<;>simp[putCells,lS cs]
theorem vr:∀{cs:List (Sh⊕AV)} {i k:Nat} {xs:List AV} {s:Sh},dH cs i xs=true->cs[k]? =some (.inl s)->xp s (nth .undef xs (i+k)).dC=true
 |[],_,k,_,_,_,h=>by simp at h
 |s::cs,i,0,xs,_,h0,h=>by
  simp at h;subst h;simp only[dH,bO]at h0;exact h0.1.2
 |s::cs,i,k+1,xs,s',h0,h=>by
  rw[show i+(k+1)=i+1+k by omega];refine vr (cs:=cs) ?_ (by simpa using h);cases s<;>simp only[dH,bO]at h0<;>first|exact h0.2|exact h0
def sig (mp:Mp)(j:Nat):Option Nat:=match bZ j mp with|some x=>x|none=>none
theorem dN {mp:Mp}{j:Nat}{x:Option Nat}(h:bZ j mp=some x):sig mp j=x:=by unfold sig;rw[h]
theorem YS {mp:Mp}{id:Nat}(h:sX id mp=false)(j:Nat):sig mp j≠some id:=by
 intro he;unfold sig at he;split at he
 ·rename_i x hx;subst he;rw[Da hx]at h;cases h
 ·cases he
section
variable {C:Ctx} {mp:Mp} {hD:List bw} (R:eP C (sig mp) hD) (hk:∀j y,bZ j mp=some y->known hD j)
include R hk
theorem Dg:∀{l r:List TV} {us:List Value},jJ mp l r->All2 (VT C) r us->All2 (VT (C.ren (sig mp) hD)) l us
 |[],[],us,_,h=>by cases us with|nil=>trivial|cons=>exact h.elim
 | .ptr j o::l,.ptr id o'::r,us,h,hv=>by
  cases us with
  |nil=>exact hv.elim
  |cons u us=>
   obtain⟨rfl,h1,h2⟩:=h;exact⟨R.ptr (hk _ _ h1) (dN h1) hv.1,Dg h2 hv.2⟩
 |[],_::_,_,h,_=>h.elim
 | .p _::_,_,_,h,_=>by cases h
 | .agg _::_,_,_,h,_=>by cases h
 | .ak _::_,_,_,h,_=>by cases h
 | .ptr _ _::_,[],_,h,_=>h.elim
 | .ptr _ _::_,.p _::_,_,h,_=>h.elim
 | .ptr _ _::_,.agg _::_,_,h,_=>h.elim
 | .ptr _ _::_,.ak _::_,_,h,_=>h.elim
theorem F0 {w a:AV}(h:pd mp w a){u:Value}(hv:VA C a u):VA (C.ren (sig mp) hD) w u:=by
 unfold pd at h;split at h
 ·exact R.ak (hk _ _ h) (dN h) hv
 ·exact R.bN (hk _ _ h) (dN h) hv
 ·obtain⟨rfl,h⟩:=h;exact R.ptr (hk _ _ h) (dN h) hv
 ·refine⟨hk _ _ h,hv.2.imp (λh=>h) λ⟨n,hu,hv'⟩=> ?_⟩;obtain⟨_,n',Qo,hp⟩:=R.ptr (o:=0) (hk _ _ h) (dN h) ⟨hv.1,n,hu,hv'⟩;exact⟨n',Qo,hp⟩
 ·exact R.NK (hk _ _ h) (dN h) hv
 ·exact R.hmap (hk _ _ h) (dN h) hv
 ·obtain⟨rfl,rfl,h⟩:=h;obtain⟨u',rfl,hp⟩:=hv;exact⟨u',rfl,R.ptr (hk _ _ h) (dN h) hp⟩
 ·obtain⟨id,h⟩:=h;refine⟨hk _ _ h,.inl ?_⟩;exact(λu (h:C.P .aM u)=>show u=.pointer none by cases h;rfl) _ hv
 ·obtain⟨rfl,h⟩:=h;obtain⟨us,rfl,ha⟩:=hv;exact⟨us,rfl,Dg R hk h ha⟩
 ·subst h;cases(show C.P (.fn _) u from hv);exact⟨#[],rfl,trivial⟩
 ·exact h.elim
end
end
section
section
variable {C:Ctx} {mp:Mp} {hD:List bw} (R:eP C (sig mp) hD) {look:aJ} (hl:bQ C look)
include R hl
theorem abi {s:Sh}{a:AV}(h:Ay look (.inl s) a=true):∃p,qQ look (.inl s) a=[.t (.p p)]/\∀u,VA C a u->(∀id∈J8 (.inl s) a,∀j,sig mp j≠some id)->(C.ren (sig mp) hD).P p u:=by
 unfold Ay at h;split at h
 ·rename_i s' v he;cases he;exact⟨uT s v,rfl,λu hu _=>jm h (R.vp hu)⟩
 ·rename_i sz id he;cases he;split at h
  ·rename_i nN es hb;have:=gK h;subst this;refine⟨.sl sz es,by simp only[qQ,hb],λu hu hf=> ?_⟩;obtain⟨_,_,h3⟩:=hu;exact R.frozen (hl _ _ hb) (h3 _ _ (hl _ _ hb)) λj _ _=>hf id (by simp[J8]) j
  ·cases h
 ·rename_i he;cases he
 ·rename_i he;cases he
 ·cases h
theorem tW {slots:List AV}{tmps:Array Value}(hs:l_ C slots tmps):∀(l:List (Nat×yw)) (k:Nat) (vs s:List AV),(∀m,nth .undef vs (k+m)=nth .undef (j5 look slots l) m)->od look slots l=true->nh l k vs=true->
  (∀i w,(i,Sum.inr (Sum.inr w))∈l->∀u,VA C (nth .undef slots i) u->VA (C.ren (sig mp) hD) w u)->(∀id∈lK slots l,∀j,sig mp j≠some id)->l_ (C.ren (sig mp) hD) s tmps->
  l_ (C.ren (sig mp) hD) (dn l k vs s) tmps
 |[],k,vs,s,_,_,_,_,_,h=>h
 |(i,.inl sh)::l,k,vs,s,E9,az,hput,F6,J3,h=>by
  simp only[od,bO]at az;simp only[nh,bO]at hput;obtain⟨p,La,Q_⟩:=abi R hl az.1;have h0:=E9 0;simp only[j5,La,G0]at h0;have h0:nth .undef vs k=.t (.p p):=h0;have hp:=Q_ _ (hs i) λid bn=>J3 id (by simp only[lK];exact eO.2 (.inl bn));rw[h0]at hput;simp only[dn];refine tW hs l (k+1) vs _ (λm=> ?_) az.2 hput.2 (λi' w hw=>F6 i' w (by simp[hw])) (λid bn=>J3 id (by simp only[lK];exact eO.2 (.inr bn))) λt=> ?_
  ·have:=E9 (m+1);simp only[j5,La]at this;rw[show k+1+m=k+(m+1) by omega,this];rfl
  ·rw[ep];split
   ·rename_i hc;obtain⟨rfl,_⟩:=hc;rw[h0];exact jm hput.1.2 hp
   ·exact h t
 |(i,.inr (.inl ss))::l,k,vs,s,E9,az,hput,F6,J3,h=>by
  simp only[od,bO]at az;simp only[nh,bO]at hput;obtain⟨cs,hcs,aen⟩:∃cs,nth .undef slots i=.t (.agg cs)/\bL ss cs=true:=by
   have:=az.1;generalize nth AV.undef slots i=x at this;unfold Ay at this;split at this
   ·rename_i he;cases he
   ·rename_i he;cases he
   ·rename_i ss' cs he;cases he;exact⟨cs,rfl,this⟩
   ·rename_i he;cases he
   ·cases this
  have h0:=E9 0;have ahS:qQ look (.inr (.inl ss)) (nth .undef slots i)=[.t (.agg (oD ss cs 0))]:=by rw[hcs];rfl
  simp only[j5,ahS,G0]at h0;have h0:nth .undef vs k=.t (.agg (oD ss cs 0)):=h0;have hv:=hs i;rw[hcs]at hv;obtain⟨us,hus,hall⟩:=hv;have ahZ:=jH (i:=0) aen (λj _=>by rw[dy]) (R.vps hall);rw[h0]at hput;simp only[dn];refine tW hs l (k+1) vs _ (λm=> ?_) az.2 hput.2 (λi' w hw=>F6 i' w (by simp[hw])) (λid bn=>J3 id (by simp only[lK];exact eO.2 (.inr bn))) λt=> ?_
  ·have:=E9 (m+1);simp only[j5,ahS]at this;rw[show k+1+m=k+(m+1) by omega,this];rfl
  ·rw[ep];split
   ·rename_i hc;obtain⟨rfl,_⟩:=hc;rw[h0];exact⟨us,hus,jH (i:=0) hput.1.2 (λj _=>by rw[dy]) ahZ⟩
   ·exact h t
 |(i,.inr (.inr w))::l,k,vs,s,E9,az,hput,F6,J3,h=>by
  simp only[od,bO]at az;simp only[dn];refine tW hs l k vs _ (λm=> ?_) az.2 hput (λi' w' hw=>F6 i' w' (by simp[hw])) (λid bn=>J3 id (by simp only[lK];exact eO.2 (.inr bn))) λt=> ?_
  ·have:=E9 m;simpa only[j5,qQ,eB]using this
  ·rw[ep];split
   ·rename_i hc;obtain⟨rfl,_⟩:=hc;exact F6 i w (by simp) _ (hs i)
   ·exact h t
end
theorem iU:∀(l:List (Nat×yw)) (k:Nat) (vs s:List AV),(dn l k vs s).length=s.length
 |[],_,_,_=>rfl
 |(i,.inl sh)::l,k,vs,s=>by simp only[dn];rw[iU l,bU]
 |(i,.inr (.inl ss))::l,k,vs,s=>by simp only[dn];rw[iU l,bU]
 |(i,.inr (.inr w))::l,k,vs,s=>by simp only[dn];rw[iU l,bU]
def unp (nt:Nat)(an:zX)(pk:Pack):St:=⟨dn an.slots 0 pk.vals (dm .undef nt),fR an.aq 0 pk.aq⟩
def gG (n:Nat)(C:Ctx)(a:Act):Prop:=
 a.defers.Nodup/\∀d∈a.defers,∃D,d={target:=.collected D,args:= #[]}/\n<=D/\D<C.w.heap.size/\¬C.own D/\C.w.heap[D]? =some (.deferred (some []))
theorem gG.nil {n:Nat}{C:Ctx}{a:Act}(h:a.defers=[]):gG n C a:=⟨by rw[h];exact List.nodup_nil,λd hd=>by rw[h]at hd;cases hd⟩
theorem gG.ext {n:Nat}{C C':Ctx}{a a':Act}(h:gG n C a)(hx:Ext C C')(hd:a'.defers=a.defers):gG n C' a':=⟨hd▸h.1,λd hm=>by
 obtain⟨D,h1,h2,h3,h4,h5⟩:=h.2 d (hd▸hm);exact⟨D,h1,h2,gp h3 hx.size,λho=>h4 (hx.own D h3 ho),by rw[hx.keep D h3 h4];exact h5⟩⟩
theorem gG.Kc {n m:Nat}{C C':Ctx}{a a':Act}(h:gG n C a)(hx:fV m C C')(hd:a'.defers=a.defers):gG n C' a':=⟨hd▸h.1,λd hm=>by
 obtain⟨D,h1,h2,h3,h4,h5⟩:=h.2 d (hd▸hm);exact⟨D,h1,h2,gp h3 hx.size,λho=>h4 (hx.own D h3 ho),by rw[hx.keep D h3 h4];exact h5⟩⟩
theorem mE {m:Nat}:∀(l:List (Nat×yw)) (k:Nat) (vs s:List AV),(l.all λx=>match x.2 with| .inr (.inr w)=>G_ m w|_=>true)=true->(∀t,G_ m (nth .undef s t)=true)->∀t,G_ m (nth .undef (dn l k vs s) t)=true
 |[],_,_,_,_,h,t=>h t
 |(i,.inl sh)::l,k,vs,s,hl,h,t=>by
  simp only[oO,bO]at hl;simp only[dn];refine mE l _ _ _ hl.2 (λt=> ?_) t;rw[ep];split
  ·rfl
  ·exact h t
 |(i,.inr (.inl ss))::l,k,vs,s,hl,h,t=>by
  simp only[oO,bO]at hl;simp only[dn];refine mE l _ _ _ hl.2 (λt=> ?_) t;rw[ep];split
  ·rfl
  ·exact h t
 |(i,.inr (.inr w))::l,k,vs,s,hl,h,t=>by
  simp only[oO,bO]at hl;simp only[dn];refine mE l _ _ _ hl.2 (λt=> ?_) t;rw[ep];split
  ·exact hl.1
  ·exact h t
theorem NG {nt m:Nat}{an:zX}{pk:Pack}(h:Df m an=true)(t:Nat):G_ (FC an) (nth .undef (unp nt an pk).slots t)=true:=by
 simp only[Df,bO]at h;refine mE _ _ _ _ h.2 (λt=> ?_) t;rw[n_,dp];simp only[dO,uO];split<;>rfl
theorem Ua {C:Ctx}(az:Ok C){D:Nat}(hg:nG<=D)(ho:¬C.own D)(hw:C.w.heap[D]? =some (.deferred (some []))):Ok (C.ke (C.w.putObj D (.deferred none)))/\nM C (C.ke (C.w.putObj D (.deferred none))):=by
 have hne:∀b,b≠D->(C.w.putObj D (.deferred none)).heap[b]? =C.w.heap[b]?:=λb hb=>Ap hb;have hsz:(C.w.putObj D (.deferred none)).heap.size=C.w.heap.size:=by simp[World.putObj]
 have hW:nM C (C.ke (C.w.putObj D (.deferred none))):=by
  refine⟨Nat.le_of_eq hsz.symm,λb hb hO off x hx=> ?_,λ_ _ h=>h,λid h=>⟨h,λb' hb=>⟨b',hb,rfl,dx _⟩⟩,λb carr e fr hob hc=>⟨carr,fr,(hne b λe=>ho (e▸hob)).trans hc,rfl⟩⟩;have:b≠D:=λe=>by subst e;simp[World.cell?,hw]at hx
  show(C.w.putObj D (.deferred none)).cell? _=_;rw[nT (w:=C.w) (hne b this)];exact hx
 refine⟨⟨⟨λb hb=>⟨by show b<(C.w.putObj D (.deferred none)).heap.size;rw[hsz];exact(az.gr.low b hb).1,(az.gr.low b hb).2⟩,?_⟩,λid b hl=>hW.QV (az.blk id b hl) rfl (λ_=>FK) λn hn=>hne n λe=>ho (e▸⟨id,b,hl,hn⟩),az.inj,λid b n hl hn=>by show n<(C.w.putObj D (.deferred none)).heap.size;rw[hsz];exact az.Mr id b n hl hn,
  λn hn=>⟨by show n<(C.w.putObj D (.deferred none)).heap.size;rw[hsz];exact(az.x n hn).1,(az.x n hn).2⟩⟩,hW⟩
 have:VW (C.ke (C.w.putObj D (.deferred none))).w=VW C.w:=by
  funext b;unfold VW;split
  ·exact hne b (by omega)
  ·rfl
 rw[this];exact az.gr.at_
theorem P' {m:Nat}{C0 C:Ctx}(hx:fV m C0 C){D:Nat}(hD:C0.w.heap.size<=D):fV m C0 (C.ke (C.w.putObj D (.deferred none))):=by
 have hne:∀b,b<C0.w.heap.size->(C.w.putObj D (.deferred none)).heap[b]? =C.w.heap[b]?:=λb hb=>Ap (by omega);refine⟨hx.tape,hx.os,hx.out,by show _<=(C.w.putObj D (.deferred none)).heap.size;simp[World.putObj];exact hx.size,hx.X,λb hb ho=>(hne b hb).trans (hx.keep b hb ho),hx.own,hx.qd,λb carr e fr ho hc=> ?_⟩;obtain⟨c1,f1,h1,h2⟩:=hx.row b carr e fr ho hc;exact⟨c1,f1,(hne b (c_.1 hc).1).trans h1,h2⟩
theorem zt {m:Nat}{C0:Ctx}(h0:nG<=C0.w.heap.size){P:Program}{n:Nat}{fn:Func}{tmps:Array Value}{R:Ending->World->Prop}:∀(ds:List Deferred) (C:Ctx),Ok C->fV m C0 C->ds.Nodup->
  (∀d∈ds,∃D,d={target:=.collected D,args:= #[]}/\C0.w.heap.size<=D/\D<C.w.heap.size/\¬C.own D/\C.w.heap[D]? =some (.deferred (some [])))->
  (∀C':Ctx,Ok C'->fV m C0 C'->nM C C'->C'.h=C.h->LeavesInM Fence.wide n P fn tmps R [] .returning C'.w)->LeavesInM Fence.wide n P fn tmps R ds .returning C.w
 |[],C,az,hx,_,_,hl=>hl C az hx (Ext.refl C).W rfl
 |d::ds,C,az,hx,hn,hd,hl=>by
  obtain⟨D,rfl,h1,h2,h3,h4⟩:=hd d (.head _);obtain⟨k1,k2⟩:=Ua az (by omega) h3 h4;refine⟨by simp,.inl ⟨D,_,rfl,run_takeDeferred h4,?_⟩⟩;refine zt h0 ds _ k1 (P' hx h1) (Cp.1 hn).2 (λd' pU=> ?_) λC' c1 c2 c3 c4=>hl C' c1 c2 ⟨fZ k2.size c3.size,λb hb hO off x hx=>c3.AF b (gp hb k2.size) hO off x (k2.AF b hb hO off x hx),λb hb h=>c3.O b (gp hb k2.size) h,λid hk=>c3.qd id hk,λb carr e fr ho hc=> ?_⟩ c4
  ·obtain⟨D',e1,e2,e3,e4,e5⟩:=hd d' (.tail _ pU);have hne:D'≠D:=λe=>(Cp.1 hn).1 (by rw[<-e,<-e1];exact pU);exact⟨D',e1,e2,by show _<(C.w.putObj D (.deferred none)).heap.size;simp[World.putObj];exact e3,e4,(Ap hne).trans e5⟩
  ·obtain⟨c1',f1,h5,h6⟩:=k2.row b carr e fr ho hc;obtain⟨c2',f2,h7,h8⟩:=c3.row b c1' e f1 ho h5;exact⟨c2',f2,h7,h8.trans h6⟩
def PK (n0 m:Nat)(C0:Ctx)(nt:Nat)(an:zX)(pk:Pack)(a:Act)(w:World):Prop:=
 ni an pk=true->∃C2:Ctx,C2.w=w/\Ok C2/\fV m C0 C2/\SR C2 (unp nt an pk) a/\gG n0 C2 a
def PKS (S:Nat->Prop)(n0 m:Nat)(C0:Ctx)(nt:Nat)(an:zX)(pk:Pack)(a:Act)(w:World):Prop:=
 ni an pk=true->∃C2:Ctx,C2.w=w/\Ok C2/\fV m C0 C2/\SR C2 (unp nt an pk) a/\gG n0 C2 a/\∀b,S b->¬C2.own b
theorem fN {α:Type}{nt:Nat}{an:zX}{pk:Pack}{K:St->Option α}{r:α}(h:cQ nt an pk K=some r):ni an pk=true/\K (unp nt an pk)=some r:=bX h
theorem JL {h:List bw}{l:List K8}{bs:List au}{j:Nat}(hj:j<l.length):known (fR l 0 bs) j:=by
 unfold known;rw[jU _ (sN (j:=0) (bs:=bs) (dD hj))];simp
theorem ib {S:Nat->Prop}{C0 C:Ctx}{n0 m:Nat}(hx:fV m C0 C)(az:Ok C){st:St}{a:Act}(hs:SR C st a)(hd:gG n0 C a)(hS:∀b,S b->¬C.own b){nt:Nat}(hnt:nt<=a.tmps.size){an:zX}{α:Type}{K:Pack->Option α}{r:α}
  (h:rD m an st K=some r):∃pk,K pk=some r/\PKS S n0 m C0 nt an pk a C.w:=by
 unfold rD at h;split at h
 ·cases h
 rename_i mp0 hl0;split at h
 ·cases h
 rename_i mp Dy;split at h
 case isFalse=>cases h
 rename_i hc;simp only[bO]at hc;obtain⟨J3,aek⟩:=hc;obtain⟨ahi,h⟩:=bX h;simp only[bO]at ahi;obtain⟨ahj,alg⟩:=ahi;obtain⟨l1,l2,l3⟩:=gX hl0;obtain⟨k1,k2,k3⟩:=oU Dy;refine⟨_,h,λVt=> ?_⟩;simp only[ni,bO]at Vt;obtain⟨hput,acx⟩:=Vt;have AP:bQ C (cw st.heap):=λid b hb=>by rw[hs.h];exact gV.1 hb
 have VE:rX mp:=k2 (l2 (Vh 0 m));have AJ:∀j y,bZ j mp=some y->known (fR an.aq 0 (j7 (cw st.heap) mp 0 an.aq)) j:=λj y hj=>by
  obtain⟨x,h1,h2⟩:=P8 hj;have:=iC.1 aek x h1;rw[h2]at this;exact JL (h:=[]) (by simpa[FQ]using this)
 have hno:∀id,id∈lK st.slots an.slots++qM (cw st.heap) mp 0 an.aq->∀j,sig mp j≠some id:=λid bn j=>by
  have:=iC.1 J3 id bn;exact YS (by simpa using this) j
 have hlt:∀j b,live (fR an.aq 0 (j7 (cw st.heap) mp 0 an.aq)) j b->∃B,an.aq[j]? =some B/\b=vU (jn (cw st.heap) (bZ j mp) B) B:=λj b hb=>by
  have hj:j<an.aq.length:=by have:=BM hb;rwa [sM]at this
  refine⟨an.aq[j],dD hj,?_⟩;have:=afl (look:=cw st.heap) (mp:=mp) (dD hj);unfold live at hb;rw[this]at hb;simpa using hb.symm
 have hT:∀{j sz:Nat},an.aq[j]? =some (.inr sz)->vU (jn (cw st.heap) (bZ j mp) (.inr sz)) (.inr sz)=jn (cw st.heap) (bZ j mp) (.inr sz):=λ{j sz} hj=>by
  have h1:=vu acx hj;have h2:=oF (look:=cw st.heap) (mp:=mp) (j:=0) hj;rw[dy]at h1 h2;rw[jU _ h2]at h1;exact YF h1
 have R:eP C (sig mp) (fR an.aq 0 (j7 (cw st.heap) mp 0 an.aq)):=by
  refine⟨az,λj j' id h1 h2=> ?_,λj b hb=> ?_⟩
  ·unfold sig at h1 h2;split at h1
   ·rename_i x hx1;split at h2
    ·rename_i y hy1;subst h1;subst h2;exact VE j j' id hx1 hy1
    ·cases h2
   ·cases h1
  ·obtain⟨B,hB,rfl⟩:=hlt j b hb;have hbl:=k3 j B hB;rw[dy]at hbl;cases B with
   |inr sz=>
    rw[hT hB];rcases hbl with(⟨id,es,g1,g2⟩|⟨id,m,s,jA,g1,g2,_⟩)|g1
    ·refine .inl ⟨id,_,dN g1,AP _ _ g2,?_⟩;simp only[g1,jn,g2];exact⟨rfl,rfl⟩
    ·refine .inl ⟨id,_,dN g1,AP _ _ g2,?_⟩;simp only[g1,jn,g2];exact⟨rfl,λ_=>rfl⟩
    ·refine .inr ⟨dN g1,sz,?_⟩;simp only[g1,jn]
   |inl cs=>
    obtain⟨id,ds,g1,g2,g3⟩:=hbl;refine .inl ⟨id,_,dN g1,AP _ _ g2,?_⟩;simp only[g1,jn,g2,vU,au.gl];show ds.length=(putCells cs 0 (j6 (cw st.heap) cs ds)).length;rw[lS,g3.length]
 refine⟨C.ren (sig mp) (fR an.aq 0 (j7 (cw st.heap) mp 0 an.aq)),rfl,R.okD λj b hb=> ?_,R.Kc hx λid Qq bn=> ?_,⟨rfl,?_,?_⟩,⟨hd.1,λd hm=> ?_⟩,λb hb ho=>hS b hb (R.L6 ho)⟩
 ·obtain⟨B,hB,rfl⟩:=hlt j b hb;have hbl:=k3 j B hB;rw[dy]at hbl;cases B with
  |inr sz=>
   rw[hT hB];rcases hbl with(⟨id,es,g1,g2⟩|⟨id,m,s,jA,g1,g2,_⟩)|g1
   ·simp only[g1,jn,g2];exact R.arr (dN g1) (AP _ _ g2)
   ·simp only[g1,jn,g2];exact R.tab (dN g1) (AP _ _ g2)
   ·simp only[g1,jn];exact I3 (dN g1)
  |inl cs=>
   obtain⟨id,ds,g1,g2,g3⟩:=hbl;obtain⟨cT,Ij,e1,e2,aen⟩:=FW alg hB;rw[dy,g1]at e1;cases e1;rw[g2]at e2;cases e2;have Z3:=xo acx hB;rw[dy,jU _ (oF hB),dy]at Z3;simp only[g1,jn,g2,au.gl]at Z3;simp only[g1,jn,g2,vU,au.gl];have hlen:cs.length=ds.length:=g3.length;refine R.box (dN g1) (AP _ _ g2) (by rw[lS,hlen]) λk c d u hc hd hv=> ?_;have ir:k<cs.length:=by rw[hlen];exact(ko.1 hd).1
   have hck:=dD ir;rw[xk hck]at hc;cases dL:cs[k]with
   |inl s=>
    rw[dL]at hc hck;simp only[dy,kE]at hc;subst hc;obtain⟨p,p1,p2⟩:=abi R AP (CZ aen hck hd);have p3:=A6 (look:=cw st.heap) hlen hck hd;rw[p1]at p3;have p4:nth .undef (j6 (cw st.heap) cs ds) k=.t (.p p):=by simpa using p3.symm
    have p5:=vr Z3 hck;rw[dy]at p5;rw[p4]at p5|-;refine jm p5 (p2 u hv λx hx=>hno x (eO.2 (.inr ?_)));exact DL hB (by rw[dy];exact g1) g2 x (AU hck hd x hx)
   |inr w=>
    rw[dL]at hc hck;simp only[kE]at hc;subst hc;obtain⟨c',h5,h6⟩:=g3.get k _ hck;rw[hd]at h5;cases h5;exact F0 R AJ h6 hv
 ·have hg:bZ id mp=some (some id):=k1 _ _ (l1 _ _ (by rw[Ds,aK (by omega)]));exact⟨AJ _ _ hg,dN hg⟩
 ·show l_ _ (dn an.slots 0 (j5 (cw st.heap) st.slots an.slots) (dm .undef nt)) a.tmps;refine tW R AP hs.s an.slots 0 _ _ (λm=>by rw[dy]) ahj hput (λi w hw u hu=> ?_) (λid bn=>hno id (eO.2 (.inl bn))) λt=> ?_
  ·cases OJ:JS w with
   |false=>exact F0 R AJ ((l3 i w hw OJ).mono k1) hu
   |true=>
    have h1:=CX ahj hw;have h2:aeY w (nth .undef st.slots i)=true:=by
     unfold Ay at h1;simpa[OJ]using h1
    have h3:w=nth .undef st.slots i:=by unfold aeY at h2;simpa using h2
    rw[<-h3]at hu;cases w with
    |aj f cs=>obtain⟨us,rfl,ha⟩:=hu;exact⟨us,rfl,R.vps ha⟩
    |_=>cases OJ
  ·have:nth AV.undef (dm .undef nt) t=.undef:=by
    rw[dp,n_,dO,uO];split<;>rfl
   rw[this];trivial
 ·show(dn an.slots 0 _ (dm .undef nt)).length<=_;rw[iU,eW];exact hnt
 ·obtain⟨D,h1,h2,h3,h4,h5⟩:=hd.2 d hm;exact⟨D,h1,h2,h3,λho=>h4 (R.L6 ho),h5⟩
theorem lA {C0 C:Ctx}{n0 m:Nat}(hx:fV m C0 C)(az:Ok C){st:St}{a:Act}(hs:SR C st a)(hd:gG n0 C a){nt:Nat}(hnt:nt<=a.tmps.size){an:zX}{α:Type}{K:Pack->Option α}{r:α}
  (h:rD m an st K=some r):∃pk,K pk=some r/\PK n0 m C0 nt an pk a C.w:=by
 obtain⟨pk,h1,h2⟩:=ib (S:=λ_=>False) hx az hs hd (λ_ h=>h.elim) hnt h;exact⟨pk,h1,λho=>by obtain⟨C2,k1,k2,k3,k4,k5,_⟩:=h2 ho;exact⟨C2,k1,k2,k3,k4,k5⟩⟩
end
section
open Go.RowKit
attribute [local go_sem] Oper.semAt_some
theorem I2 {n:Nat}{P:Program}{row:String}{args:Array Value}{w:World}{R:Value->World->Prop}(h:Rows P row args w R):RowsIn Fence.wide n P row args w R:=
 λc cs _=>let ⟨v,w',r,s⟩:=h c cs;⟨v,w',r,stepsIn_wide.2 s⟩
theorem RF {n l:Nat}{P:Program}{o:Oper}{a:Act}{w:World}{next next':Act->World->Prop}{Q:Exit->Act->World->Prop}(h1:1<=n)(hp:∀c,o.op≠.defer c)(hn:∀a w,next a w->next' a w)
  (h:o.wp P a w next Q):o.wpIn (Fence.wide.inRound l) n P a w next' Q:=by
 refine⟨λ_ _=>trivial,?_⟩;rw[Fence.inRound_round,Oper.semAt_some _ _ _ hp];unfold Oper.wp at h;generalize (execOp a.eval o).run P w=r at h|-;cases r with
 |ok nx w'=>
  cases nx with
  |value v=>exact hn _ _ h
  |skip=>exact hn _ _ h
  |defer d=>exact hn _ _ h
  |enter f args=>
   refine⟨λ_=>h1,CallsIn.inRound l ((callsIn_wide.2 h).mono ?_)⟩;intro e w'' he;cases e with
   |returned v=>exact hn _ _ he
   |panicked c=>exact he
   |outgrown=>exact he
  |row row args=>exact⟨λ_=>h1,(I2 h).mono λv w'' he=>hn _ _ he⟩
  |_=>exact h.elim
 |halt st w'=>cases st<;>first|exact h|exact h.elim
theorem lj {n l:Nat}{P:Program}{ops:Array Oper}{Q:Exit->Act->World->Prop}(h1:1<=n)(hp:∀(i:Nat) (o:Oper),ops[i]? =some o->∀c,o.op≠.defer c)(hQ:¬LetsOut Q):
  ∀(is:List Nat) (a:Act) (w:World),wpOps P ops Q is a w->wpOpsIn (Fence.wide.inRound l) n P ops Q is a w
 |[],a,w,h=>h
 |i::is,a,w,h=>by
  simp only[wpOps]at h;simp only[wpOpsIn];cases ho:ops[i]? with
  |none=>
   rw[ho]at h;exact lj h1 hp hQ is a w h
  |some o=>
   rw[ho]at h;simp only at h|-;by_cases hw:Region.wanted o (yielded ops a.tmps)=true
   ·rw[aK hw]at h|-;rcases h with h|⟨_,h⟩
    ·exact RF h1 (hp i o ho) (λa w h=>lj h1 hp hQ is a w h) h
    ·exact absurd h hQ
   ·rw[aC hw]at h|-;exact⟨λ_ _=>trivial,lj h1 hp hQ is _ w h⟩
theorem Wt {id:Nat}{ops:Array Oper}{d:Bool}(h:j8 (.region id ops d)=true)(i:Nat)(o:Oper)(ho:ops[i]? =some o):∀c,o.op≠.defer c:=λc he=>by
 have h1:(ops.any λo=>Ow o.op)=false:=by simpa[j8]using h
 have h2:=Array.any_eq_false.1 h1 i (c_.1 ho).1;rw[(c_.1 ho).2,he]at h2;exact h2 rfl
theorem Ib.round {n l id:Nat}{P:Program}{ops:Array Oper}{draw:Bool}{Q:Exit->Act->World->Prop}{a:Act}{w:World}(h1:1<=n)(hm:P.follows .mixedOrders=true)
  (hp:∀(i:Nat) (o:Oper),ops[i]? =some o->∀c,o.op≠.defer c) (hQ:¬LetsOut Q) (h:Ib P ops draw Q a w):(Code.region id ops draw).wpIn (Fence.wide.inRound l) n P Q a w:=by
 cases draw with
 |false=>exact wpIn_region (lj h1 hp hQ _ _ _ h)
 |true=>
  refine wpIn_region_draw λt=> ?_;simp only[Region.schedule,hm,Al,xd];exact lj h1 hp hQ _ _ _ (wpAny_sound ops.size t _ a _ h)
def EC (F:Fence)(n:Nat)(c:Code):Prop:=(F=Fence.wide/\6<=n)\/((∃l,F=Fence.wide.inRound l)/\1<=n/\j8 c=true)
def K6 (F:Fence)(Q:Exit->Act->World->Prop):Prop:=F=Fence.wide\/¬LetsOut Q
theorem Ib.fen {F:Fence}{n id:Nat}{P:Program}{ops:Array Oper}{draw:Bool}{Q:Exit->Act->World->Prop}{a:Act}{w:World}(hF:EC F n (.region id ops draw))(hQ:K6 F Q)(hm:P.follows .mixedOrders=true)
  (h:Ib P ops draw Q a w):(Code.region id ops draw).wpIn F n P Q a w:=by
 rcases hF with⟨rfl,_⟩|⟨⟨l,rfl⟩,h1,h2⟩
 ·exact wpIn_wide.2 (h.wp hm)
 ·refine h.round h1 hm (Wt h2) (hQ.resolve_left λe=> ?_);have:=congrArg Fence.round e;cases this
def Yj (B:Nat)(W:World)(I:World->Prop)(Ix:Code->World->Prop):Exit->Act->World->Prop
 | .normal,_,W'=>W'.heap[B]? =W.heap[B]?/\W'.heap[B+1]? =W.heap[B+1]?/\I W'
 | .ret,_,W'=>W'.heap[B]? =W.heap[B]?/\W'.heap[B+1]? =W.heap[B+1]?/\Ix .ret W'
 | .exit id,_,W'=>W'.heap[B]? =W.heap[B]?/\W'.heap[B+1]? =W.heap[B+1]?/\Ix (.exit id) W'
 |_,_,_=>False
def K5 (B:Nat)(I:World->Prop):Prop:=∀W W',I W->W'.os=W.os->W'.tape=W.tape->W'.output=W.output->W.heap.size<=W'.heap.size->(∀k,k<W.heap.size->k≠B->k≠B+1->W'.heap[k]? =W.heap[k]?)->I W'
theorem K5.put {B:Nat}{I:World->Prop}(h:K5 B I){W:World}{l:Nat}(hl:l=B\/l=B+1)(o:Obj)(hi:I W):I (W.putObj l o):=by
 have hg:=grownBy_putObj' W l o;refine h _ _ hi hg.os hg.tape hg.output hg.size λk hk h1 h2=>hg.block k hk λe=> ?_;cases e;rcases hl with rfl|rfl
 ·exact h1 rfl
 ·exact h2 rfl
theorem K5.alloc {B:Nat}{I:World->Prop}(h:K5 B I){W:World}(o:Obj)(hi:I W):I (W.alloc o):=
 h _ _ hi rfl rfl rfl (by simp) λk hk _ _=>by show(W.heap.push o)[k]? =_;rw[Array.getElem?_push,aC (by omega)]
theorem RG {P:Program}{g:Operand}{ps:Array Tmp}{Nr body:Code}{Q:Exit->Act->World->Prop}{a:Act}{w:World}{N gf Bs n:Nat}{sv:Value}{el:Nat->Value}(hN:6<=N)(Z1:O_ P gf)(hps:ps.size=2)
  (hg:a.eval g=.func (.func gf) #[] #[.pointer (some ⟨Bs,0,none⟩)]) (hn:n<=140737488351232) (hb:∀b,qu Bs sv b->b<w.heap.size)
  (hB:w.cell? ⟨Bs,0,none⟩=some sv) (AL:(∃a cap,sv=.slice a 0 cap/\n=0)\/∃b off cap,sv=.slice (some ⟨b,off,none⟩) n cap/\∀j,j<n->w.cell? ⟨b,off+j,none⟩=some (el j))
  (I:Nat->World->Prop) (Ix:Code->World->Prop) (hI:∀k,K5 w.heap.size (I k)) (hIx:∀c,K5 w.heap.size (Ix c)) (h0:∀W,W.os=w.os->W.tape=w.tape->W.output=w.output->w.heap.size+2<=W.heap.size->(∀k,k<w.heap.size->W.heap[k]? =w.heap[k]?)->I 0 W) (Ax:Nat->Act->World->Prop) (hAx:∀k a',K5 w.heap.size (Ax k a'))
  (hIb:∀k W b,I k W->qu Bs sv b->W.heap[b]? =w.heap[b]?)
  (al6:∀(l k:Nat) (W:World) (K:Act->World->Prop),k<n->w.heap.size+2<=W.heap.size->I k W->(∀a' W',W'.heap[w.heap.size]? =W.heap[w.heap.size]?->W'.heap[w.heap.size+1]? =W.heap[w.heap.size+1]?->Ax k a' W'->K a' W')->
   Nr.wpIn (Fence.wide.inRound l) (N-1-1) P (Exit.then K (λ_ _ _=>False)) {tmps:=(ps.zip #[.int .i64 ((n-1-k:Nat):Int),el (n-1-k)]).foldl (λt (p,v)=>t.setIfInBounds p v) a.tmps,defers:=[]} W)
  (VM:∀(l k:Nat) (a':Act) (W:World),k<n->w.heap.size+2<=W.heap.size->Ax k a' W->body.wpIn (Fence.wide.inRound l) (N-1-1) P (Yj w.heap.size W (I (k+1)) Ix) a' W)
  (hdone:∀(W:World),I n W->W.heap[w.heap.size]? =some (.deferred (some []))->Q .normal {a with defers:={target:=.collected w.heap.size,args:= #[]}::a.defers} W)
  (ag6:∀(c:Code) (W:World),Ix c W->W.heap[w.heap.size]? =some (.deferred (some []))->c.wpIn Fence.wide N P Q {a with defers:={target:=.collected w.heap.size,args:= #[]}::a.defers} W):
  (Code.rangeFunc g ps Nr body).wpIn Fence.wide N P Q a w:=by
 refine wpIn_rangeFunc ?_;intro fn hfn;show∃l _ _ _ _ _ _ _,(Instr.enterLoop _ _ _ _ _ none).run P w=_/\_;obtain⟨rec,E'⟩:∃rec:LoopState->Option Code->Loop,rec=λst pe=>{state:=st,pending:=pe,fn,tmps:=a.tmps,params:=ps,assign:=Nr,body,defers:=w.heap.size}:=⟨_,rfl⟩
 obtain⟨W1,hW1⟩:∃W1,(w.alloc (.deferred (some []))).alloc (.loop (rec .ready none))=W1:=⟨_,rfl⟩
 have hL1:W1.heap[w.heap.size+1]? =some (.loop (rec .ready none)):=by
  rw[<-hW1];have:=World.alloc_heap_new (w.alloc (.deferred (some []))) (.loop (rec .ready none));rwa [World.size_alloc]at this
 have hK1:W1.heap[w.heap.size]? =some (.deferred (some [])):=by
  rw[<-hW1];exact(Below.heap_alloc _ _ _ (by simp)).trans (World.alloc_heap_new w _)
 have hold:∀b,b<w.heap.size->W1.heap[b]? =w.heap[b]?:=λb hb=>by
  rw[<-hW1];exact(Below.heap_alloc _ _ _ (by simp;omega)).trans (Below.heap_alloc _ _ _ hb)
 have hI1:I 0 W1:=h0 W1 (by rw[<-hW1];rfl) (by rw[<-hW1];rfl) (by rw[<-hW1];rfl) (by rw[<-hW1];simp) hold;have hbs:=hb Bs (.inl rfl);refine⟨w.heap.size+1,[{target:=.collected w.heap.size,args:= #[]}],W1,{target:=.fn (.func gf) #[.pointer (some ⟨Bs,0,none⟩)],args:= #[.func (.yield (w.heap.size+1)) #[] #[]]},W1,gf,
  #[.func (.yield (w.heap.size+1)) #[] #[]]++ #[.pointer (some ⟨Bs,0,none⟩)],W1,?_,?_,?_,?_,λ_=>by omega,?_⟩
 ·rw[<-hW1,E'];exact run_enterLoop_outer _ _ _ _ _
 ·simp only[resolve,hg];simp[go_sem]
 ·intro f' hf';simp[Target.leads]at hf';subst hf';trivial
 ·simp[invoke,go_sem,Z1.1]
 ·refine(Z1.2 (N-1) (w.heap.size+1) Bs sv n el W1
   (λk W=>I k W/\W.heap[w.heap.size+1]? =some (.loop (rec .ready none))/\W.heap[w.heap.size]? =some (.deferred (some [])))
   (λW=>∃c,Ix c W/\W.heap[w.heap.size+1]? =some (.loop (rec .done (some c)))/\W.heap[w.heap.size]? =some (.deferred (some [])))
   (by omega) hn ((nT (w:=w) (hold _ hbs)).trans hB) (AL.imp (λh=>h) λ⟨b,off,cap,e,hc⟩=>⟨b,off,cap,e,λj hj=>(nT (w:=w) (hold _ (hb b (.inr ⟨_,_,_,e,by omega⟩)))).trans (hc j hj)⟩) ?_ ⟨hI1,hL1,hK1⟩).mono ?_
  ·rintro k W hk ⟨hi,hl,XA⟩;have hlt:w.heap.size+1<W.heap.size:=(c_.1 hl).1;have hy:=run_yield (P:=P) (args:= #[.int .i64 ((n-1-k:Nat):Int),el (n-1-k)]) hl (by rw[E'];simp[hps]);rw[E']at hy;refine⟨fn,_,Nr,body,hy,roundIn_of_wpIn hfn (al6 _ k W _ hk (by omega) hi ?_)⟩;clear hy;intro a' Wa s1 s2 hax;have hlA:=s2.trans hl;have hkA:=s1.trans XA;have als:w.heap.size+1<Wa.heap.size:=(c_.1 hlA).1;refine⟨_,run_beginRound hlA (by rw[E']),?_⟩;have hl2:(Wa.putObj (w.heap.size+1) (.loop {rec .ready none with state:=.busy})).heap[w.heap.size+1]? =some (.loop {rec .ready none with state:=.busy}):=World.putObj_heap_same als;have hk2:(Wa.putObj (w.heap.size+1) (.loop {rec .ready none with state:=.busy})).heap[w.heap.size]? =some (.deferred (some [])):=(Ap (by omega)).trans hkA;have E_:(Wa.putObj (w.heap.size+1) (.loop {rec .ready none with state:=.busy})).heap.size=Wa.heap.size:=by simp[World.putObj]
   refine wpIn_mono (VM _ k a' _ hk (by rw[E_];omega) ((hAx k a').put (.inr rfl) _ hax)) ?_;have fin:∀(jump:Option Code) (W3:World),W3.heap[w.heap.size]? =(Wa.putObj (w.heap.size+1) (.loop {rec .ready none with state:=.busy})).heap[w.heap.size]?->W3.heap[w.heap.size+1]? =(Wa.putObj (w.heap.size+1) (.loop {rec .ready none with state:=.busy})).heap[w.heap.size+1]?->
     (Instr.endRound (w.heap.size+1) jump).run P W3=.ok (.bool jump.isNone) (W3.putObj (w.heap.size+1) (.loop (rec (if jump.isNone then .ready else .done) jump)))/\
     (W3.putObj (w.heap.size+1) (.loop (rec (if jump.isNone then .ready else .done) jump))).heap[w.heap.size+1]? =some (.loop (rec (if jump.isNone then .ready else .done) jump))/\
     (W3.putObj (w.heap.size+1) (.loop (rec (if jump.isNone then .ready else .done) jump))).heap[w.heap.size]? =some (.deferred (some [])):=λjump W3 e1 e2=>by
    have hl3:=e2.trans hl2;have:=run_endRound (P:=P) jump hl3;rw[E']at this|-;exact⟨this,World.putObj_heap_same (by rw[E']at hl3;exact(c_.1 hl3).1),(Ap (by omega)).trans (e1.trans hk2)⟩
   rintro e a3 W3 hp;cases e with
   |normal=>
    obtain⟨e1,e2,hi3⟩:=hp;obtain⟨hr,hl4,hk4⟩:=fin none W3 e1 e2;have hi4:=(hI (k+1)).put (.inr rfl) (.loop (rec .ready none)) hi3;exact⟨_,_,hr,.inl ⟨rfl,⟨hi4,hl4,hk4⟩,λb hb'=>(hIb _ _ b hi4 hb').trans (hIb _ _ b hi hb').symm⟩⟩
   |ret=>
    obtain⟨e1,e2,hi3⟩:=hp;obtain⟨hr,hl4,hk4⟩:=fin (some .ret) W3 e1 e2;exact⟨_,_,hr,.inr ⟨rfl,.ret,(hIx _).put (.inr rfl) _ hi3,hl4,hk4⟩⟩
   |exit id=>
    obtain⟨e1,e2,hi3⟩:=hp;obtain⟨hr,hl4,hk4⟩:=fin (some (.exit id)) W3 e1 e2;exact⟨_,_,hr,.inr ⟨rfl,.exit id,(hIx _).put (.inr rfl) _ hi3,hl4,hk4⟩⟩
   |goto t=>exact hp.elim
   |panic ch=>exact hp.elim
   |outgrown=>exact hp.elim
  ·rintro e W2 ⟨⟨v,rfl⟩,(⟨hi,hl,hk⟩|⟨c,hi,hl,hk⟩)⟩
   ·exact⟨none,_,by have:=run_endLoop (P:=P) hl (by rw[E'];simp);rw[E']at this;exact this,hdone _ ((hI n).put (.inr rfl) _ hi) ((Ap (by omega)).trans hk)⟩
   ·exact⟨some c,_,by have:=run_endLoop (P:=P) hl (by rw[E'];simp);rw[E']at this;exact this,ag6 c _ ((hIx c).put (.inr rfl) _ hi) ((Ap (by omega)).trans hk)⟩
end
theorem Ex.OT:∀{a b:Ex},Ex.iI a b=true↔a=b
 | .eF,.eF=>by simp[Ex.iI]
 | .exit i,.exit j=>by simp[Ex.iI]
 | .ret,.ret=>by simp[Ex.iI]
 | .eF,.exit _=>by simp[Ex.iI]
 | .eF,.ret=>by simp[Ex.iI]
 | .exit _,.eF=>by simp[Ex.iI]
 | .exit _,.ret=>by simp[Ex.iI]
 | .ret,.eF=>by simp[Ex.iI]
 | .ret,.exit _=>by simp[Ex.iI]
def ah':Ex->Exit
 | .eF=>.normal
 | .exit i=>.exit i
 | .ret=>.ret
theorem gS {m:Nat}{p:Ex×Pack}:∀{Ii:List (Ex×zX)} {e:Ex} {st:St},cU m Ii some e st=some p->p.1=e/\∃an,rD m an st some=some p.2/\
  ∀{α:Type} {nt:Nat} {K:Ex->St->Option α} {r:α},eU nt Ii p K=some r->cQ nt an p.2 (K e)=some r
 |[],_,_,h=>by cases h
 |(x,an)::l,e,st,h=>by
  simp only[cU]at h;rcases HP h with⟨hb,h⟩|⟨hb,h⟩
  ·have hex:=Ex.OT.1 hb;subst hex;have hn:=(jw m an st some λpk=>some (e,pk)).trans h;obtain⟨pk,h1,h2⟩:=gI.1 hn;cases h2;refine⟨rfl,an,h1,λhu=> ?_⟩;simp only[eU]at hu;have:Ex.iI e e=true:=Ex.OT.2 rfl;rw[this]at hu;exact hu
  ·obtain⟨h1,an',h2,h3⟩:=gS h;refine⟨h1,an',h2,λhu=>h3 ?_⟩;simp only[eU,h1,hb]at hu;exact hu
theorem least {p:Nat->Prop}(h:∃n,p n):∃n,p n/\∀k,p k->n<=k:=by
 obtain⟨n,hn⟩:=h
 induction n using Nat.strongRecOn with
 |_ n ih=>
  rcases Classical.em (∃k,k<n/\p k)with⟨k,h1,h2⟩|h
  ·exact ih k h1 h2
  ·exact⟨n,hn,λk hk=>Nat.not_lt.1 λhlt=>h ⟨k,hlt,hk⟩⟩
theorem Pa {Fn:Fence}{N:Nat}{P:Program}{Q:Exit->Act->World->Prop}{c:Code}(I:Nat->Act->World->Prop){a:Act}{w:World}(n:Nat)(h:I n a w)
  (round:∀n a w,I n a w->c.wpIn Fn N P (Exit.then (λa' w'=>∃k,k<n/\I k a' w') Q) a w):(Code.loop c).wpIn Fn N P Q a w:=by
 classical
 refine wpIn_loop (λa w=>∃n,I n a w) (λa w=>if h:∃n,I n a w then Classical.choose (least h) else 0) ⟨n,h⟩ λa w hI=> ?_;have hsp:=Jg (least hI);refine wpIn_mono (round _ a w hsp.1) λe a' w' hq=> ?_;cases e with
 |normal=>
  obtain⟨k,hk,hIk⟩:=hq;refine⟨⟨k,hIk⟩,?_⟩;show(if h:∃n,I n a' w' then Classical.choose (least h) else 0)<(if h:∃n,I n a w then Classical.choose (least h) else 0);rw[dif_pos ⟨k,hIk⟩,dif_pos hI];exact Nat.lt_of_le_of_lt ((Jg (least (p:=λn=>I n a' w') ⟨k,hIk⟩)).2 k hIk) hk
 |exit id=>exact hq
 |goto l=>exact hq
 |ret=>exact hq
 |panic ch=>exact hq
 |outgrown=>exact hq
def Xq (E:Env)(I:Inl):Prop:=∀(g:Nat) (α:Type) (args:List AV) (h:List bw) (K:AV->List bw->Option α) (r:α) (C:Ctx) (us:Array Value),
 I g α args h K=some r->bH g E.v_=true->Ok C->C.h=h->All2 (VA C) args us.toList->
  Calls E.P g us C.w λe w'=>match e with
   | .returned u=>∃(C':Ctx) (v:AV),C'.w=w'/\Ok C'/\Ext C C'/\VA C' v u/\K v C'.h=some r
   |_=>False
theorem Dj:∀{l:List Oper} {o:Oper},Ot l=some o->l.dropLast.length+1=l.length/\l[l.dropLast.length]? =some o
 |[],_,h=>by cases h
 |[x],_,h=>by cases h;exact⟨rfl,rfl⟩
 |x::y::l,o,h=>by
  obtain⟨h1,h2⟩:=Dj (l:=y::l) h;exact⟨by simp,by simpa using h2⟩
theorem Es {x:Nat}:∀{n:Nat},uH x n=true->∀m,m<n->x.testBit m=true
 |0,_,m,hm=>by omega
 |n+1,h,m,hm=>by
  simp only[uH,bO]at h;by_cases he:m=n
  ·subst he;exact h.1
  ·exact Es h.2 m (by omega)
theorem SR.akA {C C':Ctx}{st:St}{a:Act}(hs:SR C st a)(hx:Ext C C')(d:Option Nat){v:AV}{u:Value}(hv:VA C' v u):SR C' ⟨cq d v st.slots,C'.h⟩ (a.put d u):=by
 refine⟨rfl,λt=> ?_,by rw[xj];exact fZ (Nat.le_of_eq (e_ ..)) hs.n⟩;have h0:=hx.va (hs.s t);show VA C' (nth .undef (cq d v st.slots) t) _;rw[e9];cases d with
 |none=>rw[aC (by simp)];exact h0
 |some d=>
  simp only[Act.put,uQ]at h0|-;by_cases hdt:d=t
  ·subst hdt;by_cases hlt:d<st.slots.length
   ·rw[aK ⟨rfl,hlt⟩,Array.getElem?_setIfInBounds_self_of_lt (gp hlt hs.n)];exact hv
   ·rw[aC λh=>hlt h.2,ud (Nat.not_lt.1 hlt)];trivial
  ·rw[aC λh=>hdt (pH h.1),Array.getElem?_setIfInBounds_ne hdt];exact h0
def Ctx.FE (C:Ctx)(id:Nat)(B:au):Ctx:=⟨C.w,C.ι,upd (.blk B) C.h id,C.X,C.κ⟩
theorem zI {C:Ctx}{id:Nat}{B B':au}(hl:live C.h id B)(hlk:pQ B B'):Ext C (C.FE id B') where
 tape:=rfl
 os:=rfl
 out:=rfl
 size:=dB _
 X:=rfl
 keep _ _ _:=rfl
 own b _ h:=by
  obtain⟨cT,blk,hl',nW⟩:=h;replace nW:C.at cT b:=nW;rcases bR.1 hl' with⟨rfl,_,_⟩|⟨_,h1⟩
  ·exact⟨_,B,hl,nW⟩
  ·exact⟨cT,blk,h1,nW⟩
 qd cT hk:=by
  refine⟨kL (by simp) hk,λb hb=> ?_⟩;rcases bR.1 hb with⟨rfl,_,h2⟩|⟨_,h1⟩
  ·cases h2;exact⟨B,hl,rfl,hlk⟩
  ·exact⟨b,h1,rfl,dx _⟩
 row b carr e fr _ h:=⟨carr,fr,h,rfl⟩
theorem Jp {C:Ctx}(az:Ok C){id:Nat}{B B':au}(hl:live C.h id B)(hlk:pQ B B')(hB:q9 (C.FE id B') id B'):Ok (C.FE id B'):=by
 have hback:∀{cT b'},live (C.FE id B').h cT b'->∃b,live C.h cT b:=by
  intro cT b' h;rcases bR.1 h with⟨rfl,_,_⟩|⟨_,h1⟩
  ·exact⟨B,hl⟩
  ·exact⟨b',h1⟩
 refine az.step (zI hl hlk) (λcT b hl'=> ?_) (λZU Ql m b b' h1 h2 e1 e2=> ?_) (λZU b m h1 h2=>.inl (by obtain⟨c,k⟩:=hback h1;exact⟨c,k,h2⟩))
 ·rcases bR.1 hl' with⟨rfl,_,h2⟩|⟨_,h1⟩
  ·cases h2;exact .inl hB
  ·exact .inr ⟨h1,rfl,λ_=>FK,λ_ _=>rfl⟩
 ·obtain⟨c1,k1⟩:=hback h1;obtain⟨c2,k2⟩:=hback h2;exact az.inj ZU Ql m c1 c2 k1 k2 e1 e2
theorem SR.af4 {C C':Ctx}{st:St}{a:Act}(hs:SR C st a)(hx:Ext C C'){s:Nat}{v:AV}(hv:VA C' v (a.tmps.getD s Go.undef)):SR C' ⟨upd v st.slots s,C'.h⟩ a:=by
 refine⟨rfl,λt=> ?_,by show(upd v st.slots s).length<=_;rw[bU];exact hs.n⟩;show VA C' (nth .undef (upd v st.slots s) t) _;rw[ep];split
 ·rename_i h;rw[<-h.1];exact hv
 ·exact hx.va (hs.s t)
theorem J7 {C:Ctx}(az:Ok C){st:St}{a:Act}(hs:SR C st a)(s:Nat)(c:Option Nat):∃C':Ctx,C'.w=C.w/\Ok C'/\Ext C C'/\SR C' (VX s c st) a:=by
 have same:∃C':Ctx,C'.w=C.w/\Ok C'/\Ext C C'/\SR C' st a:=⟨C,rfl,az,Ext.refl C,hs⟩
 have hl:∀id b,cw st.heap id=some b->live C.h id b:=λid b hb=>by rw[hs.h];exact gV.1 hb
 have hd:∀id,bK [(id,bw.dead)]:=λid u hu=>by simp only[jL]at hu;subst hu;rfl
 unfold VX;split
 ·rename_i id ak;split
  ·rename_i sz es hb;have h0:=hs.s s;rw[ak]at h0;obtain⟨_,_,h3⟩:=h0;have hf:=eY az (hl _ _ hb) (h3 _ _ (hl _ _ hb)) (hd id) (by simp);refine⟨C.kill [(id,.dead)],rfl,ic az (hd id),cB C (hd id),?_⟩;have:=hs.af4 (cB C (hd id)) (s:=s) (v:=.t (.p (.sl sz es))) hf;rw[show(C.kill [(id,bw.dead)]).h=upd .dead st.heap id by show upd .dead C.h id=_;rw[hs.h]]at this;exact this
  ·exact same
 ·rename_i vs ak;split
  ·rename_i cs us hp;have h0:=hs.s s;rw[ak]at h0;obtain⟨Lo,hu,ha⟩:=h0;have hK:=oc hp;have hv:=jT az hl ha hp hK λy hy=>hy;refine⟨C.kill us,rfl,ic az hK,cB C hK,?_⟩;have:=hs.af4 (cB C hK) (s:=s) (v:=.t (.agg cs)) ⟨Lo,hu,hv⟩;rw[show(C.kill us).h=bh us st.heap by show bh us C.h=_;rw[hs.h]]at this;exact this
  ·exact same
 ·rename_i k b ak;split
  ·rename_i cs hb;split
   ·rename_i id hc;split
    ·rename_i sz es MK;cases nz:Nat.blt k 1000 with
     |false=>exact same
     |true=>
     rw[en];generalize k %1000=k at*;have Lb:=hl _ _ hb;have hli:=hl _ _ MK;have hne:b≠id:=λhe=>by subst he;have:=lH Lb hli;cases this
     have hxk:=cB C (hd id);have Vz:live (C.kill [(id,.dead)]).h b (.box cs):=gW (λe he=>by simp only[jL,xh]at he;exact hne he.1) Lb;have hlk:pQ (.box cs) (.box (upd (.t (.p (.sl sz es))) cs k)):=(bU ..).symm;have ZV:=zI Vz hlk;have hx:=hxk.trans ZV;refine⟨(C.kill [(id,.dead)]).FE b (.box (upd (.t (.p (.sl sz es))) cs k)),rfl,Jp (ic az (hd id)) Vz hlk ?_,hx,?_⟩
     ·obtain⟨n,carr,e,fr,hi,hr,hsz,hf,hcc⟩:=az.blk b _ Lb;refine⟨n,carr,e,fr,hi,hr,by rw[bU];exact hsz,hf,λj c hj=> ?_⟩;rw[oL,qz]at hj;split at hj
      ·rename_i hkj;subst hkj;split at hj
       ·rename_i hlt;cases hj;obtain⟨u,h1,h2,h3⟩:=hcc k _ (dD hlt);rw[jU _ (dD hlt)]at hc;rw[hc]at h2;obtain⟨_,_,h4⟩:=h2;exact⟨u,h1,ZV.vp (eY az hli (h4 _ _ hli) (hd id) (by simp)),h3⟩
       ·cases hj
      ·obtain⟨u,h1,h2,h3⟩:=hcc j c hj;exact⟨u,h1,hx.va h2,h3⟩
     ·exact⟨by show upd _ (upd .dead C.h id) b=_;rw[hs.h],hs.s.ext hx,hs.n⟩
    ·exact same
   ·rename_i hc;cases nz:Nat.blt k 1000 with
    |true=>exact same
    |false=>
    rw[gH];generalize k %1000=cell at*;generalize k/1000=sz at*;have Lb:=hl _ _ hb;have VJ:nth bw.fresh (C.more 1).h st.heap.length=.fresh:=by
     show nth bw.fresh (C.h++dm .fresh 1) _=_;rw[pN,hs.h,ud (dB _)]
    have hB:q9 ((C.more 1).ky C.w st.heap.length none (.arr sz [])) st.heap.length (.arr sz []):=.inl ⟨cG ..,rfl⟩;have hx1:=(pY C 1).trans (nB (C.more 1) (Grow.refl _) (x:=none) (B:=.arr sz []) VJ (λn h=>by cases h));have Fb:=t_ (BF az 1) (Grow.refl _) (x:=none) (B:=.arr sz []) VJ (λn h=>by cases h) hB;have hne:b≠st.heap.length:=λhe=>by
     have:=BM Lb;rw[hs.h]at this;omega
    have Vz:live ((C.more 1).ky C.w st.heap.length none (.arr sz [])).h b (.box cs):=by
     refine bR.2 (.inr ⟨λh=>hne h.1.symm,?_⟩);show nth bw.fresh (C.h++dm .fresh 1) b=_;rw[pN];exact Lb
    have hlk:pQ (.box cs) (.box (upd (.t (.ak st.heap.length)) cs cell)):=(bU ..).symm;have ZV:=zI Vz hlk;have hx:=hx1.trans ZV;refine⟨((C.more 1).ky C.w st.heap.length none (.arr sz [])).FE b (.box (upd (.t (.ak st.heap.length)) cs cell)),rfl,Jp Fb Vz hlk ?_,hx,?_⟩
    ·obtain⟨n,carr,e,fr,hi,hr,hsz,hf,hcc⟩:=az.blk b _ Lb;refine⟨n,carr,e,fr,?_,hr,by rw[bU];exact hsz,hf,λj c hj=> ?_⟩
     ·show pt C.ι st.heap.length none b=_;rw[gM hne];exact hi
     rw[oL,qz]at hj;split at hj
     ·rename_i hkj;subst hkj;split at hj
      ·rename_i hlt;cases hj;obtain⟨u,h1,h2,h3⟩:=hcc cell _ (dD hlt);rw[jU _ (dD hlt)]at hc;rw[hc]at h2;have h0:u=.slice none 0 0:=(λu (h:C.P .bN u)=>show u=.slice none 0 0 by cases h;rfl) _ h2;refine⟨u,h1,⟨?_,⟨_,_,_,h0⟩,λnN es hl'=> ?_⟩,h3⟩
       ·refine kL (by simp) ?_;unfold known;show nth bw.fresh (upd _ (C.h++dm .fresh 1) st.heap.length) _≠_;rw[ep,aK ⟨rfl,by rw[hs.h];simp[eW]⟩];simp
       ·have hl2:live (upd (.blk (.box (upd (.t (.ak st.heap.length)) cs cell))) (upd (.blk (.arr sz [])) (C.h++dm .fresh 1) st.heap.length) b) st.heap.length (.arr nN es):=hl';rcases bR.1 hl2 with⟨h5,_,_⟩|⟨_,h5⟩
        ·exact absurd h5 hne
        ·rcases bR.1 h5 with⟨_,_,h6⟩|⟨h6,_⟩
         ·cases h6;unfold HS;split
          ·rename_i b1 he1;have he1:pt C.ι st.heap.length none st.heap.length=some b1:=he1;rw[cG]at he1;cases he1
          ·exact⟨rfl,h0⟩
         ·exact absurd ⟨rfl,by rw[hs.h];simp[eW]⟩ h6
      ·cases hj
     ·obtain⟨u,h1,h2,h3⟩:=hcc j c hj;exact⟨u,h1,hx.va h2,h3⟩
    ·exact⟨by show upd _ (upd _ (C.h++_) _) b=_;rw[hs.h],hs.s.ext hx,hs.n⟩
   ·exact same
  ·exact same
 ·exact same
theorem xU:∀(l:List (Nat×Option Nat)) {C:Ctx} (_:Ok C) {st:St} {a:Act} (_:SR C st a),∃C':Ctx,C'.w=C.w/\Ok C'/\Ext C C'/\SR C' (MW l st) a
 |[],C,az,st,a,hs=>⟨C,rfl,az,Ext.refl C,hs⟩
 |(s,c)::l,C,az,st,a,hs=>by
  obtain⟨C1,h1,h2,h3,h4⟩:=J7 az hs s c;obtain⟨C2,k1,k2,k3,k4⟩:=xU l h2 h4;exact⟨C2,k1.trans h1,k2,h3.trans k3,k4⟩
theorem Av {C:Ctx}(az:Ok C){st:St}{a:Act}(hs:SR C st a)(E:Env)(f id:Nat):∃C':Ctx,C'.w=C.w/\Ok C'/\Ext C C'/\SR C' (CP E f id st) a:=by
 unfold CP;split
 ·exact xU _ az hs
 ·exact⟨C,rfl,az,Ext.refl C,hs⟩
theorem EC.calm {F:Fence}{N:Nat}{c c':Code}(h:EC F N c)(hc:j8 c=true->j8 c'=true):EC F N c':=h.imp (λh=>h) λ⟨h1,h2,h3⟩=>⟨h1,h2,hc h3⟩
theorem aiu {a b:Bool}(h:(a&&b)=true):a=true:=by cases a<;>simp_all
theorem ait {a b:Bool}(h:(a&&b)=true):b=true:=by cases a<;>simp_all
theorem EC.seq1 {F:Fence}{N:Nat}{x y:Code}(h:EC F N (.seq x y)):EC F N x:=h.calm aiu
theorem EC.ajp {F:Fence}{N:Nat}{x y:Code}(h:EC F N (.seq x y)):EC F N y:=h.calm ait
theorem EC.Wn {F:Fence}{N:Nat}{c:Operand}{x y:Code}(h:EC F N (.cond c x y)):EC F N x:=h.calm aiu
theorem EC.Wm {F:Fence}{N:Nat}{c:Operand}{x y:Code}(h:EC F N (.cond c x y)):EC F N y:=h.calm ait
theorem EC.Nk {F:Fence}{N id:Nat}{x:Code}(h:EC F N (.block id x)):EC F N x:=h.calm λh=>h
theorem EC.agQ {F:Fence}{N:Nat}{x:Code}(h:EC F N (.loop x)):EC F N x:=h.calm λh=>h
theorem K6.then' {F:Fence}{K:Act->World->Prop}{Q:Exit->Act->World->Prop}(h:K6 F Q):K6 F (Exit.then K Q):=h.imp (λh=>h) λh ⟨a,w,hq⟩=>h ⟨a,w,hq⟩
theorem K6.Nk {F:Fence}{id:Nat}{Q:Exit->Act->World->Prop}(h:K6 F Q):K6 F (Exit.inBlock id Q):=h.imp (λh=>h) λh ⟨a,w,hq⟩=>h ⟨a,w,hq⟩
theorem to3 {m:Nat}{C0 C2:Ctx}(zk:Ok C2)(hx2:fV m C0 C2){w':World}{X':Nat->Prop}(h1:w'.tape=C2.w.tape)(h2:w'.os=C2.w.os)(h3:w'.output=C2.w.output)(hs:C2.w.heap.size<=w'.heap.size)
  (hk:∀b,b<C2.w.heap.size->¬C0.X b->w'.heap[b]? =C2.w.heap[b]?) (Lc:∀b,b<C0.w.heap.size->w'.heap[b]? =C2.w.heap[b]?) (hX:∀b,b<C2.w.heap.size->X' b->C0.X b)
  (hX2:∀b,X' b->C0.X b\/(C2.w.heap.size<=b/\b<w'.heap.size)) (hg:∀b,b<nG->w'.heap[b]? =C2.w.heap[b]?):
  Ok (C2.ag w' X')/\fV m (C0.ag C0.w X') (C2.ag w' X')/\nM C2 (C2.ag w' X'):=by
 have oV:∀b,b<C2.w.heap.size->¬C2.X b->w'.heap[b]? =C2.w.heap[b]?:=λb hb hn=>hk b hb (by rw[<-hx2.X];exact hn);have hX':∀b,b<C2.w.heap.size->X' b->C2.O b:=λb hb hx=>.inl (by rw[hx2.X];exact hX b hb hx);refine⟨acb zk zk.Q7 hs oV hX' (λb hb=> ?_) hg,⟨h1.trans hx2.tape,h2.trans hx2.os,h3.trans hx2.out,fZ hx2.size hs,rfl,λb hb ho=>(Lc b hb).trans (hx2.keep b hb ho),hx2.own,hx2.qd,λb carr e fr ho hc=> ?_⟩,OQ zk hs oV hX'⟩
 ·rcases hX2 b hb with h|⟨h,h'⟩
  ·have:=zk.x b (by rw[hx2.X];exact h);exact⟨gp this.1 hs,this.2⟩
  ·refine⟨h',λ⟨id,B,hl,hn⟩=> ?_⟩;have:=zk.Q7 hl hn;omega
 ·obtain⟨c1,f1,h4,h5⟩:=hx2.row b carr e fr ho hc;exact⟨c1,f1,(Lc b (c_.1 hc).1).trans h4,h5⟩
theorem SR.w {C C':Ctx}{st:St}{a:Act}(hs:SR C st a)(hx:nM C C')(hh:C'.h=C.h):SR C' st a:=⟨hh.trans hs.h,λt=>hx.va (hs.s t),hs.n⟩
theorem gG.ag {n:Nat}{C:Ctx}{a:Act}(h:gG n C a){w:World}{X:Nat->Prop}(hs:C.w.heap.size<=w.heap.size)(hD:∀d∈a.defers,∀D,d={target:=.collected D,args:= #[]}->w.heap[D]? =C.w.heap[D]?):gG n (C.ag w X) a:=⟨h.1,λd hm=>by
 obtain⟨D,h1,h2,h3,h4,h5⟩:=h.2 d hm;exact⟨D,h1,h2,gp h3 hs,h4,(hD d hm D h1).trans h5⟩⟩
theorem PKS.ag {S:Nat->Prop}{n0 m:Nat}{C0:Ctx}{nt:Nat}{an:zX}{pk:Pack}{a:Act}{w:World}(h:PKS S n0 m C0 nt an pk a w){w':World}{X':Nat->Prop}(h1:w'.tape=w.tape)(h2:w'.os=w.os)(h3:w'.output=w.output)(hs:w.heap.size<=w'.heap.size)
  (hk:∀b,b<w.heap.size->¬C0.X b->w'.heap[b]? =w.heap[b]?) (Lc:∀b,b<C0.w.heap.size->w'.heap[b]? =w.heap[b]?) (hX:∀b,b<w.heap.size->X' b->C0.X b)
  (hX2:∀b,X' b->C0.X b\/(w.heap.size<=b/\b<w'.heap.size)) (hg:∀b,b<nG->w'.heap[b]? =w.heap[b]?) (hD:∀d∈a.defers,∀D,d={target:=.collected D,args:= #[]}->w'.heap[D]? =w.heap[D]?):
  PKS S n0 m (C0.ag C0.w X') nt an pk a w':=λho=>by
 obtain⟨C2,rfl,zk,hx2,hs2,Qt,hS2⟩:=h ho;obtain⟨k1,k2,k3⟩:=to3 zk hx2 h1 h2 h3 hs hk Lc hX hX2 hg;exact⟨C2.ag w' X',rfl,k1,k2,hs2.w k3 rfl,Qt.ag hs hD,hS2⟩
theorem og:∀(i:Nat) (es:List (List PV)),(nV i es).length=es.length
 |_,[]=>rfl
 |i,e::es=>by simp[nV,og (i+1) es]
theorem Jt:∀(es:List (List PV)) (i j:Nat) (e:List PV),es[j]? =some e->(nV i es)[j]? =some (i+j,e)
 |[],_,_,_,h=>by simp at h
 |x::es,i,0,e,h=>by simp at h;simp[nV,h]
 |x::es,i,j+1,e,h=>by
  have:=Jt es (i+1) j e (by simpa using h);rw[nV,je,this];congr 2;omega
theorem Sk {es:List (List PV)}{k:Nat}(hk:k<es.length):(nV 0 es).reverse.drop k=(es.length-1-k,es[es.length-1-k])::(nV 0 es).reverse.drop (k+1):=by
 have hl:k<(nV 0 es).reverse.length:=by rw[List.length_reverse,og];exact hk
 rw[na hl];congr 1;rw[List.getElem_reverse];have h1:=Jt es 0 (es.length-1-k) _ (dD (by omega));have h2:(nV 0 es).length-1-k=es.length-1-k:=by rw[og]
 have h3:=ko.1 h1;obtain⟨h4,h5⟩:=h3;simp only[h2];rw[h5,dy]
theorem PM {C:Ctx}{es:List (List PV)}{Bs:Nat}{sv:Value}(XF:Bs<C.w.heap.size)(hBO:¬C.O Bs)(h:C.P (.sl 1 es) sv):
  ∃el:Nat->Value,((∃a cap,sv=.slice a 0 cap/\es.length=0)\/∃b off cap,sv=.slice (some ⟨b,off,none⟩) es.length cap/\∀j,j<es.length->C.w.cell? ⟨b,off+j,none⟩=some (el j))/\
   (∀(j:Nat) e,es[j]? =some e->C.P (nth .bN e 0) (el j))/\∀b,qu Bs sv b->b<C.w.heap.size/\¬C.O b:=by
 cases h with
 |yA _ a cap=>
  refine⟨λ_=>Go.undef,.inl ⟨a,cap,rfl,rfl⟩,λj e h=>by simp at h,λb hb=> ?_⟩;rcases hb with rfl|⟨o,l,c,e,hl⟩
  ·exact⟨XF,hBO⟩
  ·cases e;omega
 |sl _ _ b off cap f hb hO hc hz hcell hv2=>
  have ji:∀(j:Nat) e,es[j]? =some e->e[0]? =some (nth .bN e 0):=λj e he=>by
   have:=hz e (gq he);cases e with
   |nil=>cases this
   |cons x e=>rfl
  refine⟨λj=>f j 0,.inr ⟨b,off,cap,rfl,λj hj=> ?_⟩,λj e he=>hv2 j 0 e _ he (ji j e he),λb' hb'=> ?_⟩
  ·have:=hcell j 0 _ _ (dD hj) (ji j _ (dD hj));rw[show off+j=off+j*1+0 by omega];exact this
  ·rcases hb' with rfl|⟨o,l,c,e,hl⟩
   ·exact⟨XF,hBO⟩
   ·cases e;exact⟨hb,hO⟩
theorem SR.set {C:Ctx}{st:St}{a:Act}(hs:SR C st a)(d:Nat){v:AV}{u:Value}(hv:VA C v u):SR C ⟨upd v st.slots d,st.heap⟩ {a with tmps:=a.tmps.setIfInBounds d u}:=by
 have:=hs.put (Ext.refl C) (us:=[]) rfl (some d) hv;exact this
theorem T3 {C C':Ctx}{v:PV}{u:Value}(hn:fA v=true)(h:C.P v u):C'.P v u:=by
 cases h<;>first|(cases hn;done)|(constructor;done)
theorem ah_ (t:Array Value)(p q:Nat)(x y:Value):((#[p,q]:Array Tmp).zip #[x,y]).foldl (λt (p,v)=>t.setIfInBounds p v) t=(t.setIfInBounds p x).setIfInBounds q y:=by
 first|rfl|simp|simp[Array.zip,Array.zipWith]
def ae4:Ex->Code
 | .exit i=>.exit i
 |_=>.ret
theorem D1 (c:Code):∀{fx:Fx} (hE:okFns fx.E=true) (hF:eI fx.E fx.F) (hm:fx.E.P.follows .mixedOrders=true) (hI:Xq fx.E fx.I) {C0:Ctx} {n0:Nat} (r_:n0<=C0.w.heap.size) {Fn:Fence} {N:Nat} (hN:EC Fn N c)
  (blk:Nat) (α:Type) (st:St) (K:Ex->St->Option α) (r:α) (C:Ctx) (a:Act) (Q:Exit->Act->World->Prop),K6 Fn Q->dZ fx c blk α st K=some r->Ok C->fV fx.m C0 C->SR C st a->gG n0 C a->fx.nt<=a.tmps.size->
   (∀e bD C' a',K e bD=some r->Ok C'->fV fx.m C0 C'->SR C' bD a'->gG n0 C' a'->fx.nt<=a'.tmps.size->Q (ah' e) a' C'.w)->c.wpIn Fn N fx.E.P Q a C.w:=by
 induction c with
 |skip=>intro fx hE hF hm hI C0 n0 r_ Fn N hN blk α st K r C a Q BP h az hx hs hd hn hQ;exact wpIn_skip (hQ .eF st C a h az hx hs hd hn)
 |exit id=>intro fx hE hF hm hI C0 n0 r_ Fn N hN blk α st K r C a Q BP h az hx hs hd hn hQ;exact wpIn_exit (hQ (.exit id) st C a h az hx hs hd hn)
 |ret=>intro fx hE hF hm hI C0 n0 r_ Fn N hN blk α st K r C a Q BP h az hx hs hd hn hQ;exact wpIn_ret (hQ .ret st C a h az hx hs hd hn)
 |goto l=>intro fx hE hF hm hI C0 n0 r_ Fn N hN blk α st K r C a Q BP h;cases h
 |label l=>intro fx hE hF hm hI C0 n0 r_ Fn N hN blk α st K r C a Q BP h;cases h
 |scope c=>intro fx hE hF hm hI C0 n0 r_ Fn N hN blk α st K r C a Q BP h;cases h
 |refuse=>intro fx hE hF hm hI C0 n0 r_ Fn N hN blk α st K r C a Q BP h;cases h
 |region id ops draw=>
  intro fx hE hF hm hI C0 n0 r_ Fn N hN blk α st K r C a Q BP h az hx hs hd hn hQ;simp only[dZ]at h;obtain⟨C1,ZX,Fb,hx1,hs1⟩:=Av az hs fx.E fx.f id;have hx2:=hx.trans hx1;rw[<-ZX];split at h
  ·exact(LW hE hF hm Fb hs1 (K:=K .eF) h λC' bD a' f_ kY dL rH hK=>hQ .eF bD C' a' hK f_ (hx2.trans kY) dL (hd.ext (hx1.trans kY) rH.1) (by rw[rH.2];exact hn)).fen hN BP hm
  rename_i d g args hi;obtain⟨o,af,ats,Hu,hgd,hop,Hv,ou,_,JW,_,ahW⟩:=Dn hi;obtain⟨hsz,acD⟩:=Dj Hu;have hsz':ops.toList.dropLast.length+1=ops.size:=by simpa using hsz
  have VB:ops[ops.toList.dropLast.length]? =some o:=by simpa using acD
  have step:∀C' bD a',Ok C'->Ext C1 C'->SR C' bD a'->qY a a'->fx.I g α (args.map (aS bD.slots)) bD.heap (λv h=>K .eF ⟨cq d v bD.slots,h⟩)=some r->
    ∀next:Act->World->Prop,(∀a2 w2,Q .normal a2 w2->next a2 w2)->wpOp fx.E.P ops Q ops.toList.dropLast.length next a' C'.w:=by
   intro C' bD a' f_ kY dL rH hK next AH;unfold wpOp;rw[VB];have hw:Region.wanted o (yielded ops a'.tmps)=true:=by unfold Region.wanted;rw[hgd]
   simp only[hw,xd];refine .inl ?_;obtain⟨caps,hu,hc⟩:VA C' (.fn g []) (a'.eval (.func g)):=jE dL.s (.func g);unfold Oper.wp;rw[Cb hE hop rfl hu JW];have hall:All2 (VA C') (args.map (aS bD.slots)) (af.map a'.eval++caps).toList:=by
    have h1:=fK (C:=C') (ev:=aS bD.slots) (ρ:=a'.eval) (λx=>jE dL.s x) af.toList;have h2:caps.toList=[]:=by
     have:=hc.length;exact Bj.1 this.symm
    rw[Array.toList_append,h2,qx,wY,ou];exact h1
   refine Ct (hI g α _ _ _ r C' _ hK JW f_ dL.h hall) λe w' he=> ?_;cases e with
   |returned u=>
    obtain⟨C2,v,rfl,Ht,hx3,hv,hK2⟩:=he;refine AH _ _ ?_;rw[Hv];exact hQ .eF _ C2 _ hK2 Ht (hx2.trans (kY.trans hx3)) (dL.akA hx3 d hv) (hd.ext (hx1.trans (kY.trans hx3)) (by rw[put_defers];exact rH.1)) (by rw[xj,rH.2];exact hn)
   |panicked _=>exact he.elim
   |outgrown=>exact he.elim
  refine Ib.fen hN BP hm ?_;refine Ck hE hF hm Fb hs1 (k:=1) hsz' (λm o' MF=> ?_) h (.inr ⟨rfl,λhdr m MF=> ?_⟩) (λ_ C' bD a' h1 h2 h3 h4 h5=> ?_) (λhdr Qs C' bD a' l' hz hl h1 h2 h3 h4 h5=> ?_)
  ·rw[List.dropLast_eq_take,jS]at MF;split at MF
   ·simpa using MF
   ·cases MF
  ·have:=ahW hdr;rw[show ops.size-1=ops.toList.dropLast.length by omega]at this;exact Es this m MF
  ·show wpOps fx.E.P ops Q [_] a' C'.w;rw[wpOps_cons];exact step C' bD a' h1 h2 h3 h4 h5 _ λ_ _ hq=>hq
  ·refine⟨λhnil=> ?_,λi hi=> ?_⟩
   ·exfalso;have:ops.toList.dropLast.length∈Region.ready .any ops l':=by
     refine mem_ready.2 ⟨(hl _).2 ⟨rfl,rfl⟩,o,VB,λe he hb=> ?_⟩;have hed:=(uC Qs ops.toList.dropLast.length o acD).1;unfold BR at hed;have h7:=Array.all_eq_true_iff_forall_mem.1 hed e he;simp only[hb,GZ,w7,dy]at h7;have h7:e.on<ops.toList.dropLast.length:=by simpa[FQ]using h7
     have h8:l'.getD e.on true=true:=by
      cases hc:l'.getD e.on true with
      |true=>rfl
      |false=>have:=((hl e.on).1 hc).2;omega
     have hlt:e.on<l'.size:=by rw[hz];omega
     simpa[Array.getD,hlt]using h8
    rw[hnil]at this;cases this
   ·have hii:=(hl i).1 (mem_ready.1 hi).1;obtain⟨_,rfl⟩:=hii;refine step C' bD a' h1 h2 h3 h4 h5 _ λa2 w2 hq=>⟨FF λj=> ?_,hq⟩
    by_cases hj:ops.toList.dropLast.length=j
    ·subst hj;have hlt:ops.toList.dropLast.length<l'.size:=by rw[hz];omega
     simp[Array.getD]
    ·rw[getD_set_ne true hj];cases hc:l'.getD j true with
     |true=>rfl
     |false=>exact absurd ((hl j).1 hc).2.symm hj
 |seq x y ihx ihy=>
  intro fx hE hF hm hI C0 n0 r_ Fn N hN blk α st K r C a Q BP h az hx hs hd hn hQ;refine wpIn_seq (ihx hE hF hm hI r_ hN.seq1 blk α st _ r C a _ BP.then' h az hx hs hd hn λe bD C' a' hK f_ kY dL pU ot=> ?_);cases e with
  |eF=>exact ihy hE hF hm hI r_ hN.ajp blk α bD K r C' a' Q BP hK f_ kY dL pU ot hQ
  |exit i=>exact hQ (.exit i) bD C' a' hK f_ kY dL pU ot
  |ret=>exact hQ .ret bD C' a' hK f_ kY dL pU ot
 |cond c x y ihx ihy=>
  intro fx hE hF hm hI C0 n0 r_ Fn N hN blk α st K r C a Q BP h az hx hs hd hn hQ;simp only[dZ]at h;split at h
  ·rename_i t hc;have hcv:=jE hs.s c;rw[hc]at hcv;have hcv:a.eval c=.bool t:=(λu (h:C.P (.bool t) u)=>show u=.bool t by cases h;rfl) _ hcv;split at h
   ·refine wpIn_cond hcv ?_;cases t with
    |true=>exact ihx hE hF hm hI r_ hN.Wn blk α st K r C a Q BP h az hx hs hd hn hQ
    |false=>exact ihy hE hF hm hI r_ hN.Wm blk α st K r C a Q BP h az hx hs hd hn hQ
   ·rename_i Ii _;unfold aj at h;obtain⟨p,hp,h⟩:=gI.1 h;have key:∀e bD C' a',cU fx.m (gQ fx.fa Ii) some e bD=some p->Ok C'->fV fx.m C0 C'->SR C' bD a'->gG n0 C' a'->fx.nt<=a'.tmps.size->Q (ah' e) a' C'.w:=by
     intro e bD C' a' hK f_ kY dL pU ot;obtain⟨he,an,h1,h2⟩:=gS hK;obtain⟨pk,Vt,hPK⟩:=lA kY f_ dL pU ot h1;cases Vt;obtain⟨ho,h3⟩:=fN (h2 h);obtain⟨C2,hw,Ht,hx2,hs2,Qt⟩:=hPK ho;rw[<-hw];exact hQ e _ C2 a' h3 Ht hx2 hs2 Qt ot
    refine wpIn_cond hcv ?_;cases t with
    |true=>exact ihx hE hF hm hI r_ hN.Wn blk (Ex×Pack) st _ p C a Q BP hp az hx hs hd hn key
    |false=>exact ihy hE hF hm hI r_ hN.Wm blk (Ex×Pack) st _ p C a Q BP hp az hx hs hd hn key
  ·rename_i hc;have hcv:=jE hs.s c;rw[hc]at hcv;obtain⟨t,hcv⟩:∃t,a.eval c=.bool t:=(λu (h:C.P .Fp u)=>show∃t,u=.bool t by cases h;exact⟨_,rfl⟩) _ hcv;cases hnf:bH fx.f fx.E.qF with
   |false=>rw[hnf]at h;cases h
   |true=>
    rw[hnf]at h;obtain⟨h1,h2⟩:=Gs h;refine wpIn_cond hcv ?_;cases t with
    |true=>exact ihx hE hF hm hI r_ hN.Wn blk α st K r C a Q BP h1 az hx hs hd hn hQ
    |false=>exact ihy hE hF hm hI r_ hN.Wm blk α st K r C a Q BP h2 az hx hs hd hn hQ
  ·cases h
 |block id b ih=>
  intro fx hE hF hm hI C0 n0 r_ Fn N hN blk α st K r C a Q BP h az hx hs hd hn hQ;refine wpIn_block (ih hE hF hm hI r_ hN.Nk id α st _ r C a _ BP.Nk h az hx hs hd hn λe bD C' a' hK f_ kY dL pU ot=> ?_);cases e with
  |eF=>exact hQ .eF bD C' a' hK f_ kY dL pU ot
  |exit i=>
   simp only at hK;show if i=id then Q .normal a' C'.w else Q (.exit i) a' C'.w
   rcases HP hK with⟨hb,hK⟩|⟨hb,hK⟩
   ·rw[aK (gK hb)];exact hQ .eF bD C' a' hK f_ kY dL pU ot
   ·rw[aC λhe=>by subst he;simp at hb];exact hQ (.exit i) bD C' a' hK f_ kY dL pU ot
  |ret=>exact hQ .ret bD C' a' hK f_ kY dL pU ot
 |loop b ih=>
  intro fx hE hF hm hI C0 n0 r_ Fn N hN blk α st K r C a Q BP h az hx hs hd hn hQ;simp only[dZ]at h;split at h
  ·cases h
  rename_i la _;obtain⟨C1,ZX,Fb,hx1,hs1⟩:=Av az hs fx.E fx.f (1000000+blk);rw[<-ZX];obtain⟨pk,h,hPK⟩:=lA (hx.trans hx1) Fb hs1 (hd.ext hx1 rfl) hn h;unfold aj lpC at h;obtain⟨p,hp,h⟩:=gI.1 h;obtain⟨n,ot⟩:=nr _ hp;refine Pa (λn a w=>∃pk,ks _ n pk=some p/\PK n0 fx.m C0 fx.nt (cZ fx.fa la.head) pk a w/\fx.nt<=a.tmps.size) n ⟨pk,ot,hPK,hn⟩ λn a w hI'=> ?_;obtain⟨pk,hl,hPK,hn⟩:=hI';cases n with
  |zero=>cases hl
  |succ n=>
   simp only[ks]at hl;obtain⟨p1,hB,hl⟩:=gI.1 hl;obtain⟨ho,hB⟩:=fN hB;obtain⟨C2,rfl,Ht,hx2,hs2,Qt⟩:=hPK ho;refine ih hE hF hm hI r_ hN.agQ blk (Ex×Pack) _ _ p1 C2 a _ BP.then' hB Ht hx2 hs2 Qt hn λe bD C' a' hK f_ kY dL pU ot=> ?_;cases e with
   |eF=>
    simp only[cU]at hK;have:Ex.iI .eF .eF=true:=rfl;rw[this]at hK;obtain⟨pk',h1,Qv⟩:=lA kY f_ dL pU ot (show rD fx.m (cZ fx.fa la.head) bD (λpk=>some (Ex.eF,pk))=some p1 from hK);cases h1;exact⟨n,Nat.lt_succ_self n,pk',hl,Qv,ot⟩
   |exit i=>
    have hne:Ex.iI (.exit i) .eF=false:=rfl;simp only[cU,hne]at hK;obtain⟨he,an,h1,h2⟩:=gS (show cU fx.m (gQ fx.fa la.fj) some (.exit i) bD=some p1 from hK);rw[he,hne]at hl;cases hl;obtain⟨pk',h3,Qv⟩:=lA kY f_ dL pU ot h1;cases h3;obtain⟨Xw,h4⟩:=fN (h2 h);obtain⟨C3,hw,aeo,hx3,hs3,hd3⟩:=Qv Xw;show Q (.exit i) a' C'.w;rw[<-hw];exact hQ (.exit i) _ C3 a' h4 aeo hx3 hs3 hd3 ot
   |ret=>
    have hne:Ex.iI .ret .eF=false:=rfl;simp only[cU,hne]at hK;obtain⟨he,an,h1,h2⟩:=gS (show cU fx.m (gQ fx.fa la.fj) some .ret bD=some p1 from hK);rw[he,hne]at hl;cases hl;obtain⟨pk',h3,Qv⟩:=lA kY f_ dL pU ot h1;cases h3;obtain⟨Xw,h4⟩:=fN (h2 h);obtain⟨C3,hw,aeo,hx3,hs3,hd3⟩:=Qv Xw;show Q .ret a' C'.w;rw[<-hw];exact hQ .ret _ C3 a' h4 aeo hx3 hs3 hd3 ot
 |rangeFunc g ps Nr body Qk Qj=>
  intro fx hE hF hm hI C0 n0 r_ Fn N hN blk α st K r C a Q BP h az hx hs hd hn hQ;obtain⟨rfl,hN6⟩:Fn=Fence.wide/\6<=N:=by
   rcases hN with h|⟨_,_,h⟩
   ·exact h
   ·cases h
  simp only[dZ]at h;split at h
  case h_2=>cases h
  rename_i la bf es p q _ hv hps;obtain⟨hc,h⟩:(FD fx.E bf&&(j8 Nr&&(j8 body&&(Nat.blt p fx.nt&&(Nat.blt q fx.nt&&Df fx.m (cZ fx.fa la.head))))))=true/\_:=by
   cases hc:(FD fx.E bf&&(j8 Nr&&(j8 body&&(Nat.blt p fx.nt&&(Nat.blt q fx.nt&&Df fx.m (cZ fx.fa la.head))))))with
   |false=>rw[hc]at h;cases h
   |true=>rw[hc]at h;exact⟨rfl,h⟩
  simp only[bO]at hc;obtain⟨Z1,hca,hcb,hp,hq,Dx⟩:=hc;have hmM:fx.m<=FC (cZ fx.fa la.head):=by
   have:=Dx;simp only[Df,bO]at this;exact lz this.1
  simp only[en]at h;obtain⟨hlen,h⟩:=bX h;simp only[bO]at hlen;obtain⟨hlen,Z5⟩:=hlen;have hlen:es.length<=140737488351232:=by simpa[iW]using hlen
  have hcv:=jE hs.s g;rw[hv]at hcv;obtain⟨Bs,hgv,XF,hBO,sv,hcell,hsv⟩:=hcv;obtain⟨el,AL,hval,Vq⟩:=PM XF hBO hsv;obtain⟨pk0,h,al9⟩:=ib (S:=qu Bs sv) hx az hs hd (λb hb ho=>(Vq b hb).2 (.inr ho)) hn h;unfold aj rgL at h;obtain⟨z,hz,h⟩:=gI.1 h;obtain⟨ps0,rfl⟩:∃l:List Tmp,ps=l.toArray:=⟨ps.toList,by simp⟩
  simp only at hps;subst hps;have hnG:∀b,b<nG->b<C.w.heap.size:=λb hb=>(az.gr.low b hb).1;obtain⟨B,hB⟩:∃B,C.w.heap.size=B:=⟨_,rfl⟩
  obtain⟨X',hX'⟩:∃X':Nat->Prop,X'=λb=>C0.X b\/b=B\/b=B+1:=⟨_,rfl⟩
  have aqg:C0.w.heap.size<=B:=by rw[<-hB];exact hx.size
  have hdB:∀d∈a.defers,∀D,d={target:=.collected D,args:= #[]}->D<B:=λd hm D he=>by
   obtain⟨D',e1,_,e3,_⟩:=hd.2 d hm;rw[he]at e1;cases e1;rw[<-hB];exact e3
  have hXB:X' B/\X' (B+1):=by subst hX';exact⟨.inr (.inl rfl),.inr (.inr rfl)⟩
  have hXb:∀b,b=B\/b=B+1->X' b:=λb hb=>hb.elim (λe=>e▸hXB.1) λe=>e▸hXB.2;have hXn:∀b,¬X' b->b≠B/\b≠B+1:=λb hb=>⟨λe=>hb (e▸hXB.1),λe=>hb (e▸hXB.2)⟩
  have free:∀an pk,K5 B (λW=>B+2<=W.heap.size/\PKS (qu Bs sv) n0 fx.m (C0.ag C0.w X') fx.nt an pk a W):=λan pk W W' ⟨hz,hP⟩ e1 e2 e3 e4 e5=>by
   refine⟨fZ hz e4,hP.ag (X':=X') e2 e1 e3 e4 (λb hb hn=>e5 b hb (hXn b hn).1 (hXn b hn).2) (λb hb=> ?_) (λb _ h=>h) (λb h=>.inl h) (λb hb=> ?_) (λd hm D he=> ?_)⟩
   ·have hb:b<C0.w.heap.size:=hb;exact e5 b (by omega) (by omega) (by omega)
   ·have:=hnG b hb;exact e5 b (by omega) (by omega) (by omega)
   ·have:=hdB d hm D he;exact e5 D (by omega) (by omega) (by omega)
  have back:∀an pk W,(B+2<=W.heap.size/\PKS (qu Bs sv) n0 fx.m (C0.ag C0.w X') fx.nt an pk a W)->W.heap[B]? =some (.deferred (some []))->ni an pk=true->
    ∃C3:Ctx,C3.w=W/\Ok C3/\fV fx.m C0 C3/\SR C3 (unp fx.nt an pk) {a with defers:={target:=.collected B,args:= #[]}::a.defers}/\gG n0 C3 {a with defers:={target:=.collected B,args:= #[]}::a.defers}:=λan pk W ⟨hz,hP⟩ hw ho=>by
   obtain⟨C2,rfl,zk,hx2,hs2,Qt,hS2⟩:=hP ho;obtain⟨k1,k2,k3⟩:=to3 zk hx2 (w':=C2.w) (X':=C0.X) rfl rfl rfl (dB _) (λ_ _ _=>rfl) (λ_ _=>rfl) (λb _ h=>by show X' b;subst hX';exact .inl h) (λb h=>.inl (by show X' b;subst hX';exact .inl h)) (λ_ _=>rfl);have hs3:=hs2.w k3 rfl;refine⟨C2.ag C2.w C0.X,rfl,k1,k2,⟨hs3.h,hs3.s,hs3.n⟩,Cp.2 ⟨λhm=>by have:=hdB _ hm B rfl;omega,hd.1⟩,λd hm=> ?_⟩;rcases gR.1 hm with rfl|hm
   ·exact⟨B,rfl,by omega,by show B<C2.w.heap.size;omega,(zk.x B (by rw[hx2.X];exact hXB.1)).2,hw⟩
   ·exact Qt.2 d hm
  have hps:(#[p,q]:Array Tmp).size=2:=rfl;refine RG (n:=es.length) (el:=el) (Bs:=Bs) (sv:=sv) (gf:=bf) hN6 (hF.rv bf Z1) rfl hgv hlen (λb hb=>(Vq b hb).1) hcell AL
   (λk W=>(∃pk,Yi _ ((nV 0 es).reverse.drop k) pk=some z/\(B+2<=W.heap.size/\PKS (qu Bs sv) n0 fx.m (C0.ag C0.w X') fx.nt (cZ fx.fa la.head) pk a W))/\∀b,qu Bs sv b->W.heap[b]? =C.w.heap[b]?)
   (λc W=>∃e an,e≠Ex.eF/\z.1=e/\c=ae4 e/\(B+2<=W.heap.size/\PKS (qu Bs sv) n0 fx.m (C0.ag C0.w X') fx.nt an z.2 a W)/\(eU fx.nt (gQ fx.fa la.fj) z K=some r->cQ fx.nt an z.2 (K e)=some r))
   (λk W W' hI' e1 e2 e3 e4 e5=> ?_) (λc W W' hI' e1 e2 e3 e4 e5=> ?_) (λW1 e1 e2 e3 e4 e5=>⟨⟨pk0,hz,?_⟩,λb hb=>e5 b (Vq b hb).1⟩)
   (λk a' W=>B+2<=W.heap.size/\∃(Ca:Ctx) (rO yL:St) (y:Ex×Pack) (n1:Nat),Ca.w=W/\Ok Ca/\fV fx.m (C0.ag C0.w X') Ca/\SR Ca yL a'/\l_ Ca rO.slots a.tmps/\rO.slots.length<=a.tmps.size/\gG n0 Ca a/\(∀t,G_ (FC (cZ fx.fa la.head)) (nth .undef rO.slots t)=true)/\(B+2<=n1/\n1<=W.heap.size/\gG n1 Ca a')/\fx.nt<=a'.tmps.size/\
    (∀b,qu Bs sv b->¬Ca.own b)/\(∀b,qu Bs sv b->W.heap[b]? =C.w.heap[b]?)/\
    dZ ⟨fx.E,fx.F,fx.f,FC (cZ fx.fa la.head),fx.nt,fx.fa,fx.I⟩ body blk (Ex×Pack) yL (λe EK=>cU fx.m ((.eF,cZ fx.fa la.head)::gQ fx.fa la.fj) some e ⟨rO.slots,EK.heap⟩)=some y/\
    ctl (Ex.iI y.1 .eF) (Yi (λx pk=>cQ fx.nt (cZ fx.fa la.head) pk λrO=>dZ ⟨fx.E,fx.F,fx.f,FC (cZ fx.fa la.head),fx.nt,fx.fa,fx.I⟩ Nr blk (Ex×Pack) (IW p q x rO) λe yL=>T2 e (dZ ⟨fx.E,fx.F,fx.f,FC (cZ fx.fa la.head),fx.nt,fx.fa,fx.I⟩ body blk (Ex×Pack) yL λe EK=>cU fx.m ((.eF,cZ fx.fa la.head)::gQ fx.fa la.fj) some e ⟨rO.slots,EK.heap⟩)) ((nV 0 es).reverse.drop (k+1)) y.2) (some y)=some z)
   (λk a' W W' hA e1 e2 e3 e4 e5=> ?_) (λk W b hI' hb=>hI'.2 b hb) ?_ ?_ ?_ ?_
  ·obtain⟨⟨pk,g1,g2⟩,g3⟩:=hI';exact⟨⟨pk,g1,free _ _ _ _ g2 e1 e2 e3 e4 (by rw[<-hB];exact e5)⟩,λb hb=>(e5 b (by have:=(Vq b hb).1;omega) (by have:=(Vq b hb).1;omega) (by have:=(Vq b hb).1;omega)).trans (g3 b hb)⟩
  ·obtain⟨e,an,g1,g2,g3,g4,g5⟩:=hI';exact⟨e,an,g1,g2,g3,free _ _ _ _ g4 e1 e2 e3 e4 (by rw[<-hB];exact e5),g5⟩
  ·rw[hB]at e4 e5;refine⟨e4,al9.ag (X':=X') e2 e1 e3 (by omega) (λb hb _=>e5 b (by omega)) (λb hb=>e5 b (by omega)) (λb hb h=> ?_) (λb h=> ?_) (λb hb=>e5 b (by have:=hnG b hb;omega)) (λd hm D he=>e5 D (hdB d hm D he))⟩
   ·subst hX';rcases h with h|h|h
    ·exact h
    ·omega
    ·omega
   ·subst hX';rcases h with h|h|h
    ·exact .inl h
    ·exact .inr ⟨by omega,by omega⟩
    ·exact .inr ⟨by omega,by omega⟩
  ·obtain⟨hz2,Ca,rO,yL,y,n1,rfl,oka,Vk,hsa,ak,hsn,hda,Hu,⟨g1,g2,g3⟩,hna,hSa,hrw,aeK,hrg⟩:=hA;rw[hB]at e5;obtain⟨k1,k2,k3⟩:=to3 oka Vk (w':=W') (X':=X') e2 e1 e3 e4 (λb hb hn=>e5 b hb (hXn b hn).1 (hXn b hn).2) (λb hb=>by have hb:b<C0.w.heap.size:=hb;exact e5 b (by omega) (by omega) (by omega)) (λb _ h=>h) (λb h=>.inl h) (λb hb=>by have:=hnG b hb;exact e5 b (by omega) (by omega) (by omega));refine⟨by omega,Ca.ag W' X',rO,yL,y,n1,rfl,k1,k2,hsa.w k3 rfl,λt=>k3.va (ak t),hsn,hda.ag e4 (λd hm D he=> ?_),Hu,⟨g1,by omega,g3.ag e4 λd hm D he=> ?_⟩,hna,hSa,λb hb=> ?_,aeK,hrg⟩
   ·have:=hdB d hm D he;exact e5 D (by omega) (by omega) (by omega)
   ·obtain⟨D',f1,f2,f3,_⟩:=g3.2 d hm;rw[he]at f1;cases f1;exact e5 D f3 (by omega) (by omega)
   ·have:=(Vq b hb).1;exact(e5 b (by omega) (by omega) (by omega)).trans (hrw b hb)
  ·intro l k W K' hk hsz hI' hK';obtain⟨⟨pk,g1,g2,g3⟩,g4⟩:=hI';rw[Sk hk]at g1;simp only[Yi,aj]at g1;obtain⟨y,hy,g1⟩:=gI.1 g1;obtain⟨ho,hy⟩:=fN hy;obtain⟨C2,rfl,zk,hx2,hs2,Qt,hS2⟩:=g3 ho;have hvk:=hval _ _ (dD (show es.length-1-k<es.length by omega));have akV:VA C2 (.t (.p (nth .bN es[es.length-1-k] 0))) (el (es.length-1-k)):=by
    refine T3 ?_ hvk;have h1:=iC.1 Z5 _ (mZ (show es.length-1-k<es.length by omega));cases he:es[es.length-1-k]with
    |nil=>rfl
    |cons c cs=>exact iC.1 h1 c (by rw[he];simp)
   have hsp:=(hs2.set p (v:=.int .i64 ((es.length-1-k:Nat):Int)) (u:=.int .i64 ((es.length-1-k:Nat):Int)) (VP.int _ _)).set q akV;have ot:fx.nt<=((a.tmps.setIfInBounds p (.int .i64 ((es.length-1-k:Nat):Int))).setIfInBounds q (el (es.length-1-k))).size:=by simpa using hn
   rw[ah_];refine Qk (fx:=⟨fx.E,fx.F,fx.f,FC (cZ fx.fa la.head),fx.nt,fx.fa,fx.I⟩) hE hF hm hI (C0:=C2) (n0:=C2.w.heap.size) (dB _) (Fn:=Fence.wide.inRound l) (N:=N-1-1) (.inr ⟨⟨l,rfl⟩,by omega,hca⟩) blk (Ex×Pack) _ _ y C2 {tmps:=(a.tmps.setIfInBounds p (.int .i64 ((es.length-1-k:Nat):Int))).setIfInBounds q (el (es.length-1-k)),defers:=[]} (Exit.then K' λ_ _ _=>False)
    (.inr λ⟨_,_,h⟩=>h) hy zk ((Ext.refl C2).m _) ⟨hsp.h,hsp.s,hsp.n⟩ (gG.nil rfl) ot ?_
   intro e yL Ca aa Rf oka Vk hsa hda hna;cases e with
   |exit i=>cases Rf
   |ret=>cases Rf
   |eF=>
    have Hs:fV (FC (cZ fx.fa la.head)) C2 Ca:=Vk;have hBn:∀b,b=B\/b=B+1->¬C2.own b:=λb hb=>(zk.x b (by rw[hx2.X];exact hXb b hb)).2;refine hK' aa Ca.w (by rw[hB];exact Hs.keep B (by omega) (hBn _ (.inl rfl))) (by rw[hB];exact Hs.keep (B+1) (by omega) (hBn _ (.inr rfl))) ⟨by have:=Hs.size;omega,Ca,unp fx.nt (cZ fx.fa la.head) pk,yL,y,C2.w.heap.size,rfl,oka,hx2.B1 Hs hmM,hsa,λt=>Hs.abj (NG Dx t) (hs2.s t),hs2.n,Qt.Kc Hs rfl,λt=>NG Dx t,⟨by omega,Hs.size,hda⟩,hna,λb hb ho=>hS2 b hb (Hs.own b (by have:=(Vq b hb).1;omega) ho),λb hb=>(Hs.keep b (by have:=(Vq b hb).1;omega) (hS2 b hb)).trans (g4 b hb),Rf,g1⟩
  ·intro l k a' W hk hsz hA;obtain⟨hz2,Ca,rO,yL,y,n1,rfl,oka,Vk,hsa,ak,hsn,hda,Hu,⟨g1,g2,g3⟩,hna,hSa,hrw,aeK,hrg⟩:=hA;refine Qj (fx:=⟨fx.E,fx.F,fx.f,FC (cZ fx.fa la.head),fx.nt,fx.fa,fx.I⟩) hE hF hm hI (C0:=Ca) (n0:=n1) g2 (Fn:=Fence.wide.inRound l) (N:=N-1-1) (.inr ⟨⟨l,rfl⟩,by omega,hcb⟩) blk (Ex×Pack) _ _ y Ca _ _
    (.inr λ⟨_,_,h⟩=>h) aeK oka ((Ext.refl Ca).m _) hsa g3 hna ?_
   intro e EK Ce ae Rf oke ZW hse hde hne;have xQ:fV (FC (cZ fx.fa la.head)) Ca Ce:=ZW;have hBn:∀b,b=B\/b=B+1->¬Ca.own b:=λb hb=>(oka.x b (by rw[Vk.X];exact hXb b hb)).2;have s1:Ce.w.heap[C.w.heap.size]? =Ca.w.heap[C.w.heap.size]?:=by rw[hB];exact xQ.keep B (by omega) (hBn _ (.inl rfl))
   have s2:Ce.w.heap[C.w.heap.size+1]? =Ca.w.heap[C.w.heap.size+1]?:=by rw[hB];exact xQ.keep (B+1) (by omega) (hBn _ (.inr rfl))
   have hsE:SR Ce ⟨rO.slots,EK.heap⟩ a:=⟨hse.h,λt=>xQ.abj (Hu t) (ak t),hsn⟩
   have hSe:∀b,qu Bs sv b->¬Ce.own b:=λb hb ho=>hSa b hb (xQ.own b (by have:=(Vq b hb).1;omega) ho);obtain⟨he,an,h1,h2⟩:=gS Rf;obtain⟨pk',h3,Qv⟩:=ib (S:=qu Bs sv) (Vk.B1 xQ hmM) oke hsE (hda.Kc xQ rfl) hSe hn h1;have h3:=pH h3;subst h3;have hsz':B+2<=Ce.w.heap.size:=by have:=xQ.size;omega
   cases e with
   |eF=>
    rw[he]at hrg;simp only[cU]at Rf;have:Ex.iI .eF .eF=true:=rfl;rw[this]at Rf hrg;obtain⟨pk2,h4,VS⟩:=ib (S:=qu Bs sv) (Vk.B1 xQ hmM) oke hsE (hda.Kc xQ rfl) hSe hn (show rD fx.m (cZ fx.fa la.head) ⟨rO.slots,EK.heap⟩ (λpk=>some (Ex.eF,pk))=some y from Rf);cases h4;exact⟨s1,s2,⟨pk2,hrg,hsz',VS⟩,λb hb=>(xQ.keep b (by have:=(Vq b hb).1;omega) (hSa b hb)).trans (hrw b hb)⟩
   |exit i=>
    have ME:Ex.iI (.exit i) .eF=false:=rfl;rw[he,ME]at hrg;cases hrg;simp only[cU,ME]at Rf;obtain⟨_,an',h5,h6⟩:=gS (show cU fx.m (gQ fx.fa la.fj) some (.exit i) ⟨rO.slots,EK.heap⟩=some _ from Rf);obtain⟨pk2,h7,VS⟩:=ib (S:=qu Bs sv) (Vk.B1 xQ hmM) oke hsE (hda.Kc xQ rfl) hSe hn h5;have h7:=pH h7;subst h7;exact⟨s1,s2,.exit i,an',by simp,he,rfl,⟨hsz',VS⟩,h6⟩
   |ret=>
    have ME:Ex.iI .ret .eF=false:=rfl;rw[he,ME]at hrg;cases hrg;simp only[cU,ME]at Rf;obtain⟨_,an',h5,h6⟩:=gS (show cU fx.m (gQ fx.fa la.fj) some .ret ⟨rO.slots,EK.heap⟩=some _ from Rf);obtain⟨pk2,h7,VS⟩:=ib (S:=qu Bs sv) (Vk.B1 xQ hmM) oke hsE (hda.Kc xQ rfl) hSe hn h5;have h7:=pH h7;subst h7;exact⟨s1,s2,.ret,an',by simp,he,rfl,⟨hsz',VS⟩,h6⟩
  ·intro W hI' hw;obtain⟨⟨pk,g1,g2⟩,_⟩:=hI';rw[List.drop_of_length_le (by rw[List.length_reverse,og];exact dB _)]at g1;cases g1;have:Ex.iI .eF .eF=true:=rfl;simp only[this]at h;obtain⟨ho,h⟩:=fN h;rw[hB]at hw|-;obtain⟨C3,e1,e2,e3,e4,e5⟩:=back _ _ _ g2 hw ho;rw[<-e1];exact hQ .eF _ C3 _ h e2 e3 e4 e5 hn
  ·intro c W hI' hw;obtain⟨e,an,g1,g2,rfl,g3,g4⟩:=hI';have ME:Ex.iI e .eF=false:=by cases e<;>first|exact absurd rfl g1|rfl
   rw[g2,ME]at h;obtain⟨ho,h⟩:=fN (g4 h);rw[hB]at hw|-;obtain⟨C3,e1,e2,e3,e4,e5⟩:=back _ _ _ g3 hw ho;rw[<-e1];cases e with
   |eF=>exact absurd rfl g1
   |exit i=>exact wpIn_exit (hQ (.exit i) _ C3 _ h e2 e3 e4 e5 hn)
   |ret=>exact wpIn_ret (hQ .ret _ C3 _ h e2 e3 e4 e5 hn)
section
def Ae (tmps:Array Value):ResultVar->Sem Value
 | .tmp t=>pure (tmps.getD t Go.undef)
 | .cell a t=>do loadVar t (<-asAddr (tmps.getD a Go.undef))
def NJ:List Value->Value
 |[u]=>u
 |l=>.tuple l.toArray
theorem Cf (fn:Func)(tmps:Array Value)(P:Program)(w w':World){us:List Value}(h:(fn.results.toList.mapM (Ae tmps)).run P w=.ok us w'):
  (results fn tmps).run P w=.ok (NJ us) w':=by
 have hf:results fn tmps=(do let vs <-fn.results.mapM (Ae tmps);pure (if h:vs.size=1 then vs[0] else .tuple vs)):=by
  unfold results;congr 2
 rw[hf,Array.mapM_eq_mapM_toList];simp only[bind_map_left,rQ,h,rS,iO];congr 1
 match us with
 |[]=>rfl
 |[u]=>rfl
 |u::v::l=>simp[NJ]
theorem Jz {C:Ctx}(az:Ok C){P:Program}{look:aJ}(hl:bQ C look){t:TypeId}{id:Nat}{v:AV}{ua:Value}(ha:VA C (.t (.ptr id 0)) ua)(h:Ui P look t id=some v):
  ∃u,(Instr.loadAt t ua).run P C.w=.ok u C.w/\VA C v u:=by
 unfold Ui at h;split at h
 ·rename_i cs hb;split at h
  ·rename_i XT K9;split at h
   ·rename_i hc;cases h;simp only[bO]at hc;obtain⟨⟨nP,pq⟩,hlen⟩:=hc;have hlv:=hl _ _ hb;obtain⟨hk,n,rfl,hp⟩:=ha;have hi:=hp cs hlv;obtain⟨n',carr,e,fr,nW,hr,hs,hf,hc⟩:=az.blk id _ hlv;rw[hi]at nW;cases nW;have h0:All2 (VA C) cs carr.toList:=All2.nj (by simpa using hs.symm) λj a b hj hb=>by
     obtain⟨u,h1,h2,_⟩:=hc j a hj;have hb':carr[j]? =some b:=by simpa using hb
     rw[hb']at h1;cases h1;exact h2
    have jO:cs.length=P.cellsOf t:=gK hlen;have Ih:((carr.toList.drop 0).take (P.cellsOf t)).length=P.cellsOf t:=by
     rw[eN,vT,Cn,hs,jO];omega
    refine⟨_,gP nP pq (tR hr Ih),_,rfl,?_⟩;have:(carr.toList.drop 0).take (P.cellsOf t)=carr.toList:=by
     rw[eN,List.take_of_length_le (by rw[Cn,hs,jO];exact dB _)]
    simp only[this];exact tN K9 h0
   ·cases h
  ·cases h
 ·cases h
theorem iM {P:Program}{slots:List AV}{h:List bw}{tmps:Array Value}:∀{rs:List ResultVar} {vs:List AV} {C:Ctx},n9 P slots (cw h) rs=some vs->Ok C->C.h=h->l_ C slots tmps->
  ∃(C':Ctx) (us:List Value),C'.w=C.w/\C'.h=C.h/\Ext C C'/\Ok C'/\(rs.mapM (Ae tmps)).run P C.w=.ok us C.w/\All2 (VA C') vs us
 |[],vs,C,hr,az,hh,hs=>by
  cases hr;exact⟨C,[],rfl,rfl,Ext.refl C,az,rfl,trivial⟩
 | .tmp t::l,vs,C,hr,az,hh,hs=>by
  simp only[n9]at hr;split at hr
  ·rename_i r hl;cases hr;obtain⟨C',us,h1,h2,h3,h4,h5,h6⟩:=iM hl az hh hs;refine⟨C',tmps.getD t Go.undef::us,h1,h2,h3,h4,?_,h3.va (hs t),h6⟩;simp only[List.mapM_cons,rQ,Ae,iO,rS,h5]
  ·cases hr
 | .cell a t::l,vs,C,hr,az,hh,hs=>by
  simp only[n9]at hr;split at hr
  ·rename_i r id hl ha;split at hr
   ·rename_i v hv;cases hr;have hn:=(FZ P (cw h) t (.t (.ptr id 0)) two (λp:AV×cD=>if p.2.isEmpty then some p.1 else none)).trans hv;obtain⟨⟨v',mb⟩,h1,h2⟩:=gI.1 hn;split at h2
    ·rename_i he;cases h2;have he:mb=[]:=by simpa using he
     subst he;have OK:=hs a;rw[ha]at OK;obtain⟨u,hu,C1,g1,g2,g3,g4,g5⟩:=AD az (λid b hb=>by rw[hh];exact gV.1 hb) OK h1;have hs1:l_ C1 slots tmps:=hs.ext g3;obtain⟨C',us,k1,k2,k3,k4,k5,k6⟩:=iM hl g4 (by rw[g2];exact hh) hs1;refine⟨C',u::us,k1.trans g1,k2.trans g2,g3.trans k3,k4,?_,k3.va g5,k6⟩;obtain⟨_,b,hb,_⟩:=OK;have hrun:(Ae tmps (.cell a t)).run P C.w=.ok u C.w:=by
      simp only[Ae];rw[hb]at hu|-;exact hu
     rw[g1]at k5;rw[List.mapM_cons];simp only[rQ,hrun,rS,k5,iO]
    ·cases h2
   ·split at hr
    ·rename_i v hv;cases hr;have OK:=hs a;rw[ha]at OK;obtain⟨u,hu,g5⟩:=Jz az (λid b hb=>by rw[hh];exact gV.1 hb) OK hv;obtain⟨C',us,k1,k2,k3,k4,k5,k6⟩:=iM hl az hh hs;refine⟨C',u::us,k1,k2,k3,k4,?_,k3.va g5,k6⟩;obtain⟨_,b,hb,_⟩:=OK;have hrun:(Ae tmps (.cell a t)).run P C.w=.ok u C.w:=by
      simp only[Ae];rw[hb]at hu|-;exact hu
     rw[List.mapM_cons];simp only[rQ,hrun,rS,k5,iO]
    ·cases hr
  ·cases hr
section back
variable (look:aJ) (σ:Nat->Option Nat) (K:cD) (hD:List bw)
def CT (v v':TV):Prop:=
 (∃p,v=.p p/\v'=.p p)\/(∃id sz es,v=.ak id/\v'=.p (.sl sz es)/\look id=some (.arr sz es)/\(id,bw.dead)∈K)\/
 (∃id j,v=.ak id/\v'=.ak j/\σ j=some id/\known hD j)\/(∃j,v=.p .bN/\v'=.ak j/\σ j=none/\known hD j)\/
 ∃j o,v=.ptr j o/\v'=.ptr j o/\σ j=some j/\known hD j
def CR (c d:AV):Prop:=
 (∃v v',c=.t v/\d=.t v'/\CT look σ K hD v v')\/∃f l,c=.fn f l/\d=.fn f l/\∀t∈l,∃j o,t=.ptr j o/\σ j=some j/\known hD j
def BE (j:Nat)(b:au):Prop:=
 (∃id sz es,b=.arr sz es/\σ j=some id/\look id=some (.arr sz es))\/(∃id cs ds,b=.box ds/\σ j=some id/\look id=some (.box cs)/\All2 (CR look σ K hD) cs ds)\/(σ j=none/\∃sz,b=.arr sz [])
end back
section back2
variable {look:aJ} {σ:Nat->Option Nat} {K:cD} {hD:List bw} {C:Ctx}
theorem CT.vt (az:Ok C)(hl:bQ C look)(hK:bK K)(R:eP (C.kill K) σ hD){v v':TV}{u:Value}(h:CT look σ K hD v v')(hv:VT C v u):VT ((C.kill K).ren σ hD) v' u:=by
 have hx:=cB C hK;rcases h with⟨p,rfl,rfl⟩|⟨id,sz,es,rfl,rfl,h1,h2⟩|⟨id,j,rfl,rfl,h1,h2⟩|⟨j,rfl,rfl,h1,h2⟩|⟨j,o,rfl,rfl,h1,h2⟩
 ·exact R.vp (hx.vp hv)
 ·obtain⟨_,_,h3⟩:=hv;exact R.vp (eY az (hl _ _ h1) (h3 _ _ (hl _ _ h1)) hK h2)
 ·exact R.ak h2 h1 (hx.vt hv)
 ·exact R.bN h2 h1 (hx.vp hv)
 ·exact R.ptr h2 h1 (hx.vt hv)
theorem CT.vts (az:Ok C)(hl:bQ C look)(hK:bK K)(R:eP (C.kill K) σ hD):∀{l l':List TV} {us:List Value},All2 (CT look σ K hD) l l'->All2 (VT C) l us->All2 (VT ((C.kill K).ren σ hD)) l' us
 |[],[],us,_,hv=>by cases us with|nil=>trivial|cons=>exact hv.elim
 |[],_::_,_,h,_=>h.elim
 |_::_,[],_,h,_=>h.elim
 |v::l,v'::l',us,h,hv=>by
  cases us with
  |nil=>exact hv.elim
  |cons u us=>exact⟨CT.vt az hl hK R h.1 hv.1,CT.vts az hl hK R h.2 hv.2⟩
theorem CR.va (az:Ok C)(hl:bQ C look)(hK:bK K)(R:eP (C.kill K) σ hD){c d:AV}{u:Value}(h:CR look σ K hD c d)(hv:VA C c u):VA ((C.kill K).ren σ hD) d u:=by
 rcases h with⟨v,v',rfl,rfl,h⟩|⟨f,l,rfl,rfl,h⟩
 ·exact CT.vt az hl hK R h hv
 ·obtain⟨us,rfl,ha⟩:=hv;refine⟨us,rfl,?_⟩;revert ha;generalize us.toList=xs
  induction l generalizing xs with
  |nil=>intro ha;cases xs with|nil=>trivial|cons=>exact ha.elim
  |cons t l ih=>
   intro ha;cases xs with
   |nil=>exact ha.elim
   |cons x xs=>
    obtain⟨j,o,rfl,h1,h2⟩:=h t (by simp);exact⟨R.ptr h2 h1 ((cB C hK).vt ha.1),ih (λt ht=>h t (by simp[ht])) xs ha.2⟩
theorem CT.crs:∀{l l':List TV},All2 (CT look σ K hD) l l'->All2 (CR look σ K hD) (l.map AV.t) (l'.map AV.t)
 |[],[],_=>trivial
 |[],_::_,h=>h.elim
 |_::_,[],h=>h.elim
 |_::_,_::_,h=>⟨.inl ⟨_,_,rfl,rfl,h.1⟩,CT.crs h.2⟩
theorem BE.ren (az:Ok C)(hl:bQ C look)(hK:bK K)(VE:∀j j' id,σ j=some id->σ j'=some id->j=j')(hnk:∀j id,σ j=some id->∀e,(id,e)∉K)(hb:∀j b,live hD j b->BE look σ K hD j b):
  eP (C.kill K) σ hD:=by
 refine⟨ic az hK,VE,λj b Lb=> ?_⟩;rcases hb j b Lb with⟨id,sz,es,rfl,h1,h2⟩|⟨id,cs,ds,rfl,h1,h2,h3⟩|⟨h1,sz,rfl⟩
 ·exact .inl ⟨id,_,h1,gW (hnk j id h1) (hl _ _ h2),dx _⟩
 ·exact .inl ⟨id,_,h1,gW (hnk j id h1) (hl _ _ h2),h3.length⟩
 ·exact .inr ⟨h1,sz,rfl⟩
theorem BE.okD (az:Ok C)(hl:bQ C look)(hK:bK K)(R:eP (C.kill K) σ hD)(hnk:∀j id,σ j=some id->∀e,(id,e)∉K)(hb:∀j b,live hD j b->BE look σ K hD j b):Ok ((C.kill K).ren σ hD):=by
 refine R.okD λj b Lb=> ?_;rcases hb j b Lb with⟨id,sz,es,rfl,h1,h2⟩|⟨id,cs,ds,rfl,h1,h2,h3⟩|⟨h1,sz,rfl⟩
 ·exact R.arr h1 (gW (hnk j id h1) (hl _ _ h2))
 ·obtain⟨n,carr,e,fr,hι,hrow,hsz,uv,hc⟩:=az.blk id _ (hl _ _ h2);refine⟨n,carr,e,fr,?_,hrow,hsz.trans h3.length,uv,λk d hk=> ?_⟩
  ·show(σ j).bind C.ι=_;rw[h1];exact hι
  ·have hlt:k<cs.length:=by rw[h3.length];exact(ko.1 hk).1
   obtain⟨d',k1,k2⟩:=h3.get k cs[k] (dD hlt);rw[hk]at k1;cases k1;obtain⟨u,q1,q2,q3⟩:=hc k cs[k] (dD hlt);exact⟨u,q1,CR.va az hl hK R k2 q2,q3⟩
 ·exact I3 h1
def o_ (σ:Nat->Option Nat)(hD:List bw)(n:Nat)(ow:List (Option Nat)):Prop:=∀(k:Nat) x,ow[k]? =some x->known hD (n+k)/\σ (n+k)=x
theorem o_.head {n:Nat}{x:Option Nat}{ow:List (Option Nat)}(h:o_ σ hD n (x::ow)):known hD n/\σ n=x:=h 0 x rfl
theorem o_.tail {n:Nat}{x:Option Nat}{ow:List (Option Nat)}(h:o_ σ hD n (x::ow)):o_ σ hD (n+1) ow:=λk y hk=>by
 have:=h (k+1) y (by simpa using hk)
 rwa [show n+(k+1)=n+1+k by omega]at this
theorem o_.left {n:Nat}{a b:List (Option Nat)}(h:o_ σ hD n (a++b)):o_ σ hD n a:=λk y hk=>h k y (by rw[Cr (ko.1 hk).1];exact hk)
theorem o_.right {n:Nat}{a b:List (Option Nat)}(h:o_ σ hD n (a++b)):o_ σ hD (n+a.length) b:=λk y hk=>by
 have:=h (a.length+k) y (by rw[I8 (by omega),Nat.add_sub_cancel_left];exact hk)
 rwa [<-uM]at this
def uV (look:aJ)(σ:Nat->Option Nat)(K:cD)(hD:List bw)(n:Nat)(bs:List au):Prop:=∀(k:Nat) b,bs[k]? =some b->BE look σ K hD (n+k) b
theorem uV.cons {n:Nat}{b:au}{bs:List au}(h:BE look σ K hD n b)(h2:uV look σ K hD (n+1) bs):uV look σ K hD n (b::bs):=λk x hk=>by
 cases k with
 |zero=>simp at hk;subst hk;exact h
 |succ k=>
  have:=h2 k x (by simpa using hk)
  rwa [show n+1+k=n+(k+1) by omega]at this
theorem uV.nil {n:Nat}:uV look σ K hD n []:=λk x hk=>by simp at hk
theorem uV.append {n:Nat}{a b:List au}(h:uV look σ K hD n a)(h2:uV look σ K hD (n+a.length) b):uV look σ K hD n (a++b):=λk x hk=>by
 rw[Co]at hk;split at hk
 ·exact h k x hk
 ·have:=h2 _ x hk
  rwa [show n+a.length+(k-a.length)=n+k by omega]at this
theorem jb {m:Nat}:∀{ss:List Im} {vs:List TV} {cs:List RC} {fz:List Nat} {ow:List (Option Nat)} {n:Nat},B5 m look ss vs=some (cs,(fz,ow))->(∀id∈fz,(id,bw.dead)∈K)->o_ σ hD n ow->
  All2 (CT look σ K hD) vs (Bf n cs)/\uV look σ K hD n (rh cs)/\(rh cs).length=ow.length/\mK cs=ow.length
 |[],[],_,_,_,n,h,_,_=>by simp only[B5]at h;cases h;exact⟨trivial,uV.nil,rfl,rfl⟩
 |[],_::_,_,_,_,_,h,_,_=>by cases h
 |_::_,[],_,_,_,_,h,_,_=>by cases h
 |s::ss,v::vs,cs,fz,ow,n,h,hf,hN=>by
  simp only[B5]at h;split at h
  ·cases h
  ·rename_i r EI zi h1;split at h
   ·cases h;obtain⟨a1,a2,a3,a4⟩:=jb (n:=n) h1 hf hN;exact⟨⟨.inl ⟨_,rfl,rfl⟩,a1⟩,a2,a3,a4⟩
   ·split at h
    ·rename_i hlk;cases h;obtain⟨a1,a2,a3,a4⟩:=jb (n:=n) h1 (λid bn=>hf id (by simp[bn])) hN;exact⟨⟨.inr (.inl ⟨_,_,_,rfl,rfl,hlk,hf _ (by simp)⟩),a1⟩,a2,a3,a4⟩
    ·cases h
   ·split at h
    ·rename_i hlk;split at h
     ·cases h;obtain⟨a1,a2,a3,a4⟩:=jb (n:=n+1) h1 hf hN.tail;obtain⟨k1,k2⟩:=hN.head;exact⟨⟨.inr (.inr (.inl ⟨_,_,rfl,rfl,k2,k1⟩)),a1⟩,uV.cons (.inl ⟨_,_,_,rfl,k2,hlk⟩) a2,by simp[rh,a3],by simp[mK,a4]⟩
     ·cases h
    ·cases h
   ·cases h;obtain⟨a1,a2,a3,a4⟩:=jb (n:=n+1) h1 hf hN.tail;obtain⟨k1,k2⟩:=hN.head;exact⟨⟨.inr (.inr (.inr (.inl ⟨_,rfl,rfl,k2,k1⟩))),a1⟩,uV.cons (.inr (.inr ⟨k2,_,rfl⟩)) a2,by simp[rh,a3],by simp[mK,a4]⟩
   ·cases h
theorem FH:∀{cs:List RC} {n:Nat},mK cs=0->(Bf n cs)=(cs.map RC.dC).map TV.p
 |[],_,_=>rfl
 | .p v::cs,n,h=>by
  show TV.p v::Bf n cs=_;rw[FH (cs:=cs) h];rfl
 | .own _ _::cs,n,h=>by simp[mK]at h
theorem yI:∀{cs:List AV} {vs:List TV},iK cs=some vs->cs=vs.map AV.t
 |[],_,h=>by simp only[iK]at h;cases h;rfl
 |c::cs,vs,h=>by
  cases c with
  |t v=>
   simp only[iK]at h;split at h
   ·rename_i r hr;cases h;rw[yI hr];rfl
   ·cases h
  |_=>cases h
theorem GK {a:AV}{vs:List TV}{u:Value}(h:Lp a=some vs)(hv:VA C a u):∃us,u=.agg us/\All2 (VT C) vs us.toList:=by
 unfold Lp at h;split at h
 ·cases h;obtain⟨us,rfl,ha⟩:=hv;refine⟨us,rfl,?_⟩;revert ha;generalize us.toList=xs;rename_i cs
  induction cs generalizing xs with
  |nil=>intro ha;cases xs with|nil=>trivial|cons=>exact ha.elim
  |cons c cs ih=>intro ha;cases xs with|nil=>exact ha.elim|cons x xs=>exact⟨ha.1,ih xs ha.2⟩
 ·cases h;exact hv
 ·cases h
theorem gN (az:Ok C)(hl:bQ C look)(hK:bK K){m:Nat}:∀{rsh:List uI} {af:List AV} {rs:List RV} {fz:List Nat} {ow:List (Option Nat)} {n:Nat},IK m look rsh af=some (rs,(fz,ow))->(∀id∈fz,(id,bw.dead)∈K)->o_ σ hD n ow->
  uV look σ K hD n (ee n rs)/\(ee n rs).length=ow.length/\((R:eP (C.kill K) σ hD)->∀us,All2 (VA C) af us->All2 (kA ((C.kill K).ren σ hD)) (kD n rs) us)
 |[],[],_,_,_,n,h,_,_=>by
  simp only[IK]at h;cases h;exact⟨uV.nil,rfl,λ_ us hv=>by cases us with|nil=>trivial|cons=>exact hv.elim⟩
 |[],_::_,_,_,_,_,h,_,_=>by cases h
 |_::_,[],_,_,_,_,h,_,_=>by cases h
 |r::l,a::af,rs,fz,ow,n,h,hf,hN=>by
  have hx:=cB C hK;simp only[IK]at h;split at h
  ·cases h
  ·rename_i rs' EI zi h1;have one:∀{rv:RV} {p:TV⊕List TV} (hf:∀id∈EI,(id,bw.dead)∈K) (hN:o_ σ hD n zi),ee n (rv::rs')=ee n rs'->kD n (rv::rs')=p::kD n rs'->
     ((R:eP (C.kill K) σ hD)->∀u,VA C a u->kA ((C.kill K).ren σ hD) p u)->
     uV look σ K hD n (ee n (rv::rs'))/\(ee n (rv::rs')).length=zi.length/\((R:eP (C.kill K) σ hD)->∀us,All2 (VA C) (a::af) us->All2 (kA ((C.kill K).ren σ hD)) (kD n (rv::rs')) us):=by
    intro rv p hf hN e1 e2 hp;obtain⟨a1,a2,a3⟩:=gN az hl hK (n:=n) h1 hf hN;rw[e1,e2];refine⟨a1,a2,λR us hv=> ?_⟩;cases us with
    |nil=>exact hv.elim
    |cons u us=>exact⟨hp R u hv.1,a3 R us hv.2⟩
   split at h
   ·cases h;refine one (p:=.inl (.p (.sl _ []))) hf hN rfl rfl λR u hv=> ?_;have h0:u=.slice none 0 0:=(λu (h:C.P .bN u)=>show u=.slice none 0 0 by cases h;rfl) _ hv;subst h0;exact .yA _ none 0
   ·cases h;exact one (p:=.inl (.p _)) hf hN rfl rfl λR u hv=>R.vp (hx.vp hv)
   ·split at h
    ·rename_i hlk;cases h;refine one (p:=.inl (.p (.sl _ _))) (λid bn=>hf id (by simp[bn])) hN rfl rfl λR u hv=> ?_;obtain⟨_,_,h3⟩:=hv;exact R.vp (eY az (hl _ _ hlk) (h3 _ _ (hl _ _ hlk)) hK (hf _ (by simp)))
    ·cases h
   ·cases h;refine one (p:=.inl (.agg _)) hf hN rfl rfl λR u hv=> ?_;obtain⟨mb,rfl,ha⟩:=hv;exact⟨mb,rfl,R.vps (ha.mono λ_ _=>hx.vp)⟩
   ·split at h
    ·rename_i cs us0 hp;cases h;refine one (p:=.inl (.agg _)) (λid bn=>hf id (eO.2 (.inr bn))) hN rfl rfl λR u hv=> ?_;obtain⟨mb,rfl,ha⟩:=hv;have pT:∀y∈us0,y∈K:=λy hy=>by
      have h1:=oc hp y hy;have:=hf y.1 (eO.2 (.inl (fQ.2 ⟨y,hy,rfl⟩)));obtain⟨a,b⟩:=y;simp only at h1 this;rw[h1];exact this
     exact⟨mb,rfl,R.vps (jT az hl ha hp hK pT)⟩
    ·cases h
   ·split at h
    ·rename_i hlk;split at h
     ·cases h;obtain⟨k1,k2⟩:=hN.head;obtain⟨a1,a2,a3⟩:=gN az hl hK (n:=n+1) h1 hf hN.tail;refine⟨uV.cons (.inl ⟨_,_,_,rfl,k2,hlk⟩) a1,by simp[ee,a2],λR us hv=> ?_⟩;cases us with
      |nil=>exact hv.elim
      |cons u us=>exact⟨R.ak k1 k2 (hx.vt hv.1),a3 R us hv.2⟩
     ·cases h
    ·cases h
   ·cases h;obtain⟨k1,k2⟩:=hN.head;obtain⟨a1,a2,a3⟩:=gN az hl hK (n:=n+1) h1 hf hN.tail;refine⟨uV.cons (.inr (.inr ⟨k2,_,rfl⟩)) a1,by simp[ee,a2],λR us hv=> ?_⟩;cases us with
    |nil=>exact hv.elim
    |cons u us=>exact⟨R.bN k1 k2 (hx.vp hv.1),a3 R us hv.2⟩
   ·split at h
    ·rename_i hlk;split at h
     ·split at h
      ·rename_i vs K9;split at h
       ·rename_i rcs fz2 hC;cases h;obtain⟨k1,k2⟩:=hN.head;obtain⟨a1,a2,a3⟩:=gN az hl hK (n:=n+1) h1 (λid bn=>hf id (eO.2 (.inr bn))) hN.tail;obtain⟨c1,c2,c3,c4⟩:=jb (n:=0) (σ:=σ) (hD:=hD) hC (λid bn=>hf id (eO.2 (.inl bn))) (λk x hk=>by simp at hk);rw[FH c4]at c1;refine⟨uV.cons (.inr (.inl ⟨_,_,_,rfl,k2,hlk,?_⟩)) a1,by simp[ee,a2],λR us hv=> ?_⟩
        ·have:=CT.crs c1;rw[<-yI K9]at this;simp only[List.map_map]at this|-;exact this
        ·cases us with
         |nil=>exact hv.elim
         |cons u us=>exact⟨R.ptr k1 k2 (hx.vt hv.1),a3 R us hv.2⟩
       ·cases h
      ·cases h
     ·cases h
    ·cases h
   ·split at h
    ·rename_i vs K9;split at h
     ·rename_i cs fz2 ow2 hC;cases h;obtain⟨c1,c2,c3,c4⟩:=jb (n:=n) (σ:=σ) (hD:=hD) hC (λid bn=>hf id (eO.2 (.inl bn))) hN.left;obtain⟨a1,a2,a3⟩:=gN az hl hK (n:=n+mK cs) h1 (λid bn=>hf id (eO.2 (.inr bn))) (by rw[c4];exact hN.right);refine⟨uV.append c2 (by rw[c3,<-c4];exact a1),by simp[ee,a2,c3],λR us hv=> ?_⟩;cases us with
      |nil=>exact hv.elim
      |cons u us=>
       obtain⟨mb,rfl,ha⟩:=GK K9 hv.1;exact⟨⟨mb,rfl,CT.vts az hl hK R c1 ha⟩,a3 R us hv.2⟩
     ·cases h
    ·cases h
   ·split at h
    ·rename_i hlk;split at h
     ·split at h
      ·rename_i vs K9;split at h
       ·rename_i cs fz2 ow2 hC;cases h;obtain⟨k1,k2⟩:=hN.head;have hN2:=hN.tail;obtain⟨c1,c2,c3,c4⟩:=jb (n:=n+1) (σ:=σ) (hD:=hD) hC (λid bn=>hf id (eO.2 (.inl bn))) hN2.left;obtain⟨a1,a2,a3⟩:=gN az hl hK (n:=n+(mK cs+1)) h1 (λid bn=>hf id (eO.2 (.inr bn))) (by
         have:=hN2.right
         rwa [<-c4,show n+1+mK cs=n+(mK cs+1) by omega]at this)
        refine⟨uV.cons (.inr (.inl ⟨_,_,_,rfl,k2,hlk,?_⟩)) (uV.append c2 (by rw[c3,<-c4,show n+1+mK cs=n+(mK cs+1) by omega];exact a1)),by simp[ee,a2,c3],λR us hv=> ?_⟩
        ·have:=CT.crs c1;rw[<-yI K9]at this;exact this
        ·cases us with
         |nil=>exact hv.elim
         |cons u us=>exact⟨R.ptr k1 k2 (hx.vt hv.1),a3 R us hv.2⟩
       ·cases h
      ·cases h
     ·cases h
    ·cases h
   ·cases h
theorem PQ {j o:Nat}{c:AV}(h:aD (.t (.ptr j o)) c=true):c=.t (.ptr j o):=by
 unfold aD at h;split at h
 ·rename_i a b he;cases he;cases b<;>simp only[bb]at h<;>first|(cases h;done)|skip
  simp only[bO]at h;cases gK h.1;cases gK h.2;rfl
 ·rename_i he;cases he
 ·cases h
theorem Fv {m:Nat}:∀{l l':List TV},l.all (Oa m)=true->uY l l'=true->l'=l/\∀t∈l,∃j o,t=.ptr j o/\j<m
 |[],[],_,_=>⟨rfl,λt ht=>by cases ht⟩
 |[],_::_,_,h=>by cases h
 |_::_,[],_,h=>by cases h
 |a::l,b::l',hm,h=>by
  simp only[uY,bO]at h;simp only[oO,bO]at hm;obtain⟨rfl,h2⟩:=Fv hm.2 h.2;cases a with
  |ptr j o=>
   have:=h.1;cases b<;>simp only[bb]at this<;>first|(cases this;done)|skip
   simp only[bO]at this;cases gK this.1;cases gK this.2;refine⟨rfl,λt ht=> ?_⟩;rcases gR.1 ht with rfl|ht
   ·exact⟨j,o,rfl,by simpa[Oa,FQ]using hm.1⟩
   ·exact h2 t ht
  |_=>cases hm.1
theorem Sq {m f:Nat}{l:List TV}{c:AV}(hm:l.all (Oa m)=true)(h:aD (.fn f l) c=true):c=.fn f l/\∀t∈l,∃j o,t=.ptr j o/\j<m:=by
 unfold aD at h;split at h
 ·rename_i he;cases he
 ·rename_i he;cases he;simp only[bO]at h;cases gK h.1;obtain⟨rfl,h2⟩:=Fv hm h.2;exact⟨rfl,h2⟩
 ·cases h
theorem ja {m:Nat}(hσ:∀j,j<m->σ j=some j/\known hD j):∀{gs cs ds:List AV} {k:Nat} {fz:List Nat} {ow:List (Option Nat)},uZ m look k gs cs=some (ds,(fz,ow))->(∀id∈fz,(id,bw.dead)∈K)->o_ σ hD k ow->All2 (CR look σ K hD) cs ds
 |[],[],_,_,_,_,h,_,_=>by simp only[uZ]at h;cases h;trivial
 |[],_::_,_,_,_,_,h,_,_=>by simp only[uZ]at h;cases h
 |g::_,[],_,_,_,_,h,_,_=>by simp only[uZ]at h;cases h
 |g::gs,c::cs,ds,k,fz,ow,h,hf,hN=>by
  simp only[uZ]at h;split at h
  ·split at h
   ·rename_i Ij EI zi h1;split at h
    ·obtain⟨_,h⟩:=ez h;cases h;obtain⟨k1,k2⟩:=hN.head;exact⟨.inl ⟨_,_,rfl,rfl,.inr (.inr (.inl ⟨_,_,rfl,rfl,k2,k1⟩))⟩,ja hσ h1 hf hN.tail⟩
    ·obtain⟨_,h⟩:=ez h;cases h;obtain⟨k1,k2⟩:=hN.head;exact⟨.inl ⟨_,_,rfl,rfl,.inr (.inr (.inr (.inl ⟨_,rfl,rfl,k2,k1⟩)))⟩,ja hσ h1 hf hN.tail⟩
    ·cases h
   ·cases h
  ·split at h
   ·rename_i Ij r h1;obtain⟨hc,h⟩:=ez h;cases h;simp only[bO]at hc;rw[PQ hc.2];obtain⟨k1,k2⟩:=hσ _ (by simpa[FQ]using hc.1);exact⟨.inl ⟨_,_,rfl,rfl,.inr (.inr (.inr (.inr ⟨_,_,rfl,rfl,k1,k2⟩)))⟩,ja hσ h1 hf hN⟩
   ·cases h
  ·split at h
   ·rename_i Ij r h1;obtain⟨hc,h⟩:=ez h;cases h;simp only[bO]at hc;obtain⟨e1,e2⟩:=Sq hc.1 hc.2;rw[e1];refine⟨.inr ⟨_,_,rfl,rfl,λt ht=> ?_⟩,ja hσ h1 hf hN⟩;obtain⟨j,o,rfl,hj⟩:=e2 t ht;exact⟨j,o,rfl,hσ j hj⟩
   ·cases h
  ·split at h
   ·rename_i Ij EI zi h1;split at h
    ·cases h;exact⟨.inl ⟨_,_,rfl,rfl,.inl ⟨_,rfl,rfl⟩⟩,ja hσ h1 hf hN⟩
    ·split at h
     ·rename_i hlk;cases h;exact⟨.inl ⟨_,_,rfl,rfl,.inr (.inl ⟨_,_,_,rfl,rfl,hlk,hf _ (by simp)⟩)⟩,ja hσ h1 (λid bn=>hf id (by simp[bn])) hN⟩
     ·cases h
    ·cases h
   ·cases h
  ·cases h
theorem vK {m:Nat}(hσ:∀j,j<m->σ j=some j/\known hD j):∀{gs bs:List au} {j k:Nat} {fz:List Nat} {ow:List (Option Nat)},wP m look j k gs=some (bs,(fz,ow))->j+gs.length<=m->(∀id∈fz,(id,bw.dead)∈K)->o_ σ hD k ow->
  bs.length=gs.length/\uV look σ K hD j bs
 |[],_,_,_,_,_,h,_,_,_=>by simp only[wP]at h;cases h;exact⟨rfl,uV.nil⟩
 |g::gs,bs,j,k,fz,ow,h,hjm,hf,hN=>by
  simp only[bo]at hjm;simp only[wP]at h;split at h
  ·split at h
   ·rename_i sz es bs' r hlk h1;cases h;obtain⟨a1,a2⟩:=vK hσ h1 (by omega) hf hN;exact⟨by simp[a1],uV.cons (.inl ⟨_,_,_,rfl,(hσ j (by omega)).1,hlk⟩) a2⟩
   ·cases h
  ·split at h
   ·rename_i cs bs' EI zi hlk h1;split at h
    ·rename_i af fz2 ow2 hG;obtain⟨hb,h⟩:=ez h;cases h;have hb:=gK hb;have g1:=ja (K:=K) hσ hG (λid bn=>hf id (eO.2 (.inl bn))) hN.left;obtain⟨a1,a2⟩:=vK hσ h1 (by omega) (λid bn=>hf id (eO.2 (.inr bn))) (by rw[<-hb];exact hN.right);exact⟨by simp[a1],uV.cons (.inr (.inl ⟨_,_,_,rfl,(hσ j (by omega)).1,hlk,g1⟩)) a2⟩
    ·cases h
   ·cases h
  ·cases h
theorem P6 (n:Nat)(ow:List (Option Nat)):o_ (λj=>match ow[j-n]? with|some x=>x|none=>none) (List.replicate (n+ow.length) bw.dead) n ow:=λk x hk=>by
 have hlt:=(ko.1 hk).1;refine⟨?_,?_⟩
 ·unfold known;rw[jU _ (show(List.replicate (n+ow.length) bw.dead)[n+k]? =some bw.dead by rw[uO,aK (by omega)])];exact λh=>by cases h
 ·show(match ow[n+k-n]? with|some x=>x|none=>none)=x;rw[show n+k-n=k by omega,hk]
theorem yJ {m:Nat}:∀{gs bs:List au} {j k:Nat} {fz:List Nat} {ow:List (Option Nat)},wP m look j k gs=some (bs,(fz,ow))->bs.length=gs.length
 |[],_,_,_,_,_,h=>by simp only[wP]at h;cases h;rfl
 |g::gs,bs,j,k,fz,ow,h=>by
  simp only[wP]at h;split at h
  ·split at h
   ·rename_i h1;cases h;simp[yJ h1]
   ·cases h
  ·split at h
   ·rename_i h1;split at h
    ·obtain⟨_,h⟩:=ez h;cases h;simp[yJ h1]
    ·cases h
   ·cases h
  ·cases h
theorem Fw:∀{ow:List (Option Nat)} {gs is:List au},q_ look ow gs=some is->is.length=ow.length/\ow.length=gs.length
 |[],[],_,h=>by simp only[q_]at h;cases h;exact⟨rfl,rfl⟩
 |[],_::_,_,h=>by simp only[q_]at h;cases h
 |_::_,[],_,h=>by simp only[q_]at h;cases h
 |x::ow,b::gs,is,h=>by
  simp only[q_]at h;split at h
  ·rename_i h1;obtain⟨a1,a2⟩:=Fw h1;split at h
   ·split at h
    ·cases h;exact⟨by simp[a1],by simp[a2]⟩
    ·cases h
   ·cases h;exact⟨by simp[a1],by simp[a2]⟩
  ·cases h
theorem B4:∀{ow:List (Option Nat)} {gs is:List au} {n:Nat},q_ look ow gs=some is->o_ σ hD n ow->uV look σ K hD n is
 |[],[],_,_,h,_=>by simp only[q_]at h;cases h;exact uV.nil
 |[],_::_,_,_,h,_=>by simp only[q_]at h;cases h
 |_::_,[],_,_,h,_=>by simp only[q_]at h;cases h
 |x::ow,b::gs,is,n,h,hN=>by
  simp only[q_]at h;split at h
  ·rename_i sz es r h1;have a3:=B4 (n:=n+1) h1 hN.tail;obtain⟨k1,k2⟩:=hN.head;split at h
   ·split at h
    ·rename_i hlk;cases h;exact uV.cons (.inl ⟨_,_,_,rfl,k2,hlk⟩) a3
    ·cases h
   ·cases h;exact uV.cons (.inr (.inr ⟨k2,_,rfl⟩)) a3
  ·cases h
end back2
theorem FY {l:List (Option Nat)}{id:Nat}:id∈fY l↔some id∈l:=by
 induction l with
 |nil=>simp[fY]
 |cons x l ih=>cases x with
  |none=>simp[fY,ih]
  |some y=>simp[fY,ih]
theorem qo:∀(a b:List (Option Nat)),fY (a++b)=fY a++fY b
 |[],_=>rfl
 |none::a,b=>by simp only[qy,fY];exact qo a b
 |some x::a,b=>by simp only[qy,fY];rw[qo a b]
theorem yN:∀{l:List (Option Nat)} {x y id:Nat},(fY l).Nodup->l[x]? =some (some id)->l[y]? =some (some id)->x=y
 |[],x,_,_,_,hx,_=>by simp at hx
 |none::l,x,y,id,hn,hx,hy=>by
  cases x with
  |zero=>simp at hx
  |succ x=>cases y with
   |zero=>simp at hy
   |succ y=>exact congrArg (· +1) (yN (l:=l) hn (by simpa using hx) (by simpa using hy))
 |some o::l,x,y,id,hn,hx,hy=>by
  obtain⟨n1,n2⟩:=Cp.1 (show(o::fY l).Nodup from hn);have hm:∀z:Nat,l[z]? =some (some id)->id∈fY l:=λz hz=>FY.2 (gq hz);cases x with
  |zero=>cases y with
   |zero=>rfl
   |succ y=>
    simp at hx;subst hx;exact absurd (hm y (by simpa using hy)) n1
  |succ x=>cases y with
   |zero=>
    simp at hy;subst hy;exact absurd (hm x (by simpa using hx)) n1
   |succ y=>exact congrArg (· +1) (yN n2 (by simpa using hx) (by simpa using hy))
theorem Iv {C:Ctx}{vs:List (TV⊕List TV)}{us:List Value}(h:All2 (kA C) vs us):VA C (valOf vs) (NJ us):=by
 match vs,us with
 |[],[]=>exact mM.2 (.inr ⟨(λp h=>by cases h),#[],rfl,trivial⟩)
 |[v],[u]=>exact mM.2 (.inl ⟨v,rfl,h.1⟩)
 |v::v'::vs,u::u'::us=>exact mM.2 (.inr ⟨(λp h=>by cases h),_,rfl,h⟩)
 |[],_::_=>exact h.elim
 |_::_,[]=>exact h.elim
 |[v],u::u'::us=>exact h.2.elim
 |v::v'::vs,[u]=>exact h.2.elim
theorem U9 (hs:List au):ku hs<=hs.length:=Nat.sub_le _ _
theorem DV {E:Env}{f:Nat}{hs:List au}{fn:Func}{e:Ex}{st:St}{rs:List RV}{bs:List au}(h:aeZ E f hs fn e st=some (rs,bs)){C0 C:Ctx}(hx:fV (ku hs) C0 C)(az:Ok C){a:Act}(dL:SR C st a):
  (∀i,e≠.exit i)/\∃v D,(results fn a.tmps).run E.P C.w=.ok v C.w/\D.w=C.w/\fV (ku hs) C0 D/\Ok D/\D.h=(bs++ee hs.length rs).map bw.blk/\bs.length=hs.length/\VA D (valOf (kD hs.length rs)) v:=by
 unfold aeZ at h;split at h
 ·cases h
 ·rename_i hne;refine⟨λi he=>hne i he,?_⟩;split at h
  ·rename_i rsh vs ak8 E9;split at h
   ·rename_i rs0 fz ow W9 EI zi hR hB;split at h
    ·rename_i is hI;split at h
     ·rename_i hc;cases h;simp only[bO]at hc;obtain⟨Vv,uu⟩:=hc;have Vv:=wj Vv;have uu:∀id,id∈fz++(EI++(fY zi++fY ow))->ku hs<=id:=λid bn=>lz (iC.1 uu id bn);obtain⟨C1,us,e1,e2,e3,e4,e5,e6⟩:=iM E9 az dL.h dL.s;have hL1:bQ C1 (cw st.heap):=λid b hb=>by rw[e2,dL.h];exact gV.1 hb
      have hx1:=hx.trans e3;let m:=ku hs;have hm:m<=hs.length:=U9 hs;let all:=zi++ow;let K:cD:=(fz++EI).map λid=>(id,bw.dead)
      have hK:bK K:=λu hu=>by obtain⟨id,_,rfl⟩:=fQ.1 hu;rfl
      have hKm:∀id,id∈fz\/id∈EI->(id,bw.dead)∈K:=λid bn=>fQ.2 ⟨id,eO.2 bn,rfl⟩;have hKn:∀id e,(id,e)∈K->id∈fz\/id∈EI:=λid e he=>by
       obtain⟨x,hx,he⟩:=fQ.1 he;cases he;exact eO.1 hx
      let σ:Nat->Option Nat:=λj=>if j<m then some j else match all[j-m]? with|some x=>x|none=>none
      have Qm:∀j,j<m->σ j=some j:=λj hj=>aK hj;have hσ2:∀k x,all[k]? =some x->σ (m+k)=x:=λk x hk=>by
       show(if m+k<m then _ else _)=_;rw[aC (by omega),show m+k-m=k by omega,hk]
      have Dx:∀j id,m<=j->σ j=some id->all[j-m]? =some (some id):=λj id hj h=>by
       have h:(if j<m then some j else match all[j-m]? with|some x=>x|none=>none)=some id:=h;rw[aC (by omega)]at h;split at h
       ·rename_i x hx;rw[hx,h]
       ·cases h
      have hall:fY all=fY zi++fY ow:=qo zi ow;have Z7:∀(k:Nat) id,all[k]? =some (some id)->id∈fY zi++fY ow:=λk id hk=>by rw[<-hall];exact FY.2 (gq hk)
      have aht:∀(k:Nat) id,all[k]? =some (some id)->m<=id:=λk id hk=>uu id (eO.2 (.inr (eO.2 (.inr (Z7 k id hk)))));rw[<-kF]at Vv;obtain⟨_,alp,alo⟩:=List.nodup_append.1 Vv;have hnk:∀j id,σ j=some id->∀e,(id,e)∉K:=λj id hj e he=>by
       have pT:=hKn id e he;have ahC:id∈fz++EI:=eO.2 pT;by_cases hjm:j<m
       ·rw[Qm j hjm]at hj;cases hj;have:=uu j (by rw[<-kF];exact eO.2 (.inl ahC));exact Nat.lt_irrefl _ (gp hjm this)
       ·exact alo id ahC id (Z7 _ _ (Dx j id (by omega) hj)) rfl
      have VE:∀j j' id,σ j=some id->σ j'=some id->j=j':=λj j' id h1 h2=>by
       by_cases hj:j<m
       ·rw[Qm j hj]at h1;cases h1;by_cases EF:j'<m
        ·rw[Qm j' EF]at h2;cases h2;rfl
        ·have:=aht _ _ (Dx j' j (by omega) h2);omega
       ·have g1:=Dx j id (by omega) h1;by_cases EF:j'<m
        ·rw[Qm j' EF]at h2;cases h2;have:=aht _ _ g1;omega
        ·have g2:=Dx j' id (by omega) h2;have:=yN (l:=all) (by rw[hall];exact alp) g1 g2;omega
      obtain⟨i1,i2⟩:=Fw hI;have hdl:(hs.drop (ku hs)).length=hs.length-m:=List.length_drop;have htl:(hs.take (ku hs)).length=m:=by rw[vT];omega
      have hbl:W9.length=m:=by rw[yJ hB,htl]
      have hRl:(ee hs.length rs).length=ow.length:=(gN e4 hL1 hK hR (λid bn=>hKm id (.inl bn)) (P6 hs.length ow)).2.1;have hol:zi.length=hs.length-m:=by rw[i2,hdl]
      have hDl:((W9++is++ee hs.length rs).map bw.blk).length=m+all.length:=by
       simp only[mC,eC,hbl,i1,hRl,all];omega
      have AJ:∀j,j<m+all.length->known ((W9++is++ee hs.length rs).map bw.blk) j:=λj hj=>by
       rw[<-hDl]at hj;unfold known;rw[jU _ (dD hj),List.getElem_map];exact λh=>by cases h
      have hN:o_ σ ((W9++is++ee hs.length rs).map bw.blk) m all:=λk x hk=>⟨AJ _ (by have:=(ko.1 hk).1;omega),hσ2 k x hk⟩
      have hN1:o_ σ ((W9++is++ee hs.length rs).map bw.blk) m zi:=hN.left;have hN2:o_ σ ((W9++is++ee hs.length rs).map bw.blk) hs.length ow:=by
       have:=hN.right
       rwa [show m+zi.length=hs.length by omega]at this
      obtain⟨r1,_,r3⟩:=gN e4 hL1 hK hR (λid bn=>hKm id (.inl bn)) hN2;obtain⟨_,b2⟩:=vK (K:=K) (λj hj=>⟨Qm j hj,AJ j (by omega)⟩) hB (by rw[htl];omega) (λid bn=>hKm id (.inr bn)) hN1;have i3:=B4 (K:=K) hI hN1;have hbe:∀j b,live ((W9++is++ee hs.length rs).map bw.blk) j b->BE (cw st.heap) σ K ((W9++is++ee hs.length rs).map bw.blk) j b:=λj b hb=>by
       have hb:=(lB _ _ _).1 hb;have hall:uV (cw st.heap) σ K ((W9++is++ee hs.length rs).map bw.blk) 0 (W9++is++ee hs.length rs):=by
        refine uV.append (uV.append b2 ?_) ?_
        ·rw[hbl,dy];exact i3
        ·rw[eC,hbl,i1,dy,show m+zi.length=hs.length by omega];exact r1
       have:=hall j b hb
       rwa [dy]at this
      have R:=BE.ren e4 hL1 hK VE hnk hbe;refine⟨_,(C1.kill K).ren σ ((W9++is++ee hs.length rs).map bw.blk),Cf fn a.tmps E.P C.w C.w e5,e1,R.Kc (hx1.trans (cB C1 hK)) λid bn _=>⟨AJ id (by omega),Qm id bn⟩,BE.okD e4 hL1 hK R hnk hbe,rfl,?_,Iv (r3 R us e6)⟩;rw[eC,hbl,i1];omega
     ·cases h
    ·cases h
   ·cases h
  ·cases h
theorem Jl {C:Ctx}{vs:List AV}{v:AV}{us:List Value}(h:Of vs=some v)(ha:All2 (VA C) vs us):VA C v (NJ us):=by
 match vs,us,ha with
 |[x],[u],ha=>cases h;exact ha.1
 |[],[],_=>cases h;exact⟨#[],rfl,trivial⟩
 |x::y::vs,u::u'::us,ha=>
  simp only[Of]at h;split at h
  ·rename_i l hl;cases h;exact⟨_,rfl,tN hl ha⟩
  ·cases h
 |[],_::_,ha=>exact ha.elim
 |[_],[],ha=>exact ha.elim
 |[_],_::_::_,ha=>exact ha.2.elim
 |_::_::_,[],ha=>exact ha.elim
 |_::_::_,[_],ha=>exact ha.2.elim
theorem Dp {E:Env}(hE:okFns E=true)(hm:E.P.follows .mixedOrders=true){F:d_}(hF:eI E F):∀n,Xq E (xN E F n)
 |0=>λ_ _ _ _ _ _ _ _ h=>by cases h
 |n+1=>λg α args h K r C us hI JW az hh hv=>by
  simp only[xN]at hI;split at hI
  ·cases hI
  rename_i fn hfn;split at hI
  ·cases hI
  rename_i c hc;have hlen:us.size=args.length:=by rw[hv.length];simp
  refine callsIn_wide.1 (callsIn_of_wp_marks (F:=Fence.wide) (n:=6) hfn hc trivial ?_ rfl);have hsr:SR C ⟨args++dm .undef (fn.ntmps-args.length),h⟩ {tmps:=us++Array.replicate (fn.ntmps-us.size) Go.undef,defers:=[]}:=by
   refine⟨hh,λt=> ?_,?_⟩
   ·rw[dp,dO,Co];show VA C _ ((us++Array.replicate (fn.ntmps-us.size) Go.undef).getD t Go.undef);rw[uQ,Array.getElem?_append];by_cases ht:t<args.length
    ·rw[aK ht,aK (by omega)];obtain⟨u,h1,h2⟩:=hv.get t args[t] (dD ht);have h1:us[t]? =some u:=by simpa using h1
     rw[dD ht,h1];exact h2
    ·rw[aC ht,n_,uO];split<;>trivial
   ·simp[eW,hlen]
  refine D1 c (fx:=⟨E,F,g,h.length,fn.ntmps,HI args,xN E F n⟩) hE hF hm (Dp hE hm hF n) (C0:=C) (dB _) (Fn:=Fence.wide) (N:=6) (.inl ⟨rfl,dB _⟩) 0 α _ _ _ C _ _ (.inl rfl) hI az ((Ext.refl C).m _) hsr (gG.nil rfl) (by simp;omega) λe bD C' a' hK f_ kY dL pU _=> ?_;have hnG:nG<=C.w.heap.size:=Nat.le_of_not_lt λhlt=>Nat.lt_irrefl _ (az.gr.low _ hlt).1;have key:∀e',e'=e->(∀i,e'≠.exit i)->LeavesInM Fence.wide 6 E.P fn a'.tmps (λe w'=>match e with
   | .returned u=>∃(C':Ctx) (v:AV),C'.w=w'/\Ok C'/\Ext C C'/\VA C' v u/\K v C'.h=some r
   |_=>False) a'.defers .returning C'.w:=by
   intro e' he hne;subst he;refine zt hnG a'.defers C' f_ kY pU.1 pU.2 λC1 pg hx1 ZX hh1=> ?_;have hs1:SR C1 bD a':=⟨hh1.trans dL.h,λt=>ZX.va (dL.s t),dL.n⟩
   have hx1:Ext C C1:=hx1.full (by rw[hh];exact dB _);have hK:(match n9 E.P bD.slots (cw bD.heap) fn.results.toList with
      |some vs=>(match Of vs with|some v=>K v bD.heap|none=>none)
      |none=>none)=some r:=by
    cases e' with
    |eF=>exact hK
    |exit i=>exact absurd rfl (hne i)
    |ret=>exact hK
   split at hK
   ·rename_i vs E9;split at hK
    ·rename_i v hpv;obtain⟨C2,us1,h1,h2,h3,h4,h5,h6⟩:=iM E9 pg hs1.h hs1.s;exact⟨_,Cf fn a'.tmps E.P C1.w C1.w h5,C2,v,h1,h4,hx1.trans h3,Jl hpv h6,by rw[h2,hs1.h];exact hK⟩
    ·cases hK
   ·cases hK
  cases e with
  |eF=>exact key _ rfl (λi h=>by cases h)
  |exit i=>cases hK
  |ret=>exact key _ rfl (λi h=>by cases h)
end
theorem MS {E:Env}(hP:yx E)(hE:okFns E=true)(hm:E.P.follows .mixedOrders=true){F:d_}(hF:eI E F){f:Nat}{args:List AV}{hs:List au}{rs:List RV}{bs:List au}
  (h:aI E F f args hs=some (rs,bs)):K7 E f args hs rs bs:=by
 unfold aI at h;split at h
 ·rename_i p hp;split at h
  ·split at h
   ·rename_i rs' hrs;cases h;exact hP.pr f p hp F hF args _ hrs
   ·cases h
  ·cases h
 intro C0 az hC0 us hv;split at h
 ·cases h
 rename_i fn hfn;split at h
 ·cases h
 rename_i c hc;have hlen:us.size=args.length:=by rw[hv.length];simp
 refine callsIn_wide.1 (callsIn_of_wp_marks (F:=Fence.wide) (n:=6) hfn hc trivial ?_ rfl);have hsr:SR C0 ⟨args++dm .undef (fn.ntmps-args.length),hs.map bw.blk⟩ {tmps:=us++Array.replicate (fn.ntmps-us.size) Go.undef,defers:=[]}:=by
  refine⟨hC0,λt=> ?_,?_⟩
  ·rw[dp,dO,Co];show VA C0 _ ((us++Array.replicate (fn.ntmps-us.size) Go.undef).getD t Go.undef);rw[uQ,Array.getElem?_append];by_cases ht:t<args.length
   ·rw[aK ht,aK (by omega)];obtain⟨u,h1,h2⟩:=hv.get t args[t] (dD ht);have h1:us[t]? =some u:=by simpa using h1
    rw[dD ht,h1];exact h2
   ·rw[aC ht,n_,uO];split<;>trivial
  ·simp[eW,hlen]
 refine D1 c (fx:=⟨E,F,f,ku hs,fn.ntmps,HI args,xN E F 3⟩) hE hF hm (Dp hE hm hF 3) (C0:=C0) (dB _) (Fn:=Fence.wide) (N:=6) (.inl ⟨rfl,dB _⟩) 0 gv _ _ _ C0 _ _ (.inl rfl) h az ((Ext.refl C0).m _) hsr (gG.nil rfl) (by simp;omega) λe bD C' a' hK f_ kY dL pU _=> ?_;have hnG:nG<=C0.w.heap.size:=Nat.le_of_not_lt λhlt=>Nat.lt_irrefl _ (az.gr.low _ hlt).1;have key:LeavesInM Fence.wide 6 E.P fn a'.tmps (λe w'=>match e with
   | .returned u=>∃D:Ctx,D.w=w'/\fV (ku hs) C0 D/\Ok D/\D.h=(bs++ee hs.length rs).map bw.blk/\bs.length=hs.length/\VA D (valOf (kD hs.length rs)) u
   |_=>False) a'.defers .returning C'.w:=by
  refine zt hnG a'.defers C' f_ kY pU.1 pU.2 λC1 pg hx1 ZX hh1=> ?_;have hs1:SR C1 bD a':=⟨hh1.trans dL.h,λt=>ZX.va (dL.s t),dL.n⟩
  obtain⟨hne,v,D,h1,h2,h3,h4,h5,h7,h6⟩:=DV hK hx1 pg hs1;exact⟨v,h1,D,h2,h3,h4,h5,h7,h6⟩
 obtain⟨hne,_⟩:=DV hK kY f_ dL;cases e with
 |eF=>exact key
 |exit i=>exact absurd rfl (hne i)
 |ret=>exact key
theorem MT {E:Env}(hP:yx E){F:d_}(hF:eI E F){f:Nat}(hf:bH f E.fresh=true){args:List AV}{hs:List au}{rs:List RV}{bs:List au}(h:aI E F f args hs=some (rs,bs))(h0:hs=[]):QZ E f args rs:=by
 obtain⟨p,hp,hr⟩:=hP.fr f hf;subst h0;unfold aI at h;rw[hp]at h;simp only at h;split at h
 ·rename_i rs' hrs;cases h;exact hr F hF args _ hrs
 ·cases h
theorem MY {E:Env}(hP:yx E)(hE:okFns E=true)(hm:E.P.follows .mixedOrders=true):eI E (denC E):=by
 have key:∀f a h r,denC E f a h=some r->(bH f E.v_=true->K7 E f a h r.1 r.2)/\(bH f E.fresh=true->h=[]->QZ E f a r.1):=λf a h r hr=>
  Wf E (λf a h r=>(bH f E.v_=true->K7 E f a h r.1 r.2)/\(bH f E.fresh=true->h=[]->QZ E f a r.1)) (λF hF f a h r hr=>by
   have hFs:eI E F:=⟨λf args hs rs dL h hf=>(hF f args hs (rs,dL) h).1 hf,λf args hs rs dL h hf h0=>(hF f args hs (rs,dL) h).2 hf h0,hP.hp,hP.rv,hP.ro⟩
   exact⟨λhf=>MS hP hE hm hFs (rs:=r.1) (bs:=r.2) hr,λhf h0=>MT hP hFs hf (rs:=r.1) (bs:=r.2) hr h0⟩) hr
 exact⟨λf args hs rs dL h hf=>(key f args hs (rs,dL) h).1 hf,λf args hs rs dL h hf h0=>(key f args hs (rs,dL) h).2 hf h0,hP.hp,hP.rv,hP.ro⟩
end Go.Proofs.YtoocplpcbdemhaaGreat.Vm
