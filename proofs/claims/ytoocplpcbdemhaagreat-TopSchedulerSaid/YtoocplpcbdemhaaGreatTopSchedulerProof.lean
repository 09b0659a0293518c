/- 'TopScheduler' is true of the given program for every input, and no argument is changed. No conditions. -/
import Derived.Test.YtoocplpcbdemhaaGreatRows
import Derived.Test.YtoocplpcbdemhaaGreatZf
import Derived.WalkKit
import Derived.ProofKit
import Derived.ShutString
namespace Go.Proofs.YtoocplpcbdemhaaGreat.topScheduler
open Go.ChangeShapes Go.WideShapes Go.ChangeAt Go.RowKit
open Go.Proofs.YtoocplpcbdemhaaGreat.Vm (E denC law_calls args_in args_stay okFns okTy WFA All2 VA AV PV RV d_TopScheduler trod_len list_cons list_nil all2_cons all2_nil wf_i64 wfa_ints)
set_option linter.unusedVariables false
theorem own:ownKnob Tryz.prog.godebug=none:=by kernel_rfl
theorem laidOut:laidOutB Tryz.prog=true:=by kernel_rfl
theorem fns:okFns E=true:=by kernel_rfl
theorem mixed:E.P.follows .mixedOrders=true:=by kernel_rfl
set_option maxRecDepth 100000 in
theorem answer (avs:List AV)(h0:All2 (WFA Tryz.prog) Tryz.f3.params.toList avs):denC E 3 avs []=some ([RV.p (PV.bool true)],[]):=by
 have h:All2 (WFA Tryz.prog) [22] avs:=h0;clear h0;obtain⟨a0,r0,rfl,h0,k0⟩:=all2_cons h;obtain rfl:=all2_nil k0;obtain⟨x0,rfl,w0,v0⟩:=wfa_ints (e:=3) (kd:=.i64) (by kernel_rfl) (by kernel_rfl) h0;exact d_TopScheduler x0 w0 (λn hn=>wf_i64 (v0 n hn))
set_option maxRecDepth 100000 in
theorem lifted (os:Os)(started:os.Started)(H:Type)(enc:TypeId×Value->H):
  ReturnsInHanded {} Tryz.checked os 3 .any (Rows.topSchedulerSpec.pre6 enc Tryz.prog Tryz.f3 Rows.topSchedulerRow.domain false) (Rows.topSchedulerSpec.post enc Tryz.prog Tryz.f3 false true false false):=by
 refine returnsInHanded_of_change (C:=Tryz.checked) own started (by kernel_rfl) Tryz.func3
  (ChangeSpec.witness6 (enc:=enc) (C:=Tryz.checked) false ⟨#[],#[.slice none 0 0],[]⟩ 8 (by kernel_rfl) (by kernel_rfl) (by kernel_rfl) (by kernel_rfl)) ?_
 intro W base args ds gs before agZ hW hcnd _;have hval:∀(j:Nat) t v,Tryz.f3.params[j]? =some t->args[j]? =some v->Value.okWide Tryz.prog W .any base t v:=agZ;have hW':=hW;obtain⟨p,q,hA,hV,rfl,hfz,Vv⟩:=hW;obtain⟨avs,ha,hwf⟩:=args_in (P:=Tryz.prog) (O:=λ_=>False) (λ_ h=>h) (ts:=Tryz.f3.params.toList) (by kernel_rfl) hA (λj t v ht hv=>hval j t v (by simpa using ht) (by simpa using hv));obtain⟨rfl,rfl⟩:=trodVars_none hV;refine(law_calls Go.Proofs.YtoocplpcbdemhaaGreat.Vm.YH fns mixed (f:=3) (by kernel_rfl) ⟨Nat.zero_le _,trivial⟩ ha (answer avs hwf)).mono λe W' ⟨he,bel⟩=> ?_;subst he;have ag7:=args_stay laidOut bel (by kernel_rfl) hA;have hlen:ds.length=1:=trod_len hA;obtain⟨d0,ds0,rfl,l0⟩:=list_cons (n:=0) hlen;obtain rfl:=list_nil l0;exact⟨_,rfl,_,_,_,[],_,[],hW',trodAll_mk1 (shut_bool Tryz.underlying4 _),ag7,rfl,bel.frame _,λh=>by cases h⟩
theorem over:Rows.topSchedulerRow.holds Tryz.pinned (OpenSpec.ofChange Rows.topSchedulerSpec):=
 OpenClaim.holds_of_wide 3 Tryz.f3 rfl rfl rfl rfl rfl rfl rfl ⟨rfl,rfl,rfl,rfl,rfl⟩ rfl rfl rfl rfl rfl (by kernel_rfl) Tryz.func3 (by kernel_rfl)
  (of_decide_eq_true (by kernel_rfl)) (by unfold Func.isWrapper;first|(rw[if_pos (by decide+kernel)];kernel_rfl)|(rw[if_neg (by decide+kernel)];exact⟨rfl,rfl⟩))
  (λos started H enc _=>lifted os started H enc)
theorem proved:Rows.TopSchedulerSaid:=over
end Go.Proofs.YtoocplpcbdemhaaGreat.topScheduler
