/- The abstract machine, part 32: what a call comes to in the abstract machine is what it comes to in the model. -/
import Derived.Test.YtpnpdkgdgfkpfaaGreatDoorVm31
namespace Go.Proofs.YtpnpdkgdgfkpfaaGreatDoor.Vm
set_option linter.unusedVariables false
set_option linter.unusedSimpArgs false

theorem funK_sound {E : Env} (hP : PrimsOk E) (hE : okFns E = true) (hm : E.P.follows .mixedOrders = true) {F : Fun} (hF : FSound E F) {f : Nat} {args : List AV} {hs : List Blk} {rs : List RV} {bs : List Blk}
    (h : funK E F f args hs = some (rs, bs)) : FOk E f args hs rs bs := by
  unfold funK at h
  split at h
  · rename_i p hp
    split at h
    · split at h
      · rename_i rs' hrs
        cases h
        exact hP.pr f p hp F hF args _ hrs
      · cases h
    · cases h
  intro C0 hok hC0 us hv
  split at h
  · cases h
  rename_i fn hfn
  split at h
  · cases h
  rename_i c hc
  have hlen : us.size = args.length := by rw [hv.length]; simp
  refine calls_of_wp hfn hc ?_
  have hsr : SR C0 ⟨args ++ reps .undef (fn.ntmps - args.length), hs.map Ent.blk⟩ { tmps := us ++ Array.replicate (fn.ntmps - us.size) Go.undef, defers := [] } := by
    refine ⟨hC0, fun t => ?_, ?_⟩
    · rw [nth_eq, List.getD_eq_getElem?_getD, List.getElem?_append]
      show VA C0 _ ((us ++ Array.replicate (fn.ntmps - us.size) Go.undef).getD t Go.undef)
      rw [Array.getD_eq_getD_getElem?, Array.getElem?_append]
      by_cases ht : t < args.length
      · rw [if_pos ht, if_pos (by omega)]
        obtain ⟨u, h1, h2⟩ := hv.get t args[t] (List.getElem?_eq_getElem ht)
        have h1 : us[t]? = some u := by simpa using h1
        rw [List.getElem?_eq_getElem ht, h1]
        exact h2
      · rw [if_neg ht, reps_eq, List.getElem?_replicate]
        split <;> trivial
    · simp [reps_length, hlen]
  refine denK_sound (fx := ⟨E, F, f, hs.length, fn.ntmps, fnArgs args, inlK E F 3⟩) hE hF hm (inlK_sound hE hm hF 3) (by simp [hC0]) c 0 Res _ _ _ C0 _ _ h hok (Ext.refl C0) hsr rfl (by simp; omega) fun e st' C' a' hK hok' hx' hs' hd' _ => ?_
  obtain ⟨hne, v, D, h1, h2, h3, h4, h5, h6⟩ := endK_sound hK (by simp [hC0]) hx' hok' hs'
  cases e with
  | nrm => exact ⟨hd', v, h1, D, h2, h3, h4, h5, h6⟩
  | exit i => exact absurd rfl (hne i)
  | ret => exact ⟨hd', v, h1, D, h2, h3, h4, h5, h6⟩

theorem denC_sound {E : Env} (hP : PrimsOk E) (hE : okFns E = true) (hm : E.P.follows .mixedOrders = true) : FSound E (denC E) := by
  refine ⟨?_, hP.hp⟩
  intro f args hs rs hs' h hf
  refine denC_ind E (fun f a h r => hasN f E.okf = true → FOk E f a h r.1 r.2) (fun F hF f a h r hr hf => ?_) h hf
  exact funK_sound hP hE hm ⟨fun f args hs rs hs' h hf => hF f args hs (rs, hs') h hf, hP.hp⟩ (rs := r.1) (bs := r.2) hr

end Go.Proofs.YtpnpdkgdgfkpfaaGreatDoor.Vm
