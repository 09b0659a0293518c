/- Parameters that are structs: their cells. -/
import Derived.Test.YtclplmjlolpfbaaGreatVm33
namespace Go.Proofs.YtclplmjlolpfbaaGreat.Vm
set_option linter.unusedVariables false
set_option linter.unusedSimpArgs false

def fty (P : Program) (t : TypeId) : List TypeId := match P.underlying t with
  | some (.struct fs) => fs.toList.map fun (f : Field) => f.type
  | _ => []

theorem all2_mapl {α β γ : Type} {R : β → γ → Prop} (g : α → β) : ∀ {l : List α} {m : List γ}, All2 (fun a c => R (g a) c) l m → All2 R (l.map g) m
  | [], [], _ => trivial
  | [], _ :: _, h => h.elim
  | _ :: _, [], h => h.elim
  | _ :: _, _ :: _, h => ⟨h.1, all2_mapl g h.2⟩

theorem wfc_flds {P : Program} {t x : TypeId} {l : List TypeId} {k : Nat} {cs : List PV} (hf : fty P t = x :: l) (h : WFc P (k + 1) t cs) : ∃ xs, cs = xs.flatten ∧ All2 (WFc P k) (x :: l) xs := by
  rw [← hf]
  unfold fty at hf ⊢
  split at hf
  · rename_i fs hu
    obtain ⟨xs, h1, h2⟩ := wfc_struct hu h
    exact ⟨xs, h2, all2_mapl _ h1⟩
  · cases hf

theorem wfa_flds {P : Program} {t x : TypeId} {l : List TypeId} {a : AV} (hf : fty P t = x :: l) (h : WFA P t a) : ∃ xs, a = .t (.agg xs.flatten) ∧ All2 (WFc P 11) (x :: l) xs := by
  rw [← hf]
  unfold fty at hf ⊢
  split at hf
  · rename_i fs hu
    obtain ⟨cs, h0, xs, h1, h2⟩ := wfa_struct hu h
    exact ⟨xs, by rw [h0, h2], all2_mapl _ h1⟩
  · cases hf

end Go.Proofs.YtclplmjlolpfbaaGreat.Vm
