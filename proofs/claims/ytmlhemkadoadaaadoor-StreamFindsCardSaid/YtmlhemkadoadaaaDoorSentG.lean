/- Chapter 04: texts and sentences go back and forth. -/
import Derived.Test.YtmlhemkadoadaaaDoorSentF
namespace Go.Proofs.YtmlhemkadoadaaaDoor.Vm
set_option linter.unusedVariables false
set_option linter.unusedSimpArgs false

theorem hexv_hexd {n : Nat} (h : n < 16) : hexv (hexd n) = n := (hexd_iff n (hexd n) h).1 rfl

theorem spl_no {s : List UInt8} (h : ∀ b ∈ s, b ≠ 44) : spl 44 s = [s] := by
  induction s with
  | nil => rfl
  | cons b l ih =>
    have hb : (b == 44) = false := by simpa using h b (by simp)
    unfold spl
    rw [hb, ih fun x hx => h x (by simp [hx])]
    rfl
theorem spl_step {b : UInt8} {l : List UInt8} (h : (b == 44) = false) : spl 44 (b :: l) = match spl 44 l with | [] => [[b]] | p :: r => (b :: p) :: r := by
  rw [spl, h]
  rfl
theorem spl_app {s : List UInt8} (h : ∀ b ∈ s, b ≠ 44) (t : List UInt8) : spl 44 (s ++ 44 :: t) = s :: spl 44 t := by
  induction s with
  | nil => rfl
  | cons b l ih =>
    have hb : (b == 44) = false := by simpa using h b (by simp)
    rw [List.cons_append, spl_step hb, ih fun x hx => h x (by simp [hx])]
theorem spl_join : ∀ (x : List UInt8) (r : List (List UInt8)), (∀ s ∈ x :: r, ∀ b ∈ s, b ≠ 44) → spl 44 (Lib.join (x :: r) [44]) = x :: r
  | x, [], h => by
    rw [Lib.join_one]
    exact spl_no (h x (by simp))
  | x, y :: r, h => by
    have e : Lib.join (x :: y :: r) [44] = x ++ 44 :: Lib.join (y :: r) [44] := by
      rw [Lib.join_cons, Lib.join_cons]
      simp [Lib.joinTail]
    rw [e, spl_app (h x (by simp)), spl_join y r fun s hs => h s (by simp [hs])]

theorem fld_no {s : List UInt8} (h : fldB s = true) : ∀ b ∈ s, b ≠ 44 := by
  intro b hb he
  unfold fldB at h
  simp only [Bool.and_eq_true] at h
  have := List.all_eq_true.1 h.2 b hb
  subst he
  exact absurd this (by decide)

theorem valid_ne {l : List (List UInt8)} (h : validB l = true) : l ≠ [] ∧ ∀ s ∈ l, fldB s = true := by
  unfold validB at h
  simp only [Bool.and_eq_true, decide_eq_true_eq] at h
  refine ⟨fun e => ?_, fun s hs => List.all_eq_true.1 h.1.2 s hs⟩
  subst e
  have := h.1.1.1
  simp at this

theorem spl_valid {l : List (List UInt8)} (h : validB l = true) : spl 44 (Lib.join l [44]) = l := by
  obtain ⟨hne, hf⟩ := valid_ne h
  cases l with
  | nil => exact absurd rfl hne
  | cons x r => exact spl_join x r fun s hs => fld_no (hf s hs)

theorem prs_txt {l : List (List UInt8)} (h : validB l = true) (hl : (txt (Lib.join l [44])).length ≤ 200) : prs (txt (Lib.join l [44])) = (.sl 1 (strsK l), 0) := by
  have hlt := (sumB (Lib.join l [44])).toNat_lt
  have h1 := hexv_hexd (n := (sumB (Lib.join l [44])).toNat / 16) (by omega)
  have h2 := hexv_hexd (n := (sumB (Lib.join l [44])).toNat % 16) (by omega)
  rw [txt_length] at hl
  unfold txt
  rw [prs_six _ _ _ _ _ _ _ hl, if_pos ⟨rfl, rfl, by omega, by omega, rfl, rfl⟩]
  unfold prsT
  rw [spl_valid h, if_pos h, if_pos (by rw [h1, h2]; omega)]

theorem frm_ok {l : List (List UInt8)} (h : validB l = true) (hl : (txt (Lib.join l [44])).length ≤ 200) : frm l = (txt (Lib.join l [44]), 0) := by
  unfold frm
  rw [if_pos h, if_neg (by omega)]

theorem txt_fields (L : List Int) (k : Nat) : (txt (Lib.join (vFields L k) [44])).length ≤ 26 := by
  obtain ⟨_, h2, h3⟩ := vFields_ok L k
  have := join_len (vFields L k)
  rw [txt_length]; omega

theorem Lle {t : List Int} : (t.take 600).length ≤ 600 := by simp; omega

end Go.Proofs.YtmlhemkadoadaaaDoor.Vm
