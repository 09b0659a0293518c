import Derived.Test.YtkpdiagdjplbiaaGreatDoorVm33
import Derived.Test.YtkpdiagdjplbiaaGreatDoorRepW
import Derived.Test.YtkpdiagdjplbiaaGreatDoorRawExact
/- Parameters that are structs: their cells. -/
namespace Go.Proofs.YtkpdiagdjplbiaaGreatDoor.Vm
set_option linter.unusedVariables false
set_option linter.unusedSimpArgs false

def fty (P : Program) (t : TypeId) : List TypeId := match P.underlying t with
  | some (.struct fs) => fs.toList.map fun (f : Field) => f.type
  | _ => []

theorem all2_mapl {α β γ : Type} {R : β → γ → Prop} (g : α → β) : ∀ {l : List α} {m : List γ}, All2 (fun a c => R (g a) c) l m → All2 R (l.map g) m
  | [], [], _ => trivial
  | [], _ :: _, h => h.elim
  | _ :: _, [], h => h.elim
  | _ :: _, _ :: _, h => ⟨h.1, all2_mapl g h.2⟩

theorem wfc_flds {P : Program} {t x : TypeId} {l : List TypeId} {k : Nat} {cs : List PV} (hf : fty P t = x :: l) (h : WFc P (k + 1) t cs) : ∃ xs, cs = xs.flatten ∧ All2 (WFc P k) (x :: l) xs := by
  rw [← hf]
  unfold fty at hf ⊢
  split at hf
  · rename_i fs hu
    obtain ⟨xs, h1, h2⟩ := wfc_struct hu h
    exact ⟨xs, h2, all2_mapl _ h1⟩
  · cases hf

theorem wfa_flds {P : Program} {t x : TypeId} {l : List TypeId} {a : AV} (hf : fty P t = x :: l) (h : WFA P t a) : ∃ xs, a = .t (.agg xs.flatten) ∧ All2 (WFc P 11) (x :: l) xs := by
  rw [← hf]
  unfold fty at hf ⊢
  split at hf
  · rename_i fs hu
    obtain ⟨cs, h0, xs, h1, h2⟩ := wfa_struct hu h
    exact ⟨xs, by rw [h0, h2], all2_mapl _ h1⟩
  · cases hf

end Go.Proofs.YtkpdiagdjplbiaaGreatDoor.Vm

/- The law ReportExact (printed by tools/rx40.py). -/
namespace Go.Proofs.YtkpdiagdjplbiaaGreatDoor.Vm
set_option linter.unusedVariables false
set_option linter.unusedSimpArgs false
set_option maxRecDepth 100000

def nE (e : En) : Prop := wordOk e.t ∧ wordOk e.k ∧ (∀ x ∈ e.ws, wordOk x)
theorem un_int : Tryz.prog.underlying 3 = some (.int .i64) := by kernel_rfl
theorem un_u64 : Tryz.prog.underlying 24 = some (.int .u64) := by kernel_rfl
theorem wds_of : ∀ {es : List (List PV)}, (∀ x ∈ es, ∃ n, x = [PV.int .i64 n] ∧ wordOk n) → ∃ l : List Int, es = intsK .i64 l ∧ ∀ n ∈ l, wordOk n
  | [], _ => ⟨[], rfl, fun n hn => (List.not_mem_nil hn).elim⟩
  | x :: es, h => by
    obtain ⟨l, rfl, h1⟩ := wds_of (es := es) fun y hy => h y (by simp [hy])
    obtain ⟨n, rfl, h2⟩ := h x (by simp)
    exact ⟨n :: l, rfl, fun m hm => by
      rcases List.mem_cons.1 hm with rfl | hm
      · exact h2
      · exact h1 m hm⟩
theorem ens_of : ∀ {es : List (List PV)}, (∀ x ∈ es, ∃ e, x = enK e ∧ nE e) → ∃ l : List En, es = ensK l ∧ ∀ e ∈ l, nE e
  | [], _ => ⟨[], rfl, fun n hn => (List.not_mem_nil hn).elim⟩
  | x :: es, h => by
    obtain ⟨l, rfl, h1⟩ := ens_of (es := es) fun y hy => h y (by simp [hy])
    obtain ⟨n, rfl, h2⟩ := h x (by simp)
    exact ⟨n :: l, rfl, fun m hm => by
      rcases List.mem_cons.1 hm with rfl | hm
      · exact h2
      · exact h1 m hm⟩
theorem ft_En : fty Tryz.prog 32 = [3, 3, 22] := by kernel_rfl
theorem ft_Book : fty Tryz.prog 26 = [23, 24] := by kernel_rfl
theorem ft_Rep : fty Tryz.prog 29 = [27, 3, 3, 3] := by kernel_rfl
theorem wf_w {n : Int} (h : (Lit.int .i64 n).wf = true) : wordOk n := wf_i64 h
theorem in_xs {xs : List (List PV)} {k : Nat} (hx : All2 (WFc Tryz.prog (k + 2)) [3, 3, 22] xs) : ∃ e : En, xs.flatten = enK e ∧ nE e := by
  obtain ⟨x0, xs0, rfl, h0, k0⟩ := all2_cons hx
  obtain ⟨x1, xs1, rfl, h1, k1⟩ := all2_cons k0
  obtain ⟨x2, xs2, rfl, h2, k2⟩ := all2_cons k1
  obtain rfl := all2_nil k2
  obtain ⟨c0, rfl, w0⟩ := wfc_int un_int h0
  obtain ⟨c1, rfl, w1⟩ := wfc_int un_int h1
  obtain ⟨es, rfl, h3, h4⟩ := wfc_sl (e := 3) (by kernel_rfl) h2
  obtain ⟨l, rfl, h5⟩ := wds_of fun x hx => by
    obtain ⟨n, hn, w⟩ := wfc_int un_int (h4 x hx)
    exact ⟨n, hn, wf_w w⟩
  exact ⟨⟨c0, c1, l⟩, rfl, wf_w w0, wf_w w1, h5⟩
theorem in_Book {a : AV} (h : WFA Tryz.prog 26 a) : ∃ (b : List En) (s : Int), a = AV.agg [PV.sl 3 (ensK b), PV.int .u64 s] ∧ (∀ e ∈ b, nE e) ∧ 0 ≤ s ∧ s ≤ 18446744073709551615 := by
  obtain ⟨xs, rfl, hx⟩ := wfa_flds ft_Book h
  obtain ⟨x0, xs0, rfl, h0, k0⟩ := all2_cons hx
  obtain ⟨x1, xs1, rfl, h1, k1⟩ := all2_cons k0
  obtain rfl := all2_nil k1
  obtain ⟨c1, rfl, w1⟩ := wfc_int un_u64 h1
  obtain ⟨es, rfl, h3, h4⟩ := wfc_sl (e := 32) (by kernel_rfl) h0
  obtain ⟨l, rfl, h5⟩ := ens_of fun x hx => by
    obtain ⟨ys, rfl, hy⟩ := wfc_flds ft_En (h4 x hx)
    exact in_xs hy
  exact ⟨l, c1, rfl, h5, wf_u64 w1⟩
theorem four {α : Type} {l : List α} (h : l.length = 4) : ∃ a b c d, l = [a, b, c, d] := by
  match l, h with
  | [a, b, c, d], _ => exact ⟨a, b, c, d, rfl⟩
theorem i64B_of {n : Int} (h : wordOk n) : i64B n = true := by
  unfold wordOk at h
  simp [i64B]
  omega
theorem in_Rep {a : AV} (h : WFA Tryz.prog 29 a) : ∃ a0 a1 a2 a3 a4 a5 a6 : Int, a = AV.agg [PV.int .i64 a0, PV.int .i64 a1, PV.int .i64 a2, PV.int .i64 a3, PV.int .i64 a4, PV.int .i64 a5, PV.int .i64 a6] ∧ ([a0, a1, a2, a3, a4, a5, a6].all i64B) = true := by
  obtain ⟨xs, rfl, hx⟩ := wfa_flds ft_Rep h
  obtain ⟨y0, xs0, rfl, h0, k0⟩ := all2_cons hx
  obtain ⟨y1, xs1, rfl, h1, k1⟩ := all2_cons k0
  obtain ⟨y2, xs2, rfl, h2, k2⟩ := all2_cons k1
  obtain ⟨y3, xs3, rfl, h3, k3⟩ := all2_cons k2
  obtain rfl := all2_nil k3
  obtain ⟨c4, rfl, w4⟩ := wfc_int un_int h1
  obtain ⟨c5, rfl, w5⟩ := wfc_int un_int h2
  obtain ⟨c6, rfl, w6⟩ := wfc_int un_int h3
  obtain ⟨ys, hl, rfl, hy⟩ := wfc_array (n := 4) (e := 3) (by kernel_rfl) h0
  obtain ⟨z0, z1, z2, z3, rfl⟩ := four hl
  obtain ⟨c0, rfl, w0⟩ := wfc_int un_int (hy z0 (by simp))
  obtain ⟨c1, rfl, w1⟩ := wfc_int un_int (hy z1 (by simp))
  obtain ⟨c2, rfl, w2⟩ := wfc_int un_int (hy z2 (by simp))
  obtain ⟨c3, rfl, w3⟩ := wfc_int un_int (hy z3 (by simp))
  refine ⟨c0, c1, c2, c3, c4, c5, c6, rfl, ?_⟩
  simp only [List.all_cons, List.all_nil, i64B_of (wf_w w0), i64B_of (wf_w w1), i64B_of (wf_w w2), i64B_of (wf_w w3), i64B_of (wf_w w4), i64B_of (wf_w w5), i64B_of (wf_w w6), Bool.and_self]

theorem nth_10 {α : Type} (d y0 y1 y2 y3 y4 y5 y6 y7 y8 y9 y10 : α) (l : List α) : nth d (y0 :: y1 :: y2 :: y3 :: y4 :: y5 :: y6 :: y7 :: y8 :: y9 :: y10 :: l) 10 = y10 := rfl
theorem nth_11 {α : Type} (d y0 y1 y2 y3 y4 y5 y6 y7 y8 y9 y10 y11 : α) (l : List α) : nth d (y0 :: y1 :: y2 :: y3 :: y4 :: y5 :: y6 :: y7 :: y8 :: y9 :: y10 :: y11 :: l) 11 = y11 := rfl
theorem nth_12 {α : Type} (d y0 y1 y2 y3 y4 y5 y6 y7 y8 y9 y10 y11 y12 : α) (l : List α) : nth d (y0 :: y1 :: y2 :: y3 :: y4 :: y5 :: y6 :: y7 :: y8 :: y9 :: y10 :: y11 :: y12 :: l) 12 = y12 := rfl
theorem nth_13 {α : Type} (d y0 y1 y2 y3 y4 y5 y6 y7 y8 y9 y10 y11 y12 y13 : α) (l : List α) : nth d (y0 :: y1 :: y2 :: y3 :: y4 :: y5 :: y6 :: y7 :: y8 :: y9 :: y10 :: y11 :: y12 :: y13 :: l) 13 = y13 := rfl
theorem nth_14 {α : Type} (d y0 y1 y2 y3 y4 y5 y6 y7 y8 y9 y10 y11 y12 y13 y14 : α) (l : List α) : nth d (y0 :: y1 :: y2 :: y3 :: y4 :: y5 :: y6 :: y7 :: y8 :: y9 :: y10 :: y11 :: y12 :: y13 :: y14 :: l) 14 = y14 := rfl
theorem nth_15 {α : Type} (d y0 y1 y2 y3 y4 y5 y6 y7 y8 y9 y10 y11 y12 y13 y14 y15 : α) (l : List α) : nth d (y0 :: y1 :: y2 :: y3 :: y4 :: y5 :: y6 :: y7 :: y8 :: y9 :: y10 :: y11 :: y12 :: y13 :: y14 :: y15 :: l) 15 = y15 := rfl
theorem nth_16 {α : Type} (d y0 y1 y2 y3 y4 y5 y6 y7 y8 y9 y10 y11 y12 y13 y14 y15 y16 : α) (l : List α) : nth d (y0 :: y1 :: y2 :: y3 :: y4 :: y5 :: y6 :: y7 :: y8 :: y9 :: y10 :: y11 :: y12 :: y13 :: y14 :: y15 :: y16 :: l) 16 = y16 := rfl
theorem nth_17 {α : Type} (d y0 y1 y2 y3 y4 y5 y6 y7 y8 y9 y10 y11 y12 y13 y14 y15 y16 y17 : α) (l : List α) : nth d (y0 :: y1 :: y2 :: y3 :: y4 :: y5 :: y6 :: y7 :: y8 :: y9 :: y10 :: y11 :: y12 :: y13 :: y14 :: y15 :: y16 :: y17 :: l) 17 = y17 := rfl
theorem nth_18 {α : Type} (d y0 y1 y2 y3 y4 y5 y6 y7 y8 y9 y10 y11 y12 y13 y14 y15 y16 y17 y18 : α) (l : List α) : nth d (y0 :: y1 :: y2 :: y3 :: y4 :: y5 :: y6 :: y7 :: y8 :: y9 :: y10 :: y11 :: y12 :: y13 :: y14 :: y15 :: y16 :: y17 :: y18 :: l) 18 = y18 := rfl
theorem nth_19 {α : Type} (d y0 y1 y2 y3 y4 y5 y6 y7 y8 y9 y10 y11 y12 y13 y14 y15 y16 y17 y18 y19 : α) (l : List α) : nth d (y0 :: y1 :: y2 :: y3 :: y4 :: y5 :: y6 :: y7 :: y8 :: y9 :: y10 :: y11 :: y12 :: y13 :: y14 :: y15 :: y16 :: y17 :: y18 :: y19 :: l) 19 = y19 := rfl
theorem nth_20 {α : Type} (d y0 y1 y2 y3 y4 y5 y6 y7 y8 y9 y10 y11 y12 y13 y14 y15 y16 y17 y18 y19 y20 : α) (l : List α) : nth d (y0 :: y1 :: y2 :: y3 :: y4 :: y5 :: y6 :: y7 :: y8 :: y9 :: y10 :: y11 :: y12 :: y13 :: y14 :: y15 :: y16 :: y17 :: y18 :: y19 :: y20 :: l) 20 = y20 := rfl
theorem nth_21 {α : Type} (d y0 y1 y2 y3 y4 y5 y6 y7 y8 y9 y10 y11 y12 y13 y14 y15 y16 y17 y18 y19 y20 y21 : α) (l : List α) : nth d (y0 :: y1 :: y2 :: y3 :: y4 :: y5 :: y6 :: y7 :: y8 :: y9 :: y10 :: y11 :: y12 :: y13 :: y14 :: y15 :: y16 :: y17 :: y18 :: y19 :: y20 :: y21 :: l) 21 = y21 := rfl
theorem nth_22 {α : Type} (d y0 y1 y2 y3 y4 y5 y6 y7 y8 y9 y10 y11 y12 y13 y14 y15 y16 y17 y18 y19 y20 y21 y22 : α) (l : List α) : nth d (y0 :: y1 :: y2 :: y3 :: y4 :: y5 :: y6 :: y7 :: y8 :: y9 :: y10 :: y11 :: y12 :: y13 :: y14 :: y15 :: y16 :: y17 :: y18 :: y19 :: y20 :: y21 :: y22 :: l) 22 = y22 := rfl
theorem nth_23 {α : Type} (d y0 y1 y2 y3 y4 y5 y6 y7 y8 y9 y10 y11 y12 y13 y14 y15 y16 y17 y18 y19 y20 y21 y22 y23 : α) (l : List α) : nth d (y0 :: y1 :: y2 :: y3 :: y4 :: y5 :: y6 :: y7 :: y8 :: y9 :: y10 :: y11 :: y12 :: y13 :: y14 :: y15 :: y16 :: y17 :: y18 :: y19 :: y20 :: y21 :: y22 :: y23 :: l) 23 = y23 := rfl
theorem nth_24 {α : Type} (d y0 y1 y2 y3 y4 y5 y6 y7 y8 y9 y10 y11 y12 y13 y14 y15 y16 y17 y18 y19 y20 y21 y22 y23 y24 : α) (l : List α) : nth d (y0 :: y1 :: y2 :: y3 :: y4 :: y5 :: y6 :: y7 :: y8 :: y9 :: y10 :: y11 :: y12 :: y13 :: y14 :: y15 :: y16 :: y17 :: y18 :: y19 :: y20 :: y21 :: y22 :: y23 :: y24 :: l) 24 = y24 := rfl
theorem nth_25 {α : Type} (d y0 y1 y2 y3 y4 y5 y6 y7 y8 y9 y10 y11 y12 y13 y14 y15 y16 y17 y18 y19 y20 y21 y22 y23 y24 y25 : α) (l : List α) : nth d (y0 :: y1 :: y2 :: y3 :: y4 :: y5 :: y6 :: y7 :: y8 :: y9 :: y10 :: y11 :: y12 :: y13 :: y14 :: y15 :: y16 :: y17 :: y18 :: y19 :: y20 :: y21 :: y22 :: y23 :: y24 :: y25 :: l) 25 = y25 := rfl
theorem nth_26 {α : Type} (d y0 y1 y2 y3 y4 y5 y6 y7 y8 y9 y10 y11 y12 y13 y14 y15 y16 y17 y18 y19 y20 y21 y22 y23 y24 y25 y26 : α) (l : List α) : nth d (y0 :: y1 :: y2 :: y3 :: y4 :: y5 :: y6 :: y7 :: y8 :: y9 :: y10 :: y11 :: y12 :: y13 :: y14 :: y15 :: y16 :: y17 :: y18 :: y19 :: y20 :: y21 :: y22 :: y23 :: y24 :: y25 :: y26 :: l) 26 = y26 := rfl
theorem nth_27 {α : Type} (d y0 y1 y2 y3 y4 y5 y6 y7 y8 y9 y10 y11 y12 y13 y14 y15 y16 y17 y18 y19 y20 y21 y22 y23 y24 y25 y26 y27 : α) (l : List α) : nth d (y0 :: y1 :: y2 :: y3 :: y4 :: y5 :: y6 :: y7 :: y8 :: y9 :: y10 :: y11 :: y12 :: y13 :: y14 :: y15 :: y16 :: y17 :: y18 :: y19 :: y20 :: y21 :: y22 :: y23 :: y24 :: y25 :: y26 :: y27 :: l) 27 = y27 := rfl
theorem nth_28 {α : Type} (d y0 y1 y2 y3 y4 y5 y6 y7 y8 y9 y10 y11 y12 y13 y14 y15 y16 y17 y18 y19 y20 y21 y22 y23 y24 y25 y26 y27 y28 : α) (l : List α) : nth d (y0 :: y1 :: y2 :: y3 :: y4 :: y5 :: y6 :: y7 :: y8 :: y9 :: y10 :: y11 :: y12 :: y13 :: y14 :: y15 :: y16 :: y17 :: y18 :: y19 :: y20 :: y21 :: y22 :: y23 :: y24 :: y25 :: y26 :: y27 :: y28 :: l) 28 = y28 := rfl
theorem nth_29 {α : Type} (d y0 y1 y2 y3 y4 y5 y6 y7 y8 y9 y10 y11 y12 y13 y14 y15 y16 y17 y18 y19 y20 y21 y22 y23 y24 y25 y26 y27 y28 y29 : α) (l : List α) : nth d (y0 :: y1 :: y2 :: y3 :: y4 :: y5 :: y6 :: y7 :: y8 :: y9 :: y10 :: y11 :: y12 :: y13 :: y14 :: y15 :: y16 :: y17 :: y18 :: y19 :: y20 :: y21 :: y22 :: y23 :: y24 :: y25 :: y26 :: y27 :: y28 :: y29 :: l) 29 = y29 := rfl
theorem nth_30 {α : Type} (d y0 y1 y2 y3 y4 y5 y6 y7 y8 y9 y10 y11 y12 y13 y14 y15 y16 y17 y18 y19 y20 y21 y22 y23 y24 y25 y26 y27 y28 y29 y30 : α) (l : List α) : nth d (y0 :: y1 :: y2 :: y3 :: y4 :: y5 :: y6 :: y7 :: y8 :: y9 :: y10 :: y11 :: y12 :: y13 :: y14 :: y15 :: y16 :: y17 :: y18 :: y19 :: y20 :: y21 :: y22 :: y23 :: y24 :: y25 :: y26 :: y27 :: y28 :: y29 :: y30 :: l) 30 = y30 := rfl
theorem nth_31 {α : Type} (d y0 y1 y2 y3 y4 y5 y6 y7 y8 y9 y10 y11 y12 y13 y14 y15 y16 y17 y18 y19 y20 y21 y22 y23 y24 y25 y26 y27 y28 y29 y30 y31 : α) (l : List α) : nth d (y0 :: y1 :: y2 :: y3 :: y4 :: y5 :: y6 :: y7 :: y8 :: y9 :: y10 :: y11 :: y12 :: y13 :: y14 :: y15 :: y16 :: y17 :: y18 :: y19 :: y20 :: y21 :: y22 :: y23 :: y24 :: y25 :: y26 :: y27 :: y28 :: y29 :: y30 :: y31 :: l) 31 = y31 := rfl
theorem nth_32 {α : Type} (d y0 y1 y2 y3 y4 y5 y6 y7 y8 y9 y10 y11 y12 y13 y14 y15 y16 y17 y18 y19 y20 y21 y22 y23 y24 y25 y26 y27 y28 y29 y30 y31 y32 : α) (l : List α) : nth d (y0 :: y1 :: y2 :: y3 :: y4 :: y5 :: y6 :: y7 :: y8 :: y9 :: y10 :: y11 :: y12 :: y13 :: y14 :: y15 :: y16 :: y17 :: y18 :: y19 :: y20 :: y21 :: y22 :: y23 :: y24 :: y25 :: y26 :: y27 :: y28 :: y29 :: y30 :: y31 :: y32 :: l) 32 = y32 := rfl
theorem nth_33 {α : Type} (d y0 y1 y2 y3 y4 y5 y6 y7 y8 y9 y10 y11 y12 y13 y14 y15 y16 y17 y18 y19 y20 y21 y22 y23 y24 y25 y26 y27 y28 y29 y30 y31 y32 y33 : α) (l : List α) : nth d (y0 :: y1 :: y2 :: y3 :: y4 :: y5 :: y6 :: y7 :: y8 :: y9 :: y10 :: y11 :: y12 :: y13 :: y14 :: y15 :: y16 :: y17 :: y18 :: y19 :: y20 :: y21 :: y22 :: y23 :: y24 :: y25 :: y26 :: y27 :: y28 :: y29 :: y30 :: y31 :: y32 :: y33 :: l) 33 = y33 := rfl
theorem nth_34 {α : Type} (d y0 y1 y2 y3 y4 y5 y6 y7 y8 y9 y10 y11 y12 y13 y14 y15 y16 y17 y18 y19 y20 y21 y22 y23 y24 y25 y26 y27 y28 y29 y30 y31 y32 y33 y34 : α) (l : List α) : nth d (y0 :: y1 :: y2 :: y3 :: y4 :: y5 :: y6 :: y7 :: y8 :: y9 :: y10 :: y11 :: y12 :: y13 :: y14 :: y15 :: y16 :: y17 :: y18 :: y19 :: y20 :: y21 :: y22 :: y23 :: y24 :: y25 :: y26 :: y27 :: y28 :: y29 :: y30 :: y31 :: y32 :: y33 :: y34 :: l) 34 = y34 := rfl
theorem nth_35 {α : Type} (d y0 y1 y2 y3 y4 y5 y6 y7 y8 y9 y10 y11 y12 y13 y14 y15 y16 y17 y18 y19 y20 y21 y22 y23 y24 y25 y26 y27 y28 y29 y30 y31 y32 y33 y34 y35 : α) (l : List α) : nth d (y0 :: y1 :: y2 :: y3 :: y4 :: y5 :: y6 :: y7 :: y8 :: y9 :: y10 :: y11 :: y12 :: y13 :: y14 :: y15 :: y16 :: y17 :: y18 :: y19 :: y20 :: y21 :: y22 :: y23 :: y24 :: y25 :: y26 :: y27 :: y28 :: y29 :: y30 :: y31 :: y32 :: y33 :: y34 :: y35 :: l) 35 = y35 := rfl
theorem nth_36 {α : Type} (d y0 y1 y2 y3 y4 y5 y6 y7 y8 y9 y10 y11 y12 y13 y14 y15 y16 y17 y18 y19 y20 y21 y22 y23 y24 y25 y26 y27 y28 y29 y30 y31 y32 y33 y34 y35 y36 : α) (l : List α) : nth d (y0 :: y1 :: y2 :: y3 :: y4 :: y5 :: y6 :: y7 :: y8 :: y9 :: y10 :: y11 :: y12 :: y13 :: y14 :: y15 :: y16 :: y17 :: y18 :: y19 :: y20 :: y21 :: y22 :: y23 :: y24 :: y25 :: y26 :: y27 :: y28 :: y29 :: y30 :: y31 :: y32 :: y33 :: y34 :: y35 :: y36 :: l) 36 = y36 := rfl
theorem nth_37 {α : Type} (d y0 y1 y2 y3 y4 y5 y6 y7 y8 y9 y10 y11 y12 y13 y14 y15 y16 y17 y18 y19 y20 y21 y22 y23 y24 y25 y26 y27 y28 y29 y30 y31 y32 y33 y34 y35 y36 y37 : α) (l : List α) : nth d (y0 :: y1 :: y2 :: y3 :: y4 :: y5 :: y6 :: y7 :: y8 :: y9 :: y10 :: y11 :: y12 :: y13 :: y14 :: y15 :: y16 :: y17 :: y18 :: y19 :: y20 :: y21 :: y22 :: y23 :: y24 :: y25 :: y26 :: y27 :: y28 :: y29 :: y30 :: y31 :: y32 :: y33 :: y34 :: y35 :: y36 :: y37 :: l) 37 = y37 := rfl
theorem nth_38 {α : Type} (d y0 y1 y2 y3 y4 y5 y6 y7 y8 y9 y10 y11 y12 y13 y14 y15 y16 y17 y18 y19 y20 y21 y22 y23 y24 y25 y26 y27 y28 y29 y30 y31 y32 y33 y34 y35 y36 y37 y38 : α) (l : List α) : nth d (y0 :: y1 :: y2 :: y3 :: y4 :: y5 :: y6 :: y7 :: y8 :: y9 :: y10 :: y11 :: y12 :: y13 :: y14 :: y15 :: y16 :: y17 :: y18 :: y19 :: y20 :: y21 :: y22 :: y23 :: y24 :: y25 :: y26 :: y27 :: y28 :: y29 :: y30 :: y31 :: y32 :: y33 :: y34 :: y35 :: y36 :: y37 :: y38 :: l) 38 = y38 := rfl
theorem nth_39 {α : Type} (d y0 y1 y2 y3 y4 y5 y6 y7 y8 y9 y10 y11 y12 y13 y14 y15 y16 y17 y18 y19 y20 y21 y22 y23 y24 y25 y26 y27 y28 y29 y30 y31 y32 y33 y34 y35 y36 y37 y38 y39 : α) (l : List α) : nth d (y0 :: y1 :: y2 :: y3 :: y4 :: y5 :: y6 :: y7 :: y8 :: y9 :: y10 :: y11 :: y12 :: y13 :: y14 :: y15 :: y16 :: y17 :: y18 :: y19 :: y20 :: y21 :: y22 :: y23 :: y24 :: y25 :: y26 :: y27 :: y28 :: y29 :: y30 :: y31 :: y32 :: y33 :: y34 :: y35 :: y36 :: y37 :: y38 :: y39 :: l) 39 = y39 := rfl
theorem nth_40 {α : Type} (d y0 y1 y2 y3 y4 y5 y6 y7 y8 y9 y10 y11 y12 y13 y14 y15 y16 y17 y18 y19 y20 y21 y22 y23 y24 y25 y26 y27 y28 y29 y30 y31 y32 y33 y34 y35 y36 y37 y38 y39 y40 : α) (l : List α) : nth d (y0 :: y1 :: y2 :: y3 :: y4 :: y5 :: y6 :: y7 :: y8 :: y9 :: y10 :: y11 :: y12 :: y13 :: y14 :: y15 :: y16 :: y17 :: y18 :: y19 :: y20 :: y21 :: y22 :: y23 :: y24 :: y25 :: y26 :: y27 :: y28 :: y29 :: y30 :: y31 :: y32 :: y33 :: y34 :: y35 :: y36 :: y37 :: y38 :: y39 :: y40 :: l) 40 = y40 := rfl
theorem nth_41 {α : Type} (d y0 y1 y2 y3 y4 y5 y6 y7 y8 y9 y10 y11 y12 y13 y14 y15 y16 y17 y18 y19 y20 y21 y22 y23 y24 y25 y26 y27 y28 y29 y30 y31 y32 y33 y34 y35 y36 y37 y38 y39 y40 y41 : α) (l : List α) : nth d (y0 :: y1 :: y2 :: y3 :: y4 :: y5 :: y6 :: y7 :: y8 :: y9 :: y10 :: y11 :: y12 :: y13 :: y14 :: y15 :: y16 :: y17 :: y18 :: y19 :: y20 :: y21 :: y22 :: y23 :: y24 :: y25 :: y26 :: y27 :: y28 :: y29 :: y30 :: y31 :: y32 :: y33 :: y34 :: y35 :: y36 :: y37 :: y38 :: y39 :: y40 :: y41 :: l) 41 = y41 := rfl

theorem l3_0 (t0 : List (List PV)) (frm to level : Int) (text : List UInt8) (bs : Int) (a0 a1 a2 a3 a4 a5 a6 b0 b1 b2 b3 b4 b5 b6 : Int) (b : List En) (hb : b.length ≤ 1000) : ∀ (l pre : List En), pre ++ l = b →
    lp E (denC E) 3 0 [] 0 { vals := [AV.sl 1 t0, AV.int .i64 frm, AV.int .i64 to, AV.int .i64 level, AV.str text, AV.sl 3 (ensK b), AV.int .i64 b.length, AV.int .i64 pre.length], blks := [Blk.box [AV.sl 3 (ensK b), AV.int .u64 bs], Blk.box [AV.int .i64 a0, AV.int .i64 a1, AV.int .i64 a2, AV.int .i64 a3, AV.int .i64 a4, AV.int .i64 a5, AV.int .i64 a6], Blk.box [AV.int .i64 b0, AV.int .i64 b1, AV.int .i64 b2, AV.int .i64 b3, AV.int .i64 b4, AV.int .i64 b5, AV.int .i64 b6]] } =
      some (bif l.all fun e => !ltB 10 (e.ws.length : Int) then (Ex.exit 0, { vals := [AV.sl 1 t0, AV.int .i64 frm, AV.int .i64 to, AV.int .i64 level, AV.str text], blks := [Blk.box [AV.sl 3 (ensK b), AV.int .u64 bs], Blk.box [AV.int .i64 a0, AV.int .i64 a1, AV.int .i64 a2, AV.int .i64 a3, AV.int .i64 a4, AV.int .i64 a5, AV.int .i64 a6], Blk.box [AV.int .i64 b0, AV.int .i64 b1, AV.int .i64 b2, AV.int .i64 b3, AV.int .i64 b4, AV.int .i64 b5, AV.int .i64 b6]] }) else (Ex.ret, { vals := [AV.bool true], blks := [] })) := by
  intro l
  induction l with
  | nil =>
    intro pre hbb
    rw [r3_0]
    have h1 : ltB (pre.length : Int) (b.length : Int) = false := by rw [← hbb]; simp [ltB]
    rw [h1, ctl_false]
    rfl
  | cons e l ih =>
    intro pre hbb
    rw [r3_0]
    have hl : 0 ≤ (pre.length : Int) ∧ (pre.length : Int) < (b.length : Int) := by rw [← hbb]; exact mid_lt pre e l
    have h1 : ltB (pre.length : Int) (b.length : Int) = true := by simp [ltB]; omega
    rw [h1, ctl_true, getE_ens hl]
    have e1 : b.getD (pre.length : Int).toNat default = e := by rw [Int.toNat_natCast, ← hbb, getD_mid]
    have e2 : okCs [Sh.int IntKind.i64, Sh.int IntKind.i64, Sh.sl 1] (enK e) = true := rfl
    have c3 : (nth PV.nilp (enK e) 2).toEs = intsK .i64 e.ws := rfl
    rw [e1, e2, ctl_true, c3, intsK_len, c_sane40]
    simp only [SB, Nat.reduceAdd]
    cases hb : ltB 10 (e.ws.length : Int) with
    | true => simp only [hb, SB, Nat.reduceAdd, Bool.false_and]
    | false =>
      rw [w64 (n := (pre.length : Int) + 1) (by omega), len_snoc pre e]
      simp only [hb, SB, Nat.reduceAdd, Bool.true_and]
      exact ih (pre ++ [e]) (by rw [← hbb]; simp)

structure bB (b : List En) (s : Int) : Prop where
  len : b.length ≤ 1000
  ws : ∀ e ∈ b, e.ws.length ≤ 1000000
  rng : 0 ≤ s ∧ s ≤ 18446744073709551615
abbrev bk6 (X Y Z : List (List PV)) (x y z : Int) : List PV := [PV.sl 3 X, PV.int .u64 x, PV.sl 3 Y, PV.int .u64 y, PV.sl 3 Z, PV.int .u64 z]
theorem ofR_form (b : List En) (s u v : Int) : ∃ q0 q1 q2 q3 q4 q5 q6 n : Int, ofR b s u v = [RV.agg [PV.int .i64 q0, PV.int .i64 q1, PV.int .i64 q2, PV.int .i64 q3, PV.int .i64 q4, PV.int .i64 q5, PV.int .i64 q6], RV.p (PV.int .i64 n)] := by
  unfold ofR
  split <;> exact ⟨_, _, _, _, _, _, _, _, rfl⟩
abbrev st4 (frm to level : Int) (text : List UInt8) (B : List PV) (i6 f1 t1 f2 t2 i : Int) (A1 A2 : Blk) (S0 : List (List PV)) (S1 : Int) (b : List En) (s : Int) : Pack :=
  { vals := [AV.int .i64 frm, AV.int .i64 to, AV.int .i64 level, AV.str text, AV.agg B, AV.int .i64 i6, AV.agg [PV.int .i64 f1, PV.int .i64 t1, PV.int .i64 f2, PV.int .i64 t2], AV.int .i64 i], blks := [A1, A2, Blk.box [AV.sl 1 S0, AV.int .i64 S1], Blk.box [AV.sl 3 (ensK b), AV.int .u64 s]] }

theorem s3_4 (frm to level : Int) (text : List UInt8) (X Y Z : List (List PV)) (x y z i6 f1 t1 f2 t2 i : Int) (hi : 0 ≤ i ∧ i < 2) (a0 a1 a2 a3 a4 a5 a6 b0 b1 b2 b3 b4 b5 b6 : Int) (S0 : List (List PV)) (S1 : Int) (b : List En) (s : Int) (hB : bB b s) (u v : Int)
    (hg : ∀ K : List PV → Option (Ex × Pack), getE [[PV.int .i64 f1, PV.int .i64 t1], [PV.int .i64 f2, PV.int .i64 t2]] i K = K [PV.int .i64 u, PV.int .i64 v]) :
    lp E (denC E) 3 0 [] 4 (st4 frm to level text (bk6 X Y Z x y z) i6 f1 t1 f2 t2 i (Blk.box [AV.int .i64 a0, AV.int .i64 a1, AV.int .i64 a2, AV.int .i64 a3, AV.int .i64 a4, AV.int .i64 a5, AV.int .i64 a6]) (Blk.box [AV.int .i64 b0, AV.int .i64 b1, AV.int .i64 b2, AV.int .i64 b3, AV.int .i64 b4, AV.int .i64 b5, AV.int .i64 b6]) S0 S1 b s) = lp E (denC E) 3 0 [] 4 (st4 frm to level text (bk6 X Y Z x y z) i6 f1 t1 f2 t2 (i + 1) (Blk.box [AV.int .i64 a0, AV.int .i64 a1, AV.int .i64 a2, AV.int .i64 a3, AV.int .i64 a4, AV.int .i64 a5, AV.int .i64 a6]) (Blk.box [AV.int .i64 b0, AV.int .i64 b1, AV.int .i64 b2, AV.int .i64 b3, AV.int .i64 b4, AV.int .i64 b5, AV.int .i64 b6]) S0 S1 b s) := by
  obtain ⟨q0, q1, q2, q3, q4, q5, q6, n, ho⟩ := ofR_form b s u v
  have hE := c_Of b s u v hB.ws
  have hD := c_OfD b s u v hB.ws
  rw [ho] at hE hD
  rw [r3_4]
  have h1 : ltB i 2 = true := by simp [ltB]; omega
  rw [h1, ctl_true, hg]
  simp only [SB, Nat.reduceAdd]
  rw [hE]
  simp only [SB, Nat.reduceAdd]
  rw [hD]
  simp only [bne_self_eq_false, beq_self_eq_true, SB, Nat.reduceAdd]
  rw [w64 (n := i + 1) (by omega)]

theorem l3_4 (frm to level : Int) (text : List UInt8) (X Y Z : List (List PV)) (x y z i6 f1 t1 f2 t2 : Int) (a0 a1 a2 a3 a4 a5 a6 b0 b1 b2 b3 b4 b5 b6 : Int) (S0 : List (List PV)) (S1 : Int) (b : List En) (s : Int) (hB : bB b s) :
    lp E (denC E) 3 0 [] 4 (st4 frm to level text (bk6 X Y Z x y z) i6 f1 t1 f2 t2 0 (Blk.box [AV.int .i64 a0, AV.int .i64 a1, AV.int .i64 a2, AV.int .i64 a3, AV.int .i64 a4, AV.int .i64 a5, AV.int .i64 a6]) (Blk.box [AV.int .i64 b0, AV.int .i64 b1, AV.int .i64 b2, AV.int .i64 b3, AV.int .i64 b4, AV.int .i64 b5, AV.int .i64 b6]) S0 S1 b s) =
      some (.exit 4, { vals := [AV.int .i64 frm, AV.int .i64 to, AV.int .i64 level, AV.str text, AV.agg (bk6 X Y Z x y z), AV.int .i64 i6], blks := [Blk.box [AV.int .i64 a0, AV.int .i64 a1, AV.int .i64 a2, AV.int .i64 a3, AV.int .i64 a4, AV.int .i64 a5, AV.int .i64 a6], Blk.box [AV.int .i64 b0, AV.int .i64 b1, AV.int .i64 b2, AV.int .i64 b3, AV.int .i64 b4, AV.int .i64 b5, AV.int .i64 b6], Blk.box [AV.sl 1 S0, AV.int .i64 S1]] }) := by
  rw [s3_4 frm to level text X Y Z x y z i6 f1 t1 f2 t2 0 (by omega) a0 a1 a2 a3 a4 a5 a6 b0 b1 b2 b3 b4 b5 b6 S0 S1 b s hB f1 t1 (fun K => rfl), s3_4 frm to level text X Y Z x y z i6 f1 t1 f2 t2 (0 + 1) (by omega) a0 a1 a2 a3 a4 a5 a6 b0 b1 b2 b3 b4 b5 b6 S0 S1 b s hB f2 t2 (fun K => rfl), r3_4]
  rfl

theorem s3_2 {L : List Int} (hL : L.length ≤ 600) (frm to level : Int) (text : List UInt8) (x y z : List En) (xs ys zs : Int) (i : Int) (hi : 0 ≤ i ∧ i < 3) (a0 a1 a2 a3 a4 a5 a6 b0 b1 b2 b3 b4 b5 b6 : Int) (k : Nat) (hk : k ≤ 600) (b : List En) (s : Int) (hB : bB b s)
    (hg : ∀ K : List PV → Option (Ex × Pack), getE [[PV.sl 3 (ensK x), PV.int .u64 xs], [PV.sl 3 (ensK y), PV.int .u64 ys], [PV.sl 3 (ensK z), PV.int .u64 zs]] i K = K [PV.sl 3 (ensK b), PV.int .u64 s]) :
    ∃ k', k' ≤ 600 ∧ lp E (denC E) 3 0 [] 2 { vals := [AV.int .i64 frm, AV.int .i64 to, AV.int .i64 level, AV.str text, AV.agg (bk6 (ensK x) (ensK y) (ensK z) xs ys zs), AV.int .i64 i], blks := [Blk.box [AV.int .i64 a0, AV.int .i64 a1, AV.int .i64 a2, AV.int .i64 a3, AV.int .i64 a4, AV.int .i64 a5, AV.int .i64 a6], Blk.box [AV.int .i64 b0, AV.int .i64 b1, AV.int .i64 b2, AV.int .i64 b3, AV.int .i64 b4, AV.int .i64 b5, AV.int .i64 b6], src L k] } =
      lp E (denC E) 3 0 [] 2 { vals := [AV.int .i64 frm, AV.int .i64 to, AV.int .i64 level, AV.str text, AV.agg (bk6 (ensK x) (ensK y) (ensK z) xs ys zs), AV.int .i64 (i + 1)], blks := [Blk.box [AV.int .i64 a0, AV.int .i64 a1, AV.int .i64 a2, AV.int .i64 a3, AV.int .i64 a4, AV.int .i64 a5, AV.int .i64 a6], Blk.box [AV.int .i64 b0, AV.int .i64 b1, AV.int .i64 b2, AV.int .i64 b3, AV.int .i64 b4, AV.int .i64 b5, AV.int .i64 b6], src L k'] } := by
  have hN := c_N hL hk 20 (by omega)
  have hk1 := at'_le hL hk
  have hN2 := c_N hL hk1 50 (by omega)
  have hk2 := at'_le hL hk1
  have h4 := l3_4 frm to level text (ensK x) (ensK y) (ensK z) xs ys zs i frm to (vN L k 20) (vN L (at' L k) 50) a0 a1 a2 a3 a4 a5 a6 b0 b1 b2 b3 b4 b5 b6 (intsK .i64 L) (at' L (at' L k) : Nat) b s hB
  refine ⟨at' L (at' L k), hk2, ?_⟩
  rw [r3_2]
  have h1 : ltB i 3 = true := by simp [ltB]; omega
  rw [h1, ctl_true, hg]
  simp only [SB, Nat.reduceAdd]
  rw [hN]
  simp only [SB, Nat.reduceAdd]
  rw [hN2]
  simp only [SB, Nat.reduceAdd]
  rw [h4]
  simp only [SB, Nat.reduceAdd]
  rw [w64 (n := i + 1) (by omega)]

theorem s3_8 (level : Int) (text : List UInt8) (x0 x1 x2 x3 x4 x5 x6 x7 x8 x9 x10 x11 x12 x13 x14 x15 x16 x17 x18 x19 x20 x21 x22 x23 x24 x25 x26 x27 x28 x29 x30 x31 x32 x33 x34 x35 x36 x37 x38 x39 x40 x41 : Int) (i6 y0 y1 y2 i : Int) (hi : 0 ≤ i ∧ i < 3) (a0 a1 a2 a3 a4 a5 a6 : Int) (S0 : List (List PV)) (S1 : Int) (p0 p1 p2 p3 p4 p5 p6 q0 q1 q2 q3 q4 q5 q6 : Int) (u : Int)
    (hg : ∀ K : List PV → Option (Ex × Pack), getE [[PV.int .i64 y0], [PV.int .i64 y1], [PV.int .i64 y2]] i K = K [PV.int .i64 u]) :
    lp E (denC E) 3 0 [] 8 { vals := [AV.int .i64 level, AV.str text, AV.agg [PV.int .i64 x0, PV.int .i64 x1, PV.int .i64 x2, PV.int .i64 x3, PV.int .i64 x4, PV.int .i64 x5, PV.int .i64 x6, PV.int .i64 x7, PV.int .i64 x8, PV.int .i64 x9, PV.int .i64 x10, PV.int .i64 x11, PV.int .i64 x12, PV.int .i64 x13, PV.int .i64 x14, PV.int .i64 x15, PV.int .i64 x16, PV.int .i64 x17, PV.int .i64 x18, PV.int .i64 x19, PV.int .i64 x20, PV.int .i64 x21, PV.int .i64 x22, PV.int .i64 x23, PV.int .i64 x24, PV.int .i64 x25, PV.int .i64 x26, PV.int .i64 x27, PV.int .i64 x28, PV.int .i64 x29, PV.int .i64 x30, PV.int .i64 x31, PV.int .i64 x32, PV.int .i64 x33, PV.int .i64 x34, PV.int .i64 x35, PV.int .i64 x36, PV.int .i64 x37, PV.int .i64 x38, PV.int .i64 x39, PV.int .i64 x40, PV.int .i64 x41], AV.int .i64 i6, AV.agg [PV.int .i64 y0, PV.int .i64 y1, PV.int .i64 y2], AV.int .i64 i], blks := [Blk.box [AV.int .i64 a0, AV.int .i64 a1, AV.int .i64 a2, AV.int .i64 a3, AV.int .i64 a4, AV.int .i64 a5, AV.int .i64 a6], Blk.box [AV.sl 1 S0, AV.int .i64 S1], Blk.box [AV.int .i64 p0, AV.int .i64 p1, AV.int .i64 p2, AV.int .i64 p3, AV.int .i64 p4, AV.int .i64 p5, AV.int .i64 p6, AV.int .i64 q0, AV.int .i64 q1, AV.int .i64 q2, AV.int .i64 q3, AV.int .i64 q4, AV.int .i64 q5, AV.int .i64 q6]] } =
      lp E (denC E) 3 0 [] 8 { vals := [AV.int .i64 level, AV.str text, AV.agg [PV.int .i64 x0, PV.int .i64 x1, PV.int .i64 x2, PV.int .i64 x3, PV.int .i64 x4, PV.int .i64 x5, PV.int .i64 x6, PV.int .i64 x7, PV.int .i64 x8, PV.int .i64 x9, PV.int .i64 x10, PV.int .i64 x11, PV.int .i64 x12, PV.int .i64 x13, PV.int .i64 x14, PV.int .i64 x15, PV.int .i64 x16, PV.int .i64 x17, PV.int .i64 x18, PV.int .i64 x19, PV.int .i64 x20, PV.int .i64 x21, PV.int .i64 x22, PV.int .i64 x23, PV.int .i64 x24, PV.int .i64 x25, PV.int .i64 x26, PV.int .i64 x27, PV.int .i64 x28, PV.int .i64 x29, PV.int .i64 x30, PV.int .i64 x31, PV.int .i64 x32, PV.int .i64 x33, PV.int .i64 x34, PV.int .i64 x35, PV.int .i64 x36, PV.int .i64 x37, PV.int .i64 x38, PV.int .i64 x39, PV.int .i64 x40, PV.int .i64 x41], AV.int .i64 i6, AV.agg [PV.int .i64 y0, PV.int .i64 y1, PV.int .i64 y2], AV.int .i64 (i + 1)], blks := [Blk.box [AV.int .i64 a0, AV.int .i64 a1, AV.int .i64 a2, AV.int .i64 a3, AV.int .i64 a4, AV.int .i64 a5, AV.int .i64 a6], Blk.box [AV.sl 1 S0, AV.int .i64 S1], Blk.box [AV.int .i64 p0, AV.int .i64 p1, AV.int .i64 p2, AV.int .i64 p3, AV.int .i64 p4, AV.int .i64 p5, AV.int .i64 p6, AV.int .i64 q0, AV.int .i64 q1, AV.int .i64 q2, AV.int .i64 q3, AV.int .i64 q4, AV.int .i64 q5, AV.int .i64 q6]] } := by
  rw [r3_8]
  have h1 : ltB i 3 = true := by simp [ltB]; omega
  rw [h1, ctl_true, hg]
  simp only [SB, Nat.reduceAdd]
  rw [c_PercentE]
  simp only [SB, Nat.reduceAdd]
  rw [c_PercentD]
  simp only [bne_self_eq_false, beq_self_eq_true, SB, Nat.reduceAdd]
  rw [w64 (n := i + 1) (by omega)]

theorem l3_8 (level : Int) (text : List UInt8) (x0 x1 x2 x3 x4 x5 x6 x7 x8 x9 x10 x11 x12 x13 x14 x15 x16 x17 x18 x19 x20 x21 x22 x23 x24 x25 x26 x27 x28 x29 x30 x31 x32 x33 x34 x35 x36 x37 x38 x39 x40 x41 : Int) (i6 y0 y1 y2 : Int) (a0 a1 a2 a3 a4 a5 a6 : Int) (S0 : List (List PV)) (S1 : Int) (p0 p1 p2 p3 p4 p5 p6 q0 q1 q2 q3 q4 q5 q6 : Int) :
    lp E (denC E) 3 0 [] 8 { vals := [AV.int .i64 level, AV.str text, AV.agg [PV.int .i64 x0, PV.int .i64 x1, PV.int .i64 x2, PV.int .i64 x3, PV.int .i64 x4, PV.int .i64 x5, PV.int .i64 x6, PV.int .i64 x7, PV.int .i64 x8, PV.int .i64 x9, PV.int .i64 x10, PV.int .i64 x11, PV.int .i64 x12, PV.int .i64 x13, PV.int .i64 x14, PV.int .i64 x15, PV.int .i64 x16, PV.int .i64 x17, PV.int .i64 x18, PV.int .i64 x19, PV.int .i64 x20, PV.int .i64 x21, PV.int .i64 x22, PV.int .i64 x23, PV.int .i64 x24, PV.int .i64 x25, PV.int .i64 x26, PV.int .i64 x27, PV.int .i64 x28, PV.int .i64 x29, PV.int .i64 x30, PV.int .i64 x31, PV.int .i64 x32, PV.int .i64 x33, PV.int .i64 x34, PV.int .i64 x35, PV.int .i64 x36, PV.int .i64 x37, PV.int .i64 x38, PV.int .i64 x39, PV.int .i64 x40, PV.int .i64 x41], AV.int .i64 i6, AV.agg [PV.int .i64 y0, PV.int .i64 y1, PV.int .i64 y2], AV.int .i64 0], blks := [Blk.box [AV.int .i64 a0, AV.int .i64 a1, AV.int .i64 a2, AV.int .i64 a3, AV.int .i64 a4, AV.int .i64 a5, AV.int .i64 a6], Blk.box [AV.sl 1 S0, AV.int .i64 S1], Blk.box [AV.int .i64 p0, AV.int .i64 p1, AV.int .i64 p2, AV.int .i64 p3, AV.int .i64 p4, AV.int .i64 p5, AV.int .i64 p6, AV.int .i64 q0, AV.int .i64 q1, AV.int .i64 q2, AV.int .i64 q3, AV.int .i64 q4, AV.int .i64 q5, AV.int .i64 q6]] } =
      some (.exit 8, { vals := [AV.int .i64 level, AV.str text, AV.agg [PV.int .i64 x0, PV.int .i64 x1, PV.int .i64 x2, PV.int .i64 x3, PV.int .i64 x4, PV.int .i64 x5, PV.int .i64 x6, PV.int .i64 x7, PV.int .i64 x8, PV.int .i64 x9, PV.int .i64 x10, PV.int .i64 x11, PV.int .i64 x12, PV.int .i64 x13, PV.int .i64 x14, PV.int .i64 x15, PV.int .i64 x16, PV.int .i64 x17, PV.int .i64 x18, PV.int .i64 x19, PV.int .i64 x20, PV.int .i64 x21, PV.int .i64 x22, PV.int .i64 x23, PV.int .i64 x24, PV.int .i64 x25, PV.int .i64 x26, PV.int .i64 x27, PV.int .i64 x28, PV.int .i64 x29, PV.int .i64 x30, PV.int .i64 x31, PV.int .i64 x32, PV.int .i64 x33, PV.int .i64 x34, PV.int .i64 x35, PV.int .i64 x36, PV.int .i64 x37, PV.int .i64 x38, PV.int .i64 x39, PV.int .i64 x40, PV.int .i64 x41], AV.int .i64 i6], blks := [Blk.box [AV.int .i64 a0, AV.int .i64 a1, AV.int .i64 a2, AV.int .i64 a3, AV.int .i64 a4, AV.int .i64 a5, AV.int .i64 a6], Blk.box [AV.sl 1 S0, AV.int .i64 S1]] }) := by
  rw [s3_8 level text x0 x1 x2 x3 x4 x5 x6 x7 x8 x9 x10 x11 x12 x13 x14 x15 x16 x17 x18 x19 x20 x21 x22 x23 x24 x25 x26 x27 x28 x29 x30 x31 x32 x33 x34 x35 x36 x37 x38 x39 x40 x41 i6 y0 y1 y2 0 (by omega) a0 a1 a2 a3 a4 a5 a6 S0 S1 p0 p1 p2 p3 p4 p5 p6 q0 q1 q2 q3 q4 q5 q6 y0 (fun K => rfl), s3_8 level text x0 x1 x2 x3 x4 x5 x6 x7 x8 x9 x10 x11 x12 x13 x14 x15 x16 x17 x18 x19 x20 x21 x22 x23 x24 x25 x26 x27 x28 x29 x30 x31 x32 x33 x34 x35 x36 x37 x38 x39 x40 x41 i6 y0 y1 y2 (0 + 1) (by omega) a0 a1 a2 a3 a4 a5 a6 S0 S1 p0 p1 p2 p3 p4 p5 p6 q0 q1 q2 q3 q4 q5 q6 y1 (fun K => rfl),
    s3_8 level text x0 x1 x2 x3 x4 x5 x6 x7 x8 x9 x10 x11 x12 x13 x14 x15 x16 x17 x18 x19 x20 x21 x22 x23 x24 x25 x26 x27 x28 x29 x30 x31 x32 x33 x34 x35 x36 x37 x38 x39 x40 x41 i6 y0 y1 y2 (0 + 1 + 1) (by omega) a0 a1 a2 a3 a4 a5 a6 S0 S1 p0 p1 p2 p3 p4 p5 p6 q0 q1 q2 q3 q4 q5 q6 y2 (fun K => rfl), r3_8]
  rfl

theorem s3_6 {L : List Int} (hL : L.length ≤ 600) (level : Int) (text : List UInt8) (x0 x1 x2 x3 x4 x5 x6 x7 x8 x9 x10 x11 x12 x13 x14 x15 x16 x17 x18 x19 x20 x21 x22 x23 x24 x25 x26 x27 x28 x29 x30 x31 x32 x33 x34 x35 x36 x37 x38 x39 x40 x41 : Int) (i : Int) (hi : 0 ≤ i ∧ i < 3) (a0 a1 a2 a3 a4 a5 a6 : Int) (k : Nat) (hk : k ≤ 600) (p0 p1 p2 p3 p4 p5 p6 q0 q1 q2 q3 q4 q5 q6 : Int) (hp : ([p0, p1, p2, p3, p4, p5, p6].all i64B) = true)
    (hg : ∀ K : List PV → Option (Ex × Pack), getE [[PV.int .i64 x0, PV.int .i64 x1, PV.int .i64 x2, PV.int .i64 x3, PV.int .i64 x4, PV.int .i64 x5, PV.int .i64 x6, PV.int .i64 x7, PV.int .i64 x8, PV.int .i64 x9, PV.int .i64 x10, PV.int .i64 x11, PV.int .i64 x12, PV.int .i64 x13], [PV.int .i64 x14, PV.int .i64 x15, PV.int .i64 x16, PV.int .i64 x17, PV.int .i64 x18, PV.int .i64 x19, PV.int .i64 x20, PV.int .i64 x21, PV.int .i64 x22, PV.int .i64 x23, PV.int .i64 x24, PV.int .i64 x25, PV.int .i64 x26, PV.int .i64 x27], [PV.int .i64 x28, PV.int .i64 x29, PV.int .i64 x30, PV.int .i64 x31, PV.int .i64 x32, PV.int .i64 x33, PV.int .i64 x34, PV.int .i64 x35, PV.int .i64 x36, PV.int .i64 x37, PV.int .i64 x38, PV.int .i64 x39, PV.int .i64 x40, PV.int .i64 x41]] i K = K [PV.int .i64 p0, PV.int .i64 p1, PV.int .i64 p2, PV.int .i64 p3, PV.int .i64 p4, PV.int .i64 p5, PV.int .i64 p6, PV.int .i64 q0, PV.int .i64 q1, PV.int .i64 q2, PV.int .i64 q3, PV.int .i64 q4, PV.int .i64 q5, PV.int .i64 q6]) :
    ∃ k', k' ≤ 600 ∧ lp E (denC E) 3 0 [] 6 { vals := [AV.int .i64 level, AV.str text, AV.agg [PV.int .i64 x0, PV.int .i64 x1, PV.int .i64 x2, PV.int .i64 x3, PV.int .i64 x4, PV.int .i64 x5, PV.int .i64 x6, PV.int .i64 x7, PV.int .i64 x8, PV.int .i64 x9, PV.int .i64 x10, PV.int .i64 x11, PV.int .i64 x12, PV.int .i64 x13, PV.int .i64 x14, PV.int .i64 x15, PV.int .i64 x16, PV.int .i64 x17, PV.int .i64 x18, PV.int .i64 x19, PV.int .i64 x20, PV.int .i64 x21, PV.int .i64 x22, PV.int .i64 x23, PV.int .i64 x24, PV.int .i64 x25, PV.int .i64 x26, PV.int .i64 x27, PV.int .i64 x28, PV.int .i64 x29, PV.int .i64 x30, PV.int .i64 x31, PV.int .i64 x32, PV.int .i64 x33, PV.int .i64 x34, PV.int .i64 x35, PV.int .i64 x36, PV.int .i64 x37, PV.int .i64 x38, PV.int .i64 x39, PV.int .i64 x40, PV.int .i64 x41], AV.int .i64 i], blks := [Blk.box [AV.int .i64 a0, AV.int .i64 a1, AV.int .i64 a2, AV.int .i64 a3, AV.int .i64 a4, AV.int .i64 a5, AV.int .i64 a6], src L k] } =
      lp E (denC E) 3 0 [] 6 { vals := [AV.int .i64 level, AV.str text, AV.agg [PV.int .i64 x0, PV.int .i64 x1, PV.int .i64 x2, PV.int .i64 x3, PV.int .i64 x4, PV.int .i64 x5, PV.int .i64 x6, PV.int .i64 x7, PV.int .i64 x8, PV.int .i64 x9, PV.int .i64 x10, PV.int .i64 x11, PV.int .i64 x12, PV.int .i64 x13, PV.int .i64 x14, PV.int .i64 x15, PV.int .i64 x16, PV.int .i64 x17, PV.int .i64 x18, PV.int .i64 x19, PV.int .i64 x20, PV.int .i64 x21, PV.int .i64 x22, PV.int .i64 x23, PV.int .i64 x24, PV.int .i64 x25, PV.int .i64 x26, PV.int .i64 x27, PV.int .i64 x28, PV.int .i64 x29, PV.int .i64 x30, PV.int .i64 x31, PV.int .i64 x32, PV.int .i64 x33, PV.int .i64 x34, PV.int .i64 x35, PV.int .i64 x36, PV.int .i64 x37, PV.int .i64 x38, PV.int .i64 x39, PV.int .i64 x40, PV.int .i64 x41], AV.int .i64 (i + 1)], blks := [Blk.box [AV.int .i64 a0, AV.int .i64 a1, AV.int .i64 a2, AV.int .i64 a3, AV.int .i64 a4, AV.int .i64 a5, AV.int .i64 a6], src L k'] } := by
  have hN := c_N hL hk 4 (by omega)
  have hk1 := at'_le hL hk
  have h8 := l3_8 level text x0 x1 x2 x3 x4 x5 x6 x7 x8 x9 x10 x11 x12 x13 x14 x15 x16 x17 x18 x19 x20 x21 x22 x23 x24 x25 x26 x27 x28 x29 x30 x31 x32 x33 x34 x35 x36 x37 x38 x39 x40 x41 i level (vN L k 4) (-1) a0 a1 a2 a3 a4 a5 a6 (intsK .i64 L) (at' L k : Nat) p0 p1 p2 p3 p4 p5 p6 q0 q1 q2 q3 q4 q5 q6
  have hT := c_Text40 p0 p1 p2 p3 p4 p5 p6 hp
  have hU := c_TextD40 p0 p1 p2 p3 p4 p5 p6 hp
  refine ⟨at' L k, hk1, ?_⟩
  rw [r3_6]
  have h1 : ltB i 3 = true := by simp [ltB]; omega
  rw [h1, ctl_true, hg]
  simp only [nth_10, nth_11, nth_12, nth_13, SB, Nat.reduceAdd]
  rw [c_Add]
  simp only [SB, Nat.reduceAdd]
  rw [c_AddD]
  simp only [bne_self_eq_false, beq_self_eq_true, SB, Nat.reduceAdd]
  rw [hT]
  simp only [SB, Nat.reduceAdd]
  rw [hU]
  simp only [bne_self_eq_false, beq_self_eq_true, SB, Nat.reduceAdd]
  rw [hN]
  simp only [SB, Nat.reduceAdd]
  rw [h8]
  simp only [nth_10, nth_11, nth_12, nth_13, nth_14, nth_15, nth_16, nth_17, nth_18, nth_19, nth_20, nth_21, nth_22, nth_23, nth_24, nth_25, nth_26, nth_27, nth_28, nth_29, nth_30, nth_31, nth_32, nth_33, nth_34, nth_35, nth_36, nth_37, nth_38, nth_39, nth_40, nth_41, SB, Nat.reduceAdd]
  rw [w64 (n := i + 1) (by omega)]

theorem inj40 {a0 a1 a2 a3 a4 a5 a6 b0 b1 b2 b3 b4 b5 b6 : Int} (h0 : okN a0) (h1 : okN a1) (h2 : okN a2) (h3 : okN a3) (h4 : okN a4) (h5 : okN a5) (h6 : okN a6) (g0 : okN b0) (g1 : okN b1) (g2 : okN b2) (g3 : okN b3) (g4 : okN b4) (g5 : okN b5) (g6 : okN b6)
    (h : repB a0 a1 a2 a3 a4 a5 a6 = repB b0 b1 b2 b3 b4 b5 b6) : a0 = b0 ∧ a1 = b1 ∧ a2 = b2 ∧ a3 = b3 ∧ a4 = b4 ∧ a5 = b5 ∧ a6 = b6 := by
  have h1' := rdL_rep h0 h1 h2 h3 h4 h5 h6
  rw [h, rdL_rep g0 g1 g2 g3 g4 g5 g6] at h1'
  simp only [Option.some.injEq, List.cons.injEq, and_true] at h1'
  obtain ⟨e1, e2, e3, e0, e4, e5, e6⟩ := h1'
  exact ⟨e0.symm, e1.symm, e2.symm, e3.symm, e4.symm, e5.symm, e6.symm⟩

theorem same40 (text : List UInt8) (hl : text.length ≤ 1000) : ∃ p0 p1 p2 p3 p4 p5 p6 n : Int,
    denC E 18 [AV.str text] [] = some ([RV.agg [PV.int .i64 p0, PV.int .i64 p1, PV.int .i64 p2, PV.int .i64 p3, PV.int .i64 p4, PV.int .i64 p5, PV.int .i64 p6], RV.p (PV.int .i64 n)], []) ∧ denC E 19 [AV.str text] [] = some ([RV.agg [PV.int .i64 p0, PV.int .i64 p1, PV.int .i64 p2, PV.int .i64 p3, PV.int .i64 p4, PV.int .i64 p5, PV.int .i64 p6], RV.p (PV.int .i64 n)], []) := by
  rcases c_Read40 text hl with ⟨p0, p1, p2, p3, p4, p5, p6, o0, o1, o2, o3, o4, o5, o6, ho, h⟩ | ⟨hn, h⟩
  · rcases c_ReadD40 text hl with ⟨q0, q1, q2, q3, q4, q5, q6, g0, g1, g2, g3, g4, g5, g6, hg, h'⟩ | ⟨hn, h'⟩
    · obtain ⟨rfl, rfl, rfl, rfl, rfl, rfl, rfl⟩ := inj40 o0 o1 o2 o3 o4 o5 o6 g0 g1 g2 g3 g4 g5 g6 (ho.trans hg.symm)
      exact ⟨_, _, _, _, _, _, _, _, h, h'⟩
    · exact (hn _ _ _ _ _ _ _ o0 o1 o2 o3 o4 o5 o6 ho).elim
  · rcases c_ReadD40 text hl with ⟨q0, q1, q2, q3, q4, q5, q6, g0, g1, g2, g3, g4, g5, g6, hg, h'⟩ | ⟨hn', h'⟩
    · exact (hn _ _ _ _ _ _ _ g0 g1 g2 g3 g4 g5 g6 hg).elim
    · exact ⟨_, _, _, _, _, _, _, _, h, h'⟩

theorem s3_10 (u v : List UInt8) (i : Int) (hi : 0 ≤ i ∧ i < 2) (text : List UInt8) (hl : text.length ≤ 1000) (hg : ∀ K : List PV → Option (Ex × Pack), getE [[PV.str u], [PV.str v]] i K = K [PV.str text]) :
    lp E (denC E) 3 0 [] 10 { vals := [AV.agg [PV.str u, PV.str v], AV.int .i64 i], blks := [] } = lp E (denC E) 3 0 [] 10 { vals := [AV.agg [PV.str u, PV.str v], AV.int .i64 (i + 1)], blks := [] } := by
  obtain ⟨p0, p1, p2, p3, p4, p5, p6, n, hE, hD⟩ := same40 text hl
  rw [r3_10]
  have h1 : ltB i 2 = true := by simp [ltB]; omega
  rw [h1, ctl_true, hg]
  simp only [SB, Nat.reduceAdd]
  rw [hE]
  simp only [SB, Nat.reduceAdd]
  rw [hD]
  simp only [bne_self_eq_false, beq_self_eq_true, SB, Nat.reduceAdd]
  rw [w64 (n := i + 1) (by omega)]

theorem l3_10 (u v : List UInt8) (hu : u.length ≤ 1000) (hv : v.length ≤ 1000) : lp E (denC E) 3 0 [] 10 { vals := [AV.agg [PV.str u, PV.str v], AV.int .i64 0], blks := [] } = some (.exit 10, { vals := [], blks := [] }) := by
  rw [s3_10 u v 0 (by omega) u hu (fun K => rfl), s3_10 u v (0 + 1) (by omega) v hv (fun K => rfl), r3_10]
  rfl

theorem repB_long {a0 a1 a2 a3 a4 a5 a6 : Int} (h : ([a0, a1, a2, a3, a4, a5, a6].all i64B) = true) : (repB a0 a1 a2 a3 a4 a5 a6).length ≤ 1000 := by
  simp only [List.all_cons, List.all_nil, Bool.and_true, Bool.and_eq_true, i64B, decide_eq_true_eq] at h
  obtain ⟨h0, h1, h2, h3, h4, h5, h6⟩ := h
  have := itoa_len h0
  have := itoa_len h1
  have := itoa_len h2
  have := itoa_len h3
  have := itoa_len h4
  have := itoa_len h5
  have := itoa_len h6
  rw [repB_eq]
  simp only [List.length_append, List.length_cons, List.length_nil]
  omega
theorem i64B_all {a0 a1 a2 a3 a4 a5 a6 : Int} (h : (0 ≤ a0 ∧ a0 ≤ 100) ∧ (0 ≤ a1 ∧ a1 ≤ 100) ∧ (0 ≤ a2 ∧ a2 ≤ 100) ∧ (0 ≤ a3 ∧ a3 ≤ 100) ∧ (0 ≤ a4 ∧ a4 < 4) ∧ (0 ≤ a5 ∧ a5 < 20) ∧ (0 ≤ a6 ∧ a6 < 20)) : ([a0, a1, a2, a3, a4, a5, a6].all i64B) = true := by
  obtain ⟨h0, h1, h2, h3, h4, h5, h6⟩ := h
  simp only [List.all_cons, List.all_nil, i64B_of (n := a0) ⟨by omega, by omega⟩, i64B_of (n := a1) ⟨by omega, by omega⟩, i64B_of (n := a2) ⟨by omega, by omega⟩, i64B_of (n := a3) ⟨by omega, by omega⟩, i64B_of (n := a4) ⟨by omega, by omega⟩, i64B_of (n := a5) ⟨by omega, by omega⟩, i64B_of (n := a6) ⟨by omega, by omega⟩, Bool.and_self]

theorem d_ReportExact (t : List Int) (_ : t.length ≤ maxLen) (_ : ∀ n ∈ t, -9223372036854775808 ≤ n ∧ n ≤ 9223372036854775807) (raw : AV) (hr : WFA Tryz.prog 26 raw) (a : AV) (ha : WFA Tryz.prog 29 a) (b : AV) (hb : WFA Tryz.prog 29 b)
    (frm : Int) (_ : -9223372036854775808 ≤ frm ∧ frm ≤ 9223372036854775807) (to : Int) (_ : -9223372036854775808 ≤ to ∧ to ≤ 9223372036854775807) (level : Int) (_ : -9223372036854775808 ≤ level ∧ level ≤ 9223372036854775807) (text : List UInt8) (_ : text.length ≤ maxLen) :
    denC E 3 [AV.sl 1 (intsK .i64 t), raw, a, b, AV.int .i64 frm, AV.int .i64 to, AV.int .i64 level, AV.str text] [] = some ([RV.p (PV.bool true)], []) := by
  obtain ⟨w, s, rfl, hw, hs⟩ := in_Book hr
  obtain ⟨a0, a1, a2, a3, a4, a5, a6, rfl, hA⟩ := in_Rep ha
  obtain ⟨b0, b1, b2, b3, b4, b5, b6, rfl, hB⟩ := in_Rep hb
  rw [denC_eq, r3, intsK_len, ensK_len]
  have hcond : ∀ K : Bool → Option Res, (bnd (ctl (!ltB 600 (t.length : Int)) (some (ltB 30 (w.length : Int))) (some true)) fun v : Bool => bnd (ctl (!v) (some (ltB 200 (text.length : Int))) (some true)) K) = K (ltB 600 (t.length : Int) || (ltB 30 (w.length : Int) || ltB 200 (text.length : Int))) := by
    intro K
    cases ltB 600 (t.length : Int) <;> cases ltB 30 (w.length : Int) <;> rfl
  rw [hcond]
  cases hbig : (ltB 600 (t.length : Int) || (ltB 30 (w.length : Int) || ltB 200 (text.length : Int))) with
  | true =>
    rw [ctl_true, c_sane40]
    rfl
  | false =>
    simp only [Bool.or_eq_false_iff, decide_eq_false_iff_not] at hbig
    obtain ⟨ht, hbl, htl⟩ := hbig
    have hlp := l3_0 (intsK .i64 t) frm to level text s a0 a1 a2 a3 a4 a5 a6 b0 b1 b2 b3 b4 b5 b6 w (by omega) w [] rfl
    simp only [List.length_nil, Int.ofNat_zero] at hlp
    rw [ctl_false, hlp]
    cases hall : (w.all fun e => !ltB 10 (e.ws.length : Int)) with
    | false => rfl
    | true =>
      have hle : ∀ e ∈ w, e.ws.length ≤ 10 := fun e he => by
        have := List.all_eq_true.1 hall e he
        simp only [Bool.not_eq_true', decide_eq_false_iff_not] at this
        omega
      simp only [SB, Nat.reduceAdd]
      rw [c_New]
      simp only [SB, Nat.reduceAdd]
      rw [src_zero]
      have hL : (t.take 600).length ≤ 600 := by simp; omega
      obtain ⟨x, xs, k1, hk1, hc, hxl, hxt, hX⟩ := c_Book (L := t.take 600) (k := 0) hL (by omega) 14 (by omega)
      rw [hX]
      simp only [SB, Nat.reduceAdd]
      have hxr := checkP_rng hc
      obtain ⟨y, ys, k2, hk2, hyl, hyw, hyr, hY⟩ := c_BentBook (L := t.take 600) (k := k1) hL hk1 x xs (by omega) (checkP_ws hc) hxr
      rw [hY]
      simp only [SB, Nat.reduceAdd]
      have hBx : bB x xs := ⟨by omega, checkP_ws hc, hxr⟩
      have hBy : bB y ys := ⟨by omega, hyw, hyr⟩
      have hBb : bB w s := ⟨by omega, fun e he => by have := hle e he; omega, hs⟩
      obtain ⟨k3, hk3, h1⟩ := s3_2 hL frm to level text x y w xs ys s 0 (by omega) a0 a1 a2 a3 a4 a5 a6 b0 b1 b2 b3 b4 b5 b6 k2 hk2 x xs hBx (fun K => rfl)
      obtain ⟨k4, hk4, h2⟩ := s3_2 hL frm to level text x y w xs ys s (0 + 1) (by omega) a0 a1 a2 a3 a4 a5 a6 b0 b1 b2 b3 b4 b5 b6 k3 hk3 y ys hBy (fun K => rfl)
      obtain ⟨k5, hk5, h3⟩ := s3_2 hL frm to level text x y w xs ys s (0 + 1 + 1) (by omega) a0 a1 a2 a3 a4 a5 a6 b0 b1 b2 b3 b4 b5 b6 k4 hk4 w s hBb (fun K => rfl)
      rw [h1, h2, h3, r3_2]
      have h4 : ltB (0 + 1 + 1 + 1) 3 = false := rfl
      rw [h4, ctl_false]
      simp only [SB, Nat.reduceAdd]
      obtain ⟨c0, c1, c2, c3, c4, c5, c6, k6, hk6, C0, C1, C2, C3, C4, C5, C6, hC⟩ := c_made hL hk5
      obtain ⟨d0, d1, d2, d3, d4, d5, d6, k7, hk7, D0, D1, D2, D3, D4, D5, D6, hD⟩ := c_made hL hk6
      obtain ⟨e0, e1, e2, e3, e4, e5, e6, k8, hk8, E0, E1, E2, E3, E4, E5, E6, hE⟩ := c_made hL hk7
      rw [hC]
      simp only [SB, Nat.reduceAdd]
      rw [hD]
      simp only [SB, Nat.reduceAdd]
      rw [hE]
      simp only [SB, Nat.reduceAdd]
      obtain ⟨k9, hk9, g1⟩ := s3_6 hL level text a0 a1 a2 a3 a4 a5 a6 b0 b1 b2 b3 b4 b5 b6 c0 c1 c2 c3 c4 c5 c6 d0 d1 d2 d3 d4 d5 d6 e0 e1 e2 e3 e4 e5 e6 0 0 0 0 0 0 0 0 (by omega) a0 a1 a2 a3 a4 a5 a6 k8 hk8 a0 a1 a2 a3 a4 a5 a6 b0 b1 b2 b3 b4 b5 b6 hA (fun K => rfl)
      obtain ⟨k10, hk10, g2⟩ := s3_6 hL level text a0 a1 a2 a3 a4 a5 a6 b0 b1 b2 b3 b4 b5 b6 c0 c1 c2 c3 c4 c5 c6 d0 d1 d2 d3 d4 d5 d6 e0 e1 e2 e3 e4 e5 e6 0 0 0 0 0 0 0 (0 + 1) (by omega) a0 a1 a2 a3 a4 a5 a6 k9 hk9 c0 c1 c2 c3 c4 c5 c6 d0 d1 d2 d3 d4 d5 d6 (i64B_all ⟨C0, C1, C2, C3, C4, C5, C6⟩) (fun K => rfl)
      obtain ⟨k11, hk11, g3⟩ := s3_6 hL level text a0 a1 a2 a3 a4 a5 a6 b0 b1 b2 b3 b4 b5 b6 c0 c1 c2 c3 c4 c5 c6 d0 d1 d2 d3 d4 d5 d6 e0 e1 e2 e3 e4 e5 e6 0 0 0 0 0 0 0 (0 + 1 + 1) (by omega) a0 a1 a2 a3 a4 a5 a6 k10 hk10 e0 e1 e2 e3 e4 e5 e6 0 0 0 0 0 0 0 (i64B_all ⟨E0, E1, E2, E3, E4, E5, E6⟩) (fun K => rfl)
      rw [g1, g2, g3, r3_6, h4, ctl_false]
      simp only [SB, Nat.reduceAdd]
      rw [c_Text40 a0 a1 a2 a3 a4 a5 a6 hA]
      simp only [SB, Nat.reduceAdd]
      rw [l3_10 text (repB a0 a1 a2 a3 a4 a5 a6) (by omega) (repB_long hA)]
      simp only [SB, Nat.reduceAdd]
      rw [c_sane40]
      rfl

end Go.Proofs.YtkpdiagdjplbiaaGreatDoor.Vm
