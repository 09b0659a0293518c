/- The law AngleSines comes to true. -/
import Derived.Test.YtpemmbkflddhoaaAngleC
namespace Go.Proofs.Ytpemmbkflddhoaa.Vm
set_option linter.unusedSimpArgs false

/-- All that the law asks of an angle from 0 to 3599. -/
def sinesOk (p : Int) : Bool :=
  Sin (0 - p) == 0 - Sin p && Sin (1800 - p) == Sin p && Cos (0 - p) == Cos p && Sin (p + 3600) == Sin p && leB (-10000) (Sin p) && leB (Sin p) 10000 && leB (-10000) (Cos p) && leB (Cos p) 10000 &&
  leB (Sin p * Sin p + Cos p * Cos p - 100000000) 500000 && leB (-500000) (Sin p * Sin p + Cos p * Cos p - 100000000) && leB 0 (Sin p * Sin p) && leB (Sin p * Sin p) 100000000 && leB 0 (Cos p * Cos p) && leB (Cos p * Cos p) 100000000 && (leB 900 p || (leB (Sin p) (Sin (p + 1)) && leB (Cos (p + 1)) (Cos p)))

theorem sines_all : ((List.range 3600).all fun n => sinesOk (n : Int)) = true := by decide +kernel

theorem sines_at {p : Int} (hp : 0 ≤ p ∧ p < 3600) : sinesOk p = true := by
  have := List.all_eq_true.1 sines_all p.toNat (by simp; omega)
  rwa [Int.toNat_of_nonneg hp.1] at this

theorem d_AngleSines (a : Int) (_ : -9223372036854775808 ≤ a ∧ a ≤ 9223372036854775807) : denC E 4 [AV.int .i64 a] [] = some ([RV.p (PV.bool true)], []) := by
  rw [denC_eq, r4]
  simp only [c_Norm, c_Sin, c_Cos, c_Diff, c_sane, bnd_some, ctl_true, ctl_false, ctl_and, ctl_or', ctl_or2, x_toPV, x_toCs, x_toCs2, x_toEs, x_bEs, x_bCs, x_aPV, x_aCs, x_int, x_bool, x_str, x_es, x_esn, nth_0, nth_1, nth_2, nth_3, nth_4, nth_5, nth_6, nth_7, nth_8, nth_9, y_nil, y_int, y_bool, y_str, y_sl, y_nils, y_agg, y_ownp, y_own, z_nil, z_int, z_bool, z_str, z_sl, z_nils, b_nil, b_arr, b_box1, b_box2, b_box3, b_box4, List.map_cons, List.map_nil, Bool.and_self, Bool.and_true, Bool.true_and, Bool.not_true, Bool.not_false, Bool.or_false, Bool.false_or, cond_true, cond_false]
  have n1 := Norm_lt a
  have h := sines_at n1
  generalize Norm a = p at *
  simp only [sinesOk, Bool.and_eq_true, beq_iff_eq] at h
  obtain ⟨⟨⟨⟨⟨⟨⟨⟨⟨⟨⟨⟨⟨⟨h1, h2⟩, h3⟩, h4⟩, h5⟩, h6⟩, h7⟩, h8⟩, h9⟩, h10⟩, h11⟩, h12⟩, h13⟩, h14⟩, h15⟩ := h
  have g5 := of_decide_eq_true h5
  have g6 := of_decide_eq_true h6
  have g7 := of_decide_eq_true h7
  have g8 := of_decide_eq_true h8
  have g9 := of_decide_eq_true h9
  have g10 := of_decide_eq_true h10
  have g11 := of_decide_eq_true h11
  have g12 := of_decide_eq_true h12
  have g13 := of_decide_eq_true h13
  have g14 := of_decide_eq_true h14
  rw [w64 (n := 0 - p) (by omega), w64 (n := 0 - Sin p) (by omega), w64 (n := 1800 - p) (by omega), w64 (n := p + 3600) (by omega), w64 (n := Sin p * Sin p) (by omega), w64 (n := Cos p * Cos p) (by omega),
    w64 (n := Sin p * Sin p + Cos p * Cos p) (by omega), w64 (n := Sin p * Sin p + Cos p * Cos p - 100000000) (by omega), w64 (n := p + 1) (by omega), h15]
  have key : (Sin (0 - p) != 0 - Sin p || Sin (1800 - p) != Sin p || Cos (0 - p) != Cos p || Sin (p + 3600) != Sin p || ltB (Sin p) (-10000) || ltB 10000 (Sin p) ||
      ltB 500000 (Sin p * Sin p + Cos p * Cos p - 100000000) || ltB (Sin p * Sin p + Cos p * Cos p - 100000000) (-500000)) = false := by
    simp only [Bool.or_eq_false_iff, bne_eq_false_iff_eq, decide_eq_false_iff_not]
    omega
  rw [key]
  rfl

end Go.Proofs.Ytpemmbkflddhoaa.Vm
