/- The law LogbookLimits. -/
import Derived.Test.YtdbajagnhanpfaaDoorBookH
namespace Go.Proofs.YtdbajagnhanpfaaDoor.Vm
set_option linter.unusedVariables false
set_option linter.unusedSimpArgs false

/-- The entry of place i. -/
def lEn (i : Nat) : En := ⟨(i : Int), 1, [((i % 4 : Nat) : Int)]⟩
theorem lEn_K (i : Nat) : enK (lEn i) = limE i := rfl
theorem lEn_valid {i : Nat} (h : i ≤ 1000) : validP (lEn i).t (lEn i).k (lEn i).ws = true := by
  unfold validP lEn inside
  have h1 : (0 : Int) ≤ (i : Int) := by omega
  have h2 : (i : Int) ≤ 2147483648 := by omega
  have h3 : (-1000000000 : Int) ≤ ((i % 4 : Nat) : Int) := by omega
  have h4 : ((i % 4 : Nat) : Int) ≤ 1000000000 := by omega
  simp only [List.all_cons, List.all_nil, decide_eq_true h1, decide_eq_true h2, decide_eq_true h3, decide_eq_true h4]
  rfl
/-- The book of the first n places. -/
def lBk (n : Nat) : List En := (List.range n).map lEn
theorem lBk_succ (n : Nat) : lBk (n + 1) = lBk n ++ [lEn n] := by simp [lBk, List.range_succ]
theorem lBk_len (n : Nat) : (lBk n).length = n := by simp [lBk]
def lSum : Nat → Int
  | 0 => begin36
  | n + 1 => sumB (lSum n) (lineP (lEn n).t (lEn n).k (lEn n).ws)
theorem lateP_last (b : List En) (e : En) (t : Int) : lateP (b ++ [e]) t = decide (e.t ≤ t) := by
  unfold lateP
  simp
theorem lBk_late (n : Nat) : lateP (lBk n) (lEn n).t = true := by
  cases n with
  | zero => rfl
  | succ n =>
    rw [lBk_succ, lateP_last]
    exact decide_eq_true (by show ((n : Nat) : Int) ≤ ((n + 1 : Nat) : Int); omega)
theorem lBk_ok : ∀ n, n ≤ 200 → checkP (lBk n) (lSum n) = 0
  | 0, _ => checkP_nil
  | n + 1, h => by
    rw [lBk_succ]
    exact checkP_snoc (lBk_ok n (by omega)) (lEn_valid (by omega)) (lBk_late n) (by rw [lBk_len]; omega)
theorem lBk_ws (n : Nat) : ∀ e ∈ lBk n, e.ws.length ≤ 1000000 := by
  intro e he
  simp only [lBk, List.mem_map] at he
  obtain ⟨i, _, rfl⟩ := he
  simp [lEn]

theorem lim_line {i : Nat} (h : i ≤ 1000) : denC E 8 [AV.agg (limE i)] [] = some ([RV.p (PV.str (lineP (lEn i).t (lEn i).k (lEn i).ws)), RV.p (PV.int .i64 0)], []) := by
  obtain ⟨v1, v2, v3, v4, v5, v6, v7⟩ := validP_all (lEn_valid h)
  have := c_LineD (lEn i) v2 v3 v4 (by omega) (by omega)
  rw [lEn_valid h, if_pos rfl] at this
  exact this

theorem limA_eval (K : List (List PV) → Int → Ask) : ∀ (m i : Nat), i + m ≤ 200 → (limA 8 9 m (ensK (lBk i)) (lSum i) K).run (denC E) = (K (ensK (lBk (i + m))) (lSum (i + m))).run (denC E)
  | 0, i, h => rfl
  | m + 1, i, h => by
    have ih := limA_eval K m (i + 1) (by omega)
    have hl := lim_line (i := i) (by omega)
    have hle : (lineP (lEn i).t (lEn i).k (lEn i).ws).length ≤ 9223372036854775807 := by
      obtain ⟨v1, v2, v3, v4, v5, v6, v7⟩ := validP_all (lEn_valid (i := i) (by omega))
      unfold lineP
      simp only [List.length_append, List.length_cons, List.length_nil]
      omega
    have hs := c_SumD (lSum i) _ hle
    have e1 : (ensK (lBk i)).length = i := by rw [ensK_len, lBk_len]
    unfold limA
    simp only [e1, Ask.run]
    have hl' : denC E 8 [.t (.agg (limE i))] [] = _ := hl
    rw [hl']
    show (Ask.u64 9 [.t (.p (.int .u64 (lSum i))), .t (.p (.str (lineP (lEn i).t (lEn i).k (lEn i).ws)))] _).run (denC E) = _
    rw [a_u64 hs]
    have e2 : ensK (lBk i) ++ [limE i] = ensK (lBk (i + 1)) := by rw [lBk_succ]; simp [ensK, lEn_K]
    rw [e2]
    have e3 : i + (m + 1) = i + 1 + m := by omega
    rw [e3]
    exact ih

theorem lim_app {i : Nat} (h : i < 200) : denC E 10 [AV.agg [PV.sl 3 (ensK (lBk i)), PV.int .u64 (lSum i)], AV.agg (limE i)] [] = some ([RV.agg [PV.sl 3 (ensK (lBk (i + 1))), PV.int .u64 (lSum (i + 1))], RV.p (PV.int .i64 0)], []) := by
  have := c_AppendE (lBk i) (lSum i) (lEn i) (lBk_ws i) (by simp [lEn])
  rw [lEn_K, appR_ok (lBk_ok i (by omega)) (lEn_valid (by omega)) (lBk_late i) (by rw [lBk_len]; omega)] at this
  rw [this, lBk_succ]
  rfl

theorem late200 {i : Nat} (h : 200 ≤ i) : lateP (lBk 200) (lEn i).t = true := by
  have : lBk 200 = lBk 199 ++ [lEn 199] := lBk_succ 199
  rw [this, lateP_last]
  exact decide_eq_true (by show ((199 : Nat) : Int) ≤ ((i : Nat) : Int); omega)

theorem lim_full {i : Nat} (h : 200 ≤ i) (h2 : i ≤ 1000) : denC E 10 [AV.agg [PV.sl 3 (ensK (lBk 200)), PV.int .u64 (lSum 200)], AV.agg (limE i)] [] = some ([RV.agg [PV.nils, PV.int .u64 0], RV.p (PV.int .i64 2)], []) := by
  have := c_AppendE (lBk 200) (lSum 200) (lEn i) (lBk_ws 200) (by simp [lEn])
  have ha : appE (lBk 200) (lSum 200) (lEn i) = 2 := by
    unfold appE
    rw [if_neg (by rw [lBk_ok 200 (by omega), lEn_valid h2]; simp), if_neg (by rw [late200 h]; simp), if_pos (lBk_len 200)]
  unfold appR at this
  rw [ha, lEn_K] at this
  exact this

theorem limB_eval (K : List (List PV) → Int → Ask) : ∀ (m i : Nat), i + m ≤ 1000 → (limB 10 m i (ensK (lBk (min i 200))) (lSum (min i 200)) K).run (denC E) = (K (ensK (lBk (min (i + m) 200))) (lSum (min (i + m) 200))).run (denC E)
  | 0, i, h => rfl
  | m + 1, i, h => by
    have ih := limB_eval K m (i + 1) (by omega)
    have e3 : i + (m + 1) = i + 1 + m := by omega
    rw [e3]
    unfold limB
    simp only [Ask.run]
    by_cases hi : i < 200
    · have e1 : min i 200 = i := by omega
      have e2 : min (i + 1) 200 = i + 1 := by omega
      have ha : denC E 10 [.t (.agg [.sl 3 (ensK (lBk i)), .int .u64 (lSum i)]), .t (.agg (limE i))] [] = _ := lim_app hi
      rw [e2] at ih
      rw [e1, ha]
      simp only [decide_eq_true hi, cond_true, beq_self_eq_true]
      exact ih
    · have e1 : min i 200 = 200 := by omega
      have e2 : min (i + 1) 200 = 200 := by omega
      have ha : denC E 10 [.t (.agg [.sl 3 (ensK (lBk 200)), .int .u64 (lSum 200)]), .t (.agg (limE i))] [] = _ := lim_full (by omega) (by omega)
      rw [e2] at ih
      rw [e1, ha]
      simp only [decide_eq_false hi, cond_false, beq_self_eq_true, cond_true]
      exact ih

theorem lim_last {i : Nat} (h : 197 ≤ i) (h2 : i ≤ 200) : denC E 10 [AV.agg [PV.sl 3 (ensK (lBk i)), PV.int .u64 (lSum i)], AV.agg [PV.int .i64 1, PV.int .i64 1, PV.sl 1 [[PV.int .i64 1]]]] [] = some ([RV.agg [PV.nils, PV.int .u64 0], RV.p (PV.int .i64 16)], []) := by
  have := c_AppendE (lBk i) (lSum i) ⟨1, 1, [1]⟩ (lBk_ws i) (by simp)
  have hla : lateP (lBk i) 1 = false := by
    obtain ⟨j, rfl⟩ : ∃ j, i = j + 1 := ⟨i - 1, by omega⟩
    rw [lBk_succ, lateP_last]
    exact decide_eq_false (by show ¬ ((j : Nat) : Int) ≤ 1; omega)
  have hv : validP 1 1 [1] = true := by decide
  have ha : appE (lBk i) (lSum i) ⟨1, 1, [1]⟩ = 16 := by
    unfold appE
    rw [if_neg (by rw [lBk_ok i h2, hv]; simp), if_pos hla]
  unfold appR at this
  rw [ha] at this
  exact this

theorem d_LogbookLimits (n : Int) (hn : 0 ≤ n ∧ n ≤ 255) : denC E 3 [AV.int .u8 n] [] = some ([RV.p (PV.bool true)], []) := by
  rw [denC_eq]
  have : funK E (denC E) 3 [AV.int .u8 n] [] = match (limT 7 8 9 10 11 [AV.int .u8 n]).run (denC E) with | some rs => some (rs, []) | none => none := by kernel_rfl
  rw [this]
  have key : (limT 7 8 9 10 11 [AV.int .u8 n]).run (denC E) = some [.p (.bool true)] := by
    simp only [limT]
    have h0 : (decide (0 ≤ n) && decide (n ≤ 255)) = true := by simp [hn.1, hn.2]
    rw [h0, cond_true]
    simp only [Ask.run, c_NewD]
    have hA := limA_eval (fun es s => limB 10 (n % 6).toNat 197 es s fun es s =>
        .ask 10 [.t (.agg [.sl 3 es, .int .u64 s]), .t (.agg [.int .i64 1, .int .i64 1, .sl 1 [[.int .i64 1]]])] fun r => match r with
          | ([.agg [.nils, .int .u64 _], .p (.int .i64 e)], []) => cond (e == 16) (.bool 11 [] fun v => .ret (some [.p (.bool v)])) .none
          | _ => .none) 197 0 (by omega)
    simp only [Nat.zero_add] at hA
    refine Eq.trans hA ?_
    have hB := limB_eval (fun es s =>
        .ask 10 [.t (.agg [.sl 3 es, .int .u64 s]), .t (.agg [.int .i64 1, .int .i64 1, .sl 1 [[.int .i64 1]]])] fun r => match r with
          | ([.agg [.nils, .int .u64 _], .p (.int .i64 e)], []) => cond (e == 16) (.bool 11 [] fun v => .ret (some [.p (.bool v)])) .none
          | _ => .none) (n % 6).toNat 197 (by omega)
    rw [show min 197 200 = 197 from rfl] at hB
    refine Eq.trans hB ?_
    have hl := lim_last (i := min (197 + (n % 6).toNat) 200) (by omega) (by omega)
    simp only [Ask.run]
    have hl' : denC E 10 [.t (.agg [.sl 3 (ensK (lBk (min (197 + (n % 6).toNat) 200))), .int .u64 (lSum (min (197 + (n % 6).toNat) 200))]), .t (.agg [.int .i64 1, .int .i64 1, .sl 1 [[.int .i64 1]]])] [] = _ := hl
    rw [hl']
    simp only [beq_self_eq_true, cond_true]
    rw [a_bool c_sane36]
    rfl
  rw [key]

end Go.Proofs.YtdbajagnhanpfaaDoor.Vm
