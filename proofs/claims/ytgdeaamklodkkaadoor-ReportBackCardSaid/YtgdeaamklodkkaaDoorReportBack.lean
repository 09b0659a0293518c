/- The law ReportBack. -/
import Derived.Test.YtgdeaamklodkkaaDoorRepR
import Derived.Test.YtgdeaamklodkkaaDoorRawBack
namespace Go.Proofs.YtgdeaamklodkkaaDoor.Vm
set_option linter.unusedVariables false
set_option linter.unusedSimpArgs false

theorem nth_bytes40 {s : List UInt8} {i : Nat} (h : i < s.length) : nth [] (byteEs s) i = [PV.int .u8 ((s.getD i 0).toNat : Int)] := by
  rw [nth_eq]
  simp [byteEs, List.getD, h]

theorem setEs_bytes40 {s : List UInt8} {i : Nat} (h : i < s.length) (b : UInt8) : setEs (byteEs s) i 0 [PV.int .u8 (b.toNat : Int)] = byteEs (s.set i b) := by
  unfold setEs
  rw [upd_eq, nth_bytes40 h]
  have : lay [PV.int .u8 ((s.getD i 0).toNat : Int)] 0 [PV.int .u8 (b.toNat : Int)] = [PV.int .u8 (b.toNat : Int)] := by simp [lay, lay.go]
  rw [this]
  simp [byteEs, List.map_set]

theorem alone_cons {x : UInt8} (hx : x.toNat < 128) : ∀ m : List UInt8, aloneB (x :: m) = aloneB m
  | [] => rfl
  | z :: l => by
    have h : Nat.ble 128 x.toNat = false := by
      cases hb : Nat.ble 128 x.toNat with
      | false => rfl
      | true => have := Nat.le_of_ble_eq_true hb; omega
    show (!(Nat.ble 128 x.toNat && Nat.ble 128 z.toNat) && aloneB (z :: l)) = _
    rw [h]
    rfl

theorem alone_ascii : ∀ l : List UInt8, (∀ b ∈ l, b.toNat < 128) → aloneB l = true
  | [], _ => rfl
  | x :: l, h => by rw [alone_cons (h x (.head _))]; exact alone_ascii l fun b hb => h b (.tail _ hb)

theorem alone_set (b : UInt8) : ∀ (l : List UInt8) (k : Nat), (∀ b ∈ l, b.toNat < 128) → aloneB (l.set k b) = true
  | [], _, _ => rfl
  | x :: l, 0, h => by
    cases l with
    | nil => rfl
    | cons z l =>
      have hz : Nat.ble 128 z.toNat = false := by
        cases hb : Nat.ble 128 z.toNat with
        | false => rfl
        | true => have := Nat.le_of_ble_eq_true hb; have := h z (.tail _ (.head _)); omega
      show (!(Nat.ble 128 b.toNat && Nat.ble 128 z.toNat) && aloneB (z :: l)) = true
      rw [hz, Bool.and_false, alone_ascii (z :: l) fun c hc => h c (.tail _ hc)]
      rfl
  | x :: l, k + 1, h => by
    rw [List.set_cons_succ, alone_cons (h x (.head _))]
    exact alone_set b l k fun c hc => h c (.tail _ hc)

theorem ascii_app {a b : List UInt8} (ha : ∀ x ∈ a, x.toNat < 128) (hb : ∀ x ∈ b, x.toNat < 128) : ∀ x ∈ a ++ b, x.toNat < 128 := fun x hx => by
  rcases List.mem_append.1 hx with h | h
  · exact ha x h
  · exact hb x h

theorem itoa_ascii {n : Int} (h : okN n) : ∀ x ∈ Lib.itoa n, x.toNat < 128 := fun x hx => by
  have := itoa_byte h.1 x hx
  unfold isD at this
  simp only [Bool.and_eq_true, decide_eq_true_eq] at this
  omega

theorem repB_ascii {a0 a1 a2 a3 a4 a5 a6 : Int} (h0 : okN a0) (h1 : okN a1) (h2 : okN a2) (h3 : okN a3) (h4 : okN a4) (h5 : okN a5) (h6 : okN a6) : ∀ x ∈ repB a0 a1 a2 a3 a4 a5 a6, x.toNat < 128 := by
  rw [repB_eq]
  exact ascii_app (by decide) (ascii_app (itoa_ascii h1) (ascii_app (by decide) (ascii_app (itoa_ascii h2) (ascii_app (by decide) (ascii_app (itoa_ascii h3) (ascii_app (by decide) (ascii_app (itoa_ascii h0) (ascii_app (by decide) (ascii_app (itoa_ascii h4) (ascii_app (by decide) (ascii_app (itoa_ascii h5) (ascii_app (by decide) (ascii_app (itoa_ascii h6) (by decide))))))))))))))

theorem repB_len {a0 a1 a2 a3 a4 a5 a6 : Int} (h0 : okN a0) (h1 : okN a1) (h2 : okN a2) (h3 : okN a3) (h4 : okN a4) (h5 : okN a5) (h6 : okN a6) : 1 ≤ (repB a0 a1 a2 a3 a4 a5 a6).length ∧ (repB a0 a1 a2 a3 a4 a5 a6).length ≤ 1000 := by
  have hl : ∀ n, okN n → (Lib.itoa n).length ≤ 20 := fun n h => itoa_len (by unfold okN at h; omega)
  have := hl _ h0
  have := hl _ h1
  have := hl _ h2
  have := hl _ h3
  have := hl _ h4
  have := hl _ h5
  have := hl _ h6
  rw [repB_eq]
  simp only [List.length_append, List.length_cons, List.length_nil]
  omega

theorem repB_inj {a0 a1 a2 a3 a4 a5 a6 b0 b1 b2 b3 b4 b5 b6 : Int} (h0 : okN a0) (h1 : okN a1) (h2 : okN a2) (h3 : okN a3) (h4 : okN a4) (h5 : okN a5) (h6 : okN a6) (g0 : okN b0) (g1 : okN b1) (g2 : okN b2) (g3 : okN b3) (g4 : okN b4) (g5 : okN b5) (g6 : okN b6)
    (h : repB a0 a1 a2 a3 a4 a5 a6 = repB b0 b1 b2 b3 b4 b5 b6) : a0 = b0 ∧ a1 = b1 ∧ a2 = b2 ∧ a3 = b3 ∧ a4 = b4 ∧ a5 = b5 ∧ a6 = b6 := by
  have h1' := rdL_rep h0 h1 h2 h3 h4 h5 h6
  rw [h, rdL_rep g0 g1 g2 g3 g4 g5 g6] at h1'
  simp only [Option.some.injEq, List.cons.injEq, and_true] at h1'
  obtain ⟨e1, e2, e3, e0, e4, e5, e6⟩ := h1'
  exact ⟨e0.symm, e1.symm, e2.symm, e3.symm, e4.symm, e5.symm, e6.symm⟩

theorem d_ReportBack (t : List Int) (_ : t.length ≤ maxLen) (_ : ∀ n ∈ t, -9223372036854775808 ≤ n ∧ n ≤ 9223372036854775807) (p : Int) (hp : -9223372036854775808 ≤ p ∧ p ≤ 9223372036854775807) (c : Int) (hc : 0 ≤ c ∧ c ≤ 255) :
    denC E 7 [AV.sl 1 (intsK .i64 t), AV.int .i64 p, AV.int .u8 c] [] = some ([RV.p (PV.bool true)], []) := by
  rw [denC_eq, r7, intsK_len]
  by_cases ht : 600 < t.length
  · have h1 : ltB 600 (t.length : Int) = true := by simp [ltB]; omega
    rw [h1, ctl_true, c_sane40]
    rfl
  · have h1 : ltB 600 (t.length : Int) = false := by simp [ltB]; omega
    rw [h1, ctl_false, c_New]
    simp only [bnd_some, ctl_true, ctl_false, ctl_and, ctl_or', ctl_or2, x_toPV, x_toCs, x_toCs2, x_toEs, x_bEs, x_bCs, x_aPV, x_aCs, x_int, x_bool, x_str, x_es, x_esn, nth_0, nth_1, nth_2, nth_3, nth_4, nth_5, nth_6, nth_7, nth_8, nth_9, y_nil, y_int, y_bool, y_str, y_sl, y_nils, y_agg, y_ownp, y_own, z_nil, z_int, z_bool, z_str, z_sl, z_nils, b_nil, b_arr, b_box1, b_box2, b_box3, b_box4, List.map_cons, List.map_nil, Bool.and_self, Bool.and_true, Bool.true_and, Bool.not_true, Bool.not_false, Bool.or_false, Bool.false_or, cond_true, cond_false, okPack, okPut, okPutBlks, okPutCells, q_isP, q_isAg, q_isBox, q_isArr, q_int, q_bool, q_str, q_sl, q_nils, e_exit, e_ret, e_nrm, e_ret_exit, e_exit_ret, e_nrm_exit, e_nrm_ret, e_exit_nrm, e_ret_nrm, Nat.zero_add, Nat.reduceAdd, noslR, noslP, noslB, noslA, List.all_cons, List.all_nil]
    rw [src_zero]
    have hL : (t.take 600).length ≤ 600 := by simp; omega
    obtain ⟨t0, t1, t2, t3, w, b, s, k1, hk1, h0, h1, h2, h3, h4, h5, h6, hM⟩ := c_made (L := t.take 600) (k := 0) hL (by omega)
    rw [hM]
    simp only [bnd_some, ctl_true, ctl_false, ctl_and, ctl_or', ctl_or2, x_toPV, x_toCs, x_toCs2, x_toEs, x_bEs, x_bCs, x_aPV, x_aCs, x_int, x_bool, x_str, x_es, x_esn, nth_0, nth_1, nth_2, nth_3, nth_4, nth_5, nth_6, nth_7, nth_8, nth_9, y_nil, y_int, y_bool, y_str, y_sl, y_nils, y_agg, y_ownp, y_own, z_nil, z_int, z_bool, z_str, z_sl, z_nils, b_nil, b_arr, b_box1, b_box2, b_box3, b_box4, List.map_cons, List.map_nil, Bool.and_self, Bool.and_true, Bool.true_and, Bool.not_true, Bool.not_false, Bool.or_false, Bool.false_or, cond_true, cond_false, okPack, okPut, okPutBlks, okPutCells, q_isP, q_isAg, q_isBox, q_isArr, q_int, q_bool, q_str, q_sl, q_nils, e_exit, e_ret, e_nrm, e_ret_exit, e_exit_ret, e_nrm_exit, e_nrm_ret, e_exit_nrm, e_ret_nrm, Nat.zero_add, Nat.reduceAdd, noslR, noslP, noslB, noslA, List.all_cons, List.all_nil]
    have o0 : okN t0 := by unfold okN; omega
    have o1 : okN t1 := by unfold okN; omega
    have o2 : okN t2 := by unfold okN; omega
    have o3 : okN t3 := by unfold okN; omega
    have o4 : okN w := by unfold okN; omega
    have o5 : okN b := by unfold okN; omega
    have o6 : okN s := by unfold okN; omega
    rw [c_Text40 t0 t1 t2 t3 w b s (okN_i64 o0 o1 o2 o3 o4 o5 o6)]
    simp only [bnd_some, ctl_true, ctl_false, ctl_and, ctl_or', ctl_or2, x_toPV, x_toCs, x_toCs2, x_toEs, x_bEs, x_bCs, x_aPV, x_aCs, x_int, x_bool, x_str, x_es, x_esn, nth_0, nth_1, nth_2, nth_3, nth_4, nth_5, nth_6, nth_7, nth_8, nth_9, y_nil, y_int, y_bool, y_str, y_sl, y_nils, y_agg, y_ownp, y_own, z_nil, z_int, z_bool, z_str, z_sl, z_nils, b_nil, b_arr, b_box1, b_box2, b_box3, b_box4, List.map_cons, List.map_nil, Bool.and_self, Bool.and_true, Bool.true_and, Bool.not_true, Bool.not_false, Bool.or_false, Bool.false_or, cond_true, cond_false, okPack, okPut, okPutBlks, okPutCells, q_isP, q_isAg, q_isBox, q_isArr, q_int, q_bool, q_str, q_sl, q_nils, e_exit, e_ret, e_nrm, e_ret_exit, e_exit_ret, e_nrm_exit, e_nrm_ret, e_exit_nrm, e_ret_nrm, Nat.zero_add, Nat.reduceAdd, noslR, noslP, noslB, noslA, List.all_cons, List.all_nil]
    have hasc := repB_ascii o0 o1 o2 o3 o4 o5 o6
    obtain ⟨hl1, hl2⟩ := repB_len o0 o1 o2 o3 o4 o5 o6
    have hinj := fun {q0 q1 q2 q3 q4 q5 q6 : Int} (g0 : okN q0) (g1 : okN q1) (g2 : okN q2) (g3 : okN q3) (g4 : okN q4) (g5 : okN q5) (g6 : okN q6) (h : repB q0 q1 q2 q3 q4 q5 q6 = repB t0 t1 t2 t3 w b s) => repB_inj g0 g1 g2 g3 g4 g5 g6 o0 o1 o2 o3 o4 o5 o6 h
    obtain ⟨x, hx⟩ : ∃ x, repB t0 t1 t2 t3 w b s = x := ⟨_, rfl⟩
    rw [hx] at hasc hl1 hl2 ⊢
    have hR := c_Read40 x (alone_ascii x hasc) hl2
    rcases hR with ⟨q0, q1, q2, q3, q4, q5, q6, g0, g1, g2, g3, g4, g5, g6, hq, hR⟩ | ⟨hno, _⟩
    · obtain ⟨rfl, rfl, rfl, rfl, rfl, rfl, rfl⟩ := hinj g0 g1 g2 g3 g4 g5 g6 (hq.trans hx.symm)
      rw [hR]
      have z0 : ((0 : Int) != 0) = false := rfl
      have z1 : ((0 : Int) == 0) = true := rfl
      have z2 : ((74 : Int) == 0) = false := rfl
      have z3 : ((74 : Int) == 74) = true := rfl
      have z4 : ((0 : Int) == 74) = false := rfl
      simp only [z0, beq_self_eq_true, byteEs_length, bnd_some, ctl_true, ctl_false, ctl_and, ctl_or', ctl_or2, x_toPV, x_toCs, x_toCs2, x_toEs, x_bEs, x_bCs, x_aPV, x_aCs, x_int, x_bool, x_str, x_es, x_esn, nth_0, nth_1, nth_2, nth_3, nth_4, nth_5, nth_6, nth_7, nth_8, nth_9, y_nil, y_int, y_bool, y_str, y_sl, y_nils, y_agg, y_ownp, y_own, z_nil, z_int, z_bool, z_str, z_sl, z_nils, b_nil, b_arr, b_box1, b_box2, b_box3, b_box4, List.map_cons, List.map_nil, Bool.and_self, Bool.and_true, Bool.true_and, Bool.not_true, Bool.not_false, Bool.or_false, Bool.false_or, cond_true, cond_false, okPack, okPut, okPutBlks, okPutCells, q_isP, q_isAg, q_isBox, q_isArr, q_int, q_bool, q_str, q_sl, q_nils, e_exit, e_ret, e_nrm, e_ret_exit, e_exit_ret, e_nrm_exit, e_nrm_ret, e_exit_nrm, e_ret_nrm, Nat.zero_add, Nat.reduceAdd, noslR, noslP, noslB, noslA, List.all_cons, List.all_nil]
      rw [c_Mod p x.length (by omega)]
      have hmd : 0 ≤ md p x.length ∧ md p x.length < x.length := by
        unfold md
        rw [if_neg (by omega)]
        exact ⟨Int.emod_nonneg _ (by omega), Int.emod_lt_of_pos _ (by omega)⟩
      obtain ⟨k, hk⟩ : ∃ k : Nat, md p x.length = k := ⟨(md p x.length).toNat, by omega⟩
      rw [hk] at hmd ⊢
      have hkl : k < x.length := by omega
      obtain ⟨d, hd⟩ : ∃ d : UInt8, c = (d.toNat : Int) := ⟨UInt8.ofNat c.toNat, by simp; omega⟩
      subst hd
      have hk1' : (leB 0 (k : Int) && ltB (k : Int) (x.length : Int)) = true := by simp [leB, ltB]; omega
      have tdd : okCs [Sh.int .u8] (List.take 1 (List.drop 0 [PV.int .u8 ((x.getD k 0).toNat : Int)])) = true := rfl
      simp only [hk1', Int.toNat_natCast, nth_bytes40 hkl, setEs_bytes40 hkl, bytesOk_byteEs, toBytes_byteEs, tdd, bnd_some, ctl_true, ctl_false, ctl_and, ctl_or', ctl_or2, x_toPV, x_toCs, x_toCs2, x_toEs, x_bEs, x_bCs, x_aPV, x_aCs, x_int, x_bool, x_str, x_es, x_esn, nth_0, nth_1, nth_2, nth_3, nth_4, nth_5, nth_6, nth_7, nth_8, nth_9, y_nil, y_int, y_bool, y_str, y_sl, y_nils, y_agg, y_ownp, y_own, z_nil, z_int, z_bool, z_str, z_sl, z_nils, b_nil, b_arr, b_box1, b_box2, b_box3, b_box4, List.map_cons, List.map_nil, Bool.and_self, Bool.and_true, Bool.true_and, Bool.not_true, Bool.not_false, Bool.or_false, Bool.false_or, cond_true, cond_false, okPack, okPut, okPutBlks, okPutCells, q_isP, q_isAg, q_isBox, q_isArr, q_int, q_bool, q_str, q_sl, q_nils, e_exit, e_ret, e_nrm, e_ret_exit, e_exit_ret, e_nrm_exit, e_nrm_ret, e_exit_nrm, e_ret_nrm, Nat.zero_add, Nat.reduceAdd, noslR, noslP, noslB, noslA, List.all_cons, List.all_nil]
      have hset : (((x.getD k 0).toNat : Int) == (d.toNat : Int)) = true ↔ x.set k d = x := by
        have e1 : x.getD k 0 = x[k] := by simp [List.getD, hkl]
        constructor
        · intro h
          have h2 : x[k] = d := by
            have : (x.getD k 0).toNat = d.toNat := by have h' := beq_iff_eq.1 h; omega
            rw [e1] at this
            exact UInt8.toNat_inj.1 this
          rw [← h2]
          simp
        · intro h
          have h2 : x[k] = d := by
            have h3 : (x.set k d)[k]? = x[k]? := by rw [h]
            simp [hkl] at h3
            exact h3.symm
          rw [e1, h2]
          simp
      have hyl : (x.set k d).length ≤ 1000 := by simp; omega
      have hY := c_Read40 (x.set k d) (alone_set d x k hasc) hyl
      generalize hsame : (((x.getD k 0).toNat : Int) == (d.toNat : Int)) = same at *
      generalize hyy : x.set k d = y at *
      rcases hY with ⟨u0, u1, u2, u3, u4, u5, u6, v0, v1, v2, v3, v4, v5, v6, hu, hY⟩ | ⟨hno, hY⟩
      · have hT := c_Text40 u0 u1 u2 u3 u4 u5 u6 (okN_i64 v0 v1 v2 v3 v4 v5 v6)
        rw [hY]
        have hcmp : ((u0 == q0 && (u1 == q1 && (u2 == q2 && u3 == q3)) && (u4 == q4 && (u5 == q5 && u6 == q6))) == same) = true := by
          cases same with
          | true =>
            have hyx := hset.1 rfl
            rw [hyx] at hu
            obtain ⟨e0, e1, e2, e3, e4, e5, e6⟩ := hinj v0 v1 v2 v3 v4 v5 v6 (hu.trans hx.symm)
            subst e0 e1 e2 e3 e4 e5 e6
            simp
          | false =>
            cases hb : (u0 == q0 && (u1 == q1 && (u2 == q2 && u3 == q3)) && (u4 == q4 && (u5 == q5 && u6 == q6))) with
            | false => rfl
            | true =>
              simp only [Bool.and_eq_true, beq_iff_eq] at hb
              obtain ⟨⟨e0, e1, e2, e3⟩, e4, e5, e6⟩ := hb
              subst e0 e1 e2 e3 e4 e5 e6
              have := hset.2 (hu.symm.trans hx)
              cases this
        simp only [z1, hcmp, bnd_some, ctl_true, ctl_false, ctl_and, ctl_or', ctl_or2, x_toPV, x_toCs, x_toCs2, x_toEs, x_bEs, x_bCs, x_aPV, x_aCs, x_int, x_bool, x_str, x_es, x_esn, nth_0, nth_1, nth_2, nth_3, nth_4, nth_5, nth_6, nth_7, nth_8, nth_9, y_nil, y_int, y_bool, y_str, y_sl, y_nils, y_agg, y_ownp, y_own, z_nil, z_int, z_bool, z_str, z_sl, z_nils, b_nil, b_arr, b_box1, b_box2, b_box3, b_box4, List.map_cons, List.map_nil, Bool.and_self, Bool.and_true, Bool.true_and, Bool.not_true, Bool.not_false, Bool.or_false, Bool.false_or, cond_true, cond_false, okPack, okPut, okPutBlks, okPutCells, q_isP, q_isAg, q_isBox, q_isArr, q_int, q_bool, q_str, q_sl, q_nils, e_exit, e_ret, e_nrm, e_ret_exit, e_exit_ret, e_nrm_exit, e_nrm_ret, e_exit_nrm, e_ret_nrm, Nat.zero_add, Nat.reduceAdd, noslR, noslP, noslB, noslA, List.all_cons, List.all_nil]
        rw [hT, hu]
        simp only [beq_self_eq_true, bnd_some, ctl_true, ctl_false, ctl_and, ctl_or', ctl_or2, x_toPV, x_toCs, x_toCs2, x_toEs, x_bEs, x_bCs, x_aPV, x_aCs, x_int, x_bool, x_str, x_es, x_esn, nth_0, nth_1, nth_2, nth_3, nth_4, nth_5, nth_6, nth_7, nth_8, nth_9, y_nil, y_int, y_bool, y_str, y_sl, y_nils, y_agg, y_ownp, y_own, z_nil, z_int, z_bool, z_str, z_sl, z_nils, b_nil, b_arr, b_box1, b_box2, b_box3, b_box4, List.map_cons, List.map_nil, Bool.and_self, Bool.and_true, Bool.true_and, Bool.not_true, Bool.not_false, Bool.or_false, Bool.false_or, cond_true, cond_false, okPack, okPut, okPutBlks, okPutCells, q_isP, q_isAg, q_isBox, q_isArr, q_int, q_bool, q_str, q_sl, q_nils, e_exit, e_ret, e_nrm, e_ret_exit, e_exit_ret, e_nrm_exit, e_nrm_ret, e_exit_nrm, e_ret_nrm, Nat.zero_add, Nat.reduceAdd, noslR, noslP, noslB, noslA, List.all_cons, List.all_nil]
        rw [c_sane40]
        rfl
      · rw [hY]
        have hs : same = false := by
          cases same with
          | false => rfl
          | true => exact absurd (hx.trans (hset.1 rfl).symm) (hno q0 q1 q2 q3 q4 q5 q6 o0 o1 o2 o3 o4 o5 o6)
        subst hs
        simp only [z2, z3, bnd_some, ctl_true, ctl_false, ctl_and, ctl_or', ctl_or2, x_toPV, x_toCs, x_toCs2, x_toEs, x_bEs, x_bCs, x_aPV, x_aCs, x_int, x_bool, x_str, x_es, x_esn, nth_0, nth_1, nth_2, nth_3, nth_4, nth_5, nth_6, nth_7, nth_8, nth_9, y_nil, y_int, y_bool, y_str, y_sl, y_nils, y_agg, y_ownp, y_own, z_nil, z_int, z_bool, z_str, z_sl, z_nils, b_nil, b_arr, b_box1, b_box2, b_box3, b_box4, List.map_cons, List.map_nil, Bool.and_self, Bool.and_true, Bool.true_and, Bool.not_true, Bool.not_false, Bool.or_false, Bool.false_or, cond_true, cond_false, okPack, okPut, okPutBlks, okPutCells, q_isP, q_isAg, q_isBox, q_isArr, q_int, q_bool, q_str, q_sl, q_nils, e_exit, e_ret, e_nrm, e_ret_exit, e_exit_ret, e_nrm_exit, e_nrm_ret, e_exit_nrm, e_ret_nrm, Nat.zero_add, Nat.reduceAdd, noslR, noslP, noslB, noslA, List.all_cons, List.all_nil]
        rw [c_sane40]
        rfl
    · exact absurd hx (hno t0 t1 t2 t3 w b s o0 o1 o2 o3 o4 o5 o6)

end Go.Proofs.YtgdeaamklodkkaaDoor.Vm
