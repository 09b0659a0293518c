/- Chapter 05: the contracts of the cutter. -/
import Derived.Test.YtmlhemkadoadaaaDoorStrmL
namespace Go.Proofs.YtmlhemkadoadaaaDoor.Vm
set_option linter.unusedVariables false
set_option linter.unusedSimpArgs false

/-! ### The last place of a byte -/
def lastR : List UInt8 → UInt8 → Int
  | [], _ => -1
  | x :: r, c => bif x == c then (r.length : Int) else lastR r c

theorem l_last (c : UInt8) (r : List UInt8) : ∀ (post : List UInt8), (r.reverse ++ post).length ≤ 100000 → lp E (denC E) 43 0 [] 0 { vals := [AV.sl 1 (byteEs (r.reverse ++ post)), AV.int .u8 c.toNat, AV.int .i64 ((r.length : Int) - 1)], blks := [] } =
    some (bif lastR r c == -1 then (Ex.exit 0, { vals := [], blks := [] }) else (Ex.ret, { vals := [AV.int .i64 (lastR r c)], blks := [] })) := by
  induction r with
  | nil =>
    intro post h
    rw [r43_0, ctl_dec, if_neg (by simp)]
    rfl
  | cons x r ih =>
    intro post h
    have e1 : (x :: r).reverse ++ post = r.reverse ++ x :: post := by simp
    have e2 : (((x :: r).length : Int) - 1) = (r.reverse.length : Int) := by simp
    rw [e1] at h ⊢
    rw [e2, r43_0, ctl_dec, if_pos (by omega), getE_bytes (by simp <;> omega), Int.toNat_natCast, getD_mid]
    simp only [bnd_some, ctl_true, ctl_false, ctl_and, ctl_or', ctl_or2, x_toPV, x_toCs, x_toCs2, x_toEs, x_bEs, x_bCs, x_aPV, x_aCs, x_int, x_bool, x_str, x_es, x_esn, nth_0, nth_1, nth_2, nth_3, nth_4, nth_5, nth_6, nth_7, nth_8, nth_9, y_nil, y_int, y_bool, y_str, y_sl, y_nils, y_agg, y_ownp, y_own, z_nil, z_int, z_bool, z_str, z_sl, z_nils, b_nil, b_arr, b_box1, b_box2, b_box3, b_box4, List.map_cons, List.map_nil, Bool.and_self, Bool.and_true, Bool.true_and, Bool.not_true, Bool.not_false, Bool.or_false, Bool.false_or, cond_true, cond_false, okPack, okPut, okPutBlks, okPutCells, q_isP, q_isAg, q_isBox, q_isArr, q_int, q_bool, q_str, q_sl, q_nils, e_exit, e_ret, e_nrm, e_ret_exit, e_exit_ret, e_nrm_exit, e_nrm_ret, e_exit_nrm, e_ret_nrm, Nat.zero_add, Nat.reduceAdd, noslR, noslP, noslB, noslA, List.all_cons, List.all_nil]
    rw [b_eq]
    cases hb : x == c with
    | true =>
      have : ((r.length : Int) == -1) = false := by simp <;> omega
      unfold lastR
      rw [hb, ctl_true, cond_true, this, cond_false]
      simp
    | false =>
      rw [ctl_false, w64 (by simp at h ⊢; omega)]
      have := ih (x :: post) h
      rw [show ((r.reverse.length : Int) - 1) = (r.length : Int) - 1 by simp, this]
      unfold lastR
      rw [hb, cond_false]
      cases r with
      | nil => rfl
      | cons y r => rfl

theorem c_LastIndexByte (s : List UInt8) (c : UInt8) (h : s.length ≤ 100000) : denC E 35 [AV.sl 1 (byteEs s), AV.int .u8 c.toNat] [] = some ([RV.p (PV.int .i64 (lastR s.reverse c))], []) := by
  have h0 : denC E 43 [AV.sl 1 (byteEs s), AV.int .u8 c.toNat] [] = some ([RV.p (PV.int .i64 (lastR s.reverse c))], []) := by
    rw [denC_eq, r43, byteEs_length, w64 (by omega)]
    have := l_last c s.reverse [] (by simpa using h)
    simp only [List.reverse_reverse, List.append_nil, List.length_reverse] at this
    rw [this]
    cases hm : lastR s.reverse c == -1 with
    | true => rw [show lastR s.reverse c = -1 from beq_iff_eq.1 hm]; rfl
    | false => simp only [bnd_some, ctl_true, ctl_false, ctl_and, ctl_or', ctl_or2, x_toPV, x_toCs, x_toCs2, x_toEs, x_bEs, x_bCs, x_aPV, x_aCs, x_int, x_bool, x_str, x_es, x_esn, nth_0, nth_1, nth_2, nth_3, nth_4, nth_5, nth_6, nth_7, nth_8, nth_9, y_nil, y_int, y_bool, y_str, y_sl, y_nils, y_agg, y_ownp, y_own, z_nil, z_int, z_bool, z_str, z_sl, z_nils, b_nil, b_arr, b_box1, b_box2, b_box3, b_box4, List.map_cons, List.map_nil, Bool.and_self, Bool.and_true, Bool.true_and, Bool.not_true, Bool.not_false, Bool.or_false, Bool.false_or, cond_true, cond_false, okPack, okPut, okPutBlks, okPutCells, q_isP, q_isAg, q_isBox, q_isArr, q_int, q_bool, q_str, q_sl, q_nils, e_exit, e_ret, e_nrm, e_ret_exit, e_exit_ret, e_nrm_exit, e_nrm_ret, e_exit_nrm, e_ret_nrm, Nat.zero_add, Nat.reduceAdd, noslR, noslP, noslB, noslA, List.all_cons, List.all_nil]
  rw [denC_eq, r35, h0]
  simp only [bnd_some, ctl_true, ctl_false, ctl_and, ctl_or', ctl_or2, x_toPV, x_toCs, x_toCs2, x_toEs, x_bEs, x_bCs, x_aPV, x_aCs, x_int, x_bool, x_str, x_es, x_esn, nth_0, nth_1, nth_2, nth_3, nth_4, nth_5, nth_6, nth_7, nth_8, nth_9, y_nil, y_int, y_bool, y_str, y_sl, y_nils, y_agg, y_ownp, y_own, z_nil, z_int, z_bool, z_str, z_sl, z_nils, b_nil, b_arr, b_box1, b_box2, b_box3, b_box4, List.map_cons, List.map_nil, Bool.and_self, Bool.and_true, Bool.true_and, Bool.not_true, Bool.not_false, Bool.or_false, Bool.false_or, cond_true, cond_false, okPack, okPut, okPutBlks, okPutCells, q_isP, q_isAg, q_isBox, q_isArr, q_int, q_bool, q_str, q_sl, q_nils, e_exit, e_ret, e_nrm, e_ret_exit, e_exit_ret, e_nrm_exit, e_nrm_ret, e_exit_nrm, e_ret_nrm, Nat.zero_add, Nat.reduceAdd, noslR, noslP, noslB, noslA, List.all_cons, List.all_nil]

theorem c_BIndexByte (s : List UInt8) (c : UInt8) (h : s ≠ []) : denC E 36 [AV.sl 1 (byteEs s), AV.int .u8 c.toNat] [] = some ([RV.p (PV.int .i64 (Lib.indexByte s c))], []) := by
  rw [denC_eq]
  have : pBIndexByte [AV.sl 1 (byteEs s), AV.int .u8 c.toNat] = some [RV.p (PV.int .i64 (Lib.indexByte s c))] := by
    unfold pBIndexByte
    have hne : (byteEs s).isEmpty = false := by cases s with | nil => exact absurd rfl h | cons => rfl
    simp only [bytesOk_byteEs, hne, toBytes_byteEs, u8_back]
    rfl
  show (match pBIndexByte [AV.sl 1 (byteEs s), AV.int .u8 c.toNat] with | some rs => some (rs, []) | none => none) = _
  rw [this]

theorem lastR_zero (c x : UInt8) : ∀ r : List UInt8, (lastR (r ++ [x]) c == 0) = (x == c && r.all fun y => !(y == c))
  | [] => by
    show ((bif x == c then ((0 : Nat) : Int) else -1) == 0) = _
    cases x == c <;> rfl
  | y :: r => by
    have ih := lastR_zero c x r
    show ((bif y == c then ((r ++ [x]).length : Int) else lastR (r ++ [x]) c) == 0) = _
    rw [List.all_cons]
    cases hy : y == c with
    | true =>
      have : (((r ++ [x]).length : Int) == 0) = false := by simp <;> omega
      rw [cond_true, this]
      cases x == c <;> rfl
    | false =>
      rw [cond_false, ih]
      rfl

theorem idx_neg (c : UInt8) : ∀ s : List UInt8, ltB (Lib.indexByte s c) 0 = s.all fun y => !(y == c)
  | [] => rfl
  | x :: s => by
    have ih := idx_neg c s
    have hge := Lib.indexByte_ge s c
    have e : Lib.indexByte (x :: s) c = if (x == c) = true then 0 else if (Lib.indexByte s c == -1) = true then -1 else Lib.indexByte s c + 1 := rfl
    rw [List.all_cons, ← ih, e]
    cases hx : x == c with
    | true => rfl
    | false =>
      simp only [Bool.false_eq_true, if_false, Bool.not_false, Bool.true_and]
      cases hm : (Lib.indexByte s c == -1) with
      | true => rw [beq_iff_eq.1 hm]; rfl
      | false =>
        have := (beq_eq_false_iff_ne).1 hm
        simp only [Bool.false_eq_true, if_false]
        rw [show ltB (Lib.indexByte s c + 1) 0 = false from decide_eq_false (by omega), show ltB (Lib.indexByte s c) 0 = false from decide_eq_false (by omega)]

theorem all_two : ∀ t : List UInt8, (t.all fun y => !(y == 36) && !(y == 10)) = ((t.all fun y => !(y == 36)) && (t.all fun y => !(y == 10)))
  | [] => rfl
  | a :: t => by
    simp only [List.all_cons]
    rw [all_two t]
    cases a == 36 <;> cases a == 10 <;> simp

theorem c_begun (b : List UInt8) (h : b.length ≤ 100000) : denC E 23 [AV.sl 1 (byteEs b)] [] = some ([RV.p (PV.bool (bg b))], []) := by
  rw [denC_eq, r23]
  cases b with
  | nil => rfl
  | cons x t =>
    have e36 : (AV.int IntKind.u8 36) = AV.int .u8 ((36 : UInt8).toNat : Int) := rfl
    have e10 : (AV.int IntKind.u8 10) = AV.int .u8 ((10 : UInt8).toNat : Int) := rfl
    have h1 : ltB 0 ((byteEs (x :: t)).length : Int) = true := decide_eq_true (by rw [byteEs_length]; simp <;> omega)
    rw [h1, e36, e10, c_LastIndexByte _ _ h, c_BIndexByte _ _ (by simp)]
    simp only [bnd_some, ctl_true, ctl_false, ctl_and, ctl_or', ctl_or2, x_toPV, x_toCs, x_toCs2, x_toEs, x_bEs, x_bCs, x_aPV, x_aCs, x_int, x_bool, x_str, x_es, x_esn, nth_0, nth_1, nth_2, nth_3, nth_4, nth_5, nth_6, nth_7, nth_8, nth_9, y_nil, y_int, y_bool, y_str, y_sl, y_nils, y_agg, y_ownp, y_own, z_nil, z_int, z_bool, z_str, z_sl, z_nils, b_nil, b_arr, b_box1, b_box2, b_box3, b_box4, List.map_cons, List.map_nil, Bool.and_self, Bool.and_true, Bool.true_and, Bool.not_true, Bool.not_false, Bool.or_false, Bool.false_or, cond_true, cond_false, okPack, okPut, okPutBlks, okPutCells, q_isP, q_isAg, q_isBox, q_isArr, q_int, q_bool, q_str, q_sl, q_nils, e_exit, e_ret, e_nrm, e_ret_exit, e_exit_ret, e_nrm_exit, e_nrm_ret, e_exit_nrm, e_ret_nrm, Nat.zero_add, Nat.reduceAdd, noslR, noslP, noslB, noslA, List.all_cons, List.all_nil]
    rw [List.reverse_cons, lastR_zero, idx_neg]
    have h2 : ltB ((byteEs (x :: t)).length : Int) 200 = leB ((t.length + 1 : Nat) : Int) 199 := by
      rw [byteEs_length]
      by_cases hl : ((t.length + 1 : Nat) : Int) ≤ 199
      · rw [show leB ((t.length + 1 : Nat) : Int) 199 = true from decide_eq_true hl]; exact decide_eq_true (by simp only [List.length_cons]; omega)
      · rw [show leB ((t.length + 1 : Nat) : Int) 199 = false from decide_eq_false hl]; exact decide_eq_false (by simp only [List.length_cons]; omega)
    rw [h2]
    have hbg : bg (x :: t) = (x == 36 && leB ((t.length + 1 : Nat) : Int) 199 && t.all fun y => !(y == 36) && !(y == 10)) := rfl
    rw [hbg, all_two, List.all_reverse, List.all_cons]
    cases hl : leB ((t.length + 1 : Nat) : Int) 199 with
    | false => simp [ctl]
    | true =>
      cases hx : x == 36 with
      | false => simp [ctl]
      | true =>
        have hx10 : (x == 10) = false := by rw [beq_iff_eq.1 hx]; decide
        rw [hx10]
        cases t.all fun y => !(y == 36) <;> simp [ctl]

theorem c_SIdle (b : List UInt8) (h : b.length ≤ 100000) : denC E 9 [AV.agg [PV.sl 1 (byteEs b)]] [] = some ([RV.p (PV.bool (!bg b))], []) := by
  rw [denC_eq, r9, c_begun b h]
  simp only [bnd_some, ctl_true, ctl_false, ctl_and, ctl_or', ctl_or2, x_toPV, x_toCs, x_toCs2, x_toEs, x_bEs, x_bCs, x_aPV, x_aCs, x_int, x_bool, x_str, x_es, x_esn, nth_0, nth_1, nth_2, nth_3, nth_4, nth_5, nth_6, nth_7, nth_8, nth_9, y_nil, y_int, y_bool, y_str, y_sl, y_nils, y_agg, y_ownp, y_own, z_nil, z_int, z_bool, z_str, z_sl, z_nils, b_nil, b_arr, b_box1, b_box2, b_box3, b_box4, List.map_cons, List.map_nil, Bool.and_self, Bool.and_true, Bool.true_and, Bool.not_true, Bool.not_false, Bool.or_false, Bool.false_or, cond_true, cond_false, okPack, okPut, okPutBlks, okPutCells, q_isP, q_isAg, q_isBox, q_isArr, q_int, q_bool, q_str, q_sl, q_nils, e_exit, e_ret, e_nrm, e_ret_exit, e_exit_ret, e_nrm_exit, e_nrm_ret, e_exit_nrm, e_ret_nrm, Nat.zero_add, Nat.reduceAdd, noslR, noslP, noslB, noslA, List.all_cons, List.all_nil]

/-! ### The cutter -/
def fldK (ss : List (List (List UInt8))) : List (List PV) := ss.map fun l => [PV.sl 1 (strsK l)]
theorem fldK_length (ss : List (List (List UInt8))) : (fldK ss).length = ss.length := by simp [fldK]
theorem fldK_snoc (ss : List (List (List UInt8))) (l : List (List UInt8)) : fldK ss ++ [[PV.sl 1 (strsK l)]] = fldK (ss ++ [l]) := by simp [fldK]
theorem byteEs_snoc (s : List UInt8) (b : UInt8) : byteEs s ++ [[PV.int .u8 (b.toNat : Int)]] = byteEs (s ++ [b]) := by simp [byteEs]
theorem b36 (b : UInt8) : ((b.toNat : Int) == 36) = (b == 36) := b_eq b 36
theorem b10 (b : UInt8) : ((b.toNat : Int) == 10) = (b == 10) := b_eq b 10
theorem len0 (s : List UInt8) : ((s.length : Int) == 0) = s.isEmpty := by cases s <;> simp <;> omega

theorem l_SFeed (z : List (List PV)) (l : List UInt8) : ∀ (pre : List UInt8) (c : Cu), (pre ++ l).length ≤ 100000 → Iv c pre.length →
    lp E (denC E) 8 0 [] 0 { vals := [AV.sl 1 (byteEs (pre ++ l)), AV.int .i64 (pre ++ l).length, AV.int .i64 pre.length], blks := [Blk.box [AV.sl 1 z], Blk.box [AV.t (TV.hsl 2), AV.int .i64 c.old, AV.t (TV.hsl 3), AV.int .i64 c.lost], Blk.arr 1 (byteEs c.rest), Blk.arr 1 (fldK c.ss)] } =
    some (Ex.exit 0, { vals := [], blks := [Blk.box [AV.sl 1 z], Blk.box [AV.t (TV.hsl 2), AV.int .i64 (run c l).old, AV.t (TV.hsl 3), AV.int .i64 (run c l).lost], Blk.arr 1 (byteEs (run c l).rest), Blk.arr 1 (fldK (run c l).ss)] }) := by
  induction l with
  | nil =>
    intro pre c h hI
    rw [r8_0, ctl_dec, if_neg (by simp)]
    rfl
  | cons b l ih =>
    intro pre c h hI
    have hn : pre.length ≤ 99999 := by simp at h; omega
    have hI' := hI.stp b
    obtain ⟨⟨h1, h2⟩, h3, ⟨h4, h5⟩, h6⟩ := hI
    have ih' := ih (pre ++ [b]) (stp c b) (by simpa using h) (by simpa using hI')
    rw [run_cons, r8_0, ctl_dec, if_pos (by simp <;> omega), getE_bytes (by simp <;> omega), Int.toNat_natCast, getD_mid]
    simp only [bnd_some, ctl_true, ctl_false, ctl_and, ctl_or', ctl_or2, x_toPV, x_toCs, x_toCs2, x_toEs, x_bEs, x_bCs, x_aPV, x_aCs, x_int, x_bool, x_str, x_es, x_esn, nth_0, nth_1, nth_2, nth_3, nth_4, nth_5, nth_6, nth_7, nth_8, nth_9, y_nil, y_int, y_bool, y_str, y_sl, y_nils, y_agg, y_ownp, y_own, z_nil, z_int, z_bool, z_str, z_sl, z_nils, b_nil, b_arr, b_box1, b_box2, b_box3, b_box4, List.map_cons, List.map_nil, Bool.and_self, Bool.and_true, Bool.true_and, Bool.not_true, Bool.not_false, Bool.or_false, Bool.false_or, cond_true, cond_false, okPack, okPut, okPutBlks, okPutCells, q_isP, q_isAg, q_isBox, q_isArr, q_int, q_bool, q_str, q_sl, q_nils, e_exit, e_ret, e_nrm, e_ret_exit, e_exit_ret, e_nrm_exit, e_nrm_ret, e_exit_nrm, e_ret_nrm, Nat.zero_add, Nat.reduceAdd, noslR, noslP, noslB, noslA, List.all_cons, List.all_nil]
    rw [b36, b10, w64 (n := (pre.length : Int) + 1) (by omega), byteEs_length, fldK_length, len0, len_snoc pre b]
    rw [w64 (n := (c.rest.length : Int) - c.old) (by omega), w64 (n := c.lost + ((c.rest.length : Int) - c.old)) (by omega), w64 (n := c.lost + 1) (by omega)]
    rw [app_cons]
    unfold stp at ih' ⊢
    cases hb : b == 36 with
    | true =>
      have hb' := beq_iff_eq.1 hb
      have h10 : (b == 10) = false := by rw [hb']; decide
      rw [hb, cond_true] at ih'
      rw [h10, ctl_true, ctl_false, cond_true]
      rw [hb']
      rw [hb'] at ih'
      exact ih'
    | false =>
      rw [hb, cond_false] at ih'
      rw [ctl_false, cond_false]
      cases he : c.rest.isEmpty with
      | true =>
        have : c.rest = [] := by simpa using he
        rw [he, cond_true] at ih'
        rw [ctl_true, cond_true, this]
        exact ih'
      | false =>
        rw [he, cond_false] at ih'
        have a1 : leN ((c.rest.length + 1) * 1) 140737488355328 = true := decide_eq_true (by omega)
        have a2 : leN ((c.ss.length + 1) * 24) 140737488355328 = true := decide_eq_true (by omega)
        have a3 : (c.rest ++ [b]).length = c.rest.length + 1 := by simp
        rw [ctl_false, cond_false, a1, ctl_true, byteEs_snoc, byteEs_length]
        rw [w64 (n := ((c.rest ++ [b]).length : Int) - c.old) (by rw [a3]; omega), w64 (n := c.lost + (((c.rest ++ [b]).length : Int) - c.old)) (by rw [a3]; omega)]
        cases hn : b == 10 with
        | true =>
          rw [hn, cond_true] at ih'
          rw [ctl_true, cond_true, c_Parse _ (by rw [a3]; omega)]
          rcases prs_pf (c.rest ++ [b]) with ⟨f, hf, hp⟩ | ⟨hf, e, hp, he4⟩
          · rw [hf] at ih' ⊢
            rw [hp]
            simp only [bnd_some, ctl_true, ctl_false, ctl_and, ctl_or', ctl_or2, x_toPV, x_toCs, x_toCs2, x_toEs, x_bEs, x_bCs, x_aPV, x_aCs, x_int, x_bool, x_str, x_es, x_esn, nth_0, nth_1, nth_2, nth_3, nth_4, nth_5, nth_6, nth_7, nth_8, nth_9, y_nil, y_int, y_bool, y_str, y_sl, y_nils, y_agg, y_ownp, y_own, z_nil, z_int, z_bool, z_str, z_sl, z_nils, b_nil, b_arr, b_box1, b_box2, b_box3, b_box4, List.map_cons, List.map_nil, Bool.and_self, Bool.and_true, Bool.true_and, Bool.not_true, Bool.not_false, Bool.or_false, Bool.false_or, cond_true, cond_false, okPack, okPut, okPutBlks, okPutCells, q_isP, q_isAg, q_isBox, q_isArr, q_int, q_bool, q_str, q_sl, q_nils, e_exit, e_ret, e_nrm, e_ret_exit, e_exit_ret, e_nrm_exit, e_nrm_ret, e_exit_nrm, e_ret_nrm, Nat.zero_add, Nat.reduceAdd, noslR, noslP, noslB, noslA, List.all_cons, List.all_nil]
            rw [show ((0 : Int) == 0) = true from rfl, ctl_true, a2, ctl_true, fldK_snoc, show c.lost + 0 = c.lost by omega, w64 (by omega)]
            exact ih'
          · rw [hf] at ih' ⊢
            rw [hp]
            simp only [bnd_some, ctl_true, ctl_false, ctl_and, ctl_or', ctl_or2, x_toPV, x_toCs, x_toCs2, x_toEs, x_bEs, x_bCs, x_aPV, x_aCs, x_int, x_bool, x_str, x_es, x_esn, nth_0, nth_1, nth_2, nth_3, nth_4, nth_5, nth_6, nth_7, nth_8, nth_9, y_nil, y_int, y_bool, y_str, y_sl, y_nils, y_agg, y_ownp, y_own, z_nil, z_int, z_bool, z_str, z_sl, z_nils, b_nil, b_arr, b_box1, b_box2, b_box3, b_box4, List.map_cons, List.map_nil, Bool.and_self, Bool.and_true, Bool.true_and, Bool.not_true, Bool.not_false, Bool.or_false, Bool.false_or, cond_true, cond_false, okPack, okPut, okPutBlks, okPutCells, q_isP, q_isAg, q_isBox, q_isArr, q_int, q_bool, q_str, q_sl, q_nils, e_exit, e_ret, e_nrm, e_ret_exit, e_exit_ret, e_nrm_exit, e_nrm_ret, e_exit_nrm, e_ret_nrm, Nat.zero_add, Nat.reduceAdd, noslR, noslP, noslB, noslA, List.all_cons, List.all_nil]
            rw [show (e == 0) = false by rcases he4 with rfl | rfl | rfl <;> rfl, ctl_false]
            exact ih'
        | false =>
          rw [hn, cond_false] at ih'
          rw [ctl_false, cond_false]
          cases hg : leB 200 ((c.rest ++ [b]).length : Int) with
          | true =>
            rw [hg, cond_true] at ih'
            rw [ctl_true, cond_true]
            exact ih'
          | false =>
            rw [hg, cond_false] at ih'
            rw [ctl_false, cond_false]
            exact ih'

/-- What a cutter comes to. -/
theorem c_SFeed (f b : List UInt8) (h1 : f.length ≤ 100000) (h2 : b.length ≤ 100000) : denC E 8 [AV.agg [PV.sl 1 (byteEs f)], AV.sl 1 (byteEs b)] [] =
    some ([RV.agg [PV.sl 1 (byteEs (run (ini f) b).rest)], RV.p (PV.sl 1 (fldK (run (ini f) b).ss)), RV.p (PV.int .i64 (run (ini f) b).lost)], []) := by
  rw [denC_eq, r8, c_begun f h1]
  simp only [bnd_some, ctl_true, ctl_false, ctl_and, ctl_or', ctl_or2, x_toPV, x_toCs, x_toCs2, x_toEs, x_bEs, x_bCs, x_aPV, x_aCs, x_int, x_bool, x_str, x_es, x_esn, nth_0, nth_1, nth_2, nth_3, nth_4, nth_5, nth_6, nth_7, nth_8, nth_9, y_nil, y_int, y_bool, y_str, y_sl, y_nils, y_agg, y_ownp, y_own, z_nil, z_int, z_bool, z_str, z_sl, z_nils, b_nil, b_arr, b_box1, b_box2, b_box3, b_box4, List.map_cons, List.map_nil, Bool.and_self, Bool.and_true, Bool.true_and, Bool.not_true, Bool.not_false, Bool.or_false, Bool.false_or, cond_true, cond_false, okPack, okPut, okPutBlks, okPutCells, q_isP, q_isAg, q_isBox, q_isArr, q_int, q_bool, q_str, q_sl, q_nils, e_exit, e_ret, e_nrm, e_ret_exit, e_exit_ret, e_nrm_exit, e_nrm_ret, e_exit_nrm, e_ret_nrm, Nat.zero_add, Nat.reduceAdd, noslR, noslP, noslB, noslA, List.all_cons, List.all_nil]
  have hl := l_SFeed [] b [] (ini f) (by simpa using h2) (ini_iv f)
  simp only [List.nil_append, List.length_nil] at hl
  cases hg : bg f with
  | true =>
    obtain ⟨g1, g2⟩ := bg_len hg
    have hi : ini f = ⟨f, f.length, [], 0⟩ := by unfold ini; rw [hg]; rfl
    rw [hi] at hl ⊢
    have hcl : denC E 24 [AV.sl 1 (byteEs f)] [] = some ([RV.own 1 (byteEs f)], []) := by
      cases f with
      | nil => exact absurd rfl g2
      | cons x t =>
        rw [denC_eq]
        show funK E (denC E) 24 [AV.sl 1 ([PV.int .u8 x.toNat] :: byteEs t)] [] = _
        rw [r24c]
        have : leN ((0 + ([PV.int IntKind.u8 (x.toNat : Int)] :: byteEs t).length) * 1) 140737488355328 = true := decide_eq_true (by
          have := byteEs_length t
          simp only [List.length_cons] at h1 ⊢
          omega)
        rw [this]
        rfl
    rw [ctl_true, hcl]
    simp only [bnd_some, ctl_true, ctl_false, ctl_and, ctl_or', ctl_or2, x_toPV, x_toCs, x_toCs2, x_toEs, x_bEs, x_bCs, x_aPV, x_aCs, x_int, x_bool, x_str, x_es, x_esn, nth_0, nth_1, nth_2, nth_3, nth_4, nth_5, nth_6, nth_7, nth_8, nth_9, y_nil, y_int, y_bool, y_str, y_sl, y_nils, y_agg, y_ownp, y_own, z_nil, z_int, z_bool, z_str, z_sl, z_nils, b_nil, b_arr, b_box1, b_box2, b_box3, b_box4, List.map_cons, List.map_nil, Bool.and_self, Bool.and_true, Bool.true_and, Bool.not_true, Bool.not_false, Bool.or_false, Bool.false_or, cond_true, cond_false, okPack, okPut, okPutBlks, okPutCells, q_isP, q_isAg, q_isBox, q_isArr, q_int, q_bool, q_str, q_sl, q_nils, e_exit, e_ret, e_nrm, e_ret_exit, e_exit_ret, e_nrm_exit, e_nrm_ret, e_exit_nrm, e_ret_nrm, Nat.zero_add, Nat.reduceAdd, noslR, noslP, noslB, noslA, List.all_cons, List.all_nil]
    rw [byteEs_length, byteEs_length]
    simp only [Int.natCast_zero] at hl
    rw [show fldK [] = [] from rfl] at hl
    rw [hl]
    simp only [bnd_some, ctl_true, ctl_false, ctl_and, ctl_or', ctl_or2, x_toPV, x_toCs, x_toCs2, x_toEs, x_bEs, x_bCs, x_aPV, x_aCs, x_int, x_bool, x_str, x_es, x_esn, nth_0, nth_1, nth_2, nth_3, nth_4, nth_5, nth_6, nth_7, nth_8, nth_9, y_nil, y_int, y_bool, y_str, y_sl, y_nils, y_agg, y_ownp, y_own, z_nil, z_int, z_bool, z_str, z_sl, z_nils, b_nil, b_arr, b_box1, b_box2, b_box3, b_box4, List.map_cons, List.map_nil, Bool.and_self, Bool.and_true, Bool.true_and, Bool.not_true, Bool.not_false, Bool.or_false, Bool.false_or, cond_true, cond_false, okPack, okPut, okPutBlks, okPutCells, q_isP, q_isAg, q_isBox, q_isArr, q_int, q_bool, q_str, q_sl, q_nils, e_exit, e_ret, e_nrm, e_ret_exit, e_exit_ret, e_nrm_exit, e_nrm_ret, e_exit_nrm, e_ret_nrm, Nat.zero_add, Nat.reduceAdd, noslR, noslP, noslB, noslA, List.all_cons, List.all_nil]
  | false =>
    have hi : ini f = ⟨[], 0, [], 0⟩ := by unfold ini; rw [hg]; rfl
    rw [hi] at hl ⊢
    simp only [Int.natCast_zero] at hl
    rw [ctl_false, byteEs_length]
    rw [show fldK [] = [] from rfl, show byteEs [] = [] from rfl] at hl
    rw [hl]
    simp only [bnd_some, ctl_true, ctl_false, ctl_and, ctl_or', ctl_or2, x_toPV, x_toCs, x_toCs2, x_toEs, x_bEs, x_bCs, x_aPV, x_aCs, x_int, x_bool, x_str, x_es, x_esn, nth_0, nth_1, nth_2, nth_3, nth_4, nth_5, nth_6, nth_7, nth_8, nth_9, y_nil, y_int, y_bool, y_str, y_sl, y_nils, y_agg, y_ownp, y_own, z_nil, z_int, z_bool, z_str, z_sl, z_nils, b_nil, b_arr, b_box1, b_box2, b_box3, b_box4, List.map_cons, List.map_nil, Bool.and_self, Bool.and_true, Bool.true_and, Bool.not_true, Bool.not_false, Bool.or_false, Bool.false_or, cond_true, cond_false, okPack, okPut, okPutBlks, okPutCells, q_isP, q_isAg, q_isBox, q_isArr, q_int, q_bool, q_str, q_sl, q_nils, e_exit, e_ret, e_nrm, e_ret_exit, e_exit_ret, e_nrm_exit, e_nrm_ret, e_exit_nrm, e_ret_nrm, Nat.zero_add, Nat.reduceAdd, noslR, noslP, noslB, noslA, List.all_cons, List.all_nil]

theorem c_SAll (b : List UInt8) (h2 : b.length ≤ 100000) : denC E 17 [AV.sl 1 (byteEs b)] [] =
    some ([RV.p (PV.sl 1 (fldK (run ⟨[], 0, [], 0⟩ b).ss)), RV.p (PV.int .i64 (run ⟨[], 0, [], 0⟩ b).lost)], []) := by
  rw [denC_eq, r17]
  have := c_SFeed [] b (by simp) h2
  rw [show (byteEs ([] : List UInt8)) = [] from rfl, show ini [] = ⟨[], 0, [], 0⟩ from rfl] at this
  rw [this]
  simp only [bnd_some, ctl_true, ctl_false, ctl_and, ctl_or', ctl_or2, x_toPV, x_toCs, x_toCs2, x_toEs, x_bEs, x_bCs, x_aPV, x_aCs, x_int, x_bool, x_str, x_es, x_esn, nth_0, nth_1, nth_2, nth_3, nth_4, nth_5, nth_6, nth_7, nth_8, nth_9, y_nil, y_int, y_bool, y_str, y_sl, y_nils, y_agg, y_ownp, y_own, z_nil, z_int, z_bool, z_str, z_sl, z_nils, b_nil, b_arr, b_box1, b_box2, b_box3, b_box4, List.map_cons, List.map_nil, Bool.and_self, Bool.and_true, Bool.true_and, Bool.not_true, Bool.not_false, Bool.or_false, Bool.false_or, cond_true, cond_false, okPack, okPut, okPutBlks, okPutCells, q_isP, q_isAg, q_isBox, q_isArr, q_int, q_bool, q_str, q_sl, q_nils, e_exit, e_ret, e_nrm, e_ret_exit, e_exit_ret, e_nrm_exit, e_nrm_ret, e_exit_nrm, e_ret_nrm, Nat.zero_add, Nat.reduceAdd, noslR, noslP, noslB, noslA, List.all_cons, List.all_nil]

/-! ### The document's -/
theorem l_rest (z : List (List PV)) (l : List UInt8) : ∀ (pre : List UInt8), 1 ≤ pre.length → (pre ++ l).length ≤ 100000 → lp E (denC E) 32 0 [] 0 { vals := [AV.sl 1 (byteEs (pre ++ l)), AV.int .i64 (pre ++ l).length, AV.int .i64 pre.length], blks := [Blk.box [AV.sl 1 z]] } =
    some (bif l.all fun x => !(x == 36) && !(x == 10) then (Ex.exit 0, { vals := [], blks := [Blk.box [AV.sl 1 z]] }) else (Ex.ret, { vals := [], blks := [Blk.arr 1 []] })) := by
  induction l with
  | nil =>
    intro pre hp h
    rw [r32_0, ctl_dec, if_neg (by simp)]
    rfl
  | cons b l ih =>
    intro pre hp h
    have ih' := ih (pre ++ [b]) (by simp) (by simpa using h)
    rw [r32_0, ctl_dec, if_pos (by simp <;> omega), getE_bytes (by simp <;> omega), Int.toNat_natCast, getD_mid]
    simp only [bnd_some, ctl_true, ctl_false, ctl_and, ctl_or', ctl_or2, x_toPV, x_toCs, x_toCs2, x_toEs, x_bEs, x_bCs, x_aPV, x_aCs, x_int, x_bool, x_str, x_es, x_esn, nth_0, nth_1, nth_2, nth_3, nth_4, nth_5, nth_6, nth_7, nth_8, nth_9, y_nil, y_int, y_bool, y_str, y_sl, y_nils, y_agg, y_ownp, y_own, z_nil, z_int, z_bool, z_str, z_sl, z_nils, b_nil, b_arr, b_box1, b_box2, b_box3, b_box4, List.map_cons, List.map_nil, Bool.and_self, Bool.and_true, Bool.true_and, Bool.not_true, Bool.not_false, Bool.or_false, Bool.false_or, cond_true, cond_false, okPack, okPut, okPutBlks, okPutCells, q_isP, q_isAg, q_isBox, q_isArr, q_int, q_bool, q_str, q_sl, q_nils, e_exit, e_ret, e_nrm, e_ret_exit, e_exit_ret, e_nrm_exit, e_nrm_ret, e_exit_nrm, e_ret_nrm, Nat.zero_add, Nat.reduceAdd, noslR, noslP, noslB, noslA, List.all_cons, List.all_nil]
    rw [b36, b10, w64 (n := (pre.length : Int) + 1) (by simp at h; omega), len_snoc pre b, app_cons, ih']
    have : ltB 0 (pre.length : Int) = true := decide_eq_true (by omega)
    rw [this]
    cases b == 10 <;> cases b == 36 <;> simp [ctl, bnd]

theorem c_rest (b : List UInt8) (h : b.length ≤ 100000) : denC E 32 [AV.agg [PV.sl 1 (byteEs b)]] [] = some ([RV.own 1 (byteEs (ini b).rest)], []) := by
  rw [denC_eq, r32]
  cases b with
  | nil => rfl
  | cons x t =>
    rw [byteEs_length]
    have h1 : (((x :: t).length : Int) == 0) = false := by simp <;> omega
    rw [h1, getE_bytes (by simp <;> omega)]
    simp only [bnd_some, ctl_true, ctl_false, ctl_and, ctl_or', ctl_or2, x_toPV, x_toCs, x_toCs2, x_toEs, x_bEs, x_bCs, x_aPV, x_aCs, x_int, x_bool, x_str, x_es, x_esn, nth_0, nth_1, nth_2, nth_3, nth_4, nth_5, nth_6, nth_7, nth_8, nth_9, y_nil, y_int, y_bool, y_str, y_sl, y_nils, y_agg, y_ownp, y_own, z_nil, z_int, z_bool, z_str, z_sl, z_nils, b_nil, b_arr, b_box1, b_box2, b_box3, b_box4, List.map_cons, List.map_nil, Bool.and_self, Bool.and_true, Bool.true_and, Bool.not_true, Bool.not_false, Bool.or_false, Bool.false_or, cond_true, cond_false, okPack, okPut, okPutBlks, okPutCells, q_isP, q_isAg, q_isBox, q_isArr, q_int, q_bool, q_str, q_sl, q_nils, e_exit, e_ret, e_nrm, e_ret_exit, e_exit_ret, e_nrm_exit, e_nrm_ret, e_exit_nrm, e_ret_nrm, Nat.zero_add, Nat.reduceAdd, noslR, noslP, noslB, noslA, List.all_cons, List.all_nil]
    rw [show (x :: t).getD (Int.toNat 0) 0 = x from rfl]
    have e1 : ((x.toNat : Int) != 36) = !(x == 36) := by show (!((x.toNat : Int) == 36)) = _; rw [b36]
    rw [e1]
    unfold ini bg
    cases hx : x == 36 with
    | false => simp [ctl, bnd, byteEs, hx]
    | true =>
      have e2 : leB 200 ((x :: t).length : Int) = !leB ((t.length + 1 : Nat) : Int) 199 := by
        by_cases hl : ((t.length + 1 : Nat) : Int) ≤ 199
        · rw [show leB ((t.length + 1 : Nat) : Int) 199 = true from decide_eq_true hl]; exact decide_eq_false (by simp only [List.length_cons]; omega)
        · rw [show leB ((t.length + 1 : Nat) : Int) 199 = false from decide_eq_false hl]; exact decide_eq_true (by simp only [List.length_cons]; omega)
      simp only [Bool.not_true, Bool.not_false, ctl_true, bnd_some]
      rw [e2]
      cases hl : leB ((t.length + 1 : Nat) : Int) 199 with
      | false => simp [ctl, bnd, byteEs, hl]
      | true =>
        simp only [Bool.not_true, ctl_false, Bool.true_and]
        have hx' := beq_iff_eq.1 hx
        have r1 : lp E (denC E) 32 0 [] 0 { vals := [AV.sl 1 (byteEs (x :: t)), AV.int .i64 ((x :: t).length : Nat), AV.int .i64 0], blks := [Blk.box [AV.sl 1 (byteEs (x :: t))]] } =
            lp E (denC E) 32 0 [] 0 { vals := [AV.sl 1 (byteEs (x :: t)), AV.int .i64 ((x :: t).length : Nat), AV.int .i64 (([x] : List UInt8).length : Nat)], blks := [Blk.box [AV.sl 1 (byteEs (x :: t))]] } := by
          rw [r32_0, ctl_dec, if_pos (by simp <;> omega), getE_bytes (by simp <;> omega)]
          simp only [bnd_some, ctl_true, ctl_false, ctl_and, ctl_or', ctl_or2, x_toPV, x_toCs, x_toCs2, x_toEs, x_bEs, x_bCs, x_aPV, x_aCs, x_int, x_bool, x_str, x_es, x_esn, nth_0, nth_1, nth_2, nth_3, nth_4, nth_5, nth_6, nth_7, nth_8, nth_9, y_nil, y_int, y_bool, y_str, y_sl, y_nils, y_agg, y_ownp, y_own, z_nil, z_int, z_bool, z_str, z_sl, z_nils, b_nil, b_arr, b_box1, b_box2, b_box3, b_box4, List.map_cons, List.map_nil, Bool.and_self, Bool.and_true, Bool.true_and, Bool.not_true, Bool.not_false, Bool.or_false, Bool.false_or, cond_true, cond_false, okPack, okPut, okPutBlks, okPutCells, q_isP, q_isAg, q_isBox, q_isArr, q_int, q_bool, q_str, q_sl, q_nils, e_exit, e_ret, e_nrm, e_ret_exit, e_exit_ret, e_nrm_exit, e_nrm_ret, e_exit_nrm, e_ret_nrm, Nat.zero_add, Nat.reduceAdd, noslR, noslP, noslB, noslA, List.all_cons, List.all_nil]
          rw [show (x :: t).getD (Int.toNat 0) 0 = x from rfl, b36, b10, hx, show (x == 10) = false by rw [hx']; decide]
          rw [show ltB 0 0 = false from rfl, w64 (by omega)]
          rfl
        have r2 := l_rest (byteEs (x :: t)) t [x] (by simp) (by simpa using h)
        rw [show ([x] : List UInt8) ++ t = x :: t from rfl] at r2
        rw [r1, r2]
        cases ht : t.all fun x => !(x == 36) && !(x == 10) with
        | true =>
          simp only [hx, ht, bnd_some, ctl_true, ctl_false, ctl_and, ctl_or', ctl_or2, x_toPV, x_toCs, x_toCs2, x_toEs, x_bEs, x_bCs, x_aPV, x_aCs, x_int, x_bool, x_str, x_es, x_esn, nth_0, nth_1, nth_2, nth_3, nth_4, nth_5, nth_6, nth_7, nth_8, nth_9, y_nil, y_int, y_bool, y_str, y_sl, y_nils, y_agg, y_ownp, y_own, z_nil, z_int, z_bool, z_str, z_sl, z_nils, b_nil, b_arr, b_box1, b_box2, b_box3, b_box4, List.map_cons, List.map_nil, Bool.and_self, Bool.and_true, Bool.true_and, Bool.not_true, Bool.not_false, Bool.or_false, Bool.false_or, cond_true, cond_false, okPack, okPut, okPutBlks, okPutCells, q_isP, q_isAg, q_isBox, q_isArr, q_int, q_bool, q_str, q_sl, q_nils, e_exit, e_ret, e_nrm, e_ret_exit, e_exit_ret, e_nrm_exit, e_nrm_ret, e_exit_nrm, e_ret_nrm, Nat.zero_add, Nat.reduceAdd, noslR, noslP, noslB, noslA, List.all_cons, List.all_nil]
          rw [byteEs_length, show leN ((x :: t).length * 1) 140737488355328 = true from decide_eq_true (by omega), ctl_true]
        | false =>
          simp only [hx, ht, bnd_some, ctl_true, ctl_false, ctl_and, ctl_or', ctl_or2, x_toPV, x_toCs, x_toCs2, x_toEs, x_bEs, x_bCs, x_aPV, x_aCs, x_int, x_bool, x_str, x_es, x_esn, nth_0, nth_1, nth_2, nth_3, nth_4, nth_5, nth_6, nth_7, nth_8, nth_9, y_nil, y_int, y_bool, y_str, y_sl, y_nils, y_agg, y_ownp, y_own, z_nil, z_int, z_bool, z_str, z_sl, z_nils, b_nil, b_arr, b_box1, b_box2, b_box3, b_box4, List.map_cons, List.map_nil, Bool.and_self, Bool.and_true, Bool.true_and, Bool.not_true, Bool.not_false, Bool.or_false, Bool.false_or, cond_true, cond_false, okPack, okPut, okPutBlks, okPutCells, q_isP, q_isAg, q_isBox, q_isArr, q_int, q_bool, q_str, q_sl, q_nils, e_exit, e_ret, e_nrm, e_ret_exit, e_exit_ret, e_nrm_exit, e_nrm_ret, e_exit_nrm, e_ret_nrm, Nat.zero_add, Nat.reduceAdd, noslR, noslP, noslB, noslA, List.all_cons, List.all_nil]
          rfl

theorem c_rIdle (b : List UInt8) (h : b.length ≤ 100000) : denC E 18 [AV.agg [PV.sl 1 (byteEs b)]] [] = some ([RV.p (PV.bool (!bg b))], []) := by
  rw [denC_eq, r18, c_rest b h]
  simp only [bnd_some, ctl_true, ctl_false, ctl_and, ctl_or', ctl_or2, x_toPV, x_toCs, x_toCs2, x_toEs, x_bEs, x_bCs, x_aPV, x_aCs, x_int, x_bool, x_str, x_es, x_esn, nth_0, nth_1, nth_2, nth_3, nth_4, nth_5, nth_6, nth_7, nth_8, nth_9, y_nil, y_int, y_bool, y_str, y_sl, y_nils, y_agg, y_ownp, y_own, z_nil, z_int, z_bool, z_str, z_sl, z_nils, b_nil, b_arr, b_box1, b_box2, b_box3, b_box4, List.map_cons, List.map_nil, Bool.and_self, Bool.and_true, Bool.true_and, Bool.not_true, Bool.not_false, Bool.or_false, Bool.false_or, cond_true, cond_false, okPack, okPut, okPutBlks, okPutCells, q_isP, q_isAg, q_isBox, q_isArr, q_int, q_bool, q_str, q_sl, q_nils, e_exit, e_ret, e_nrm, e_ret_exit, e_exit_ret, e_nrm_exit, e_nrm_ret, e_exit_nrm, e_ret_nrm, Nat.zero_add, Nat.reduceAdd, noslR, noslP, noslB, noslA, List.all_cons, List.all_nil]
  rw [byteEs_length]
  unfold ini
  cases hg : bg b with
  | true => have := (bg_len hg).2; cases b with | nil => exact absurd rfl this | cons x t => simp <;> omega
  | false => rfl

theorem lp_cong {f blk : Nat} {a d e g : AV} {o o' u u' : Int} {bs : List Blk} (ho : o = o') (hu : u = u') : lp E (denC E) f 0 [] blk { vals := [a, AV.int .i64 o, AV.int .i64 u, d, e, g], blks := bs } = lp E (denC E) f 0 [] blk { vals := [a, AV.int .i64 o', AV.int .i64 u', d, e, g], blks := bs } := by
  subst ho hu; rfl

theorem l_rFeed (z : List (List PV)) (l : List UInt8) : ∀ (pre : List UInt8) (c : Cu), (pre ++ l).length ≤ 100000 → Iv c pre.length →
    lp E (denC E) 19 0 [] 0 { vals := [AV.sl 1 (byteEs (pre ++ l)), AV.int .i64 (c.rest.length - c.old), AV.int .i64 (pre.length - c.lost - (c.rest.length - c.old)), AV.sl 1 (byteEs (pre ++ l)), AV.int .i64 (pre ++ l).length, AV.int .i64 pre.length], blks := [Blk.box [AV.sl 1 z], Blk.arr 1 (byteEs c.rest), Blk.arr 1 (fldK c.ss)] } =
    some (Ex.exit 0, { vals := [AV.sl 1 (byteEs (pre ++ l)), AV.int .i64 ((run c l).rest.length - (run c l).old), AV.int .i64 ((pre ++ l).length - (run c l).lost - ((run c l).rest.length - (run c l).old))], blks := [Blk.box [AV.sl 1 z], Blk.arr 1 (byteEs (run c l).rest), Blk.arr 1 (fldK (run c l).ss)] }) := by
  induction l with
  | nil =>
    intro pre c h hI
    rw [r19_0, ctl_dec, if_neg (by simp)]
    simp only [List.append_nil, run_nil]
  | cons b l ih =>
    intro pre c h hI
    have hn : pre.length ≤ 99999 := by simp at h; omega
    have hI' := hI.stp b
    obtain ⟨⟨h1, h2⟩, h3, ⟨h4, h5⟩, h6⟩ := hI
    have ih' := ih (pre ++ [b]) (stp c b) (by simpa using h) (by simpa using hI')
    have hpl : ((pre ++ [b]).length : Int) = pre.length + 1 := by simp
    rw [run_cons, r19_0, ctl_dec, if_pos (by simp <;> omega), getE_bytes (by simp <;> omega), Int.toNat_natCast, getD_mid]
    simp only [bnd_some, ctl_true, ctl_false, ctl_and, ctl_or', ctl_or2, x_toPV, x_toCs, x_toCs2, x_toEs, x_bEs, x_bCs, x_aPV, x_aCs, x_int, x_bool, x_str, x_es, x_esn, nth_0, nth_1, nth_2, nth_3, nth_4, nth_5, nth_6, nth_7, nth_8, nth_9, y_nil, y_int, y_bool, y_str, y_sl, y_nils, y_agg, y_ownp, y_own, z_nil, z_int, z_bool, z_str, z_sl, z_nils, b_nil, b_arr, b_box1, b_box2, b_box3, b_box4, List.map_cons, List.map_nil, Bool.and_self, Bool.and_true, Bool.true_and, Bool.not_true, Bool.not_false, Bool.or_false, Bool.false_or, cond_true, cond_false, okPack, okPut, okPutBlks, okPutCells, q_isP, q_isAg, q_isBox, q_isArr, q_int, q_bool, q_str, q_sl, q_nils, e_exit, e_ret, e_nrm, e_ret_exit, e_exit_ret, e_nrm_exit, e_nrm_ret, e_exit_nrm, e_ret_nrm, Nat.zero_add, Nat.reduceAdd, noslR, noslP, noslB, noslA, List.all_cons, List.all_nil]
    rw [b36, b10, w64 (n := (pre.length : Int) + 1) (by omega), byteEs_length, fldK_length, len0, len_snoc pre b]
    rw [w64 (n := (c.rest.length : Int) - c.old + 1) (by omega), w64 (n := (pre.length : Int) - c.lost - (c.rest.length - c.old) + ((c.rest.length : Int) - c.old + 1)) (by omega)]
    rw [app_cons]
    unfold stp at ih' ⊢
    cases hb : b == 36 with
    | true =>
      have hb' := beq_iff_eq.1 hb
      rw [hb, cond_true] at ih'
      simp only [List.length_cons, List.length_nil] at ih'
      rw [ctl_true, cond_true]
      refine Eq.trans (lp_cong ?_ ?_) ih' <;> first | omega | (simp; omega) | simp
    | false =>
      rw [hb, cond_false] at ih'
      rw [ctl_false, cond_false]
      cases he : c.rest.isEmpty with
      | true =>
        have : c.rest = [] := by simpa using he
        rw [he, cond_true] at ih'
        simp only [List.length_nil] at ih'
        rw [ctl_true, cond_true, this]
        refine Eq.trans (lp_cong ?_ ?_) ih' <;> first | omega | (simp; omega) | simp
      | false =>
        rw [he, cond_false] at ih'
        have a1 : leN ((c.rest.length + 1) * 1) 140737488355328 = true := decide_eq_true (by omega)
        have a2 : leN ((c.ss.length + 1) * 24) 140737488355328 = true := decide_eq_true (by omega)
        have a3 : (c.rest ++ [b]).length = c.rest.length + 1 := by simp
        rw [ctl_false, cond_false, a1, ctl_true, byteEs_snoc, byteEs_length]
        cases hn : b == 10 with
        | true =>
          rw [hn, cond_true] at ih'
          rw [ctl_true, cond_true, c_rParse _ (by rw [a3]; omega)]
          rcases prs_pf (c.rest ++ [b]) with ⟨f, hf, hp⟩ | ⟨hf, e, hp, he4⟩
          · rw [hf] at ih' ⊢
            rw [hp]
            simp only [bnd_some, ctl_true, ctl_false, ctl_and, ctl_or', ctl_or2, x_toPV, x_toCs, x_toCs2, x_toEs, x_bEs, x_bCs, x_aPV, x_aCs, x_int, x_bool, x_str, x_es, x_esn, nth_0, nth_1, nth_2, nth_3, nth_4, nth_5, nth_6, nth_7, nth_8, nth_9, y_nil, y_int, y_bool, y_str, y_sl, y_nils, y_agg, y_ownp, y_own, z_nil, z_int, z_bool, z_str, z_sl, z_nils, b_nil, b_arr, b_box1, b_box2, b_box3, b_box4, List.map_cons, List.map_nil, Bool.and_self, Bool.and_true, Bool.true_and, Bool.not_true, Bool.not_false, Bool.or_false, Bool.false_or, cond_true, cond_false, okPack, okPut, okPutBlks, okPutCells, q_isP, q_isAg, q_isBox, q_isArr, q_int, q_bool, q_str, q_sl, q_nils, e_exit, e_ret, e_nrm, e_ret_exit, e_exit_ret, e_nrm_exit, e_nrm_ret, e_exit_nrm, e_ret_nrm, Nat.zero_add, Nat.reduceAdd, noslR, noslP, noslB, noslA, List.all_cons, List.all_nil]
            rw [show ((0 : Int) == 0) = true from rfl, ctl_true, a2, ctl_true, fldK_snoc]
            simp only [List.length_nil] at ih'
            refine Eq.trans (lp_cong ?_ ?_) ih' <;> first | omega | (simp; omega) | simp
          · rw [hf] at ih' ⊢
            rw [hp]
            simp only [bnd_some, ctl_true, ctl_false, ctl_and, ctl_or', ctl_or2, x_toPV, x_toCs, x_toCs2, x_toEs, x_bEs, x_bCs, x_aPV, x_aCs, x_int, x_bool, x_str, x_es, x_esn, nth_0, nth_1, nth_2, nth_3, nth_4, nth_5, nth_6, nth_7, nth_8, nth_9, y_nil, y_int, y_bool, y_str, y_sl, y_nils, y_agg, y_ownp, y_own, z_nil, z_int, z_bool, z_str, z_sl, z_nils, b_nil, b_arr, b_box1, b_box2, b_box3, b_box4, List.map_cons, List.map_nil, Bool.and_self, Bool.and_true, Bool.true_and, Bool.not_true, Bool.not_false, Bool.or_false, Bool.false_or, cond_true, cond_false, okPack, okPut, okPutBlks, okPutCells, q_isP, q_isAg, q_isBox, q_isArr, q_int, q_bool, q_str, q_sl, q_nils, e_exit, e_ret, e_nrm, e_ret_exit, e_exit_ret, e_nrm_exit, e_nrm_ret, e_exit_nrm, e_ret_nrm, Nat.zero_add, Nat.reduceAdd, noslR, noslP, noslB, noslA, List.all_cons, List.all_nil]
            rw [show (e == 0) = false by rcases he4 with rfl | rfl | rfl <;> rfl, ctl_false]
            simp only [List.length_nil] at ih'
            refine Eq.trans (lp_cong ?_ ?_) ih' <;> first | omega | (simp; omega) | simp
        | false =>
          rw [hn, cond_false] at ih'
          rw [ctl_false, cond_false]
          cases hg : leB 200 ((c.rest ++ [b]).length : Int) with
          | true =>
            rw [hg, cond_true] at ih'
            rw [ctl_true, cond_true]
            simp only [List.length_nil] at ih'
            refine Eq.trans (lp_cong ?_ ?_) ih' <;> first | omega | (simp; omega) | simp
          | false =>
            rw [hg, cond_false] at ih'
            rw [ctl_false, cond_false]

            refine Eq.trans (lp_cong ?_ ?_) ih' <;> first | omega | (simp; omega) | simp

theorem c_rFeed (f b : List UInt8) (h1 : f.length ≤ 100000) (h2 : b.length ≤ 100000) : denC E 19 [AV.agg [PV.sl 1 (byteEs f)], AV.sl 1 (byteEs b)] [] =
    some ([RV.agg [PV.sl 1 (byteEs (run (ini f) b).rest)], RV.p (PV.sl 1 (fldK (run (ini f) b).ss)), RV.p (PV.int .i64 (run (ini f) b).lost)], []) := by
  rw [denC_eq, r19, c_rest f h1]
  simp only [bnd_some, ctl_true, ctl_false, ctl_and, ctl_or', ctl_or2, x_toPV, x_toCs, x_toCs2, x_toEs, x_bEs, x_bCs, x_aPV, x_aCs, x_int, x_bool, x_str, x_es, x_esn, nth_0, nth_1, nth_2, nth_3, nth_4, nth_5, nth_6, nth_7, nth_8, nth_9, y_nil, y_int, y_bool, y_str, y_sl, y_nils, y_agg, y_ownp, y_own, z_nil, z_int, z_bool, z_str, z_sl, z_nils, b_nil, b_arr, b_box1, b_box2, b_box3, b_box4, List.map_cons, List.map_nil, Bool.and_self, Bool.and_true, Bool.true_and, Bool.not_true, Bool.not_false, Bool.or_false, Bool.false_or, cond_true, cond_false, okPack, okPut, okPutBlks, okPutCells, q_isP, q_isAg, q_isBox, q_isArr, q_int, q_bool, q_str, q_sl, q_nils, e_exit, e_ret, e_nrm, e_ret_exit, e_exit_ret, e_nrm_exit, e_nrm_ret, e_exit_nrm, e_ret_nrm, Nat.zero_add, Nat.reduceAdd, noslR, noslP, noslB, noslA, List.all_cons, List.all_nil]
  have hl := l_rFeed [] b [] (ini f) (by simpa using h2) (ini_iv f)
  have e1 : ((ini f).rest.length : Int) - (ini f).old = 0 := by
    unfold ini
    cases bg f <;> simp
  have e2 : (ini f).lost = 0 ∧ (ini f).ss = [] := by
    unfold ini
    cases bg f <;> exact ⟨rfl, rfl⟩
  rw [e1, e2.1, e2.2] at hl
  simp only [List.nil_append, List.length_nil, Int.natCast_zero, Int.sub_zero] at hl
  rw [show fldK [] = [] from rfl] at hl
  rw [byteEs_length, hl]
  simp only [bnd_some, ctl_true, ctl_false, ctl_and, ctl_or', ctl_or2, x_toPV, x_toCs, x_toCs2, x_toEs, x_bEs, x_bCs, x_aPV, x_aCs, x_int, x_bool, x_str, x_es, x_esn, nth_0, nth_1, nth_2, nth_3, nth_4, nth_5, nth_6, nth_7, nth_8, nth_9, y_nil, y_int, y_bool, y_str, y_sl, y_nils, y_agg, y_ownp, y_own, z_nil, z_int, z_bool, z_str, z_sl, z_nils, b_nil, b_arr, b_box1, b_box2, b_box3, b_box4, List.map_cons, List.map_nil, Bool.and_self, Bool.and_true, Bool.true_and, Bool.not_true, Bool.not_false, Bool.or_false, Bool.false_or, cond_true, cond_false, okPack, okPut, okPutBlks, okPutCells, q_isP, q_isAg, q_isBox, q_isArr, q_int, q_bool, q_str, q_sl, q_nils, e_exit, e_ret, e_nrm, e_ret_exit, e_exit_ret, e_nrm_exit, e_nrm_ret, e_exit_nrm, e_ret_nrm, Nat.zero_add, Nat.reduceAdd, noslR, noslP, noslB, noslA, List.all_cons, List.all_nil]
  obtain ⟨⟨i1, i2⟩, i3, ⟨i4, i5⟩, i6⟩ := (ini_iv f).run (bs := b)
  rw [byteEs_length, w64 (n := (b.length : Int) - (b.length - (run (ini f) b).lost - ((run (ini f) b).rest.length - (run (ini f) b).old))) (by omega), w64 (by omega)]
  congr 7
  omega

theorem c_rAll (b : List UInt8) (h2 : b.length ≤ 100000) : denC E 20 [AV.sl 1 (byteEs b)] [] =
    some ([RV.p (PV.sl 1 (fldK (run ⟨[], 0, [], 0⟩ b).ss)), RV.p (PV.int .i64 (run ⟨[], 0, [], 0⟩ b).lost)], []) := by
  rw [denC_eq, r20]
  have := c_rFeed [] b (by simp) h2
  rw [show (byteEs ([] : List UInt8)) = [] from rfl, show ini [] = ⟨[], 0, [], 0⟩ from rfl] at this
  rw [this]
  simp only [bnd_some, ctl_true, ctl_false, ctl_and, ctl_or', ctl_or2, x_toPV, x_toCs, x_toCs2, x_toEs, x_bEs, x_bCs, x_aPV, x_aCs, x_int, x_bool, x_str, x_es, x_esn, nth_0, nth_1, nth_2, nth_3, nth_4, nth_5, nth_6, nth_7, nth_8, nth_9, y_nil, y_int, y_bool, y_str, y_sl, y_nils, y_agg, y_ownp, y_own, z_nil, z_int, z_bool, z_str, z_sl, z_nils, b_nil, b_arr, b_box1, b_box2, b_box3, b_box4, List.map_cons, List.map_nil, Bool.and_self, Bool.and_true, Bool.true_and, Bool.not_true, Bool.not_false, Bool.or_false, Bool.false_or, cond_true, cond_false, okPack, okPut, okPutBlks, okPutCells, q_isP, q_isAg, q_isBox, q_isArr, q_int, q_bool, q_str, q_sl, q_nils, e_exit, e_ret, e_nrm, e_ret_exit, e_exit_ret, e_nrm_exit, e_nrm_ret, e_exit_nrm, e_ret_nrm, Nat.zero_add, Nat.reduceAdd, noslR, noslP, noslB, noslA, List.all_cons, List.all_nil]

/-! ### Lists of sentences -/
theorem getE_flds {α : Type} {s : List (List (List UInt8))} {i : Int} (hi : 0 ≤ i ∧ i < s.length) (K : List PV → Option α) : getE (fldK s) i K = K [PV.sl 1 (strsK (s.getD i.toNat []))] := by
  unfold getE
  have h1 : leB 0 i = true := decide_eq_true hi.1
  have h2 : ltB i ((fldK s).length : Int) = true := decide_eq_true (by rw [fldK_length]; exact hi.2)
  rw [h1, h2]
  simp only [Bool.and_self, ctl_true]
  congr 1
  have hlt : i.toNat < s.length := by omega
  rw [nth_eq]
  simp [fldK, List.getD, hlt]

theorem l_SSame (l : List (List (List UInt8))) : ∀ (pre m : List (List (List UInt8))), l.length = m.length → (pre ++ l).length ≤ 100000 → (∀ x ∈ l, x.length ≤ 100000) →
    lp E (denC E) 13 0 [] 0 { vals := [AV.sl 1 (fldK (pre ++ l)), AV.sl 1 (fldK (pre ++ m)), AV.int .i64 (pre ++ l).length, AV.int .i64 pre.length], blks := [] } =
    some (bif l == m then (Ex.exit 0, { vals := [], blks := [] }) else (Ex.ret, { vals := [AV.bool false], blks := [] })) := by
  induction l with
  | nil =>
    intro pre m hm h hx
    cases m with
    | nil =>
      rw [r13_0, ctl_dec, if_neg (by simp)]
      rfl
    | cons => simp at hm
  | cons x l ih =>
    intro pre m hm h hx
    cases m with
    | nil => simp at hm
    | cons y m =>
      rw [r13_0, ctl_dec, if_pos (by simp <;> omega), getE_flds (by simp <;> omega), getE_flds (by simp <;> omega), Int.toNat_natCast, getD_mid, getD_mid]
      simp only [bnd_some, ctl_true, ctl_false, ctl_and, ctl_or', ctl_or2, x_toPV, x_toCs, x_toCs2, x_toEs, x_bEs, x_bCs, x_aPV, x_aCs, x_int, x_bool, x_str, x_es, x_esn, nth_0, nth_1, nth_2, nth_3, nth_4, nth_5, nth_6, nth_7, nth_8, nth_9, y_nil, y_int, y_bool, y_str, y_sl, y_nils, y_agg, y_ownp, y_own, z_nil, z_int, z_bool, z_str, z_sl, z_nils, b_nil, b_arr, b_box1, b_box2, b_box3, b_box4, List.map_cons, List.map_nil, Bool.and_self, Bool.and_true, Bool.true_and, Bool.not_true, Bool.not_false, Bool.or_false, Bool.false_or, cond_true, cond_false, okPack, okPut, okPutBlks, okPutCells, q_isP, q_isAg, q_isBox, q_isArr, q_int, q_bool, q_str, q_sl, q_nils, e_exit, e_ret, e_nrm, e_ret_exit, e_exit_ret, e_nrm_exit, e_nrm_ret, e_exit_nrm, e_ret_nrm, Nat.zero_add, Nat.reduceAdd, noslR, noslP, noslB, noslA, List.all_cons, List.all_nil]
      rw [c_Same x y (by have := hx x (by simp); omega)]
      simp only [bnd_some, ctl_true, ctl_false, ctl_and, ctl_or', ctl_or2, x_toPV, x_toCs, x_toCs2, x_toEs, x_bEs, x_bCs, x_aPV, x_aCs, x_int, x_bool, x_str, x_es, x_esn, nth_0, nth_1, nth_2, nth_3, nth_4, nth_5, nth_6, nth_7, nth_8, nth_9, y_nil, y_int, y_bool, y_str, y_sl, y_nils, y_agg, y_ownp, y_own, z_nil, z_int, z_bool, z_str, z_sl, z_nils, b_nil, b_arr, b_box1, b_box2, b_box3, b_box4, List.map_cons, List.map_nil, Bool.and_self, Bool.and_true, Bool.true_and, Bool.not_true, Bool.not_false, Bool.or_false, Bool.false_or, cond_true, cond_false, okPack, okPut, okPutBlks, okPutCells, q_isP, q_isAg, q_isBox, q_isArr, q_int, q_bool, q_str, q_sl, q_nils, e_exit, e_ret, e_nrm, e_ret_exit, e_exit_ret, e_nrm_exit, e_nrm_ret, e_exit_nrm, e_ret_nrm, Nat.zero_add, Nat.reduceAdd, noslR, noslP, noslB, noslA, List.all_cons, List.all_nil]
      by_cases hxy : x = y
      · subst hxy
        rw [show (x == x) = true from beq_self_eq_true x, Bool.not_true, ctl_false, w64 (by simp at h; omega), len_snoc pre x]
        have := ih (pre ++ [x]) m (by simpa using hm) (by simpa using h) (fun z hz => hx z (by simp [hz]))
        rw [app_cons pre x l, app_cons pre x m, this]
        rw [show (x :: l == x :: m) = (l == m) by simp]
      · rw [show (x == y) = false from beq_eq_false_iff_ne.2 hxy, Bool.not_false, ctl_true]
        rw [show (x :: l == y :: m) = false from beq_eq_false_iff_ne.2 fun h => hxy (List.cons.inj h).1]
        rfl

theorem c_SSame (a b : List (List (List UInt8))) (h : a.length ≤ 100000) (hx : ∀ x ∈ a, x.length ≤ 100000) : denC E 13 [AV.sl 1 (fldK a), AV.sl 1 (fldK b)] [] = some ([RV.p (PV.bool (a == b))], []) := by
  rw [denC_eq, r13, fldK_length, fldK_length]
  by_cases hl : a.length = b.length
  · have e : ((a.length : Int) != (b.length : Int)) = false := by rw [hl]; simp
    rw [e, ctl_false]
    have := l_SSame a [] b hl (by simpa using h) hx
    simp only [List.nil_append, List.length_nil] at this
    rw [show (AV.int IntKind.i64 0) = AV.int .i64 ((0 : Nat) : Int) from rfl, this]
    cases a == b <;> simp only [bnd_some, ctl_true, ctl_false, ctl_and, ctl_or', ctl_or2, x_toPV, x_toCs, x_toCs2, x_toEs, x_bEs, x_bCs, x_aPV, x_aCs, x_int, x_bool, x_str, x_es, x_esn, nth_0, nth_1, nth_2, nth_3, nth_4, nth_5, nth_6, nth_7, nth_8, nth_9, y_nil, y_int, y_bool, y_str, y_sl, y_nils, y_agg, y_ownp, y_own, z_nil, z_int, z_bool, z_str, z_sl, z_nils, b_nil, b_arr, b_box1, b_box2, b_box3, b_box4, List.map_cons, List.map_nil, Bool.and_self, Bool.and_true, Bool.true_and, Bool.not_true, Bool.not_false, Bool.or_false, Bool.false_or, cond_true, cond_false, okPack, okPut, okPutBlks, okPutCells, q_isP, q_isAg, q_isBox, q_isArr, q_int, q_bool, q_str, q_sl, q_nils, e_exit, e_ret, e_nrm, e_ret_exit, e_exit_ret, e_nrm_exit, e_nrm_ret, e_exit_nrm, e_ret_nrm, Nat.zero_add, Nat.reduceAdd, noslR, noslP, noslB, noslA, List.all_cons, List.all_nil]
  · have e : ((a.length : Int) != (b.length : Int)) = true := by simp <;> omega
    rw [e, ctl_true]
    rw [show (a == b) = false from beq_eq_false_iff_ne.2 fun h => hl (by rw [h])]

theorem c_SBytes (a b : List UInt8) : denC E 14 [AV.sl 1 (byteEs a), AV.sl 1 (byteEs b)] [] = some ([RV.p (PV.bool (a == b))], []) := by
  rw [denC_eq, r14, bytesOk_byteEs, bytesOk_byteEs, toBytes_byteEs, toBytes_byteEs]
  rfl

end Go.Proofs.YtmlhemkadoadaaaDoor.Vm
