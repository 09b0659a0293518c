/- The law TopTelegrams. -/
import Derived.Test.YtpnpdkgdgfkpfaaGreatDoorTgI
import Derived.Test.YtpnpdkgdgfkpfaaGreatDoorRawTelegrams
namespace Go.Proofs.YtpnpdkgdgfkpfaaGreatDoor.Vm
set_option linter.unusedVariables false
set_option linter.unusedSimpArgs false

abbrev eb (e : Es) : Blk := Blk.box [AV.int .i64 e.1, AV.int .i64 e.2.1, AV.int .i64 e.2.2.1, AV.int .i64 e.2.2.2.1, AV.int .i64 e.2.2.2.2]
abbrev fb (b : List UInt8) : Blk := Blk.box [AV.sl 1 (byteEs b)]
def tgarb : List Int := [120, 42, 10, 13, 0]
theorem tgarb_b : ∀ x ∈ tgarb, ∃ b : UInt8, IntKind.u8.wrap x = (b.toNat : Int) ∧ b ≠ 36 := by
  intro x hx
  refine ⟨x.toNat.toUInt8, ?_⟩
  revert x
  decide +kernel
theorem tgarb_e : ([[PV.int IntKind.i64 120], [PV.int IntKind.i64 42], [PV.int IntKind.i64 10], [PV.int IntKind.i64 13], [PV.int IntKind.i64 0]] : List (List PV)) = intsK .i64 tgarb := rfl

theorem l_tgarb {L : List Int} (hL : L.length ≤ 600) (R T O b W : List (List PV)) (tm x y : Int) (e d : Es) (f : List UInt8) : ∀ (n k : Nat) (done : List UInt8), k ≤ 600 → n ≤ 100 → done.length + n ≤ 100000 →
    ∃ (s : List UInt8) (k' : Nat), s.length = n ∧ (∀ b ∈ s, b ≠ 36) ∧ k' ≤ 600 ∧ lp E (denC E) 3 0 [] 4 { vals := [AV.sl 4 R, AV.sl 11 T, AV.sl 11 O, AV.int .i64 tm, AV.sl 1 b, AV.int .i64 n, AV.int .i64 x, AV.int .i64 y], blks := [src L k, eb e, eb d, fb f, Blk.arr 6 W, Blk.arr 1 (byteEs done)] } =
      some (Ex.exit 4, { vals := [AV.sl 4 R, AV.sl 11 T, AV.sl 11 O, AV.int .i64 tm, AV.sl 1 b, AV.int .i64 x, AV.int .i64 y], blks := [src L k', eb e, eb d, fb f, Blk.arr 6 W, Blk.arr 1 (byteEs (done ++ s))] })
  | 0, k, done, hk, _, _ => by
    refine ⟨[], k, rfl, (fun b hb => by cases hb), hk, ?_⟩
    rw [r3_4, ltF (by simp), List.append_nil]
    rfl
  | n + 1, k, done, hk, hn, hd => by
    have hm := vPick_mem L k (l := tgarb) (by decide)
    obtain ⟨c, hb1, hb2⟩ := tgarb_b _ hm
    obtain ⟨s, k', s1, s2, s3, s4⟩ := l_tgarb hL R T O b W tm x y e d f n (at' L k) (done ++ [c]) (at'_le hL hk) (by omega) (by simp; omega)
    refine ⟨c :: s, k', by simp [s1], fun z hz => ?_, s3, ?_⟩
    · rcases List.mem_cons.1 hz with rfl | hz
      · exact hb2
      · exact s2 z hz
    · rw [r3_4, ltT (by omega), tgarb_e, c_Pick hL hk (by decide)]
      simp only [SB, Nat.reduceAdd]
      rw [hb1, byteEs_length, show leN ((done.length + 1) * 1) 140737488355328 = true from decide_eq_true (by omega), ctl_true, byteEs_snoc, w64 (by omega)]
      rw [show ((n + 1 : Nat) : Int) - 1 = (n : Int) by omega, s4, List.append_assoc]
      rfl

def Rn (B : List UInt8) (xs : List Sig) : Prop := (run ⟨[], 0, [], 0⟩ B).rest = [] ∧ (run ⟨[], 0, [], 0⟩ B).old = 0 ∧ (run ⟨[], 0, [], 0⟩ B).ss = xs.map wr
theorem Rn.add {B : List UInt8} {xs : List Sig} (h : Rn B xs) {s : List UInt8} (hs : ∀ b ∈ s, b ≠ 36) {x : Sig} (hv : valS x = true) : Rn (B ++ s ++ bts x) (xs ++ [x]) := by
  obtain ⟨h1, h2, h3⟩ := h
  obtain ⟨_, _, _, h4, _⟩ := bts_ok hv
  unfold Rn
  rw [run_app, run_app, run_garb s (run ⟨[], 0, [], 0⟩ B) h1 hs, h4]
  refine ⟨rfl, rfl, ?_⟩
  show (run ⟨[], 0, [], 0⟩ B).ss ++ [wr x] = (xs ++ [x]).map wr
  rw [h3, List.map_append]
  rfl

theorem l_in {L : List Int} (hL : L.length ≤ 600) (rs : List Rf) (hr : rs.length ≤ 8) (T O : List (List PV)) {tm : Int} (htm : 1 ≤ tm ∧ tm ≤ 1000) (e d : Es) (f : List UInt8) : ∀ (m j : Nat), j + m = rs.length → ∀ (k : Nat) (xs : List Sig) (B : List UInt8), k ≤ 600 → xs.length ≤ j → B.length ≤ 80 * j → (∀ x ∈ xs, SgOk tm rs.length x ∧ valS x = true) → Rn B xs →
    ∃ (k' : Nat) (xs' : List Sig) (B' : List UInt8), k' ≤ 600 ∧ xs'.length ≤ 8 ∧ B'.length ≤ 1000 ∧ (∀ x ∈ xs', SgOk tm rs.length x ∧ valS x = true) ∧ Rn B' xs' ∧
      lp E (denC E) 3 0 [] 2 { vals := [AV.sl 4 (rs.map Rf.pv), AV.sl 11 T, AV.sl 11 O, AV.int .i64 tm, AV.int .i64 (rs.length : Nat), AV.int .i64 (j : Nat)], blks := [src L k, eb e, eb d, fb f, Blk.arr 6 (xs.map sgC), Blk.arr 1 (byteEs B)] } =
        some (Ex.exit 2, { vals := [AV.sl 4 (rs.map Rf.pv), AV.sl 11 T, AV.sl 11 O, AV.int .i64 tm, AV.sl 1 (byteEs B')], blks := [src L k', eb e, eb d, fb f, Blk.arr 6 (xs'.map sgC)] }) := by
  intro m
  induction m with
  | zero =>
    intro j hj k xs B hk h1 h2 h3 h4
    refine ⟨k, xs, B, hk, by omega, by omega, h3, h4, ?_⟩
    rw [r3_2, ltF (by omega)]
    rfl
  | succ m ih =>
    intro j hj k xs B hk h1 h2 h3 h4
    rw [r3_2, ltT (by omega), c_N hL hk 4 (by omega)]
    simp only [SB, Nat.reduceAdd]
    have hk1 := at'_le hL hk
    cases h : vN L k 4 == 3 with
    | true =>
      simp only [SB, Nat.reduceAdd]
      rw [w64 (n := (j : Int) + 1) (by omega), show ((j : Int) + 1) = ((j + 1 : Nat) : Int) by omega]
      exact ih (j + 1) (by omega) _ xs B hk1 (by omega) (by omega) h3 h4
    | false =>
      simp only [SB, Nat.reduceAdd]
      obtain ⟨g, k2, g1, g2, g3, g4⟩ := c_Fix hL hk1 htm.1
      obtain ⟨_, _, hnear, he1, he2⟩ := g3
      have hv : valS ⟨1, (j : Int), tm, g.2.1, g.2.2.1, g.2.2.2⟩ = true := by
        obtain ⟨n1, n2, n3, n4⟩ := hnear
        exact val1 (by omega) (by omega) (by omega) (by omega) (by omega)
      obtain ⟨b1, b2, b3, _, _, _⟩ := bts_ok hv
      have hW := c_Write ⟨1, (j : Int), tm, g.2.1, g.2.2.1, g.2.2.2⟩
      rw [wrP_ok hv] at hW
      have hF := c_Format (wr ⟨1, (j : Int), tm, g.2.1, g.2.2.1, g.2.2.2⟩) (by omega)
      rw [b3] at hF
      rw [g4]
      simp only [SB, Nat.reduceAdd]
      have hle1 : leN (((xs.map sgC).length + 1) * 48) 140737488355328 = true := by
        rw [List.length_map]
        exact decide_eq_true (by omega)
      rw [hle1]
      simp only [SB, Nat.reduceAdd]
      rw [hW]
      simp only [SB, Nat.reduceAdd]
      rw [hF]
      simp only [SB, Nat.reduceAdd]
      rw [show ((0 : Int) != 0) = false from rfl]
      simp only [SB, Nat.reduceAdd]
      rw [c_N hL g1 3 (by omega)]
      simp only [SB, Nat.reduceAdd]
      have hb := vN_bounds (L := L) (k := k2) (n := 3) (by omega)
      obtain ⟨q, hq⟩ : ∃ q : Nat, vN L k2 3 = q := ⟨(vN L k2 3).toNat, by omega⟩
      have happ : xs.map sgC ++ [[PV.int .i64 1, PV.int .i64 (j : Int), PV.int .i64 tm, PV.int .i64 g.2.1, PV.int .i64 g.2.2.1, PV.int .i64 g.2.2.2]] = (xs ++ [(⟨1, (j : Int), tm, g.2.1, g.2.2.1, g.2.2.2⟩ : Sig)]).map sgC := by rw [List.map_append]; rfl
      rw [hq, happ]
      obtain ⟨s, k3, s1, s2, s3, s4⟩ := l_tgarb hL (rs.map Rf.pv) T O (byteEs (bts ⟨1, (j : Int), tm, g.2.1, g.2.2.1, g.2.2.2⟩)) ((xs ++ [(⟨1, (j : Int), tm, g.2.1, g.2.2.1, g.2.2.2⟩ : Sig)]).map sgC) tm (rs.length : Nat) (j : Nat) e d f q (at' L k2) B (at'_le hL g1) (by omega) (by omega)
      rw [s4]
      simp only [SB, Nat.reduceAdd]
      have hle2 : leN (((byteEs (B ++ s)).length + (byteEs (bts ⟨1, (j : Int), tm, g.2.1, g.2.2.1, g.2.2.2⟩)).length) * 1) 140737488355328 = true := by
        rw [byteEs_length, byteEs_length]
        refine decide_eq_true ?_
        simp only [List.length_append]
        omega
      rw [hle2]
      simp only [SB, Nat.reduceAdd]
      rw [← byteEs_app, w64 (n := (j : Int) + 1) (by omega), show ((j : Int) + 1) = ((j + 1 : Nat) : Int) by omega]
      refine ih (j + 1) (by omega) k3 _ _ s3 (by simp; omega) (by simp only [List.length_append]; omega) (fun x hx => ?_) (h4.add s2 hv)
      rcases List.mem_append.1 hx with hx | hx
      · exact h3 x hx
      · rw [List.mem_singleton.1 hx]
        exact ⟨⟨rfl, rfl, by show (0 : Int) ≤ (j : Int); omega, by show (j : Int) < (rs.length : Nat); omega, hnear, he1, he2⟩, hv⟩

theorem l_rd (ys : List Sig) (hy : ∀ y ∈ ys, valS y = true) (hl : ys.length ≤ 1000) (R T O b W : List (List PV)) (tm : Int) (e d : Es) (f : List UInt8) (B0 : List (List PV)) (q : Int) : ∀ (m j : Nat), j + m = ys.length → ∀ (rd : List Sig), rd.length + m ≤ 5000 →
    lp E (denC E) 3 0 [] 8 { vals := [AV.sl 4 R, AV.sl 11 T, AV.sl 11 O, AV.int .i64 tm, AV.sl 1 b, AV.sl 1 (fldK (ys.map wr)), AV.int .i64 (ys.length : Nat), AV.int .i64 (j : Nat)], blks := [Blk.box [AV.sl 1 B0, AV.int .i64 q], eb e, eb d, fb f, Blk.arr 6 W, Blk.arr 6 (rd.map sgC)] } =
      some (Ex.exit 8, { vals := [AV.sl 4 R, AV.sl 11 T, AV.sl 11 O, AV.int .i64 tm, AV.sl 1 b], blks := [Blk.box [AV.sl 1 B0, AV.int .i64 q], eb e, eb d, fb f, Blk.arr 6 W, Blk.arr 6 ((rd ++ ys.drop j).map sgC)] }) := by
  intro m
  induction m with
  | zero =>
    intro j hj rd hrd
    rw [r3_8, ltF (by omega), List.drop_of_length_le (by omega), List.append_nil]
    rfl
  | succ m ih =>
    intro j hj rd hrd
    obtain ⟨y, hyj⟩ : ∃ y, ys[j]? = some y := ⟨_, List.getElem?_eq_getElem (by omega)⟩
    have hv := hy y (List.mem_of_getElem? hyj)
    obtain ⟨_, b2, _, _, b5, b6⟩ := bts_ok hv
    have hR := c_Read (wr y) (by omega) b5
    rw [b6] at hR
    have hg : (fldK (ys.map wr))[j]? = some [PV.sl 1 (strsK (wr y))] := by
      unfold fldK
      rw [List.getElem?_map, List.getElem?_map, hyj]
      rfl
    rw [r3_8, ltT (by omega), getE_at hg]
    simp only [SB, Nat.reduceAdd]
    rw [hR]
    simp only [rdR, SB, Nat.reduceAdd]
    have hle1 : leN (((rd.map sgC).length + 1) * 48) 140737488355328 = true := by
      rw [List.length_map]
      exact decide_eq_true (by omega)
    have happ : rd.map sgC ++ [[PV.int .i64 y.k, PV.int .i64 y.s, PV.int .i64 y.t, PV.int .i64 y.a, PV.int .i64 y.b, PV.int .i64 y.c]] = (rd ++ [y]).map sgC := by rw [List.map_append]; rfl
    rw [show ((0 : Int) == 0) = true from rfl, hle1]
    simp only [SB, Nat.reduceAdd]
    rw [happ, w64 (n := (j : Int) + 1) (by omega), show ((j : Int) + 1) = ((j + 1 : Nat) : Int) by omega, ih (j + 1) (by omega) (rd ++ [y]) (by simp; omega)]
    have hd : ys.drop j = y :: ys.drop (j + 1) := by
      obtain ⟨h1, h2⟩ := List.getElem?_eq_some_iff.1 hyj
      rw [List.drop_eq_getElem_cons h1, h2]
    rw [hd, List.append_assoc]
    rfl

abbrev cu0 : Cu := ⟨[], 0, [], 0⟩
theorem gd0 (B : List UInt8) : Gd (run cu0 B).rest := Gd.run (.inl rfl)
theorem cut_lo (s : List UInt8) (k : Nat) : cutI (byteEs s) 0 (k : Int) = byteEs (s.take k) := by
  unfold cutI byteEs
  simp [List.map_take]
theorem cut_hi (s : List UInt8) (k : Nat) : cutI (byteEs s) (k : Int) ((byteEs s).length : Int) = byteEs (s.drop k) := by
  unfold cutI
  rw [Int.toNat_natCast, Int.toNat_natCast, List.take_length]
  unfold byteEs
  rw [List.map_drop]

theorem l_pcs {L : List Int} (hL : L.length ≤ 600) (R T O W : List (List PV)) (tm : Int) (e d : Es) (B : List UInt8) (hB : B.length ≤ 1000) (xs : List Sig) (hx : ∀ x ∈ xs, valS x = true) (hxl : xs.length ≤ 8) (hR : Rn B xs) : ∀ (n : Nat) (P Q : List UInt8), Q.length ≤ n → P ++ Q = B → ∀ (rd zs : List Sig), (run cu0 P).ss = rd.map wr → xs = rd ++ zs → ∀ k : Nat, k ≤ 600 →
    ∃ k' : Nat, k' ≤ 600 ∧ lp E (denC E) 3 0 [] 6 { vals := [AV.sl 4 R, AV.sl 11 T, AV.sl 11 O, AV.int .i64 tm, AV.sl 1 (byteEs Q)], blks := [src L k, eb e, eb d, fb (run cu0 P).rest, Blk.arr 6 W, Blk.arr 6 (rd.map sgC)] } =
      some (Ex.exit 6, { vals := [AV.sl 4 R, AV.sl 11 T, AV.sl 11 O, AV.int .i64 tm], blks := [src L k', eb e, eb d, fb [], Blk.arr 6 W, Blk.arr 6 (xs.map sgC)] }) := by
  have fin : ∀ (P Q : List UInt8), Q = [] → P ++ Q = B → ∀ (rd zs : List Sig), (run cu0 P).ss = rd.map wr → xs = rd ++ zs → ∀ k : Nat, k ≤ 600 →
      ∃ k' : Nat, k' ≤ 600 ∧ lp E (denC E) 3 0 [] 6 { vals := [AV.sl 4 R, AV.sl 11 T, AV.sl 11 O, AV.int .i64 tm, AV.sl 1 (byteEs Q)], blks := [src L k, eb e, eb d, fb (run cu0 P).rest, Blk.arr 6 W, Blk.arr 6 (rd.map sgC)] } =
      some (Ex.exit 6, { vals := [AV.sl 4 R, AV.sl 11 T, AV.sl 11 O, AV.int .i64 tm], blks := [src L k', eb e, eb d, fb [], Blk.arr 6 W, Blk.arr 6 (xs.map sgC)] }) := by
    intro P Q hQ hPQ rd zs h1 h2 k hk
    subst hQ
    rw [List.append_nil] at hPQ
    subst hPQ
    obtain ⟨g1, g2, g3⟩ := hR
    have hz : zs = [] := by
      have := h1.symm.trans g3
      rw [h2, List.map_append] at this
      have := congrArg List.length this
      simp at this
      exact List.length_eq_zero_iff.1 (by simpa using this)
    subst hz
    rw [List.append_nil] at h2
    subst h2
    refine ⟨k, hk, ?_⟩
    rw [r3_6, byteEs_length, ltF (by simp), g1]
    rfl
  intro n
  induction n with
  | zero =>
    intro P Q hn hPQ
    exact fin P Q (List.length_eq_zero_iff.1 (by omega)) hPQ
  | succ n ih =>
    intro P Q hn hPQ rd zs h1 h2 k hk
    by_cases hQ : Q = []
    · exact fin P Q hQ hPQ rd zs h1 h2 k hk
    · have hQl : 0 < Q.length := List.length_pos_iff.2 hQ
      have hBl : P.length + Q.length ≤ 1000 := by
        rw [← hPQ, List.length_append] at hB
        exact hB
      have hmn : 1 ≤ minI 25 (Q.length : Int) ∧ minI 25 (Q.length : Int) ≤ Q.length := by unfold minI; split <;> omega
      have hb := vN_bounds (L := L) (k := k) (n := minI 25 (Q.length : Int)) (by omega)
      obtain ⟨v, hv⟩ : ∃ v : Nat, vN L k (minI 25 (Q.length : Int)) = v := ⟨(vN L k (minI 25 (Q.length : Int))).toNat, by omega⟩
      rw [hv] at hb
      have hrl : (run cu0 P).rest.length ≤ 100000 := by
        have := gd0 P
        rcases this with h | h
        · rw [h]
          simp
        · have := (bg_len h).1
          omega
      have hF := c_SFeed (run cu0 P).rest (Q.take (v + 1)) hrl (by simp; omega)
      obtain ⟨p1, p2⟩ := pieces (run cu0 P) (gd0 P) (Q.take (v + 1))
      rw [p1] at hF
      rw [← run_app] at hF p2
      -- what is found is the next signals
      obtain ⟨ys, zs', hz, hys⟩ : ∃ ys zs' : List Sig, zs = ys ++ zs' ∧ (run (ini (run cu0 P).rest) (Q.take (v + 1))).ss = ys.map wr := by
        obtain ⟨_, q2⟩ := pieces (run cu0 (P ++ Q.take (v + 1))) (gd0 _) (Q.drop (v + 1))
        rw [← run_app, List.append_assoc, List.take_append_drop, hPQ, p2, h1] at q2
        have g3 := hR.2.2
        rw [g3, h2, List.map_append, List.append_assoc] at q2
        have q3 := List.append_cancel_left q2
        obtain ⟨ys, zs', e1, e2, e3⟩ := List.map_eq_append_iff.1 q3
        exact ⟨ys, zs', e1, e2.symm⟩
      rw [hys] at hF p2
      rw [h1, ← List.map_append] at p2
      obtain ⟨k', k1, k2⟩ := ih (P ++ Q.take (v + 1)) (Q.drop (v + 1)) (by simp; omega) (by rw [List.append_assoc, List.take_append_drop, hPQ]) (rd ++ ys) zs' p2 (by rw [h2, hz, List.append_assoc]) (at' L k) (at'_le hL hk)
      have hxl2 : rd.length + ys.length ≤ 8 := by
        rw [h2, hz] at hxl
        simp only [List.length_append] at hxl
        omega
      have hR2 := l_rd ys (fun y hy => hx y (by rw [h2, hz]; simp [hy])) (by omega) R T O (byteEs (Q.drop (v + 1))) W tm e d (run cu0 (P ++ Q.take (v + 1))).rest (intsK .i64 L) (at' L k) ys.length 0 (by omega) rd (by omega)
      rw [show (((0 : Nat) : Int)) = 0 from rfl, List.drop_zero] at hR2
      refine ⟨k', k1, ?_⟩
      have hlen := byteEs_length Q
      rw [r3_6, hlen, ltT (by omega), c_N hL hk _ (by omega)]
      simp only [SB, Nat.reduceAdd]
      rw [hv, w64 (n := 1 + (v : Int)) (by omega), show (1 + (v : Int)) = ((v + 1 : Nat) : Int) by omega, leT (by omega : (0 : Int) ≤ ((v + 1 : Nat) : Int)), leT (by omega : ((v + 1 : Nat) : Int) ≤ (Q.length : Int)), leT (Int.le_refl (Q.length : Int))]
      simp only [SB, Nat.reduceAdd]
      rw [cut_lo, hF]
      simp only [SB, Nat.reduceAdd]
      have hcut := cut_hi Q (v + 1)
      rw [hlen] at hcut
      rw [hcut, fldK_length, List.length_map, hR2]
      simp only [SB, Nat.reduceAdd]
      exact k2

theorem EsOk.mono {a b : Int} {e : Es} (h : EsOk a e) (hab : a ≤ b) : EsOk b e := ⟨h.1, h.2.1, h.2.2.1, h.2.2.2.1, Int.le_trans h.2.2.2.2 hab⟩

theorem ctl_of {α : Type} {c : Bool} (h : c = true) {a b y : Option α} (h2 : a = y) : ctl c a b = y := by
  rw [h]
  exact h2

theorem l_tick {L : List Int} (hL : L.length ≤ 600) {rs : List Rf} (hr : ∀ r, r ∈ rs → RfOk r) (hl : rs.length ≤ 8) : ∀ (m : Nat) (tm : Int), tm + m = 6 → 1 ≤ tm → ∀ (ts : List Tk) (e : Es) (k : Nat), ts.length = rs.length → (∀ t, t ∈ ts → TkOk tm t) → EsOk tm e → k ≤ 600 →
    lp E (denC E) 3 0 [] 0 { vals := [AV.sl 4 (rs.map Rf.pv), AV.sl 11 (ts.map Tk.pv), AV.sl 11 (ts.map Tk.pv), AV.int .i64 tm], blks := [src L k, eb e, eb e, fb []] } = some (Ex.exit 0, { vals := [], blks := [] }) := by
  intro m
  induction m with
  | zero =>
    intro tm htm _ ts e k _ _ _ _
    rw [r3_0, ltF (by omega)]
    rfl
  | succ m ih =>
    intro tm htm h1 ts e k hts hok he hk
    obtain ⟨k2, xs, B, i1, i2, i3, i4, i5, i6⟩ := l_in hL rs hl (ts.map Tk.pv) (ts.map Tk.pv) (tm := tm) (by omega) e e [] rs.length 0 (by omega) k [] [] hk (by simp) (by simp) (fun x hx => by cases hx) ⟨rfl, rfl, rfl⟩
    rw [show (((0 : Nat) : Int)) = 0 from rfl] at i6
    obtain ⟨k3, j1, j2⟩ := l_pcs hL (rs.map Rf.pv) (ts.map Tk.pv) (ts.map Tk.pv) (xs.map sgC) tm e e B i3 xs (fun x hx => (i4 x hx).2) i2 i5 B.length [] B (Nat.le_refl _) rfl [] xs rfl rfl k2 i1
    obtain ⟨ts', e', ms, cs, tie, s1, s2, s3, s4, s5, s6⟩ := c_Step (tm := tm) (by omega) hr hl hts hok he (fun x hx => (i4 x hx).1) (by omega : xs.length ≤ 1000)
    rw [r3_0, ltT (by omega), List.length_map]
    refine bnd_of i6 ?_
    refine bnd_of j2 ?_
    refine bnd_of s6 ?_
    refine bnd_of s6 ?_
    have hT := c_Tracks (ts := ts') (by omega)
    have hS := c_SameV s4 s5 tie
    have h3 : (!((e'.1 == e'.1 && (e'.2.1 == e'.2.1 && true)) && (e'.2.2.1 == e'.2.2.1 && (e'.2.2.2.1 == e'.2.2.2.1 && (e'.2.2.2.2 == e'.2.2.2.2 && true))))) = false := by simp
    refine ctl_of rfl ?_
    refine bnd_of (x := ctl _ _ _) (a := false) rfl ?_
    refine bnd_of (x := ctl _ _ _) (a := false) ?_ ?_
    · exact ctl_of rfl (bnd_of hT rfl)
    refine bnd_of (x := ctl _ _ _) (a := false) ?_ ?_
    · exact congrArg some h3
    refine bnd_of (x := ctl _ _ _) (a := false) ?_ ?_
    · exact ctl_of rfl (bnd_of hS rfl)
    have hlast := ih (tm + 1) (by omega) (by omega) ts' e' k3 s1 (fun t ht => (s2 t ht).mono (by omega)) (s3.mono (by omega)) j1
    rw [← w64 (n := tm + 1) (by omega)] at hlast
    exact hlast

theorem d_TopTelegrams (t : List Int) (_ : t.length ≤ maxLen) (_ : ∀ n ∈ t, -9223372036854775808 ≤ n ∧ n ≤ 9223372036854775807) :
    denC E 3 [AV.sl 1 (intsK .i64 t)] [] = some ([RV.p (PV.bool true)], []) := by
  rw [denC_eq, r3, c_New]
  simp only [SB, Nat.reduceAdd]
  have hL : (t.take 600).length ≤ 600 := by simp; omega
  obtain ⟨rs, k1, h1, h2, h3, h4⟩ := c_Refs (L := t.take 600) (k := 0) hL (by omega)
  have hN := c_ENew (rs := rs) (by omega) h3
  have hT := l_tick hL h3 (by omega) 5 1 (by omega) (by omega) (List.replicate rs.length tk0) (0, 0, 0, 0, 0) k1 (by simp) (tk0_ok 1 rs.length) ⟨near0, by decide, by decide, by decide, by decide⟩ h1
  rw [src_zero]
  refine bnd_of h4 ?_
  refine bnd_of hN ?_
  refine bnd_of hT ?_
  exact bnd_of c_awake rfl

end Go.Proofs.YtpnpdkgdgfkpfaaGreatDoor.Vm
