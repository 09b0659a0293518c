/- strings.IndexAny of " \n" answers what its row says, at texts with lone bytes that are not ASCII, too. -/
import Derived.Test.YtkpdiagdjplbiaaGreatDoorEnv
import Derived.Test.YtkpdiagdjplbiaaGreatDoorVm35
import Derived.Test.YtkpdiagdjplbiaaGreatDoorShelf
import Derived.Shelf.Strings.IndexAnyAll
import Derived.Lib.OthersKept
import Derived.Laws.RangeAny
import Derived.Lib.MapLaws
import Derived.Scope
import Derived.WalkKit
import Derived.KernelRfl
import Derived.Below
namespace Go.Proofs.YtkpdiagdjplbiaaGreatDoor.Vm
open Go Go.Proofs Go.RowKit
set_option linter.unusedVariables false
set_option linter.unusedSimpArgs false

def SpNl : ByteArray := ⟨#[32, 10]⟩

theorem decode_alone (s : ByteArray) (pos : Nat) (h : pos < s.size) (ha : 128 ≤ (s[pos]'h).toNat) (hn : ∀ h' : pos + 1 < s.size, (s[pos + 1]'(h')).toNat < 128) : Utf8.decode s pos = (65533, 1) := by
  have e0 : ¬ (s.get! (pos + 0)).toNat < 128 := by rw [get_at s pos h]; omega
  have e1 : (decide (pos + 1 < s.size) && (s.get! (pos + 1)).toNat / 64 == 2) = false := by
    by_cases h1 : pos + 1 < s.size
    · have h2 := hn h1
      have : s.get! (pos + 1) = s[pos + 1]'h1 := get_at s (pos + 1) h1
      rw [this]
      have : (s[pos + 1]'h1).toNat / 64 < 2 := by omega
      simp [h1]; omega
    · simp [h1]
  simp only [Utf8.decode, e0, e1, Bool.and_false, Bool.false_and, if_false, Bool.false_eq_true]
  rfl

theorem iterAt_below {B : Nat} {w W : World} (h : Below B w W) (k : Nat) (s : ByteArray) (pos : Nat) (hk : B ≤ k) : Below B w (W.iterAt k s pos) :=
  ⟨h.os, h.tape, h.output, by show w.heap.size ≤ (W.heap.setIfInBounds k _).size; rw [Array.size_setIfInBounds]; exact h.size, fun b hb => by
    show (W.heap.setIfInBounds k _)[b]? = _
    rw [Array.getElem?_setIfInBounds_ne (by omega)]
    exact h.block b hb⟩

theorem iter_below (w : World) (s : ByteArray) (pos : Nat) : Below w.heap.size w (w.iter s pos) := (Below.refl _ w).alloc (Nat.le_refl _) _

set_option maxHeartbeats 4000000 in
set_option maxRecDepth 100000 in
theorem rune_err (w : World) : Calls Tryz.prog 55 #[.string SpNl, .int .i32 65533] w fun e w' => e = .returned (.int .i64 (-1)) ∧ Below w.heap.size w w' := by
  have n0 : ∀ ty, (Instr.next (.pointer (some ⟨w.heap.size, 0, none⟩)) true ty).run Tryz.prog (w.iter SpNl 0) = .ok (.tuple #[.bool true, .int .i64 0, .int .i32 32]) (w.iter SpNl 1) := fun ty => run_next_ascii (P := Tryz.prog) w SpNl 0 ty (by decide) (by decide)
  have n1 : ∀ ty, (Instr.next (.pointer (some ⟨w.heap.size, 0, none⟩)) true ty).run Tryz.prog (w.iter SpNl 1) = .ok (.tuple #[.bool true, .int .i64 1, .int .i32 10]) (w.iter SpNl 2) := fun ty => run_next_ascii (P := Tryz.prog) w SpNl 1 ty (by decide) (by decide)
  have n2 : ∀ ty, (Instr.next (.pointer (some ⟨w.heap.size, 0, none⟩)) true ty).run Tryz.prog (w.iter SpNl 2) = .ok (.tuple #[.bool false]) (w.iter SpNl 2) := fun ty => run_next_end (P := Tryz.prog) w SpNl 2 ty (by decide)
  obtain ⟨S, hS⟩ : ∃ S, SpNl = S := ⟨_, rfl⟩
  rw [hS] at n0 n1 n2 ⊢
  go_enter Tryz.func55, Tryz.ntmps55
  go_wp2
  go_loopg [5, 6] 2 (fun g _ _ wx => ∃ i : Nat, i + g = 2 ∧ wx = w.iter S i)
  case atStart => exact ⟨0, rfl, rfl⟩
  case round =>
    obtain ⟨i, hig, rfl⟩ := hrel
    cases gk with
    | zero =>
      obtain rfl : i = 2 := by omega
      go_wp2
      go_ret
      exact ⟨rfl, iter_below w S 2⟩
    | succ g =>
      have key : i = 0 ∨ i = 1 := by omega
      rcases key with rfl | rfl
      · go_wp2
        go_roundg g
        case measure => omega
        case rel => exact ⟨1, by omega, rfl⟩
      · go_wp2
        go_roundg g
        case measure => omega
        case rel => exact ⟨2, by omega, rfl⟩

theorem valid_rune (r : Int) (h128 : 128 ≤ r) (hv : r < 55296 ∨ 57343 < r) (h3 : r ≤ 1114111) (w : World) : Calls Tryz.prog 75 #[.int .i32 r] w fun e w' => e = .returned (.bool true) ∧ w = w' := by
  have h0 : 0 ≤ r := by omega
  go_enter Tryz.func75, Tryz.ntmps75
  by_cases h : r < 55296
  · go_wp2
    go_ret
    exact ⟨rfl, rfl⟩
  · have h2 : 57343 < r := by omega
    go_wp2
    go_ret
    exact ⟨rfl, rfl⟩

set_option maxHeartbeats 4000000 in
set_option maxRecDepth 100000 in
theorem rune_def (r : Int) (h128 : 128 ≤ r) (hv : r < 55296 ∨ 57343 < r) (h3 : r ≤ 1114111) (hne : r ≠ 65533) (w : World) :
    Calls Tryz.prog 55 #[.string SpNl, .int .i32 r] w fun e w' => e = .returned (.int .i64 (-1)) ∧ Below w.heap.size w w' := by
  have hval : Utf8.valid r = true := by unfold Utf8.valid; simp; omega
  obtain ⟨e1, e2, e3⟩ := encode_facts r hval h128
  have vr := valid_rune r h128 hv h3
  have h0 : 0 ≤ r := by omega
  have hn128 : ¬ r < 128 := by omega
  have hne' : (r == 65533) = false := beq_eq_false_iff_ne.2 hne
  obtain ⟨R, hR⟩ : ∃ R, Utf8.encode r = R := ⟨_, rfl⟩
  rw [hR] at e1 e2 e3
  obtain ⟨m, hm⟩ : ∃ m, R.size = m := ⟨_, rfl⟩
  have hS1 : ∀ W, (Instr.index 9 (.string SpNl) (.int .i64 1)).run Tryz.prog W = .ok (.int .u8 10) W := fun W => rfl
  obtain ⟨S, hS⟩ : ∃ S, SpNl = S := ⟨_, rfl⟩
  have hSn : S.size = 2 := by rw [← hS]; rfl
  rw [hS] at hS1 ⊢
  clear hS
  rw [hm] at e1 e2
  go_enter Tryz.func55, Tryz.ntmps55
  go_wp2_with (go_at_call 75; refine (vr _).mono ?_; rintro e w' ⟨rfl, rfl⟩)
  by_cases hm2 : m = 2
  · subst hm2
    obtain ⟨b, hb, hb2⟩ : ∃ b : Int, (∀ W, (Instr.index 9 (.string R) (.int .i64 1)).run Tryz.prog W = .ok (.int .u8 b) W) ∧ 128 ≤ b := by
      have h1 : R.size - 1 < R.size := by omega
      have h2 := e3 h1
      refine ⟨((R[1]'(by omega)).toNat : Int), fun W => ?_, ?_⟩
      · rw [run_index_string W 9 R .i64 1 rfl, dif_pos (by omega)]
        rfl
      · have : R.size - 1 = 1 := by omega
        simp only [this] at h2
        omega
    have hx : ((10 : Int) != b) = true := bne_iff_ne.2 (by omega)
    have hxb : ((10 : Int) == b) = false := beq_eq_false_iff_ne.2 (by omega)
    have hIx : ∀ W, Calls Tryz.prog 74 #[.string ByteArray.empty, .int .u8 b] W fun e w' => e = .returned (.int .i64 (-1)) ∧ W = w' := fun W =>
      (Any.strings_IndexByte Tryz.lays137 ByteArray.empty b W).mono fun e w' ⟨he, hw⟩ => ⟨he, hw.symm⟩
    clear e3
    go_wp2
    refine wp_scope_straight ?_
    go_wp2
    go_loopg [9, 10] 1 (fun g i f wx => i = .int .i64 1 ∧ f = .int .i64 0 ∧ wx = w)
    case atStart => exact ⟨rfl, rfl, rfl⟩
    case round =>
      obtain ⟨rfl, rfl, rfl⟩ := hrel
      go_wp2
      refine wp_scope_straight ?_
      go_wp2
      go_region
      go_wp2
      go_region_with (go_at_call 74; refine (hIx _).mono ?_; rintro e w' ⟨rfl, rfl⟩)
      all_goals try go_wp2
      all_goals dsimp only [Exit.noGoto, Exit.inBlock, Exit.then]
      all_goals go_ret
      all_goals exact ⟨rfl, by first | exact Below.refl _ _ | exact (Below.refl _ _).drew.drew | exact (Below.refl _ _).drew⟩
  · have hm3 : ¬ ((m : Nat) : Int) - 1 < 2 := by omega
    obtain ⟨q, hq⟩ : ∃ q : Nat, m = q + 1 := ⟨m - 1, by omega⟩
    subst hq
    have hq2 : ¬ ((q : Nat) : Int) < 2 := by omega
    clear e3 hm3
    go_wp2
    refine wp_scope_straight ?_
    go_wp2
    go_loopg [9, 10] 1 (fun g i f wx => i = .int .i64 (q : Nat) ∧ f = .int .i64 0 ∧ wx = w)
    case atStart => exact ⟨rfl, rfl, rfl⟩
    case round =>
      obtain ⟨rfl, rfl, rfl⟩ := hrel
      go_wp2
      dsimp only [Exit.noGoto, Exit.inBlock]
      go_ret
      exact ⟨rfl, Below.refl _ _⟩

theorem rune_any (r : Int) (h128 : 128 ≤ r) (hv : r < 55296 ∨ 57343 < r) (h3 : r ≤ 1114111) (w : World) :
    Calls Tryz.prog 55 #[.string SpNl, .int .i32 r] w fun e w' => e = .returned (.int .i64 (-1)) ∧ Below w.heap.size w w' := by
  by_cases h : r = 65533
  · rw [h]; exact rune_err w
  · exact rune_def r h128 hv h3 h w

theorem noAny_run {s cs : List UInt8} {i : Nat} (h : Lib.NoAny s cs i) : ∀ k, (∀ j, i ≤ j → j < i + k → ∃ b, s[j]? = some b ∧ cs.contains b = false) → Lib.NoAny s cs (i + k)
  | 0, _ => h
  | k + 1, hk => by
    obtain ⟨b, hb, hc⟩ := hk (i + k) (by omega) (by omega)
    exact (noAny_run h k fun j a b => hk j a (by omega)).succ hb hc

theorem decode_high (s : ByteArray) (i : Nat) (h : i < s.size) (hb : 128 ≤ (s[i]'h).toNat) :
    ∃ r k, Utf8.decode s i = (r, k) ∧ 1 ≤ k ∧ i + k ≤ s.size ∧ (∀ j, i ≤ j → j < i + k → ∃ hj : j < s.size, 128 ≤ (s[j]'hj).toNat) ∧ 128 ≤ r ∧ (r < 55296 ∨ 57343 < r) ∧ r ≤ 1114111 := by
  have gat : ∀ j (hj : j < s.size), s.get! j = s[j]'hj := fun j hj => get_at s j hj
  have e0 : (s.get! i).toNat = (s[i]'h).toNat := by rw [gat i h]
  have hi : ∀ m, (s.get! (i + m)).toNat / 64 = 2 → m < s.size - i → ∃ hj : i + m < s.size, 128 ≤ (s[i + m]'hj).toNat := fun m hm hlt => by
    have hj : i + m < s.size := by omega
    rw [gat (i + m) hj] at hm
    exact ⟨hj, by omega⟩
  have one : ∃ hj : i + 0 < s.size, 128 ≤ (s[i + 0]'hj).toNat := ⟨h, hb⟩
  have h1 := (s.get! (i + 1)).toNat_lt
  have h2 := (s.get! (i + 2)).toNat_lt
  have h3 := (s.get! (i + 3)).toNat_lt
  have h0 := (s.get! i).toNat_lt
  have pick : ∀ k, (∀ m, m < k → ∃ hj : i + m < s.size, 128 ≤ (s[i + m]'hj).toNat) → ∀ j, i ≤ j → j < i + k → ∃ hj : j < s.size, 128 ≤ (s[j]'hj).toNat := fun k hk j a b => by
    obtain ⟨m, rfl⟩ : ∃ m, j = i + m := ⟨j - i, by omega⟩
    exact hk m (by omega)
  rw [Lib.decode_at]
  rcases Lib.decodeN_shape (s.size - i) (s.get! i).toNat (s.get! (i + 1)).toNat (s.get! (i + 2)).toNat (s.get! (i + 3)).toNat with ⟨a, _⟩ | ⟨a, b, c, d, e⟩ | ⟨a, b, c, c2, d, d2, e⟩ | ⟨a, b, c, c2, c3, d, d2, e⟩ | e
  · omega
  · refine ⟨_, _, e, by omega, by omega, pick 2 fun m hm => ?_, by omega, by omega, by omega⟩
    match m, hm with
    | 0, _ => exact one
    | 1, _ => exact hi 1 c (by omega)
  · refine ⟨_, _, e, by omega, by omega, pick 3 fun m hm => ?_, by omega, by omega, by omega⟩
    match m, hm with
    | 0, _ => exact one
    | 1, _ => exact hi 1 c (by omega)
    | 2, _ => exact hi 2 c2 (by omega)
  · refine ⟨_, _, e, by omega, by omega, pick 4 fun m hm => ?_, by omega, by omega, by omega⟩
    match m, hm with
    | 0, _ => exact one
    | 1, _ => exact hi 1 c (by omega)
    | 2, _ => exact hi 2 c2 (by omega)
    | 3, _ => exact hi 3 c3 (by omega)
  · refine ⟨_, _, e, by omega, by omega, pick 1 fun m hm => ?_, by omega, by omega, by omega⟩
    obtain rfl : m = 0 := by omega
    exact one

set_option maxHeartbeats 8000000 in
set_option maxRecDepth 100000 in
theorem idx_short (s : ByteArray) (w : World) (h8 : s.size ≤ 8) :
    Calls Tryz.prog 38 #[.string s, .string SpNl] w fun e w' => e = .returned (.int .i64 (Lib.indexAny s.data.toList SpNl.data.toList)) ∧ Below w.heap.size w w' := by
  have hemp : SpNl.toList.isEmpty = false := by rw [Lib.toList_data]; rfl
  have hsz : SpNl.size = 2 := rfl
  have hcs : ∀ x : UInt8, 128 ≤ x.toNat → SpNl.data.toList.contains x = false := by
    intro x hx
    cases h : SpNl.data.toList.contains x with
    | false => rfl
    | true =>
      have : x = 32 ∨ x = 10 := by simpa [SpNl] using h
      rcases this with rfl | rfl <;> exact absurd hx (by decide)
  have herr := @rune_any
  obtain ⟨C, hC⟩ : ∃ C, SpNl = C := ⟨_, rfl⟩
  rw [hC] at hemp hsz hcs herr ⊢
  clear hC
  have hn1 : ((C.size : Int) == 1) = false := beq_eq_false_iff_ne.2 (by omega)
  have h8z : decide ((8 : Int) < (s.size : Int)) = false := decide_eq_false (by omega)
  go_enter Tryz.func38, Tryz.ntmps38
  go_wp2_with (go_at_call 56; refine (Any.strings_shouldUseASCIISet (P := Tryz.prog) (ρ := Tryz.lays153_ren) { Tryz.lays153 with } _ _).mono ?_; rintro e w' ⟨rfl, hw⟩; rw [hw, h8z])
  go_loopg [9, 10] s.size (fun g _ _ wx => ∃ i : Nat, i + g = s.size ∧ wx.heap[w.heap.size]? = some (.stringIter s i) ∧ Below w.heap.size w wx ∧ Lib.NoAny s.data.toList C.data.toList i)
  case atStart => exact ⟨0, by omega, World.iter_heap w s 0, iter_below w s 0, Lib.NoAny.zero _ _⟩
  case round =>
    obtain ⟨i, hig, hit, hB, hno⟩ := hrel
    have HN : Aside (Lib.NoAny s.data.toList C.data.toList i) := hno
    clear hno
    cases gk with
    | zero =>
      obtain rfl : i = s.size := by omega
      have hnx := fun ty => Lib.run_next_end_at (P := Tryz.prog) wr w.heap.size s s.size ty hit (by omega)
      go_wp2
      go_ret
      exact ⟨by rw [Lib.indexAny_none (by rw [← Lib.size_eq]; exact HN.out)]; rfl, hB⟩
    | succ g =>
      have hi : i < s.size := by omega
      obtain ⟨x, hx⟩ : ∃ x : UInt8, s[i]'hi = x := ⟨_, rfl⟩
      have hxl : s.data.toList[i]? = some x := by rw [← hx]; exact Lib.data_getElem? s i hi
      have Hx : Aside (s.data.toList[i]? = some x) := hxl
      by_cases h128 : x.toNat < 128
      · have hnx := fun ty => Lib.run_next_ascii_at (P := Tryz.prog) wr w.heap.size s i ty hit hi (by rw [hx]; exact h128)
        rw [hx] at hnx
        clear hxl hx
        have hit2 := Lib.iterAt_heap wr w.heap.size s i (i + 1) hit
        have hB2 := iterAt_below hB w.heap.size s (i + 1) (Nat.le_refl _)
        have hcon := Lib.contains_iff_indexByte C.data.toList x
        have hback : ((x.toNat : Int)).toNat.toUInt8 = x := by simp
        cases hin : C.data.toList.contains x
        · rw [hin] at hcon
          have hlt : ¬ ((0 : Int) ≤ Lib.indexByte C.data.toList x) := of_decide_eq_false hcon.symm
          clear hcon
          go_wp2_with (go_at_call 55; refine (Any.strings_IndexRune_ascii (P := Tryz.prog) (ρ := Tryz.lays153_ren) { Tryz.lays153 with } _ _ _ (by omega) (by omega)).mono ?_; rintro e w' ⟨rfl, hw⟩; rw [hw, hback])
          go_roundg g
          case measure => omega
          case rel => exact ⟨i + 1, by omega, hit2, hB2, HN.out.succ Hx.out hin⟩
        · rw [hin] at hcon
          have hge : (0 : Int) ≤ Lib.indexByte C.data.toList x := of_decide_eq_true hcon.symm
          clear hcon
          go_wp2_with (go_at_call 55; refine (Any.strings_IndexRune_ascii (P := Tryz.prog) (ρ := Tryz.lays153_ren) { Tryz.lays153 with } _ _ _ (by omega) (by omega)).mono ?_; rintro e w' ⟨rfl, hw⟩; rw [hw, hback])
          go_ret
          exact ⟨by rw [Lib.indexAny_hit HN.out Hx.out hin]; rfl, hB2⟩
      · obtain ⟨rr, k, hd, hk1, hk2, hk3, hr1, hr2, hr3⟩ := decode_high s i hi (by rw [hx]; omega)
        have hnx : ∀ ty, (Instr.next (.pointer (some ⟨w.heap.size, 0, none⟩)) true ty).run Tryz.prog wr = .ok (.tuple #[.bool true, .int .i64 i, .int .i32 (rr : Int)]) (wr.iterAt w.heap.size s (i + k)) := fun ty => by
          have := Lib.run_next_any_at (P := Tryz.prog) wr w.heap.size s i ty hit hi
          rw [hd] at this
          exact this
        have hN2 : Aside (Lib.NoAny s.data.toList C.data.toList (i + k)) := noAny_run HN.out k fun j h1 h2 => by
          obtain ⟨hj, hb⟩ := hk3 j h1 h2
          exact ⟨s[j]'hj, Lib.data_getElem? s j hj, hcs _ hb⟩
        have hrv := herr (rr : Int) (by omega) (by omega) (by omega)
        clear hxl hx hd hk3 herr
        have hit2 := Lib.iterAt_heap wr w.heap.size s i (i + k) hit
        have hB2 := iterAt_below hB w.heap.size s (i + k) (Nat.le_refl _)
        have hlt := (Array.getElem?_eq_some_iff.1 hit2).1
        go_wp2_with (go_at_call 55; refine (hrv _).mono ?_; rintro e w' ⟨rfl, hB3⟩)
        go_roundg (g + 1 - k)
        case measure => omega
        case rel => exact ⟨i + k, by omega, (hB3.block _ hlt).trans hit2, hB2.trans (hB3.mono hB2.size), hN2.out⟩

theorem idxAny_eq : ∀ s cs : List UInt8, Lib.indexAny s cs = idxAny s cs
  | [], _ => rfl
  | b :: l, cs => by
    unfold Lib.indexAny idxAny
    rw [idxAny_eq l cs]

theorem s_pIndexAny : ∀ args rs, pIndexAny args = some rs → FOk E 38 args [] rs [] := by
  intro args rs h
  unfold pIndexAny at h
  split at h
  · rename_i s cs
    split at h
    · rename_i hc
      cases h
      simp only [Bool.and_eq_true, beq_iff_eq] at hc
      obtain ⟨h1, h3⟩ := hc
      subst h1
      have h3 := Nat.le_of_ble_eq_true h3
      refine prim_ok rfl fun C hok us hv => ?_
      obtain ⟨u, v, rfl, g1, g2⟩ := two_args hv
      rw [vp_str g1, vp_str g2]
      have key : Calls Tryz.prog 38 #[.string ⟨s.toArray⟩, .string SpNl] C.w fun e w' => e = .returned (.int .i64 (Lib.indexAny s SpNl.data.toList)) ∧ Below C.w.heap.size C.w w' := by
        rcases Nat.lt_or_ge 8 s.length with h8 | h8
        · have z := zero_of_info (P := Tryz.prog) (t := Tryz.lays153_ren.t 116) (show (Tryz.prog.info? (Tryz.lays153_ren.t 116)).map (fun i => (i.zero, i.size)) = some (some (.agg (Array.replicate 256 (.bool false))), 256) by kernel_rfl)
          refine (Any.strings_IndexAny_long Tryz.lays153 z.1 z.2 ⟨s.toArray⟩ SpNl C.w (by decide) h8 (by show s.length < _; omega) (by decide) (fun j b hb => ?_)).mono ?_
          · match j, hb with
            | 0, hb => cases hb; decide
            | 1, hb => cases hb; decide
            | j + 2, hb => simp [SpNl] at hb
          · rintro e w' ⟨h1, h2⟩
            refine ⟨h1, ?_⟩
            rw [h2]
            exact ((Below.refl _ _).alloc (Nat.le_refl _) _).alloc (by simp) _
        · exact idx_short ⟨s.toArray⟩ C.w h8
      refine key.mono fun e w' ⟨he, hw⟩ => ?_
      subst he
      refine ⟨_, rfl, Grow.of_below hw, ?_⟩
      rw [idxAny_eq]
      exact .int _ _
    · cases h
  · cases h

end Go.Proofs.YtkpdiagdjplbiaaGreatDoor.Vm
