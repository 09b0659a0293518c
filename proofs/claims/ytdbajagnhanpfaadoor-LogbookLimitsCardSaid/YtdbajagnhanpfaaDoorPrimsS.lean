import Derived.Lib.Walk
import Derived.Lib.ItoaMem
import Derived.WalkKit
import Derived.BigCall
import Derived.BigGuard
import Derived.Test.YtdbajagnhanpfaaDoorShelf
import Derived.Test.YtdbajagnhanpfaaDoorEnv
import Derived.Test.YtdbajagnhanpfaaDoorVm33
import Derived.Test.YtdbajagnhanpfaaDoorVm34
import Derived.Test.YtdbajagnhanpfaaDoorVm35
import Derived.Test.YtdbajagnhanpfaaDoorAtS
import Derived.Test.YtdbajagnhanpfaaDoorBookS
import Derived.Test.YtdbajagnhanpfaaDoorDegrS
import Derived.Test.YtdbajagnhanpfaaDoorAppS
import Derived.Test.YtdbajagnhanpfaaDoorLimS
import Derived.KernelRfl
import Derived.Below
/- strconv.FormatUint at base 10, for every uint64. -/
namespace Go.Proofs.YtdbajagnhanpfaaDoor
open Go Go.Proofs Go.Shelf Go.RowKit Go.Sort Go.Lib

def bt (b : UInt8) : Value := Value.int .u8 (b.toNat : Int)
theorem holds_zero0 (w : World) (T : TypeId) (nd : Nat) (hs : nd ≤ 24) : Holds (fun (b : UInt8) => Value.int .u8 (b.toNat : Int)) (w.alloc (.cells zeros24 T)) w.heap.size 0 (Array.replicate nd (0 : UInt8)) := fun j hj => by
  have hj' : j < nd := by simpa using hj
  refine ⟨?_, World.frozen?_alloc_new _ _ _ _⟩
  rw [World.cell?_alloc_new, zeros24_at _ (by omega), getElem!_pos _ j hj]
  simp
theorem fin0 (w : World) (o : Obj) (dk : Array UInt8) (k : Nat) : ∃ os, (putRow (fun (b : UInt8) => Value.int .u8 (b.toNat : Int)) (w.alloc o) w.heap.size 0 dk).drewN k = grow (w.drewN k) os := by
  rw [alloc_eq_grow]
  obtain ⟨os', _, e⟩ := putRow_grow_new (fun (b : UInt8) => Value.int .u8 (b.toNat : Int)) w #[o] w.heap.size 0 dk (Nat.le_refl _)
  exact ⟨os', by rw [e]; rfl⟩

set_option maxHeartbeats 6400000 in
set_option maxRecDepth 100000 in
theorem fmtU (u : Nat) (hu : u < 18446744073709551616) (w : World) (htab : Lib.TabIs Tryd.prog w "internal/strconv.uint64pow10" .u64 Lib.pow10Tab) :
    Calls Tryd.prog 71 #[.int .u64 u, .int .i64 10] w fun e w' => e = .returned (.string ⟨(Lib.decDigits u).toArray⟩) ∧ ∃ k os, w' = grow (w.drewN k) os := by
  by_cases hs : u < 100
  · go_enter Tryd.func71, Tryd.ntmps71
    have hw : IntKind.i64.wrap (u : Int) = u := by rw [IntKind.wrap_i64]; omega
    go_wp2_with (go_at_call 74; refine (Any.internal_strconv_small (P := Tryd.prog) (ρ := Tryd.lays171_ren) { Tryd.lays171 with } u hs _).mono ?_; rintro e w' ⟨rfl, rfl⟩)
    go_ret
    exact ⟨rfl, 0, #[], by simp [World.drewN_zero]⟩
  · have hu1 : 1 ≤ u := by omega
    have hnd20 : Lib.nDigits u ≤ 20 := by have := Lib.numDigits_eq u hu1 hu; split at this <;> omega
    have hal : Tryd.prog.arrayLen 106 = 24 := by kernel_rfl
    have hsl : ∀ W, (Instr.sliceAt 106 (.pointer (some ⟨w.heap.size, 0, none⟩)) none (some (.int .i64 (Lib.nDigits u : Int))) none).run Tryd.prog W = .ok (.slice (some ⟨w.heap.size, 0, none⟩) (Lib.nDigits u) 24) W := fun W => by
      rw [run_sliceAt_array_h W 106 ⟨w.heap.size, 0, none⟩ (by simp [Program.arrayLen, Program.elem, Tryd.underlying106]) .i64 (Lib.nDigits u : Int) (by omega) (by rw [hal]; omega)]
      rw [hal]
      rfl
    have hH0 := holds_zero0 w 106 (Lib.nDigits u) (by omega)
    have hfmt := Any.internal_strconv_formatBase10 (P := Tryd.prog) (ρ := Tryd.lays171_ren) { Tryd.lays171 with } w.heap.size 0 24 u (Array.replicate (Lib.nDigits u) 0) (w.alloc (.cells Lib.zeros24 106)) hH0 (by rw [Array.size_replicate]; exact Lib.lt_pow_nDigits u) hu (by rw [Array.size_replicate]; omega)
    rw [Array.size_replicate] at hfmt
    have HH0 := Lib.hid hH0
    clear hH0 hal
    go_enter Tryd.func71, Tryd.ntmps71
    go_wp2_with (first
      | (go_at_call 75; refine (Any.internal_strconv_numDigits (P := Tryd.prog) (ρ := Tryd.lays171_ren) { Tryd.lays171 with } u hu1 hu _ (Lib.tabIs_alloc htab _)).mono ?_; rintro e w' ⟨rfl, rfl⟩))
    go_at_call 76
    refine hfmt.mono ?_
    rintro e w' ⟨rfl, k, v', dk, rfl, hF⟩
    have hcv : (convert 77 9 (.slice (some ⟨w.heap.size, 0, none⟩) (Lib.nDigits u) 24)).run Tryd.prog ((putRow (fun (b : UInt8) => Value.int .u8 (b.toNat : Int)) (w.alloc (.cells Lib.zeros24 106)) w.heap.size 0 dk).drewN k) = .ok (.string ⟨(Lib.decDigits u).toArray⟩) ((putRow (fun (b : UInt8) => Value.int .u8 (b.toNat : Int)) (w.alloc (.cells Lib.zeros24 106)) w.heap.size 0 dk).drewN k) := by
      have h := run_convert_bytes_back (P := Tryd.prog) ((putRow (fun (b : UInt8) => Value.int .u8 (b.toNat : Int)) (w.alloc (.cells Lib.zeros24 106)) w.heap.size 0 dk).drewN k) 77 9 5 ⟨w.heap.size, 0, none⟩ 24 (Lib.decDigits u) Tryd.underlying77 Tryd.underlying5 Tryd.underlying9 (fun j hj => by
        rw [Lib.row_is_numeral hF j hj, Lib.add_plain, World.cell?_drewN]
        exact cell?_putRow (fun (b : UInt8) => Value.int .u8 (b.toNat : Int)) _ w.heap.size 0 _ dk HH0.out (by rw [hF.size, Array.size_replicate]) j (by rw [hF.size]; rw [Lib.decDigits_length] at hj; exact hj))
      rw [Lib.decDigits_length] at h
      exact h
    go_wp2
    go_ret
    obtain ⟨os, eo⟩ := fin0 w (.cells Lib.zeros24 106) dk k
    exact ⟨rfl, k, os, eo⟩

set_option maxHeartbeats 1000000 in
set_option maxRecDepth 100000 in
theorem fmtUint (u : Nat) (hu : u < 18446744073709551616) (w : World) (htab : Lib.TabIs Tryd.prog w "internal/strconv.uint64pow10" .u64 Lib.pow10Tab) :
    Calls Tryd.prog 65 #[.int .u64 u, .int .i64 10] w fun e w' => e = .returned (.string ⟨(Lib.decDigits u).toArray⟩) ∧ ∃ k os, w' = grow (w.drewN k) os := by
  go_enter Tryd.func65, Tryd.ntmps65
  go_wp2_with (go_at_call 71; refine (fmtU u hu _ htab).mono ?_; rintro e w' ⟨rfl, k, os, rfl⟩)
  go_ret
  exact ⟨rfl, k, os, rfl⟩

end Go.Proofs.YtdbajagnhanpfaaDoor

/- The library's functions answer what their rows say: each contract of the shelf against the row. -/
namespace Go.Proofs.YtdbajagnhanpfaaDoor.Vm
open Go.RowKit
set_option linter.unusedVariables false
set_option linter.unusedSimpArgs false


theorem strsOf_spec : ∀ {es : List (List PV)} {xs : List (List UInt8)}, strsOf es = some xs → es = strsK xs
  | [], xs, h => by cases h; rfl
  | e :: l, xs, h => by
    unfold strsOf at h
    split at h
    · rename_i he; cases he
    · rename_i s l' he
      cases he
      split at h
      · rename_i r hr
        cases h
        rw [strsOf_spec hr]
        rfl
      · cases h
    · cases h

theorem datas : ∀ xs : List (List UInt8), (xs.map fun s => (⟨s.toArray⟩ : ByteArray)).map (·.data.toList) = xs
  | [] => rfl
  | x :: xs => by rw [List.map_cons, List.map_cons, datas xs]

theorem join_calls {C : Ctx} {xs : List (List UInt8)} {sep : List UInt8} {u : Value} (hb1 : xs.length ≤ 140737488355328) (hb2 : (Lib.join xs sep).length ≤ 140737488355328) (h1 : VA C (.t (.p (.sl 1 (strsK xs)))) u) :
    Calls E.P 61 #[u, .string ⟨sep.toArray⟩] C.w fun e w' => ∃ u, e = .returned u ∧ Grow C.w w' ∧ VA (C.setW w') (valOf (rawT 0 [.p (.str (Lib.join xs sep))])) u := by
  have key : ∀ (es : List (List PV)), es = strsK xs → VP C.w C.O (.sl 1 es) u → Calls E.P 61 #[u, .string ⟨sep.toArray⟩] C.w fun e w' => ∃ u, e = .returned u ∧ Grow C.w w' ∧ VA (C.setW w') (valOf (rawT 0 [.p (.str (Lib.join xs sep))])) u := by
    intro es he h
    cases h with
    | sl0 _ a cap =>
      have : xs = [] := by
        cases xs with
        | nil => rfl
        | cons => cases he
      subst this
      refine (Any.strings_Join_none Tryd.lays156 Tryd.extra156 a cap ⟨sep.toArray⟩ C.w).mono fun e w' ⟨he, hw⟩ => ?_
      subst he hw
      exact ⟨_, rfl, Grow.refl _, .str []⟩
    | sl _ _ b off cap f hb hO hc hz hcell hvp =>
      obtain ⟨bs, hbs⟩ : ∃ bs : List ByteArray, bs = xs.map fun s => (⟨s.toArray⟩ : ByteArray) := ⟨_, rfl⟩
      have hd : bs.map (·.data.toList) = xs := by rw [hbs]; exact datas xs
      have hlen : es.length = bs.length := by rw [he, hbs]; simp [strsK]
      have hxl : xs.length = bs.length := by rw [hbs]; simp
      rw [hlen]
      refine (Any.strings_Join Tryd.lays156 Tryd.extra156 b off cap bs ⟨sep.toArray⟩ C.w (fun j y hj => ?_) hb (by omega) (by omega) (by rw [hd]; exact hb2)).mono fun e w' ⟨he, hw⟩ => ?_
      · rw [hbs, List.getElem?_map] at hj
        obtain ⟨s, hs, rfl⟩ := Option.map_eq_some_iff.1 hj
        have hes : es[j]? = some [.str s] := by rw [he]; unfold strsK; rw [List.getElem?_map, hs]; rfl
        have h1 := hcell j 0 [.str s] (.str s) hes rfl
        have h2 := hvp j 0 [.str s] (.str s) hes rfl
        generalize f j 0 = y at h1 h2
        cases h2
        simp only [Nat.mul_one, Nat.add_zero] at h1
        exact h1
      · subst he
        rw [hd]
        exact ⟨_, rfl, Grow.of_below hw, .str _⟩
  exact key _ rfl h1

theorem s_pJoin : ∀ args rs, pJoin args = some rs → FOk E 61 args [] rs [] := by
  intro args rs h
  unfold pJoin at h
  split at h
  · rename_i es sep
    split at h
    · rename_i xs hxs
      split at h
      · rename_i hb
        cases h
        have he := strsOf_spec hxs
        subst he
        refine prim_ok rfl fun C hok us hv => ?_
        obtain ⟨u, v, rfl, h1, h2⟩ := two_args hv
        rw [vp_str h2]
        exact join_calls hb.1 hb.2 h1
      · cases h
    · cases h
  · cases h

theorem g_pow {C : Ctx} (g : GrOk C) : Lib.TabIs Tryd.prog C.w "internal/strconv.uint64pow10" .u64 Lib.pow10Tab := by
  obtain ⟨e, fr, h⟩ := gPow_of g.at_
  have h : (if gPow < nG then C.w.heap[gPow]? else none) = _ := h
  rw [if_pos (by decide)] at h
  unfold Lib.TabIs World.var?
  rw [show Tryd.prog.globalNamed "internal/strconv.uint64pow10" = some gPow by kernel_rfl]
  show (match C.w.heap[gPow]? with | some (.cells cs _ _) => some cs | _ => none) = _
  rw [h]

theorem grow_drewN (w : World) (k : Nat) (os : Array Obj) : Grow w (Go.Sort.grow (w.drewN k) os) :=
  ⟨rfl, rfl, rfl, by show w.heap.size ≤ (w.heap ++ os).size; simp, fun b hb => by show (w.heap ++ os)[b]? = _; rw [Array.getElem?_append_left hb]⟩

theorem s_pItoa : ∀ args rs, pItoa args = some rs → FOk E 59 args [] rs [] := by
  intro args rs h
  unfold pItoa at h
  split at h
  · rename_i n
    split at h
    · rename_i hn
      cases h
      refine prim_ok rfl fun C hok us hv => ?_
      obtain ⟨u, rfl, h1⟩ := one_arg hv
      rw [vp_int h1]
      refine (Any.strconv_Itoa Tryd.lays171 n hn.1 hn.2 C.w (g_pow hok.gr)).mono fun e w' ⟨he, k, os, hw⟩ => ?_
      subst he hw
      exact ⟨_, rfl, grow_drewN _ _ _, .str _⟩
    · cases h
  · cases h

theorem s_pFormatUint : ∀ args rs, pFormatUint args = some rs → FOk E 65 args [] rs [] := by
  intro args rs h
  unfold pFormatUint at h
  split at h
  · rename_i n
    split at h
    · rename_i hn
      cases h
      refine prim_ok rfl fun C hok us hv => ?_
      obtain ⟨u, v, rfl, h1, h2⟩ := two_args hv
      rw [vp_int h1, vp_int h2]
      obtain ⟨m, rfl⟩ : ∃ m : Nat, n = m := ⟨n.toNat, by omega⟩
      refine (fmtUint m (by omega) C.w (g_pow hok.gr)).mono fun e w' ⟨he, k, os, hw⟩ => ?_
      subst he hw
      rw [Lib.itoa_nonneg]
      exact ⟨_, rfl, grow_drewN _ _ _, .str _⟩
    · cases h
  · cases h

theorem hprOk : HprOk E := fun g k h => by cases h

theorem primsOk : PrimsOk E := by
  refine ⟨?_, hprOk⟩
  intro f p h
  have h : findP f [(3, hLim 7 8 9 10 11), (10, hAppend 19 25 36 38 40 39), (27, hBook 19 40 52), (31, hDegr 15), (42, .pure pAt), (59, .pure pItoa), (61, .pure pJoin), (65, .pure pFormatUint)] = some p := h
  simp only [findP] at h
  cases hf3 : Nat.beq f 3 with
  | true => rw [hf3, cond_true] at h; cases h; rw [Nat.eq_of_beq_eq_true hf3]; exact s_hLim
  | false =>
  rw [hf3, cond_false] at h
  cases hf10 : Nat.beq f 10 with
  | true => rw [hf10, cond_true] at h; cases h; rw [Nat.eq_of_beq_eq_true hf10]; exact s_hAppend
  | false =>
  rw [hf10, cond_false] at h
  cases hf27 : Nat.beq f 27 with
  | true => rw [hf27, cond_true] at h; cases h; rw [Nat.eq_of_beq_eq_true hf27]; exact s_hBook
  | false =>
  rw [hf27, cond_false] at h
  cases hf31 : Nat.beq f 31 with
  | true => rw [hf31, cond_true] at h; cases h; rw [Nat.eq_of_beq_eq_true hf31]; exact s_hDegr
  | false =>
  rw [hf31, cond_false] at h
  cases hf42 : Nat.beq f 42 with
  | true => rw [hf42, cond_true] at h; cases h; rw [Nat.eq_of_beq_eq_true hf42]; exact fun _ _ => s_pAt
  | false =>
  rw [hf42, cond_false] at h
  cases hf59 : Nat.beq f 59 with
  | true => rw [hf59, cond_true] at h; cases h; rw [Nat.eq_of_beq_eq_true hf59]; exact fun _ _ => s_pItoa
  | false =>
  rw [hf59, cond_false] at h
  cases hf61 : Nat.beq f 61 with
  | true => rw [hf61, cond_true] at h; cases h; rw [Nat.eq_of_beq_eq_true hf61]; exact fun _ _ => s_pJoin
  | false =>
  rw [hf61, cond_false] at h
  cases hf65 : Nat.beq f 65 with
  | true => rw [hf65, cond_true] at h; cases h; rw [Nat.eq_of_beq_eq_true hf65]; exact fun _ _ => s_pFormatUint
  | false =>
  rw [hf65, cond_false] at h
  cases h

end Go.Proofs.YtdbajagnhanpfaaDoor.Vm
