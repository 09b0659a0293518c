/- The library's functions answer what their rows say: each contract of the shelf against the row. -/
import Derived.Test.YtmlhemkadoadaaaDoorEnv
import Derived.Test.YtmlhemkadoadaaaDoorVm33
import Derived.Test.YtmlhemkadoadaaaDoorVm34
import Derived.Test.YtmlhemkadoadaaaDoorShelf
import Derived.KernelRfl
import Derived.Below
namespace Go.Proofs.YtmlhemkadoadaaaDoor.Vm
open Go.RowKit
set_option linter.unusedVariables false
set_option linter.unusedSimpArgs false

theorem ext_grow (C : Ctx) {w : World} (hg : Grow C.w w) : Ext C (C.setW w) where
  tape := hg.tape
  os := hg.os
  out := hg.out
  size := hg.size
  X := rfl
  keep b hb _ := hg.keep b hb
  own _ _ h := h
  ent id h := ⟨h, fun b hb => ⟨b, hb, rfl, like_refl _⟩⟩
  row b carr e fr _ h := ⟨carr, fr, by show w.heap[b]? = _; rw [hg.keep b (Array.getElem?_eq_some_iff.1 h).1]; exact h, rfl⟩

theorem ok_grow {C : Ctx} (hok : Ok C) {w : World} (hg : Grow C.w w) : Ok (C.setW w) :=
  hok.step (ext_grow C hg) (fun id b hl => .inr ⟨hl, rfl, fun n hn => hg.keep n (hok.lt hl hn).1⟩) (fun id id' n b b' => hok.inj id id' n b b')

theorem Grow.of_below {w w' : World} (h : Below w.heap.size w w') : Grow w w' := ⟨h.tape, h.os, h.output, h.size, fun b hb => h.block b hb⟩

/-- A call that changes nothing of what was there, and hands back plain values. -/
theorem prim_ok {f : Nat} {args : List AV} {rs : List RV} (hr : rawB rs = [])
    (h : ∀ C : Ctx, Ok C → ∀ us : Array Value, All2 (VA C) args us.toList → Calls E.P f us C.w fun e w' => ∃ u, e = .returned u ∧ Grow C.w w' ∧ VA (C.setW w') (valOf (rawT 0 rs)) u) : FOk E f args [] rs [] := by
  intro C hok hC us hv
  refine (h C hok us hv).mono fun e w' ⟨u, he, hg, hu⟩ => ?_
  subst he
  exact ⟨C.setW w', rfl, ext_grow C hg, ok_grow hok hg, by rw [hr]; exact hC, hu⟩

theorem new_free {C : Ctx} (hok : Ok C) (w : World) : ¬ (C.setW w).O C.w.heap.size := by
  rintro (h | ⟨id, b, hl, hi⟩)
  · have := (hok.x _ h).1; omega
  · have := (hok.lt hl hi).1; omega

theorem arr1 {us : Array Value} {a : Value} (h : us.toList = [a]) : us = #[a] := by rw [← Array.toArray_toList (xs := us), h]
theorem arr2 {us : Array Value} {a b : Value} (h : us.toList = [a, b]) : us = #[a, b] := by rw [← Array.toArray_toList (xs := us), h]
theorem vp_str {C : Ctx} {s : List UInt8} {u : Value} (h : VA C (.t (.p (.str s))) u) : u = .string ⟨s.toArray⟩ := by cases h; rfl
theorem vp_int {C : Ctx} {k : IntKind} {n : Int} {u : Value} (h : VA C (.t (.p (.int k n))) u) : u = .int k n := by cases h; rfl
theorem one_arg {C : Ctx} {a : AV} {us : Array Value} (h : All2 (VA C) [a] us.toList) : ∃ u, us = #[u] ∧ VA C a u := by
  cases hl : us.toList with
  | nil => rw [hl] at h; exact h.elim
  | cons x l => cases l with
    | nil => rw [hl] at h; exact ⟨x, arr1 hl, h.1⟩
    | cons => rw [hl] at h; exact h.2.elim
theorem two_args {C : Ctx} {a b : AV} {us : Array Value} (h : All2 (VA C) [a, b] us.toList) : ∃ u v, us = #[u, v] ∧ VA C a u ∧ VA C b v := by
  cases hl : us.toList with
  | nil => rw [hl] at h; exact h.elim
  | cons x l => cases l with
    | nil => rw [hl] at h; exact h.2.elim
    | cons y l => cases l with
      | nil => rw [hl] at h; exact ⟨x, y, arr2 hl, h.1, h.2.1⟩
      | cons => rw [hl] at h; exact h.2.2.elim

theorem s_pIndexByte : ∀ args rs, pIndexByte args = some rs → FOk E 47 args [] rs [] := by
  intro args rs h
  unfold pIndexByte at h
  split at h
  · rename_i s c
    cases h
    refine prim_ok rfl fun C hok us hv => ?_
    obtain ⟨u, v, rfl, h1, h2⟩ := two_args hv
    rw [vp_str h1, vp_int h2]
    refine (Any.strings_IndexByte Tryd.lays137 ⟨s.toArray⟩ c C.w).mono fun e w' ⟨he, hw⟩ => ?_
    subst he hw
    exact ⟨_, rfl, Grow.refl _, .int _ _⟩
  · cases h

theorem s_pBIndexByte : ∀ args rs, pBIndexByte args = some rs → FOk E 36 args [] rs [] := by
  intro args rs h
  unfold pBIndexByte at h
  split at h
  · rename_i es c
    split at h
    · rename_i hb
      cases h
      simp only [Bool.and_eq_true, Bool.not_eq_true'] at hb
      obtain ⟨hb, hne⟩ := hb
      refine prim_ok rfl fun C hok us hv => ?_
      obtain ⟨u, v, rfl, h1, h2⟩ := two_args hv
      rw [vp_int h2]
      have hnum : ∀ e ∈ es, ∃ n, e = [PV.int .u8 n] := fun e he => byteOk_spec (List.all_eq_true.1 hb e he)
      have hbytes : toBytes es = (es.map fun e => intAt e 0).map fun n => UInt8.ofNat n.toNat := toBytes_nums es
      cases h1 with
      | sl0 _ a cap => cases hne
      | sl _ _ b off cap f hb2 hO hc hz hcell hvp =>
        refine (Any.bytes_IndexByte Tryd.lays187 b off es.length cap (es.map fun e => intAt e 0) c C.w (by simp) (fun i hi => ?_)).mono fun e w' ⟨he, hw⟩ => ?_
        · have hlt : i < es.length := hi
          obtain ⟨n, hn⟩ := hnum es[i] (List.getElem_mem hlt)
          have h1 := hcell i 0 es[i] (.int .u8 n) (List.getElem?_eq_getElem hlt) (by rw [hn]; rfl)
          have h2 := hvp i 0 es[i] (.int .u8 n) (List.getElem?_eq_getElem hlt) (by rw [hn]; rfl)
          generalize f i 0 = y at h1 h2
          cases h2
          simp only [Nat.mul_one, Nat.add_zero] at h1
          rw [h1]
          simp [List.getD, hlt, hn, intAt, nth, PV.toInt]
        · subst he hw
          refine ⟨_, rfl, Grow.refl _, ?_⟩
          rw [hbytes]
          exact .int _ _
    · cases h
  · cases h

theorem s_pCutPrefix : ∀ args rs, pCutPrefix args = some rs → FOk E 45 args [] rs [] := by
  intro args rs h
  unfold pCutPrefix at h
  split at h
  · rename_i s p
    cases h
    refine prim_ok rfl fun C hok us hv => ?_
    obtain ⟨u, v, rfl, h1, h2⟩ := two_args hv
    rw [vp_str h1, vp_str h2]
    refine (Any.strings_CutPrefix Tryd.lays103 ⟨s.toArray⟩ ⟨p.toArray⟩ C.w).mono fun e w' ⟨he, hw⟩ => ?_
    subst he hw
    exact ⟨_, rfl, Grow.refl _, _, rfl, .str _, .bool _, trivial⟩
  · cases h

theorem s_pCutSuffix : ∀ args rs, pCutSuffix args = some rs → FOk E 46 args [] rs [] := by
  intro args rs h
  unfold pCutSuffix at h
  split at h
  · rename_i s p
    split at h
    · rename_i hs
      cases h
      refine prim_ok rfl fun C hok us hv => ?_
      obtain ⟨u, v, rfl, h1, h2⟩ := two_args hv
      rw [vp_str h1, vp_str h2]
      refine (Any.strings_CutSuffix Tryd.lays104 ⟨s.toArray⟩ ⟨p.toArray⟩ C.w (by rw [str_size]; exact hs)).mono fun e w' ⟨he, hw⟩ => ?_
      subst he hw
      exact ⟨_, rfl, Grow.refl _, _, rfl, .str _, .bool _, trivial⟩
    · cases h
  · cases h

theorem idx1 (c : UInt8) : ∀ s : List UInt8, Lib.index s [c] = Lib.indexByte s c
  | [] => rfl
  | b :: l => by
    unfold Lib.index Lib.indexByte
    rw [idx1 c l]
    have : ([c].isPrefixOf (b :: l)) = (b == c) := by
      show ((c == b) && [].isPrefixOf l) = _
      by_cases h : b = c
      · subst h; simp
      · have e1 : (c == b) = false := by simpa using fun e : c = b => h e.symm
        have e2 : (b == c) = false := by simpa using h
        rw [e1, e2]; rfl
    rw [this]

theorem spl_ne (c : UInt8) (s : List UInt8) : spl c s ≠ [] := by
  cases s with
  | nil => simp [spl]
  | cons b l =>
    unfold spl
    split
    · simp
    · split <;> simp

theorem spl_cons_ne {b c : UInt8} {l : List UInt8} (h : (b == c) = false) : spl c (b :: l) = match spl c l with | [] => [[b]] | p :: r => (b :: p) :: r := by
  rw [spl, h]
  rfl

theorem spl_len (c : UInt8) : ∀ s : List UInt8, (spl c s).length = s.count c + 1
  | [] => rfl
  | b :: l => by
    have ih := spl_len c l
    unfold spl
    by_cases h : b = c
    · subst h; simp [ih]
    · have hb : (b == c) = false := by simpa using h
      rw [hb]
      simp only [Bool.false_eq_true, if_false]
      rw [List.count_cons_of_ne (by simpa using h)]
      split
      · rename_i he; exact absurd he (spl_ne c l)
      · rename_i p r he; rw [he] at ih; simpa using ih

theorem ib_hit {s : List UInt8} {c : UInt8} {i : Nat} (h : Lib.indexByte s c = i) : spl c s = s.take i :: spl c (s.drop (i + 1)) ∧ i < s.length ∧ s.count c = (s.drop (i + 1)).count c + 1 := by
  induction s generalizing i with
  | nil => simp [Lib.indexByte] at h
  | cons b l ih =>
    unfold Lib.indexByte at h
    by_cases hb : b = c
    · subst hb
      simp only [beq_self_eq_true, if_true] at h
      have : i = 0 := by omega
      subst this
      simp [spl]
    · have hb' : (b == c) = false := by simpa using hb
      rw [hb'] at h
      simp only [Bool.false_eq_true, if_false] at h
      by_cases hm : Lib.indexByte l c = -1
      · rw [hm] at h; simp at h
      · have hmb : (Lib.indexByte l c == -1) = false := by simpa using hm
        rw [hmb] at h
        simp only [Bool.false_eq_true, if_false] at h
        have hge := Lib.indexByte_ge l c
        obtain ⟨k, hk⟩ : ∃ k : Nat, Lib.indexByte l c = k := ⟨(Lib.indexByte l c).toNat, by omega⟩
        have hi : i = k + 1 := by omega
        subst hi
        obtain ⟨h1, h2, h3⟩ := ih hk
        rw [spl_cons_ne hb', h1]
        refine ⟨rfl, by simp; omega, ?_⟩
        rw [List.count_cons_of_ne (by simpa using hb), h3]
        simp
theorem ib_miss {s : List UInt8} {c : UInt8} (h : Lib.indexByte s c = -1) : spl c s = [s] := by
  induction s with
  | nil => rfl
  | cons b l ih =>
    unfold Lib.indexByte at h
    by_cases hb : b = c
    · subst hb; simp at h
    · have hb' : (b == c) = false := by simpa using hb
      rw [hb'] at h
      simp only [Bool.false_eq_true, if_false] at h
      by_cases hm : Lib.indexByte l c = -1
      · rw [spl_cons_ne hb', ih hm]
      · have hmb : (Lib.indexByte l c == -1) = false := by simpa using hm
        rw [hmb] at h
        simp only [Bool.false_eq_true, if_false] at h
        have := Lib.indexByte_ge l c
        omega

theorem splitK_spl (c : UInt8) : ∀ (k : Nat) (s : List UInt8), s.count c = k → Lib.splitK [c] 0 k s = spl c s
  | 0, s, hk => by
    by_cases hm : Lib.indexByte s c = -1
    · rw [ib_miss hm]; rfl
    · have hge := Lib.indexByte_ge s c
      obtain ⟨i, hi⟩ : ∃ i : Nat, Lib.indexByte s c = i := ⟨(Lib.indexByte s c).toNat, by omega⟩
      obtain ⟨_, _, h3⟩ := ib_hit hi
      omega
  | k + 1, s, hk => by
    unfold Lib.splitK
    rw [idx1]
    by_cases hm : Lib.indexByte s c = -1
    · have := spl_len c s
      rw [ib_miss hm] at this
      simp at this; omega
    · have hge := Lib.indexByte_ge s c
      obtain ⟨i, hi⟩ : ∃ i : Nat, Lib.indexByte s c = i := ⟨(Lib.indexByte s c).toNat, by omega⟩
      obtain ⟨h1, h2, h3⟩ := ib_hit hi
      rw [hi]
      have hne : (((i : Nat) : Int) == -1) = false := by simp
      rw [hne]
      simp only [Bool.false_eq_true, if_false]
      rw [h1]
      simp only [Int.toNat_natCast, Nat.add_zero, List.length_singleton]
      rw [splitK_spl c k _ (by omega)]

theorem countB_spl (c : UInt8) (s : List UInt8) : Lib.countB ⟨s.toArray⟩ ⟨[c].toArray⟩ = s.count c := by
  show Lib.count s [c] = _
  exact Lib.count_one c s

theorem splitB_spl (c : UInt8) (s : List UInt8) : (Lib.splitB ⟨[c].toArray⟩ 0 (Lib.countB ⟨s.toArray⟩ ⟨[c].toArray⟩) ⟨s.toArray⟩).map (fun b => b.data.toList) = spl c s := by
  rw [Lib.splitB_data, countB_spl]
  exact splitK_spl c _ s rfl

theorem g_maxLen {C : Ctx} (g : GrOk C) : ∃ m, C.w.cell? ⟨gMaxLen, 0, none⟩ = some (.int .i64 m) := by
  obtain ⟨c, e, fr, m, h1, h2⟩ := g.at_
  refine ⟨m, ?_⟩
  have h1 : (if gMaxLen < nG then C.w.heap[gMaxLen]? else none) = some (.cells c e fr) := h1
  rw [if_pos (by decide)] at h1
  unfold World.cell?
  rw [h1]
  simpa using h2

theorem s_pSplit : ∀ args rs, pSplit args = some rs → FOk E 54 args [] rs [] := by
  intro args rs h
  unfold pSplit at h
  split at h
  · rename_i s c
    split at h
    · rename_i hs
      cases h
      refine prim_ok rfl fun C hok us hv => ?_
      obtain ⟨u, v, rfl, h1, h2⟩ := two_args hv
      rw [vp_str h1, vp_str h2]
      obtain ⟨m, hm⟩ := g_maxLen hok.gr
      have hsz : (ByteArray.mk [c].toArray).size = 1 := rfl
      refine (Any.strings_Split { Tryd.lays146 with } Tryd.lays146.i9 ⟨s.toArray⟩ ⟨[c].toArray⟩ m C.w (by rw [str_size]; exact hs) hm (by rw [hsz]; exact Nat.le_refl _)).mono fun e w' ⟨he, hw⟩ => ?_
      subst he
      have hl : Lib.countB ⟨s.toArray⟩ ⟨[c].toArray⟩ + 1 = (strsK (spl c s)).length := by rw [show (strsK (spl c s)).length = (spl c s).length by simp [strsK], countB_spl, spl_len]
      have hcs := splitB_spl c s
      subst hw
      refine ⟨_, rfl, Grow.alloc _ _, ?_⟩
      rw [hl]
      refine VP.sl 1 (strsK (spl c s)) C.w.heap.size 0 _ (fun i j => .string ⟨((spl c s).getD i []).toArray⟩) (by show _ < (C.w.heap.push _).size; simp) (new_free hok _) (Nat.le_refl _) (fun e he => ?_) (fun i j e x hi hj => ?_) (fun i j e x hi hj => ?_)
      · obtain ⟨y, _, rfl⟩ := List.mem_map.1 he; rfl
      · unfold strsK at hi
        rw [List.getElem?_map] at hi
        obtain ⟨y, hy, rfl⟩ := Option.map_eq_some_iff.1 hi
        cases j with
        | succ j => simp at hj
        | zero =>
          show (C.w.alloc _).cell? _ = _
          unfold World.cell?
          rw [heap_alloc_same]
          have : ((Lib.splitB ⟨[c].toArray⟩ 0 (Lib.countB ⟨s.toArray⟩ ⟨[c].toArray⟩) ⟨s.toArray⟩).map fun b => b.data.toList)[i]? = some y := by rw [hcs]; exact hy
          rw [List.getElem?_map] at this
          obtain ⟨b, hb, hby⟩ := Option.map_eq_some_iff.1 this
          have hbb : b = ⟨y.toArray⟩ := by apply ByteArray.ext; rw [← hby]
          simp [hb, List.getD, hy, hbb]
      · unfold strsK at hi
        rw [List.getElem?_map] at hi
        obtain ⟨y, hy, rfl⟩ := Option.map_eq_some_iff.1 hi
        cases j with
        | succ j => simp at hj
        | zero =>
          simp only [List.getElem?_cons_zero, Option.some.injEq] at hj
          subst hj
          have : (spl c s).getD i [] = y := by simp [List.getD, hy]
          rw [this]
          exact .str y
    · cases h
  · cases h

theorem gr_of_shape {W : World} (h : W.ShapedOpen Tryd.prog) : nG ≤ W.heap.size ∧ gFact (gOf W) := by
  obtain ⟨m, hm⟩ := Tryd.lays146.s1_3 W h
  have hm : W.cell? ⟨gMaxLen, 0, none⟩ = some (.int .i64 m) := hm
  unfold World.cell? at hm
  cases hr : W.heap[gMaxLen]? with
  | none => rw [hr] at hm; cases hm
  | some o =>
    rw [hr] at hm
    have hlt := (Array.getElem?_eq_some_iff.1 hr).1
    cases o with
    | cells c e fr =>
      refine ⟨hlt, c, e, fr, m, ?_, by simpa using hm⟩
      show (if gMaxLen < nG then W.heap[gMaxLen]? else none) = _
      rw [if_pos (by decide)]
      exact hr
    | _ => cases hm

theorem hprOk : HprOk E := fun g k h => by cases h

theorem primsOk : PrimsOk E := by
  refine ⟨?_, hprOk⟩
  intro f p h
  have h : findP f [(36, pBIndexByte), (45, pCutPrefix), (46, pCutSuffix), (47, pIndexByte), (54, pSplit)] = some p := h
  simp only [findP] at h
  cases hf36 : Nat.beq f 36 with
  | true => rw [hf36, cond_true] at h; cases h; rw [Nat.eq_of_beq_eq_true hf36]; exact s_pBIndexByte
  | false =>
  rw [hf36, cond_false] at h
  cases hf45 : Nat.beq f 45 with
  | true => rw [hf45, cond_true] at h; cases h; rw [Nat.eq_of_beq_eq_true hf45]; exact s_pCutPrefix
  | false =>
  rw [hf45, cond_false] at h
  cases hf46 : Nat.beq f 46 with
  | true => rw [hf46, cond_true] at h; cases h; rw [Nat.eq_of_beq_eq_true hf46]; exact s_pCutSuffix
  | false =>
  rw [hf46, cond_false] at h
  cases hf47 : Nat.beq f 47 with
  | true => rw [hf47, cond_true] at h; cases h; rw [Nat.eq_of_beq_eq_true hf47]; exact s_pIndexByte
  | false =>
  rw [hf47, cond_false] at h
  cases hf54 : Nat.beq f 54 with
  | true => rw [hf54, cond_true] at h; cases h; rw [Nat.eq_of_beq_eq_true hf54]; exact s_pSplit
  | false =>
  rw [hf54, cond_false] at h
  cases h

end Go.Proofs.YtmlhemkadoadaaaDoor.Vm
