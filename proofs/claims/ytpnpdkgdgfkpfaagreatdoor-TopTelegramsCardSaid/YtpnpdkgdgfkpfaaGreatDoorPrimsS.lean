/- The library's functions answer what their rows say: each contract of the shelf against the row. -/
import Derived.Test.YtpnpdkgdgfkpfaaGreatDoorEnv
import Derived.Test.YtpnpdkgdgfkpfaaGreatDoorVm33
import Derived.Test.YtpnpdkgdgfkpfaaGreatDoorVm34
import Derived.Test.YtpnpdkgdgfkpfaaGreatDoorShelf
import Derived.Test.YtpnpdkgdgfkpfaaGreatDoorVm35
import Derived.Test.YtpnpdkgdgfkpfaaGreatDoorVoteS
import Derived.KernelRfl
import Derived.Below
namespace Go.Proofs.YtpnpdkgdgfkpfaaGreatDoor.Vm
open Go.RowKit
set_option linter.unusedVariables false
set_option linter.unusedSimpArgs false

theorem s_pIndexByte : ∀ args rs, pIndexByte args = some rs → FOk E 79 args [] rs [] := by
  intro args rs h
  unfold pIndexByte at h
  split at h
  · rename_i s c
    cases h
    refine prim_ok rfl fun C hok us hv => ?_
    obtain ⟨u, v, rfl, h1, h2⟩ := two_args hv
    rw [vp_str h1, vp_int h2]
    refine (Any.strings_IndexByte Tryz.lays137 ⟨s.toArray⟩ c C.w).mono fun e w' ⟨he, hw⟩ => ?_
    subst he hw
    exact ⟨_, rfl, Grow.refl _, .int _ _⟩
  · cases h

theorem s_pBIndexByte : ∀ args rs, pBIndexByte args = some rs → FOk E 55 args [] rs [] := by
  intro args rs h
  unfold pBIndexByte at h
  split at h
  · rename_i es c
    split at h
    · rename_i hb
      cases h
      simp only [Bool.and_eq_true, Bool.not_eq_true'] at hb
      obtain ⟨hb, hne⟩ := hb
      refine prim_ok rfl fun C hok us hv => ?_
      obtain ⟨u, v, rfl, h1, h2⟩ := two_args hv
      rw [vp_int h2]
      have hnum : ∀ e ∈ es, ∃ n, e = [PV.int .u8 n] := fun e he => byteOk_spec (List.all_eq_true.1 hb e he)
      have hbytes : toBytes es = (es.map fun e => intAt e 0).map fun n => UInt8.ofNat n.toNat := toBytes_nums es
      cases h1 with
      | sl0 _ a cap => cases hne
      | sl _ _ b off cap f hb2 hO hc hz hcell hvp =>
        refine (Any.bytes_IndexByte Tryz.lays187 b off es.length cap (es.map fun e => intAt e 0) c C.w (by simp) (fun i hi => ?_)).mono fun e w' ⟨he, hw⟩ => ?_
        · have hlt : i < es.length := hi
          obtain ⟨n, hn⟩ := hnum es[i] (List.getElem_mem hlt)
          have h1 := hcell i 0 es[i] (.int .u8 n) (List.getElem?_eq_getElem hlt) (by rw [hn]; rfl)
          have h2 := hvp i 0 es[i] (.int .u8 n) (List.getElem?_eq_getElem hlt) (by rw [hn]; rfl)
          generalize f i 0 = y at h1 h2
          cases h2
          simp only [Nat.mul_one, Nat.add_zero] at h1
          rw [h1]
          simp [List.getD, hlt, hn, intAt, nth, PV.toInt]
        · subst he hw
          refine ⟨_, rfl, Grow.refl _, ?_⟩
          rw [hbytes]
          exact .int _ _
    · cases h
  · cases h

theorem s_pCutPrefix : ∀ args rs, pCutPrefix args = some rs → FOk E 84 args [] rs [] := by
  intro args rs h
  unfold pCutPrefix at h
  split at h
  · rename_i s p
    cases h
    refine prim_ok rfl fun C hok us hv => ?_
    obtain ⟨u, v, rfl, h1, h2⟩ := two_args hv
    rw [vp_str h1, vp_str h2]
    refine (Any.strings_CutPrefix Tryz.lays103 ⟨s.toArray⟩ ⟨p.toArray⟩ C.w).mono fun e w' ⟨he, hw⟩ => ?_
    subst he hw
    exact ⟨_, rfl, Grow.refl _, _, rfl, .str _, .bool _, trivial⟩
  · cases h

theorem s_pCutSuffix : ∀ args rs, pCutSuffix args = some rs → FOk E 85 args [] rs [] := by
  intro args rs h
  unfold pCutSuffix at h
  split at h
  · rename_i s p
    split at h
    · rename_i hs
      cases h
      refine prim_ok rfl fun C hok us hv => ?_
      obtain ⟨u, v, rfl, h1, h2⟩ := two_args hv
      rw [vp_str h1, vp_str h2]
      refine (Any.strings_CutSuffix Tryz.lays104 ⟨s.toArray⟩ ⟨p.toArray⟩ C.w (by rw [str_size]; exact hs)).mono fun e w' ⟨he, hw⟩ => ?_
      subst he hw
      exact ⟨_, rfl, Grow.refl _, _, rfl, .str _, .bool _, trivial⟩
    · cases h
  · cases h

theorem strsOf_spec : ∀ {es : List (List PV)} {xs : List (List UInt8)}, strsOf es = some xs → es = strsK xs
  | [], xs, h => by cases h; rfl
  | e :: l, xs, h => by
    unfold strsOf at h
    split at h
    · rename_i he; cases he
    · rename_i s l' he
      cases he
      split at h
      · rename_i r hr
        cases h
        rw [strsOf_spec hr]
        rfl
      · cases h
    · cases h

theorem datas : ∀ xs : List (List UInt8), (xs.map fun s => (⟨s.toArray⟩ : ByteArray)).map (·.data.toList) = xs
  | [] => rfl
  | x :: xs => by rw [List.map_cons, List.map_cons, datas xs]

theorem join_calls {C : Ctx} {xs : List (List UInt8)} {sep : List UInt8} {u : Value} (hb1 : xs.length ≤ 140737488355328) (hb2 : (Lib.join xs sep).length ≤ 140737488355328) (h1 : VA C (.t (.p (.sl 1 (strsK xs)))) u) :
    Calls E.P 25 #[u, .string ⟨sep.toArray⟩] C.w fun e w' => ∃ u, e = .returned u ∧ Grow C.w w' ∧ VA (C.setW w') (valOf (rawT 0 [.p (.str (Lib.join xs sep))])) u := by
  have key : ∀ (es : List (List PV)), es = strsK xs → VP C.w C.O (.sl 1 es) u → Calls E.P 25 #[u, .string ⟨sep.toArray⟩] C.w fun e w' => ∃ u, e = .returned u ∧ Grow C.w w' ∧ VA (C.setW w') (valOf (rawT 0 [.p (.str (Lib.join xs sep))])) u := by
    intro es he h
    cases h with
    | sl0 _ a cap =>
      have : xs = [] := by
        cases xs with
        | nil => rfl
        | cons => cases he
      subst this
      refine (Any.strings_Join_none Tryz.lays156 Tryz.extra156 a cap ⟨sep.toArray⟩ C.w).mono fun e w' ⟨he, hw⟩ => ?_
      subst he hw
      exact ⟨_, rfl, Grow.refl _, .str []⟩
    | sl _ _ b off cap f hb hO hc hz hcell hvp =>
      obtain ⟨bs, hbs⟩ : ∃ bs : List ByteArray, bs = xs.map fun s => (⟨s.toArray⟩ : ByteArray) := ⟨_, rfl⟩
      have hd : bs.map (·.data.toList) = xs := by rw [hbs]; exact datas xs
      have hlen : es.length = bs.length := by rw [he, hbs]; simp [strsK]
      have hxl : xs.length = bs.length := by rw [hbs]; simp
      rw [hlen]
      refine (Any.strings_Join Tryz.lays156 Tryz.extra156 b off cap bs ⟨sep.toArray⟩ C.w (fun j y hj => ?_) hb (by omega) (by omega) (by rw [hd]; exact hb2)).mono fun e w' ⟨he, hw⟩ => ?_
      · rw [hbs, List.getElem?_map] at hj
        obtain ⟨s, hs, rfl⟩ := Option.map_eq_some_iff.1 hj
        have hes : es[j]? = some [.str s] := by rw [he]; unfold strsK; rw [List.getElem?_map, hs]; rfl
        have h1 := hcell j 0 [.str s] (.str s) hes rfl
        have h2 := hvp j 0 [.str s] (.str s) hes rfl
        generalize f j 0 = y at h1 h2
        cases h2
        simp only [Nat.mul_one, Nat.add_zero] at h1
        exact h1
      · subst he
        rw [hd]
        exact ⟨_, rfl, Grow.of_below hw, .str _⟩
  exact key _ rfl h1

theorem s_pJoin : ∀ args rs, pJoin args = some rs → FOk E 25 args [] rs [] := by
  intro args rs h
  unfold pJoin at h
  split at h
  · rename_i es sep
    split at h
    · rename_i xs hxs
      split at h
      · rename_i hb
        cases h
        have he := strsOf_spec hxs
        subst he
        refine prim_ok rfl fun C hok us hv => ?_
        obtain ⟨u, v, rfl, h1, h2⟩ := two_args hv
        rw [vp_str h2]
        exact join_calls hb.1 hb.2 h1
      · cases h
    · cases h
  · cases h

theorem idx1 (c : UInt8) : ∀ s : List UInt8, Lib.index s [c] = Lib.indexByte s c
  | [] => rfl
  | b :: l => by
    unfold Lib.index Lib.indexByte
    rw [idx1 c l]
    have : ([c].isPrefixOf (b :: l)) = (b == c) := by
      show ((c == b) && [].isPrefixOf l) = _
      by_cases h : b = c
      · subst h; simp
      · have e1 : (c == b) = false := by simpa using fun e : c = b => h e.symm
        have e2 : (b == c) = false := by simpa using h
        rw [e1, e2]; rfl
    rw [this]

theorem spl_ne (c : UInt8) (s : List UInt8) : spl c s ≠ [] := by
  cases s with
  | nil => simp [spl]
  | cons b l =>
    unfold spl
    split
    · simp
    · split <;> simp

theorem spl_cons_ne {b c : UInt8} {l : List UInt8} (h : (b == c) = false) : spl c (b :: l) = match spl c l with | [] => [[b]] | p :: r => (b :: p) :: r := by
  rw [spl, h]
  rfl

theorem spl_len (c : UInt8) : ∀ s : List UInt8, (spl c s).length = s.count c + 1
  | [] => rfl
  | b :: l => by
    have ih := spl_len c l
    unfold spl
    by_cases h : b = c
    · subst h; simp [ih]
    · have hb : (b == c) = false := by simpa using h
      rw [hb]
      simp only [Bool.false_eq_true, if_false]
      rw [List.count_cons_of_ne (by simpa using h)]
      split
      · rename_i he; exact absurd he (spl_ne c l)
      · rename_i p r he; rw [he] at ih; simpa using ih

theorem ib_hit {s : List UInt8} {c : UInt8} {i : Nat} (h : Lib.indexByte s c = i) : spl c s = s.take i :: spl c (s.drop (i + 1)) ∧ i < s.length ∧ s.count c = (s.drop (i + 1)).count c + 1 := by
  induction s generalizing i with
  | nil => simp [Lib.indexByte] at h
  | cons b l ih =>
    unfold Lib.indexByte at h
    by_cases hb : b = c
    · subst hb
      simp only [beq_self_eq_true, if_true] at h
      have : i = 0 := by omega
      subst this
      simp [spl]
    · have hb' : (b == c) = false := by simpa using hb
      rw [hb'] at h
      simp only [Bool.false_eq_true, if_false] at h
      by_cases hm : Lib.indexByte l c = -1
      · rw [hm] at h; simp at h
      · have hmb : (Lib.indexByte l c == -1) = false := by simpa using hm
        rw [hmb] at h
        simp only [Bool.false_eq_true, if_false] at h
        have hge := Lib.indexByte_ge l c
        obtain ⟨k, hk⟩ : ∃ k : Nat, Lib.indexByte l c = k := ⟨(Lib.indexByte l c).toNat, by omega⟩
        have hi : i = k + 1 := by omega
        subst hi
        obtain ⟨h1, h2, h3⟩ := ih hk
        rw [spl_cons_ne hb', h1]
        refine ⟨rfl, by simp; omega, ?_⟩
        rw [List.count_cons_of_ne (by simpa using hb), h3]
        simp
theorem ib_miss {s : List UInt8} {c : UInt8} (h : Lib.indexByte s c = -1) : spl c s = [s] := by
  induction s with
  | nil => rfl
  | cons b l ih =>
    unfold Lib.indexByte at h
    by_cases hb : b = c
    · subst hb; simp at h
    · have hb' : (b == c) = false := by simpa using hb
      rw [hb'] at h
      simp only [Bool.false_eq_true, if_false] at h
      by_cases hm : Lib.indexByte l c = -1
      · rw [spl_cons_ne hb', ih hm]
      · have hmb : (Lib.indexByte l c == -1) = false := by simpa using hm
        rw [hmb] at h
        simp only [Bool.false_eq_true, if_false] at h
        have := Lib.indexByte_ge l c
        omega

theorem splitK_spl (c : UInt8) : ∀ (k : Nat) (s : List UInt8), s.count c = k → Lib.splitK [c] 0 k s = spl c s
  | 0, s, hk => by
    by_cases hm : Lib.indexByte s c = -1
    · rw [ib_miss hm]; rfl
    · have hge := Lib.indexByte_ge s c
      obtain ⟨i, hi⟩ : ∃ i : Nat, Lib.indexByte s c = i := ⟨(Lib.indexByte s c).toNat, by omega⟩
      obtain ⟨_, _, h3⟩ := ib_hit hi
      omega
  | k + 1, s, hk => by
    unfold Lib.splitK
    rw [idx1]
    by_cases hm : Lib.indexByte s c = -1
    · have := spl_len c s
      rw [ib_miss hm] at this
      simp at this; omega
    · have hge := Lib.indexByte_ge s c
      obtain ⟨i, hi⟩ : ∃ i : Nat, Lib.indexByte s c = i := ⟨(Lib.indexByte s c).toNat, by omega⟩
      obtain ⟨h1, h2, h3⟩ := ib_hit hi
      rw [hi]
      have hne : (((i : Nat) : Int) == -1) = false := by simp
      rw [hne]
      simp only [Bool.false_eq_true, if_false]
      rw [h1]
      simp only [Int.toNat_natCast, Nat.add_zero, List.length_singleton]
      rw [splitK_spl c k _ (by omega)]

theorem countB_spl (c : UInt8) (s : List UInt8) : Lib.countB ⟨s.toArray⟩ ⟨[c].toArray⟩ = s.count c := by
  show Lib.count s [c] = _
  exact Lib.count_one c s

theorem splitB_spl (c : UInt8) (s : List UInt8) : (Lib.splitB ⟨[c].toArray⟩ 0 (Lib.countB ⟨s.toArray⟩ ⟨[c].toArray⟩) ⟨s.toArray⟩).map (fun b => b.data.toList) = spl c s := by
  rw [Lib.splitB_data, countB_spl]
  exact splitK_spl c _ s rfl

theorem g_maxLen {C : Ctx} (g : GrOk C) : ∃ m, C.w.cell? ⟨gMaxLen, 0, none⟩ = some (.int .i64 m) := by
  obtain ⟨c, e, fr, m, h1, h2⟩ := gMaxLen_of g.at_
  refine ⟨m, ?_⟩
  have h1 : (if gMaxLen < nG then C.w.heap[gMaxLen]? else none) = some (.cells c e fr) := h1
  rw [if_pos (by decide)] at h1
  unfold World.cell?
  rw [h1]
  simpa using h2

theorem s_pSplit : ∀ args rs, pSplit args = some rs → FOk E 111 args [] rs [] := by
  intro args rs h
  unfold pSplit at h
  split at h
  · rename_i s c
    split at h
    · rename_i hs
      cases h
      refine prim_ok rfl fun C hok us hv => ?_
      obtain ⟨u, v, rfl, h1, h2⟩ := two_args hv
      rw [vp_str h1, vp_str h2]
      obtain ⟨m, hm⟩ := g_maxLen hok.gr
      have hsz : (ByteArray.mk [c].toArray).size = 1 := rfl
      refine (Any.strings_Split { Tryz.lays146 with } Tryz.lays146.i9 ⟨s.toArray⟩ ⟨[c].toArray⟩ m C.w (by rw [str_size]; exact hs) hm (by rw [hsz]; exact Nat.le_refl _)).mono fun e w' ⟨he, hw⟩ => ?_
      subst he
      have hl : Lib.countB ⟨s.toArray⟩ ⟨[c].toArray⟩ + 1 = (strsK (spl c s)).length := by rw [show (strsK (spl c s)).length = (spl c s).length by simp [strsK], countB_spl, spl_len]
      have hcs := splitB_spl c s
      subst hw
      refine ⟨_, rfl, Grow.alloc _ _, ?_⟩
      rw [hl]
      refine VP.sl 1 (strsK (spl c s)) C.w.heap.size 0 _ (fun i j => .string ⟨((spl c s).getD i []).toArray⟩) (by show _ < (C.w.heap.push _).size; simp) (new_free hok _) (Nat.le_refl _) (fun e he => ?_) (fun i j e x hi hj => ?_) (fun i j e x hi hj => ?_)
      · obtain ⟨y, _, rfl⟩ := List.mem_map.1 he; rfl
      · unfold strsK at hi
        rw [List.getElem?_map] at hi
        obtain ⟨y, hy, rfl⟩ := Option.map_eq_some_iff.1 hi
        cases j with
        | succ j => simp at hj
        | zero =>
          show (C.w.alloc _).cell? _ = _
          unfold World.cell?
          rw [heap_alloc_same]
          have : ((Lib.splitB ⟨[c].toArray⟩ 0 (Lib.countB ⟨s.toArray⟩ ⟨[c].toArray⟩) ⟨s.toArray⟩).map fun b => b.data.toList)[i]? = some y := by rw [hcs]; exact hy
          rw [List.getElem?_map] at this
          obtain ⟨b, hb, hby⟩ := Option.map_eq_some_iff.1 this
          have hbb : b = ⟨y.toArray⟩ := by apply ByteArray.ext; rw [← hby]
          simp [hb, List.getD, hy, hbb]
      · unfold strsK at hi
        rw [List.getElem?_map] at hi
        obtain ⟨y, hy, rfl⟩ := Option.map_eq_some_iff.1 hi
        cases j with
        | succ j => simp at hj
        | zero =>
          simp only [List.getElem?_cons_zero, Option.some.injEq] at hj
          subst hj
          have : (spl c s).getD i [] = y := by simp [List.getD, hy]
          rw [this]
          exact .str y
    · cases h
  · cases h

theorem g_pow {C : Ctx} (g : GrOk C) : Lib.TabIs Tryz.prog C.w "internal/strconv.uint64pow10" .u64 Lib.pow10Tab := by
  obtain ⟨e, fr, h⟩ := gPow_of g.at_
  have h : (if gPow < nG then C.w.heap[gPow]? else none) = _ := h
  rw [if_pos (by decide)] at h
  unfold Lib.TabIs World.var?
  rw [show Tryz.prog.globalNamed "internal/strconv.uint64pow10" = some gPow by kernel_rfl]
  show (match C.w.heap[gPow]? with | some (.cells cs _ _) => some cs | _ => none) = _
  rw [h]

theorem grow_drewN (w : World) (k : Nat) (os : Array Obj) : Grow w (Go.Sort.grow (w.drewN k) os) :=
  ⟨rfl, rfl, rfl, by show w.heap.size ≤ (w.heap ++ os).size; simp, fun b hb => by show (w.heap ++ os)[b]? = _; rw [Array.getElem?_append_left hb]⟩

theorem s_pItoa : ∀ args rs, pItoa args = some rs → FOk E 59 args [] rs [] := by
  intro args rs h
  unfold pItoa at h
  split at h
  · rename_i n
    split at h
    · rename_i hn
      cases h
      refine prim_ok rfl fun C hok us hv => ?_
      obtain ⟨u, rfl, h1⟩ := one_arg hv
      rw [vp_int h1]
      refine (Any.strconv_Itoa Tryz.lays171 n hn.1 hn.2 C.w (g_pow hok.gr)).mono fun e w' ⟨he, k, os, hw⟩ => ?_
      subst he hw
      exact ⟨_, rfl, grow_drewN _ _ _, .str _⟩
    · cases h
  · cases h

theorem g_var {C : Ctx} {n : String} {g : Nat} {cs : Array Value} {e : TypeId} {fr : Nat × Nat} (hg : Tryz.prog.globalNamed n = some g) (h : C.w.heap[g]? = some (.cells cs e fr)) : C.w.var? Tryz.prog n = some cs := by
  unfold World.var?
  rw [hg]
  show (match C.w.heap[g]? with | some (.cells cs _ _) => some cs | _ => none) = _
  rw [h]
theorem grow_bytes (w : World) (e : TypeId) (s : ByteArray) : Grow w (Lib.bytesWorld w e s) :=
  ⟨rfl, rfl, rfl, by rw [Lib.bytesWorld_size]; omega, fun b hb => Lib.bytesWorld_at_old w e s b hb⟩

theorem s_pAtoi : ∀ args rs, pAtoi args = some rs → FOk E 58 args [] rs [] := by
  intro args rs h
  unfold pAtoi at h
  split at h
  · rename_i s
    split at h
    · rename_i hs
      cases h
      refine prim_ok rfl fun C hok us hv => ?_
      obtain ⟨u, rfl, h1⟩ := one_arg hv
      rw [vp_str h1]
      have hsz : (ByteArray.mk s.toArray).size = s.length := str_size s
      unfold atoiP
      cases ha : Lib.atoiAll s
      · rename_i v
        refine (Any.strconv_Atoi_ok Tryz.lays172 ⟨s.toArray⟩ (by rw [hsz]; omega) v ha C.w).mono fun e w' ⟨he, hw⟩ => ?_
        subst he
        refine ⟨_, rfl, ?_, _, rfl, .int _ _, .ifcN, trivial⟩
        rcases hw with rfl | ⟨t, rfl⟩
        · exact Grow.refl _
        · exact grow_bytes _ _ _
      · obtain ⟨t, p, e, fr, hv⟩ := gSyn_of hok.gr.at_
        have hv : (if gSyn < nG then C.w.heap[gSyn]? else none) = _ := hv
        rw [if_pos (by decide)] at hv
        refine (Any.strconv_Atoi_syntax_var Tryz.lays172 ⟨s.toArray⟩ (by rw [hsz]; omega) ha t p C.w (g_var (by kernel_rfl) hv)).mono fun e w' ⟨N, he, _, _, hb⟩ => ?_
        subst he
        exact ⟨_, rfl, Grow.of_below hb, _, rfl, .int _ _, .ifc _ _, trivial⟩
      · obtain ⟨t, p, e, fr, hv⟩ := gRng_of hok.gr.at_
        have hv : (if gRng < nG then C.w.heap[gRng]? else none) = _ := hv
        rw [if_pos (by decide)] at hv
        refine (Any.strconv_Atoi_range_var Tryz.lays172 ⟨s.toArray⟩ (by rw [hsz]; omega) ha t p C.w (g_var (by kernel_rfl) hv)).mono fun e w' ⟨N, he, _, _, hb⟩ => ?_
        subst he
        exact ⟨_, rfl, Grow.of_below hb, _, rfl, .int _ _, .ifc _ _, trivial⟩
    · cases h
  · cases h

theorem hprOk : HprOk E := fun g k h => by cases h

theorem primsOk : PrimsOk E := by
  refine ⟨?_, hprOk⟩
  intro f p h
  have h : findP f [(25, .pure pJoin), (36, hVotes 19 60 67 96 119), (55, .pure pBIndexByte), (58, .pure pAtoi), (59, .pure pItoa), (79, .pure pIndexByte), (84, .pure pCutPrefix), (85, .pure pCutSuffix), (111, .pure pSplit)] = some p := h
  simp only [findP] at h
  cases hf25 : Nat.beq f 25 with
  | true => rw [hf25, cond_true] at h; cases h; rw [Nat.eq_of_beq_eq_true hf25]; exact fun _ _ => s_pJoin
  | false =>
  rw [hf25, cond_false] at h
  cases hf36 : Nat.beq f 36 with
  | true => rw [hf36, cond_true] at h; cases h; rw [Nat.eq_of_beq_eq_true hf36]; exact s_hVotes
  | false =>
  rw [hf36, cond_false] at h
  cases hf55 : Nat.beq f 55 with
  | true => rw [hf55, cond_true] at h; cases h; rw [Nat.eq_of_beq_eq_true hf55]; exact fun _ _ => s_pBIndexByte
  | false =>
  rw [hf55, cond_false] at h
  cases hf58 : Nat.beq f 58 with
  | true => rw [hf58, cond_true] at h; cases h; rw [Nat.eq_of_beq_eq_true hf58]; exact fun _ _ => s_pAtoi
  | false =>
  rw [hf58, cond_false] at h
  cases hf59 : Nat.beq f 59 with
  | true => rw [hf59, cond_true] at h; cases h; rw [Nat.eq_of_beq_eq_true hf59]; exact fun _ _ => s_pItoa
  | false =>
  rw [hf59, cond_false] at h
  cases hf79 : Nat.beq f 79 with
  | true => rw [hf79, cond_true] at h; cases h; rw [Nat.eq_of_beq_eq_true hf79]; exact fun _ _ => s_pIndexByte
  | false =>
  rw [hf79, cond_false] at h
  cases hf84 : Nat.beq f 84 with
  | true => rw [hf84, cond_true] at h; cases h; rw [Nat.eq_of_beq_eq_true hf84]; exact fun _ _ => s_pCutPrefix
  | false =>
  rw [hf84, cond_false] at h
  cases hf85 : Nat.beq f 85 with
  | true => rw [hf85, cond_true] at h; cases h; rw [Nat.eq_of_beq_eq_true hf85]; exact fun _ _ => s_pCutSuffix
  | false =>
  rw [hf85, cond_false] at h
  cases hf111 : Nat.beq f 111 with
  | true => rw [hf111, cond_true] at h; cases h; rw [Nat.eq_of_beq_eq_true hf111]; exact fun _ _ => s_pSplit
  | false =>
  rw [hf111, cond_false] at h
  cases h

end Go.Proofs.YtpnpdkgdgfkpfaaGreatDoor.Vm
