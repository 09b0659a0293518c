/- The library's functions answer what their rows say: each contract of the shelf against the row. -/
import Derived.Test.YtkpdiagdjplbiaaGreatDoorEnv
import Derived.Test.YtkpdiagdjplbiaaGreatDoorVm33
import Derived.Test.YtkpdiagdjplbiaaGreatDoorVm34
import Derived.Test.YtkpdiagdjplbiaaGreatDoorShelf
import Derived.Test.YtkpdiagdjplbiaaGreatDoorVm35
import Derived.Test.YtkpdiagdjplbiaaGreatDoorAtS
import Derived.Test.YtkpdiagdjplbiaaGreatDoorRepS
import Derived.Test.YtkpdiagdjplbiaaGreatDoorIdxS
import Derived.Test.YtkpdiagdjplbiaaGreatDoorOfS
import Derived.KernelRfl
import Derived.Below
namespace Go.Proofs.YtkpdiagdjplbiaaGreatDoor.Vm
open Go.RowKit
set_option linter.unusedVariables false
set_option linter.unusedSimpArgs false

theorem s_pCutPrefix : ∀ args rs, pCutPrefix args = some rs → FOk E 37 args [] rs [] := by
  intro args rs h
  unfold pCutPrefix at h
  split at h
  · rename_i s p
    cases h
    refine prim_ok rfl fun C hok us hv => ?_
    obtain ⟨u, v, rfl, h1, h2⟩ := two_args hv
    rw [vp_str h1, vp_str h2]
    refine (Any.strings_CutPrefix Tryz.lays103 ⟨s.toArray⟩ ⟨p.toArray⟩ C.w).mono fun e w' ⟨he, hw⟩ => ?_
    subst he hw
    exact ⟨_, rfl, Grow.refl _, _, rfl, .str _, .bool _, trivial⟩
  · cases h

theorem strsOf_spec : ∀ {es : List (List PV)} {xs : List (List UInt8)}, strsOf es = some xs → es = strsK xs
  | [], xs, h => by cases h; rfl
  | e :: l, xs, h => by
    unfold strsOf at h
    split at h
    · rename_i he; cases he
    · rename_i s l' he
      cases he
      split at h
      · rename_i r hr
        cases h
        rw [strsOf_spec hr]
        rfl
      · cases h
    · cases h

theorem datas : ∀ xs : List (List UInt8), (xs.map fun s => (⟨s.toArray⟩ : ByteArray)).map (·.data.toList) = xs
  | [] => rfl
  | x :: xs => by rw [List.map_cons, List.map_cons, datas xs]

theorem join_calls {C : Ctx} {xs : List (List UInt8)} {sep : List UInt8} {u : Value} (hb1 : xs.length ≤ 140737488355328) (hb2 : (Lib.join xs sep).length ≤ 140737488355328) (h1 : VA C (.t (.p (.sl 1 (strsK xs)))) u) :
    Calls E.P 84 #[u, .string ⟨sep.toArray⟩] C.w fun e w' => ∃ u, e = .returned u ∧ Grow C.w w' ∧ VA (C.setW w') (valOf (rawT 0 [.p (.str (Lib.join xs sep))])) u := by
  have key : ∀ (es : List (List PV)), es = strsK xs → VP C.w C.O (.sl 1 es) u → Calls E.P 84 #[u, .string ⟨sep.toArray⟩] C.w fun e w' => ∃ u, e = .returned u ∧ Grow C.w w' ∧ VA (C.setW w') (valOf (rawT 0 [.p (.str (Lib.join xs sep))])) u := by
    intro es he h
    cases h with
    | sl0 _ a cap =>
      have : xs = [] := by
        cases xs with
        | nil => rfl
        | cons => cases he
      subst this
      refine (Any.strings_Join_none Tryz.lays156 Tryz.extra156 a cap ⟨sep.toArray⟩ C.w).mono fun e w' ⟨he, hw⟩ => ?_
      subst he hw
      exact ⟨_, rfl, Grow.refl _, .str []⟩
    | sl _ _ b off cap f hb hO hc hz hcell hvp =>
      obtain ⟨bs, hbs⟩ : ∃ bs : List ByteArray, bs = xs.map fun s => (⟨s.toArray⟩ : ByteArray) := ⟨_, rfl⟩
      have hd : bs.map (·.data.toList) = xs := by rw [hbs]; exact datas xs
      have hlen : es.length = bs.length := by rw [he, hbs]; simp [strsK]
      have hxl : xs.length = bs.length := by rw [hbs]; simp
      rw [hlen]
      refine (Any.strings_Join Tryz.lays156 Tryz.extra156 b off cap bs ⟨sep.toArray⟩ C.w (fun j y hj => ?_) hb (by omega) (by omega) (by rw [hd]; exact hb2)).mono fun e w' ⟨he, hw⟩ => ?_
      · rw [hbs, List.getElem?_map] at hj
        obtain ⟨s, hs, rfl⟩ := Option.map_eq_some_iff.1 hj
        have hes : es[j]? = some [.str s] := by rw [he]; unfold strsK; rw [List.getElem?_map, hs]; rfl
        have h1 := hcell j 0 [.str s] (.str s) hes rfl
        have h2 := hvp j 0 [.str s] (.str s) hes rfl
        generalize f j 0 = y at h1 h2
        cases h2
        simp only [Nat.mul_one, Nat.add_zero] at h1
        exact h1
      · subst he
        rw [hd]
        exact ⟨_, rfl, Grow.of_below hw, .str _⟩
  exact key _ rfl h1

theorem s_pJoin : ∀ args rs, pJoin args = some rs → FOk E 84 args [] rs [] := by
  intro args rs h
  unfold pJoin at h
  split at h
  · rename_i es sep
    split at h
    · rename_i xs hxs
      split at h
      · rename_i hb
        cases h
        have he := strsOf_spec hxs
        subst he
        refine prim_ok rfl fun C hok us hv => ?_
        obtain ⟨u, v, rfl, h1, h2⟩ := two_args hv
        rw [vp_str h2]
        exact join_calls hb.1 hb.2 h1
      · cases h
    · cases h
  · cases h

theorem g_pow {C : Ctx} (g : GrOk C) : Lib.TabIs Tryz.prog C.w "internal/strconv.uint64pow10" .u64 Lib.pow10Tab := by
  obtain ⟨e, fr, h⟩ := gPow_of g.at_
  have h : (if gPow < nG then C.w.heap[gPow]? else none) = _ := h
  rw [if_pos (by decide)] at h
  unfold Lib.TabIs World.var?
  rw [show Tryz.prog.globalNamed "internal/strconv.uint64pow10" = some gPow by kernel_rfl]
  show (match C.w.heap[gPow]? with | some (.cells cs _ _) => some cs | _ => none) = _
  rw [h]

theorem grow_drewN (w : World) (k : Nat) (os : Array Obj) : Grow w (Go.Sort.grow (w.drewN k) os) :=
  ⟨rfl, rfl, rfl, by show w.heap.size ≤ (w.heap ++ os).size; simp, fun b hb => by show (w.heap ++ os)[b]? = _; rw [Array.getElem?_append_left hb]⟩

theorem s_pItoa : ∀ args rs, pItoa args = some rs → FOk E 32 args [] rs [] := by
  intro args rs h
  unfold pItoa at h
  split at h
  · rename_i n
    split at h
    · rename_i hn
      cases h
      refine prim_ok rfl fun C hok us hv => ?_
      obtain ⟨u, rfl, h1⟩ := one_arg hv
      rw [vp_int h1]
      refine (Any.strconv_Itoa Tryz.lays171 n hn.1 hn.2 C.w (g_pow hok.gr)).mono fun e w' ⟨he, k, os, hw⟩ => ?_
      subst he hw
      exact ⟨_, rfl, grow_drewN _ _ _, .str _⟩
    · cases h
  · cases h

theorem g_var {C : Ctx} {n : String} {g : Nat} {cs : Array Value} {e : TypeId} {fr : Nat × Nat} (hg : Tryz.prog.globalNamed n = some g) (h : C.w.heap[g]? = some (.cells cs e fr)) : C.w.var? Tryz.prog n = some cs := by
  unfold World.var?
  rw [hg]
  show (match C.w.heap[g]? with | some (.cells cs _ _) => some cs | _ => none) = _
  rw [h]
theorem grow_bytes (w : World) (e : TypeId) (s : ByteArray) : Grow w (Lib.bytesWorld w e s) :=
  ⟨rfl, rfl, rfl, by rw [Lib.bytesWorld_size]; omega, fun b hb => Lib.bytesWorld_at_old w e s b hb⟩

theorem s_pAtoi : ∀ args rs, pAtoi args = some rs → FOk E 39 args [] rs [] := by
  intro args rs h
  unfold pAtoi at h
  split at h
  · rename_i s
    split at h
    · rename_i hs
      cases h
      refine prim_ok rfl fun C hok us hv => ?_
      obtain ⟨u, rfl, h1⟩ := one_arg hv
      rw [vp_str h1]
      have hsz : (ByteArray.mk s.toArray).size = s.length := str_size s
      unfold atoiP
      cases ha : Lib.atoiAll s
      · rename_i v
        refine (Any.strconv_Atoi_ok Tryz.lays172 ⟨s.toArray⟩ (by rw [hsz]; omega) v ha C.w).mono fun e w' ⟨he, hw⟩ => ?_
        subst he
        refine ⟨_, rfl, ?_, _, rfl, .int _ _, .ifcN, trivial⟩
        rcases hw with rfl | ⟨t, rfl⟩
        · exact Grow.refl _
        · exact grow_bytes _ _ _
      · obtain ⟨t, p, e, fr, hv⟩ := gSyn_of hok.gr.at_
        have hv : (if gSyn < nG then C.w.heap[gSyn]? else none) = _ := hv
        rw [if_pos (by decide)] at hv
        refine (Any.strconv_Atoi_syntax_var Tryz.lays172 ⟨s.toArray⟩ (by rw [hsz]; omega) ha t p C.w (g_var (by kernel_rfl) hv)).mono fun e w' ⟨N, he, _, _, hb⟩ => ?_
        subst he
        exact ⟨_, rfl, Grow.of_below hb, _, rfl, .int _ _, .ifc _ _, trivial⟩
      · obtain ⟨t, p, e, fr, hv⟩ := gRng_of hok.gr.at_
        have hv : (if gRng < nG then C.w.heap[gRng]? else none) = _ := hv
        rw [if_pos (by decide)] at hv
        refine (Any.strconv_Atoi_range_var Tryz.lays172 ⟨s.toArray⟩ (by rw [hsz]; omega) ha t p C.w (g_var (by kernel_rfl) hv)).mono fun e w' ⟨N, he, _, _, hb⟩ => ?_
        subst he
        exact ⟨_, rfl, Grow.of_below hb, _, rfl, .int _ _, .ifc _ _, trivial⟩
    · cases h
  · cases h

theorem hprOk : HprOk E := fun g k h => by cases h

theorem primsOk : PrimsOk E := by
  refine ⟨?_, hprOk⟩
  intro f p h
  have h : findP f [(9, hOf 24 25), (14, .pure pRep), (32, .pure pItoa), (37, .pure pCutPrefix), (38, .pure pIndexAny), (39, .pure pAtoi), (47, .pure pAt), (84, .pure pJoin)] = some p := h
  simp only [findP] at h
  cases hf9 : Nat.beq f 9 with
  | true => rw [hf9, cond_true] at h; cases h; rw [Nat.eq_of_beq_eq_true hf9]; exact s_hOf
  | false =>
  rw [hf9, cond_false] at h
  cases hf14 : Nat.beq f 14 with
  | true => rw [hf14, cond_true] at h; cases h; rw [Nat.eq_of_beq_eq_true hf14]; exact fun _ _ => s_pRep
  | false =>
  rw [hf14, cond_false] at h
  cases hf32 : Nat.beq f 32 with
  | true => rw [hf32, cond_true] at h; cases h; rw [Nat.eq_of_beq_eq_true hf32]; exact fun _ _ => s_pItoa
  | false =>
  rw [hf32, cond_false] at h
  cases hf37 : Nat.beq f 37 with
  | true => rw [hf37, cond_true] at h; cases h; rw [Nat.eq_of_beq_eq_true hf37]; exact fun _ _ => s_pCutPrefix
  | false =>
  rw [hf37, cond_false] at h
  cases hf38 : Nat.beq f 38 with
  | true => rw [hf38, cond_true] at h; cases h; rw [Nat.eq_of_beq_eq_true hf38]; exact fun _ _ => s_pIndexAny
  | false =>
  rw [hf38, cond_false] at h
  cases hf39 : Nat.beq f 39 with
  | true => rw [hf39, cond_true] at h; cases h; rw [Nat.eq_of_beq_eq_true hf39]; exact fun _ _ => s_pAtoi
  | false =>
  rw [hf39, cond_false] at h
  cases hf47 : Nat.beq f 47 with
  | true => rw [hf47, cond_true] at h; cases h; rw [Nat.eq_of_beq_eq_true hf47]; exact fun _ _ => s_pAt
  | false =>
  rw [hf47, cond_false] at h
  cases hf84 : Nat.beq f 84 with
  | true => rw [hf84, cond_true] at h; cases h; rw [Nat.eq_of_beq_eq_true hf84]; exact fun _ _ => s_pJoin
  | false =>
  rw [hf84, cond_false] at h
  cases h

end Go.Proofs.YtkpdiagdjplbiaaGreatDoor.Vm
