/- The abstract machine, part 15: operations against the model's: indices, slices, conversions; all together. -/
import Derived.Test.YtpnpdkgdgfkpfaaGreatDoorVm14
import Derived.Laws.Strings2
import Derived.Laws.BytesString
namespace Go.Proofs.YtpnpdkgdgfkpfaaGreatDoor.Vm
set_option linter.unusedVariables false
set_option linter.unusedSimpArgs false

theorem casesI_some {α : Type} {i : Int} {K : Nat → Option α} {r : α} : ∀ {n j : Nat}, casesI i j n K = some r → ∃ k, j ≤ k ∧ k < j + n ∧ i = (k : Int) ∧ K k = some r
  | 0, _, h => by cases h
  | n + 1, j, h => by
    simp only [casesI] at h
    cases hc : (i == (j : Int)) with
    | true => rw [hc] at h; exact ⟨j, by omega, by omega, by simpa using hc, h⟩
    | false =>
      rw [hc] at h
      obtain ⟨k, h1, h2, h3, h4⟩ := casesI_some (n := n) (j := j + 1) h
      exact ⟨k, by omega, by omega, h3, h4⟩

theorem vptr_canCs {C : Ctx} {ss : List Sh} {e : List PV} {b off : Nat} (hok : okCs ss e = true) (hb : b < C.w.heap.size) (hO : ¬ C.O b) (h : ∀ (j : Nat) c, e[j]? = some c → ∃ x, C.w.cell? ⟨b, off + j, none⟩ = some x ∧ C.P c x) :
    VA C (.vptr (canCs ss e 0)) (.pointer (some ⟨b, off, none⟩)) := by
  refine ⟨b, off, rfl, hb, hO, fun j c hj => ?_⟩
  have hl := okCs_length hok
  have hall : All2 C.P e ((List.range e.length).map fun j => (C.w.cell? ⟨b, off + j, none⟩).getD Go.undef) := by
    refine All2.of_get (by simp) fun j c x hj hx => ?_
    obtain ⟨y, hy, hp⟩ := h j c hj
    have hjl := (List.getElem?_eq_some_iff.1 hj).1
    simp [hjl] at hx
    rw [← hx, hy]; exact hp
  have hc := canCs_sound (i := 0) (cs := e) hok (fun j hj => by rw [Nat.zero_add]) hall
  obtain ⟨y, hy, hp⟩ := hc.get j c hj
  have hjl : j < e.length := by
    have := (List.getElem?_eq_some_iff.1 hy).1
    simpa using this
  obtain ⟨x, hx, _⟩ := h j e[j] (by simp [hjl])
  simp [hjl, hx] at hy
  exact ⟨x, hx, by rw [hy]; exact hp⟩

theorem indexAddrK_sound {C : Ctx} (hok : Ok C) {P : Program} {look : Look} (hl : LookOk C look) {t : TypeId} {x ix v : AV} {us : Ups} {ux ui : Value} (hx : VA C x ux) (hi : VA C ix ui) (h : indexAddrK P look t x ix two = some (v, us)) :
    ∃ u, (Instr.indexAt t ux ui).run P C.w = .ok u C.w ∧ us = [] ∧ VA C v u := by
  unfold indexAddrK at h
  split at h
  · rename_i e k i ht
    cases hi
    split at h
    · rename_i sz es
      split at h
      · rename_i ss hss
        split at h
        · rename_i hcond
          simp only [Bool.and_eq_true] at hcond
          have hsz : sz = P.cellsOf e := Nat.eq_of_beq_eq_true hcond.1
          obtain ⟨h0, hlt, hei, h⟩ := getE_some h
          obtain ⟨hoc, h⟩ := ctl_some h
          obtain ⟨rfl, rfl⟩ := two_inj h
          have hsize : (sizeOf e).run P C.w = .ok (P.cellsOf e) C.w := by
            unfold shapes shapesF at hss
            have : tyOk P e = true := by
              unfold tyOk
              cases hu : P.underlying e with
              | none => rw [hu] at hss; cases hss
              | some d => rfl
            exact run_sizeOf this
          cases hx with
          | sl0 => simp at hlt
          | sl _ _ b off cap f hb hO hc hz hcell hvp =>
            refine ⟨.pointer (some ⟨b, off + i.toNat * P.cellsOf e, none⟩), ?_, rfl, ?_⟩
            · have hcnd : 0 ≤ i ∧ i < (es.length : Int) := ⟨h0, by omega⟩
              simp [Instr.indexAt, asIntOf, run_underlying ht, hcnd, hsize, addr_add]
            · refine vptr_canCs hoc hb hO fun j c hj => ?_
              have hj' : (nth [] es i.toNat)[j]? = some c := hj
              exact ⟨f i.toNat j, by rw [← hsz]; exact hcell _ _ _ c hei hj', hvp _ _ _ c hei hj'⟩
        · cases h
      · cases h
    · rename_i id
      split at h
      · rename_i sz es hb
        split at h
        · rename_i hsz
          obtain ⟨hcnd, h⟩ := ctl_some h
          obtain ⟨rfl, rfl⟩ := two_inj h
          simp only [Bool.and_eq_true, decide_eq_true_eq] at hcnd
          simp only [Bool.and_eq_true] at hsz
          have hsz' : sz = P.cellsOf e := Nat.eq_of_beq_eq_true hsz.1
          have hlv := hl _ _ hb
          obtain ⟨hk, _, hv⟩ := hx
          have hS := hv _ _ hlv
          unfold HS at hS
          cases hι : C.ι id with
          | none => rw [hι] at hS; obtain ⟨rfl, _⟩ := hS; simp at hcnd; omega
          | some n =>
            rw [hι] at hS
            obtain ⟨cap, carr, e2, fr, rfl, hle, hr, hcap⟩ := hS
            refine ⟨.pointer (some ⟨n, i.toNat * P.cellsOf e, none⟩), ?_, rfl, ?_⟩
            · have hcnd' : 0 ≤ i ∧ i < (es.length : Int) := hcnd
              simp [Instr.indexAt, asIntOf, run_underlying ht, hcnd', run_sizeOf hsz.2, addr_add]
            · refine ⟨hk, n, i.toNat * P.cellsOf e, rfl, fun sz2 es2 hl2 => ?_⟩
              have := live_inj hlv hl2
              cases this
              exact ⟨by omega, hι, by rw [hsz']⟩
        · cases h
      · cases h
    · cases h
  · rename_i n e k i ht
    cases hi
    split at h
    · rename_i hte
      have run : ∀ (b o j : Nat), i = (j : Int) → j < n → (Instr.indexAt t (.pointer (some ⟨b, o, none⟩)) (.int k i)).run P C.w = .ok (.pointer (some ⟨b, o + j * P.cellsOf e, none⟩)) C.w := by
        intro b o j hij hjn
        subst hij
        have hcnd : (0 : Int) ≤ (j : Int) ∧ (j : Int) < (n : Int) := ⟨by omega, by omega⟩
        simp [Instr.indexAt, asIntOf, run_underlying ht, sure_ptr, hcnd, run_sizeOf hte, addr_add]
        intro hnj
        omega
      split at h
      · rename_i id o
        obtain ⟨j, _, hj, hij, h⟩ := casesI_some h
        obtain ⟨rfl, rfl⟩ := two_inj h
        obtain ⟨hk, b, rfl, hp⟩ := hx
        exact ⟨_, run b o j hij (by omega), rfl, hk, b, rfl, hp⟩
      · rename_i cs
        obtain ⟨j, _, hj, hij, h⟩ := casesI_some h
        obtain ⟨rfl, rfl⟩ := two_inj h
        obtain ⟨b, off, rfl, hb, hO, hc⟩ := hx
        refine ⟨_, run b off j hij (by omega), rfl, b, _, rfl, hb, hO, fun m c hm => ?_⟩
        rw [List.getElem?_drop] at hm
        obtain ⟨x, h1, h2⟩ := hc _ c hm
        exact ⟨x, by rw [Nat.add_assoc]; exact h1, h2⟩
      · rename_i id m o
        obtain ⟨j, _, hj, hij, h⟩ := casesI_some h
        obtain ⟨rfl, rfl⟩ := two_inj h
        obtain ⟨hk, b, k0, rfl, hp⟩ := hx
        exact ⟨_, run b (k0 + o) j hij (by omega), rfl, hk, b, k0, by rw [Nat.add_assoc], hp⟩
      · cases h
    · cases h
  · cases h

theorem addrOff_sound {C : Ctx} {x v : AV} {u : Value} {off : Nat} (hx : VA C x u) (h : addrOff x off = some v) : ∃ b o, u = .pointer (some ⟨b, o, none⟩) ∧ VA C v (.pointer (some ⟨b, o + off, none⟩)) := by
  unfold addrOff at h
  split at h
  · rename_i id o
    cases h
    obtain ⟨hk, b, rfl, hp⟩ := hx
    exact ⟨b, o, rfl, hk, b, rfl, hp⟩
  · rename_i cs
    cases h
    obtain ⟨b, o, rfl, hb, hO, hc⟩ := hx
    refine ⟨b, o, rfl, b, _, rfl, hb, hO, fun m c hm => ?_⟩
    rw [List.getElem?_drop] at hm
    obtain ⟨y, h1, h2⟩ := hc _ c hm
    exact ⟨y, by rw [Nat.add_assoc]; exact h1, h2⟩
  · rename_i id i o
    cases h
    obtain ⟨hk, b, k, rfl, hp⟩ := hx
    exact ⟨b, k + o, rfl, hk, b, k, by rw [Nat.add_assoc], hp⟩
  · cases h

theorem part_sound {C : Ctx} {P : Program} {t : TypeId} {cs : List PV} {us : Array Value} {off : Nat} {v : AV} (ha : All2 C.P cs us.toList) (hlen : (cut cs off (P.cellsOf t)).length = P.cellsOf t)
    (h : oneOrAgg P t (cut cs off (P.cellsOf t)) = some v) : ∃ u, (part t us off).run P C.w = .ok u C.w ∧ VA C v u := by
  obtain ⟨hty, h⟩ := oneOrAgg_some h
  have hcut : All2 C.P (cut cs off (P.cellsOf t)) ((us.toList.drop off).take (P.cellsOf t)) := (ha.drop off).take _
  rcases h with ⟨hag, rfl⟩ | ⟨hag, c, hc, rfl⟩
  · refine ⟨.agg (us.extract off (off + P.cellsOf t)), by simp [part, run_isAgg hty, hag, run_sizeOf hty], _, rfl, ?_⟩
    rw [Array.toList_extract]
    have : List.extract us.toList off (off + P.cellsOf t) = (us.toList.drop off).take (P.cellsOf t) := by
      unfold List.extract
      rw [Nat.add_sub_cancel_left]
    rw [this]
    exact hcut
  · rw [hc] at hcut
    cases hd : (us.toList.drop off).take (P.cellsOf t) with
    | nil => rw [hd] at hcut; exact hcut.elim
    | cons u l =>
      rw [hd] at hcut
      have hu : us[off]? = some u := by
        have := congrArg List.head? hd
        rw [List.head?_take] at this
        split at this
        · cases this
        · simpa [List.head?_drop] using this
      exact ⟨u, by simp [part, run_isAgg hty, hag, hu], hcut.1⟩

theorem indexK_sound {C : Ctx} (hok : Ok C) {P : Program} {t : TypeId} {x ix v : AV} {us : Ups} {ux ui : Value} (hx : VA C x ux) (hi : VA C ix ui) (h : indexK P t x ix two = some (v, us)) :
    ∃ u, (Instr.index t ux ui).run P C.w = .ok u C.w ∧ us = [] ∧ VA C v u := by
  unfold indexK at h
  split at h
  · rename_i n e cs k i ht
    cases hi
    obtain ⟨uus, rfl, ha⟩ := hx
    split at h
    · rename_i ss hss
      split at h
      · rename_i hcond
        simp only [Bool.and_eq_true] at hcond
        have hlen : cs.length = n * P.cellsOf e := Nat.eq_of_beq_eq_true hcond.1
        have hssl : ss.length = P.cellsOf e := Nat.eq_of_beq_eq_true hcond.2
        obtain ⟨h0, hlt, hei, h⟩ := getE_some h
        rw [chunks_length] at hlt
        obtain ⟨hoc, h⟩ := ctl_some h
        split at h
        · rename_i v' hv'
          obtain ⟨rfl, rfl⟩ := two_inj h
          rw [chunks_get _ _ _ _ hlt] at hei
          have hel : nth [] (chunks (P.cellsOf e) n cs) i.toNat = cut cs (i.toNat * P.cellsOf e) (P.cellsOf e) := (Option.some.inj hei).symm
          rw [hel] at hoc hv'
          obtain ⟨hty, h2⟩ := oneOrAgg_some hv'
          have hcnd : 0 ≤ i ∧ i < (n : Int) := ⟨h0, by omega⟩
          have hcut : All2 C.P (cut cs (i.toNat * P.cellsOf e) (P.cellsOf e)) ((uus.toList.drop (i.toNat * P.cellsOf e)).take (P.cellsOf e)) := (ha.drop _).take _
          have hcan := canCs_sound (i := 0) (cs := cut cs (i.toNat * P.cellsOf e) (P.cellsOf e)) hoc (fun j _ => by rw [Nat.zero_add]) hcut
          have hprt : ∃ u, (part e uus (i.toNat * P.cellsOf e)).run P C.w = .ok u C.w ∧ VA C v' u := by
            rcases h2 with ⟨hag, rfl⟩ | ⟨hag, c, hc, rfl⟩
            · refine ⟨.agg (uus.extract (i.toNat * P.cellsOf e) (i.toNat * P.cellsOf e + P.cellsOf e)), by simp [part, run_isAgg hty, hag, run_sizeOf hty], _, rfl, ?_⟩
              rw [Array.toList_extract]
              have : List.extract uus.toList (i.toNat * P.cellsOf e) (i.toNat * P.cellsOf e + P.cellsOf e) = (uus.toList.drop (i.toNat * P.cellsOf e)).take (P.cellsOf e) := by
                unfold List.extract
                rw [Nat.add_sub_cancel_left]
              rw [this]
              exact hcan
            · rw [hc] at hcan
              cases hd : (uus.toList.drop (i.toNat * P.cellsOf e)).take (P.cellsOf e) with
              | nil => rw [hd] at hcan; exact hcan.elim
              | cons u l =>
                rw [hd] at hcan
                have hu : uus[i.toNat * P.cellsOf e]? = some u := by
                  have := congrArg List.head? hd
                  rw [List.head?_take] at this
                  split at this
                  · cases this
                  · simpa [List.head?_drop] using this
                exact ⟨u, by simp [part, run_isAgg hty, hag, hu], hcan.1⟩
          obtain ⟨u, hu1, hu2⟩ := hprt
          exact ⟨u, by simp [Instr.index, asIntOf, run_underlying ht, hcnd, run_sizeOf hty, hu1], rfl, hu2⟩
        · cases h
      · cases h
    · cases h
  · rename_i s k i ht
    cases hi; cases hx
    obtain ⟨hcnd, h⟩ := ctl_some h
    obtain ⟨rfl, rfl⟩ := two_inj h
    simp only [Bool.and_eq_true, decide_eq_true_eq] at hcnd
    have hlt : i.toNat < s.length := by omega
    refine ⟨.int .u8 (byteAt s i), ?_, rfl, .int _ _⟩
    have hb : (ByteArray.mk s.toArray)[i.toNat]? = some (nth 0 s i.toNat) := by
      have hs : i.toNat < (ByteArray.mk s.toArray).size := by rw [str_size]; exact hlt
      rw [getElem?_pos (ByteArray.mk s.toArray) i.toNat hs]
      congr 1
      rw [nth_eq]
      simp [List.getD, hlt]
      rfl
    simp [Instr.index, asIntOf, run_underlying ht, hcnd.1, hb, byteAt]
  · cases h

end Go.Proofs.YtpnpdkgdgfkpfaaGreatDoor.Vm
