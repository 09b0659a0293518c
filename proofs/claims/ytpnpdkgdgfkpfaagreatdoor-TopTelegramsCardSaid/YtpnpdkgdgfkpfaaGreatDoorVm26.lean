/- The abstract machine, part 26: a region against the model's. -/
import Derived.Test.YtpnpdkgdgfkpfaaGreatDoorVm25
namespace Go.Proofs.YtpnpdkgdgfkpfaaGreatDoor.Vm
set_option linter.unusedVariables false
set_option linter.unusedSimpArgs false

theorem vt_known {C : Ctx} {v : TV} {u : Value} (h : VT C v u) : ∀ id ∈ v.refs, known C.h id := by
  intro id hid
  cases v with
  | p v => cases hid
  | agg cs => cases hid
  | hsl i => simp only [TV.refs, List.mem_singleton] at hid; subst hid; exact h.1
  | ptr i o => simp only [TV.refs, List.mem_singleton] at hid; subst hid; exact h.1

theorem vts_known {C : Ctx} : ∀ {l : List TV} {us : List Value}, All2 (VT C) l us → ∀ id ∈ l.flatMap TV.refs, known C.h id
  | [], _, _, id, hid => by cases hid
  | v :: l, [], h, _, _ => h.elim
  | v :: l, u :: us, h, id, hid => by
    simp only [List.flatMap_cons, List.mem_append] at hid
    exact hid.elim (vt_known h.1 id) (vts_known h.2 id)

theorem va_known {C : Ctx} {v : AV} {u : Value} (h : VA C v u) : ∀ id ∈ v.refs, known C.h id := by
  intro id hid
  cases v with
  | undef => cases hid
  | no => cases hid
  | t v => exact vt_known h id hid
  | vptr cs => cases hid
  | hptr i k o => simp only [AV.refs, List.mem_singleton] at hid; subst hid; exact h.1
  | fn f caps => obtain ⟨us, _, ha⟩ := h; exact vts_known ha id hid
  | tup vs => obtain ⟨us, _, ha⟩ := h; exact vts_known ha id hid
  | aggo vs => obtain ⟨us, _, ha⟩ := h; exact vts_known ha id hid
  | nptr i => simp only [AV.refs, List.mem_singleton] at hid; subst hid; exact h.1

theorem SR.closed {C : Ctx} {st : St} {a : Act} (hs : SR C st a) (hok : Ok C) : Closed st where
  slot t id hid := by rw [← hs.h]; exact va_known (hs.s t) id hid
  box id cs hl c hc id' hid := by
    rw [← hs.h] at hl ⊢
    obtain ⟨n, carr, e, fr, _, _, _, _, hcell⟩ := hok.blk id _ hl
    obtain ⟨j, hj, hjc⟩ := List.mem_iff_getElem.1 hc
    obtain ⟨u, _, hv, _⟩ := hcell j c (by rw [← hjc]; exact List.getElem?_eq_getElem hj)
    exact va_known hv id' hid

theorem SR.le {C : Ctx} {st se : St} {a : Act} (hs : SR C se a) (hle : Le st se) : SR C st a := by
  refine ⟨by rw [hs.h, hle.heap], fun t => ?_, by rw [← hle.len]; exact hs.n⟩
  rcases hle.slot t with h | h
  · rw [h]; trivial
  · rw [h]; exact hs.s t

def Ctx.more (C : Ctx) (n : Nat) : Ctx := ⟨C.w, C.ι, C.h ++ reps .fresh n, C.X⟩

theorem nth_more (h : List Ent) (n id : Nat) : nth Ent.fresh (h ++ reps .fresh n) id = nth Ent.fresh h id := by
  rw [nth_eq, nth_eq, reps_eq, List.getD_eq_getElem?_getD, List.getD_eq_getElem?_getD, List.getElem?_append]
  split
  · rfl
  · rename_i hn
    rw [List.getElem?_eq_none (l := h) (by omega), List.getElem?_replicate]
    split <;> rfl

theorem ext_more (C : Ctx) (n : Nat) : Ext C (C.more n) := by
  have hl : ∀ id b, live (C.more n).h id b ↔ live C.h id b := fun id b => by
    show nth Ent.fresh (C.h ++ reps .fresh n) id = _ ↔ _
    rw [nth_more]; rfl
  refine ⟨rfl, rfl, rfl, Nat.le_refl _, rfl, fun _ _ _ => rfl, fun b _ ho => ?_, fun id hk => ⟨?_, fun b' hb => ⟨b', (hl id b').1 hb, rfl, like_refl _⟩⟩, fun b carr e fr _ h => ⟨carr, fr, h, rfl⟩⟩
  · obtain ⟨id, blk, h1, h2⟩ := ho
    exact ⟨id, blk, (hl id blk).1 h1, h2⟩
  · show nth Ent.fresh (C.h ++ reps .fresh n) id ≠ _
    rw [nth_more]; exact hk

theorem ok_more {C : Ctx} (hok : Ok C) (n : Nat) : Ok (C.more n) := by
  have hl : ∀ id b, live (C.more n).h id b → live C.h id b := fun id b h => by
    have h : nth Ent.fresh (C.h ++ reps .fresh n) id = _ := h
    rw [nth_more] at h; exact h
  exact hok.step (ext_more C n) (fun id b h => .inr ⟨hl id b h, rfl, fun _ _ => rfl⟩) fun id id' n' b b' h1 h2 => hok.inj id id' n' b b' (hl _ _ h1) (hl _ _ h2)

theorem SR.more {C : Ctx} {st : St} {a : Act} (hs : SR C st a) (n : Nat) : SR (C.more n) ⟨st.slots, st.heap ++ reps .fresh n⟩ a :=
  ⟨by show C.h ++ _ = _; rw [hs.h], hs.s.ext (ext_more C n), hs.n⟩

theorem SR.ext {C C' : Ctx} {st : St} {a : Act} (hs : SR C st a) (hx : Ext C C') (hh : C'.h = C.h) : SR C' st a := ⟨hh.trans hs.h, hs.s.ext hx, hs.n⟩

section
variable {E : Env} {F : Fun} (hE : okFns E = true) (hF : FSound E F) {ops : Array Oper} {Q : Exit → Act → World → Prop} {st' : St}
include hE hF

theorem ops_plain (rest : List Nat) : ∀ (l : List Oper) (i nid : Nat) (C : Ctx) (st : St) (a : Act) (tr : List Tr), (∀ (m : Nat) o, l[m]? = some o → ops[i + m]? = some o) → xrun E F ops false (items i nid l) st = some (tr, st') → Ok C → SR C st a →
    (∀ n, nid ≤ n → n < nid + resvs l → nth Ent.fresh st.heap n = .fresh) → nid + resvs l ≤ st.heap.length →
    (∀ C' a', Ok C' → Ext C C' → SR C' st' a' → Same a a' → wpOps E.P ops Q rest a' C'.w) → wpOps E.P ops Q (List.range' i l.length ++ rest) a C.w
  | [], i, nid, C, st, a, tr, _, hx, hok, hs, _, _, hQ => by
    simp only [items, xrun] at hx
    cases hx
    exact hQ C a hok (Ext.refl C) hs (Same.refl a)
  | o :: l, i, nid, C, st, a, tr, hd, hx, hok, hs, hf, hlen, hQ => by
    obtain ⟨r, e, rs, h1, h2, rfl⟩ := xrun_cons.1 hx
    have ho : ops[i]? = some o := hd 0 o rfl
    have hd' : ∀ (m : Nat) o', l[m]? = some o' → ops[i + 1 + m]? = some o' := fun m o' hm => by
      have := hd (m + 1) o' (by simpa using hm)
      rwa [show i + (m + 1) = i + 1 + m by omega] at this
    simp only [resvs] at hf hlen
    rw [List.length_cons, List.range'_succ, List.cons_append, wpOps_cons]
    have hr : brings o.op = true → resv o = 2 := fun hb => by unfold resv; rw [hb]; rfl
    refine eff_step (t := ⟨i, nid, o⟩) hok hE hF hs ho (fun hb => ?_) h1 fun C' a' hok' hx' hs' hdf => ?_
    · have := hr hb
      rw [hs.h]
      exact ⟨hf nid (Nat.le_refl _) (by omega), hf (nid + 1) (by omega) (by omega), by show nid + 1 < _; omega⟩
    · refine ops_plain rest l (i + 1) (nid + resv o) C' _ a' rs hd' h2 hok' hs' (fun n h3 h4 => ?_) ?_ fun C2 a2 hok2 hx2 hs2 hd2 => hQ C2 a2 hok2 (hx'.trans hx2) hs2 (hdf.trans hd2)
      · refine eff_fresh h1 (hf n (by omega) (by omega)) fun hb => ?_
        have := hr hb
        show n ≠ nid ∧ n ≠ nid + 1
        omega
      · rw [put_length]; omega

end

theorem before_spec (ops : Array Oper) {i k : Nat} (h : ((Region.before ops).getD i 0).testBit k = true) : ∃ o, ops[i]? = some o ∧ ∃ e ∈ o.after, Region.binds .any e = true ∧ (k = e.on ∨ (e.on < i ∧ ((Region.before ops).getD e.on 0).testBit k = true)) := by
  -- the numbers of a beginning
  have main : ∀ (l : List Oper) (A : Array Nat) (o0 : Nat → Option Oper), (∀ j, j < A.size → ∀ k, (A.getD j 0).testBit k = true → ∃ o, o0 j = some o ∧ ∃ e ∈ o.after, Region.binds .any e = true ∧ (k = e.on ∨ (e.on < j ∧ (A.getD e.on 0).testBit k = true))) →
      (∀ m, o0 (A.size + m) = l[m]?) →
      ∀ B, B = l.foldl (fun acc o => acc.push (o.after.foldl (fun s e => if Region.binds .any e then s ||| 2 ^ e.on ||| acc.getD e.on 0 else s) 0)) A →
      ∀ j, j < B.size → ∀ k, (B.getD j 0).testBit k = true → ∃ o, o0 j = some o ∧ ∃ e ∈ o.after, Region.binds .any e = true ∧ (k = e.on ∨ (e.on < j ∧ (B.getD e.on 0).testBit k = true)) := by
    intro l
    induction l with
    | nil => intro A o0 hA _ B hB; subst hB; exact hA
    | cons o l ih =>
      intro A o0 hA ho B hB
      refine ih (A.push (o.after.foldl (fun s e => if Region.binds .any e then s ||| 2 ^ e.on ||| A.getD e.on 0 else s) 0)) o0 (fun j hj k hk => ?_) (fun m => ?_) B hB
      · have hpush : ∀ j, j < A.size → (A.push (o.after.foldl (fun s e => if Region.binds .any e then s ||| 2 ^ e.on ||| A.getD e.on 0 else s) 0)).getD j 0 = A.getD j 0 := fun j hj => by
          simp only [Array.getD_eq_getD_getElem?, Array.getElem?_push, if_neg (Nat.ne_of_lt hj)]
        rw [Array.size_push] at hj
        by_cases hlt : j < A.size
        · rw [hpush j hlt] at hk
          obtain ⟨o', h1, e, h2, h3, h4⟩ := hA j hlt k hk
          refine ⟨o', h1, e, h2, h3, h4.imp (fun h => h) fun h => ⟨h.1, ?_⟩⟩
          rw [hpush e.on (by omega)]; exact h.2
        · have hj' : j = A.size := by omega
          subst hj'
          have h0 := ho 0
          simp only [Nat.add_zero, List.getElem?_cons_zero] at h0
          refine ⟨o, h0, ?_⟩
          have hv : (A.push (o.after.foldl (fun s e => if Region.binds .any e then s ||| 2 ^ e.on ||| A.getD e.on 0 else s) 0)).getD A.size 0 = o.after.foldl (fun s e => if Region.binds .any e then s ||| 2 ^ e.on ||| A.getD e.on 0 else s) 0 := by
            simp [Array.getD_eq_getD_getElem?]
          rw [hv, ← Array.foldl_toList] at hk
          have fold : ∀ (es : List Edge) (s : Nat), (es.foldl (fun s e => if Region.binds .any e then s ||| 2 ^ e.on ||| A.getD e.on 0 else s) s).testBit k = true → s.testBit k = true ∨ ∃ e ∈ es, Region.binds .any e = true ∧ (k = e.on ∨ (A.getD e.on 0).testBit k = true) := by
            intro es
            induction es with
            | nil => intro s h; exact .inl h
            | cons e es ih2 =>
              intro s h
              rw [List.foldl_cons] at h
              rcases ih2 _ h with h | ⟨e', h1, h2, h3⟩
              · split at h
                · rename_i hb
                  simp only [Nat.testBit_or, Bool.or_eq_true] at h
                  rcases h with (h | h) | h
                  · exact .inl h
                  · rw [Nat.testBit_two_pow] at h
                    have h : e.on = k := by simpa using h
                    exact .inr ⟨e, by simp, hb, .inl h.symm⟩
                  · exact .inr ⟨e, by simp, hb, .inr h⟩
                · exact .inl h
              · exact .inr ⟨e', by simp [h1], h2, h3⟩
          rcases fold _ _ hk with h | ⟨e, h1, h2, h3⟩
          · simp at h
          · refine ⟨e, by simpa using h1, h2, h3.imp (fun h => h) fun h => ?_⟩
            have hlt' : e.on < A.size := by
              rcases Nat.lt_or_ge e.on A.size with h' | h'
              · exact h'
              · rw [Array.getD_eq_getD_getElem?, Array.getElem?_eq_none h'] at h; simp at h
            exact ⟨hlt', by rw [hpush _ hlt']; exact h⟩
      · have := ho (m + 1)
        rw [Array.size_push, Nat.add_assoc, Nat.add_comm 1 m, this]
        rfl
  have hB : Region.before ops = ops.toList.foldl (fun acc o => acc.push (o.after.foldl (fun s e => if Region.binds .any e then s ||| 2 ^ e.on ||| acc.getD e.on 0 else s) 0)) #[] := by
    unfold Region.before
    rw [← Array.foldl_toList]
  refine main ops.toList #[] (fun j => ops[j]?) (fun j hj => by simp at hj) (fun m => by simp) _ hB i ?_ k h
  rcases Nat.lt_or_ge i (Region.before ops).size with h' | h'
  · exact h'
  · rw [Array.getD_eq_getD_getElem?, Array.getElem?_eq_none h'] at h; simp at h

theorem before_listed {ops : Array Oper} {listed : Array Bool} (hdown : ∀ (j : Nat) o, ops[j]? = some o → listed.getD j false = true → ∀ e ∈ o.after, Region.binds .any e = true → listed.getD e.on false = true) :
    ∀ (i : Nat) o, ops[i]? = some o → (∀ e ∈ o.after, Region.binds .any e = true → listed.getD e.on false = true) → ∀ k, ((Region.before ops).getD i 0).testBit k = true → listed.getD k false = true := by
  intro i
  induction i using Nat.strongRecOn with
  | _ i ih =>
    intro o ho hall k hk
    obtain ⟨o', ho', e, he, hb, h⟩ := before_spec ops hk
    rw [ho] at ho'
    cases ho'
    have hl := hall e he hb
    rcases h with rfl | ⟨hlt, h⟩
    · exact hl
    · cases hoe : ops[e.on]? with
      | none =>
        obtain ⟨o2, h2, _⟩ := before_spec ops h
        rw [hoe] at h2; cases h2
      | some o2 => exact ih e.on hlt o2 hoe (hdown e.on o2 hoe hl) k h

theorem drawOk_at {ops : Array Oper} {before : Array Nat} : ∀ {l : List Oper} {j : Nat}, drawOk ops before j l = true → ∀ (m : Nat) o, l[m]? = some o → edgesOk o (j + m) = true ∧ apartRow ops before o (j + m) 0 ops.toList = true
  | [], _, _, m, o, h => by simp at h
  | x :: l, j, h, m, o, hm => by
    simp only [drawOk, Bool.and_eq_true] at h
    cases m with
    | zero => simp at hm; subst hm; exact h.1
    | succ m =>
      have := drawOk_at h.2 m o (by simpa using hm)
      rwa [show j + 1 + m = j + (m + 1) by omega] at this

theorem apartRow_at {ops : Array Oper} {before : Array Nat} {oj : Oper} {j : Nat} : ∀ {l : List Oper} {i : Nat}, apartRow ops before oj j i l = true → ∀ (m : Nat) o, l[m]? = some o → i + m < j → (before.getD j 0).testBit (i + m) = true ∨ apartB ops o oj = true
  | [], _, _, m, o, h, _ => by simp at h
  | x :: l, i, h, m, o, hm, hlt => by
    simp only [apartRow, Bool.and_eq_true] at h
    cases m with
    | zero =>
      simp at hm; subst hm
      simp only [Bool.or_eq_true] at h
      rcases h.1 with (h1 | h1) | h1
      · have := Nat.le_of_ble_eq_true h1; omega
      · exact .inl h1
      · exact .inr h1
    | succ m =>
      have := apartRow_at h.2 m o (by simpa using hm) (by omega)
      rwa [show i + 1 + m = i + (m + 1) by omega] at this

theorem s1Ok_at {E : Env} {before : Array Nat} {all : List Oper} : ∀ {l : List Oper} {j : Nat}, s1Ok E before all j l = true → ∀ (m : Nat) o, l[m]? = some o → s1Row E before o (j + m) 0 all = true
  | [], _, _, m, o, h => by simp at h
  | x :: l, j, h, m, o, hm => by
    simp only [s1Ok, Bool.and_eq_true] at h
    cases m with
    | zero => simp at hm; subst hm; exact h.1
    | succ m =>
      have := s1Ok_at h.2 m o (by simpa using hm)
      rwa [show j + 1 + m = j + (m + 1) by omega] at this

theorem s1Row_at {E : Env} {before : Array Nat} {oj : Oper} {j : Nat} : ∀ {l : List Oper} {i : Nat}, s1Row E before oj j i l = true → ∀ (m : Nat) o, l[m]? = some o → i + m < j →
    (before.getD j 0).testBit (i + m) = true ∨ ((clsW E o.op && clsH oj.op) || (clsH o.op && clsW E oj.op)) = false
  | [], _, _, m, o, h, _ => by simp at h
  | x :: l, i, h, m, o, hm, hlt => by
    simp only [s1Row, Bool.and_eq_true] at h
    cases m with
    | zero =>
      simp at hm; subst hm
      simp only [Bool.or_eq_true, Bool.not_eq_true'] at h
      rcases h.1 with (h1 | h1) | h1
      · have := Nat.le_of_ble_eq_true h1; omega
      · exact .inl h1
      · exact .inr h1
    | succ m =>
      have := s1Row_at h.2 m o (by simpa using hm) (by omega)
      rwa [show i + 1 + m = i + (m + 1) by omega] at this

def TrOk (t : It) (r : Tr) : Prop := r.i = t.i ∧ (clsH t.o.op = false → r.fp = [])

theorem xrun_tr {E : Env} {F : Fun} {ops : Array Oper} : ∀ {l : List It} {st st' : St} {tr : List Tr}, xrun E F ops true l st = some (tr, st') → All2 TrOk l tr
  | [], _, _, _, h => by simp only [xrun] at h; cases h; trivial
  | t :: l, st, st', tr, h => by
    obtain ⟨r, e, rs, h1, h2, rfl⟩ := xrun_cons.1 h
    obtain ⟨hi, h3⟩ := eff_info (v := e.1) (us := e.2) h1
    refine ⟨⟨hi, fun hc => ?_⟩, xrun_tr h2⟩
    rcases h3 with ⟨_, rfl, _⟩ | ⟨_, fp, _, rfl, _⟩
    · rfl
    · simp only [hc, cond_false]

theorem items_get : ∀ (l : List Oper) (i nid m : Nat) (t : It), (items i nid l)[m]? = some t → l[m]? = some t.o ∧ t.i = i + m
  | [], _, _, m, t, h => by simp [items] at h
  | o :: l, i, nid, 0, t, h => by simp [items] at h; subst h; exact ⟨rfl, rfl⟩
  | o :: l, i, nid, m + 1, t, h => by
    have := items_get l (i + 1) (nid + resv o) m t (by simpa [items] using h)
    exact ⟨by simpa using this.1, by omega⟩

theorem items_len : ∀ (l : List Oper) (i nid : Nat), (items i nid l).length = l.length
  | [], _, _ => rfl
  | o :: l, i, nid => by simp [items, items_len l]

theorem items_nid : ∀ (l : List Oper) (i nid : Nat) (t : It), t ∈ items i nid l → nid ≤ t.nid ∧ t.nid + resv t.o ≤ nid + resvs l
  | [], _, _, t, h => by cases h
  | o :: l, i, nid, t, h => by
    simp only [resvs]
    rcases List.mem_cons.1 h with rfl | h
    · exact ⟨Nat.le_refl _, by show nid + resv o ≤ _; omega⟩
    · have := items_nid l (i + 1) (nid + resv o) t h
      omega

theorem items_apart : ∀ (l : List Oper) (i nid : Nat), (items i nid l).Pairwise fun a b => brings a.o.op = true → brings b.o.op = true → a.nid + 1 < b.nid ∨ b.nid + 1 < a.nid
  | [], _, _ => List.Pairwise.nil
  | o :: l, i, nid => by
    refine List.pairwise_cons.2 ⟨fun t ht ha hb => .inl ?_, items_apart l _ _⟩
    have := items_nid l _ _ t ht
    have hr : resv o = 2 := by
      have ha : brings o.op = true := ha
      unfold resv; rw [ha]; rfl
    show nid + 1 < t.nid
    omega

theorem items_sorted : ∀ (l : List Oper) (i nid : Nat), (items i nid l).Pairwise fun a b => a.i < b.i
  | [], _, _ => List.Pairwise.nil
  | o :: l, i, nid => by
    refine List.pairwise_cons.2 ⟨fun t ht => ?_, items_sorted l _ _⟩
    obtain ⟨m, hm, he⟩ := List.mem_iff_getElem.1 ht
    have := items_get l (i + 1) (nid + resv o) m t (by rw [← he]; exact List.getElem?_eq_getElem hm)
    show i < t.i
    omega

theorem All2.mid {α β : Type} {R : α → β → Prop} : ∀ {p : List α} {x : α} {q : List α} {rp : List β} {y : β} {rq : List β}, p.length = rp.length → All2 R (p ++ x :: q) (rp ++ y :: rq) → R x y ∧ All2 R (p ++ q) (rp ++ rq) ∧ All2 R p rp
  | [], x, q, [], y, rq, _, h => ⟨h.1, h.2, trivial⟩
  | a :: p, x, q, b :: rp, y, rq, hl, h => by
    obtain ⟨h1, h2, h3⟩ := All2.mid (p := p) (rp := rp) (by simpa using hl) h.2
    exact ⟨h1, ⟨h.1, h2⟩, h.1, h3⟩
  | [], _, _, _ :: _, _, _, hl, _ => by simp at hl
  | _ :: _, _, _, [], _, _, hl, _ => by simp at hl

section
variable {E : Env} {F : Fun} (hE : okFns E = true) (hF : FSound E F) {ops : Array Oper} {Q : Exit → Act → World → Prop} {st' : St}
include hE hF

theorem ops_draw (hdr : drawOk ops (Region.before ops) 0 ops.toList = true) (k : Nat) (lst : Option Nat) : ∀ (n : Nat) (its : List It) (listed : Array Bool) (C : Ctx) (st : St) (a : Act) (tr : List Tr), its.length = n → xrun E F ops true its st = some (tr, st') → Ok C → SR C st a → Fit its st →
    (∀ t ∈ its, ops[t.i]? = some t.o) → its.Pairwise (fun x y => x.i < y.i) → listed.size = ops.size → (∀ j, listed.getD j true = false ↔ (∃ t ∈ its, t.i = j) ∨ lst = some j) →
    (∀ j, lst = some j → (∃ o, ops[j]? = some o) ∧ ∀ t ∈ its, t.i < j ∧ ((Region.before ops).getD j 0).testBit t.i = true) →
    (∀ (j : Nat) o, ops[j]? = some o → listed.getD j false = true → ∀ e ∈ o.after, Region.binds .any e = true → listed.getD e.on false = true) → tr.Pairwise (okp (Region.before ops)) →
    (∀ C' a' (listed' : Array Bool), listed'.size = ops.size → (∀ j, listed'.getD j true = false ↔ lst = some j) → Ok C' → Ext C C' → SR C' st' a' → Same a a' → wpAny E.P .any ops Q k listed' a' C'.w) → wpAny E.P .any ops Q (n + k) listed a C.w := by
  intro n
  induction n with
  | zero =>
    intro its listed C st a tr hlen hx hok hs hfit hat hsort hsize hlist hlst hdown hgood hQ
    have : its = [] := List.length_eq_zero_iff.1 hlen
    subst this
    simp only [xrun] at hx
    cases hx
    rw [Nat.zero_add]
    refine hQ C a listed hsize (fun j => ?_) hok (Ext.refl C) hs (Same.refl a)
    rw [hlist j]
    exact ⟨fun h => h.elim (fun ⟨t, ht, _⟩ => by cases ht) fun h => h, .inr⟩
  | succ n ih =>
    intro its listed C st a tr hlen hx hok hs hfit hat hsort hsize hlist hlst hdown hgood hQ
    rw [Nat.succ_add]
    have hget : ∀ j, j < ops.size → (listed.getD j true = true ↔ listed.getD j false = true) := fun j hj => by
      rw [← hsize] at hj
      simp [Array.getD, hj]
    refine ⟨fun hnil => ?_, fun i hi => ?_⟩
    · -- the first one is ready
      exfalso
      cases its with
      | nil => simp at hlen
      | cons t its =>
        have hto := hat t (by simp)
        have hlt : t.i < ops.size := (Array.getElem?_eq_some_iff.1 hto).1
        have : t.i ∈ Region.ready .any ops listed := by
          refine mem_ready.2 ⟨(hlist t.i).2 (.inl ⟨t, by simp, rfl⟩), t.o, hto, fun e he hb => ?_⟩
          have hed := (drawOk_at hdr t.i t.o (by simpa using hto)).1
          unfold edgesOk at hed
          have h1 := Array.all_eq_true_iff_forall_mem.1 hed e he
          simp only [hb, Bool.not_true, Bool.false_or, Nat.zero_add] at h1
          have h1 : e.on < t.i := by simpa [Nat.blt_eq] using h1
          refine (hget e.on (by omega)).1 ?_
          cases hc : listed.getD e.on true with
          | true => rfl
          | false =>
            rcases (hlist e.on).1 hc with ⟨t', ht', he'⟩ | hl
            · rcases List.mem_cons.1 ht' with rfl | ht'
              · omega
              · have := (List.pairwise_cons.1 hsort).1 t' ht'
                omega
            · have := ((hlst e.on hl).2 t (by simp)).1
              omega
        rw [hnil] at this
        cases this
    · obtain ⟨hun, o, ho, hall⟩ := mem_ready.1 hi
      have hin : ∃ t ∈ its, t.i = i := by
        rcases (hlist i).1 hun with h | hl
        · exact h
        · exfalso
          cases its with
          | nil => simp at hlen
          | cons t its =>
            have h1 := before_listed hdown i o ho hall t.i ((hlst i hl).2 t (by simp)).2
            have h2 := (hlist t.i).2 (.inl ⟨t, by simp, rfl⟩)
            have := (hget t.i (Array.getElem?_eq_some_iff.1 (hat t (by simp))).1).2 h1
            rw [h2] at this
            cases this
      obtain ⟨it, hit, rfl⟩ := hin
      have hito := hat it hit
      rw [ho] at hito
      cases hito
      obtain ⟨p, q, rfl⟩ := List.append_of_mem hit
      have hnb : ∀ k ∈ p, ((Region.before ops).getD it.i 0).testBit k.i = false := fun k hk => by
        cases hb : ((Region.before ops).getD it.i 0).testBit k.i with
        | false => rfl
        | true =>
          have h1 := before_listed hdown it.i it.o ho hall k.i hb
          have h2 := (hlist k.i).2 (.inl ⟨k, by simp [hk], rfl⟩)
          have hk' := hat k (by simp [hk])
          have := (hget k.i (Array.getElem?_eq_some_iff.1 hk').1).2 h1
          rw [h2] at this
          cases this
      have hlt : ∀ k ∈ p, k.i < it.i := fun k hk => (List.pairwise_append.1 hsort).2.2 k hk it (by simp)
      have hap : ∀ k ∈ p, apartB ops k.o it.o = true := fun k hk => by
        have h1 := (drawOk_at hdr it.i it.o (by simpa using ho)).2
        rw [Nat.zero_add] at h1
        have h2 := apartRow_at h1 k.i k.o (by simpa using hat k (by simp [hk])) (by have := hlt k hk; omega)
        rw [Nat.zero_add, hnb k hk] at h2
        exact h2.resolve_left (by simp)
      have htr := xrun_tr hx
      obtain ⟨ri, rp, rq, rfl, hlp, hrun⟩ := front p hfit hap hx fun rp ri rq he hl rk hrk => by
        subst he
        obtain ⟨hi1, _, hp1⟩ := All2.mid hl.symm htr
        obtain ⟨j, hj, hje⟩ := List.mem_iff_getElem.1 hrk
        obtain ⟨k, hk1, hk2⟩ : ∃ k, p[j]? = some k ∧ TrOk k rk := by
          have hjp : j < p.length := by omega
          obtain ⟨b, h1, h2⟩ := hp1.get j p[j] (List.getElem?_eq_getElem hjp)
          rw [List.getElem?_eq_getElem hj, hje] at h1
          cases h1
          exact ⟨p[j], List.getElem?_eq_getElem hjp, h2⟩
        have hok := (List.pairwise_append.1 hgood).2.2 rk hrk ri (by simp)
        unfold okp at hok
        rw [hi1.1, hk2.1, hnb k (List.mem_of_getElem? hk1)] at hok
        exact hok.resolve_left (by simp)
      obtain ⟨r', e, rs', h1, h2, he⟩ := xrun_cons.1 hrun
      simp only [List.cons.injEq] at he
      obtain ⟨rfl, rfl⟩ := he
      have hfit' : Fit (it :: (p ++ q)) st := by
        refine ⟨hfit.closed, fun t ht => hfit.fresh t ?_, ?_⟩
        · simp only [List.mem_cons, List.mem_append] at ht ⊢
          rcases ht with h | h | h
          · exact .inr (.inl h)
          · exact .inl h
          · exact .inr (.inr h)
        · have hperm : (p ++ it :: q).Perm (it :: (p ++ q)) := List.perm_middle
          exact (hperm.pairwise_iff (fun {x y} h hx hy => (h hy hx).symm)).1 hfit.apart
      have hinfo := info_of (v := e.1) (us := e.2) hfit.closed h1
      have hfit2 : Fit (p ++ q) (put it e st) := hfit'.step hinfo
      have hislt : it.i < listed.size := by rw [hsize]; exact (Array.getElem?_eq_some_iff.1 ho).1
      refine eff_step hok hE hF hs ho (fun hb => by rw [hs.h]; exact hfit.fresh it (by simp) hb) h1 fun C' a' hok' hx' hs' hdf => ?_
      have hmid : (p ++ q).length = n := by simp at hlen ⊢; omega
      refine ih (p ++ q) _ C' _ a' (rp ++ rq) hmid h2 hok' hs' hfit2 (fun t ht => hat t ?_) ?_ (by simp [hsize]) (fun j => ?_) (fun j hj => ⟨(hlst j hj).1, fun t ht => (hlst j hj).2 t ?_⟩) (fun j o2 ho2 hj2 e2 he2 hb2 => ?_) ?_
        fun C2 a2 l2 z2 y2 hok2 hx2 hs2 hd2 => hQ C2 a2 l2 z2 y2 hok2 (hx'.trans hx2) hs2 (hdf.trans hd2)
      · simp only [List.mem_append, List.mem_cons] at ht ⊢
        exact ht.imp (fun h => h) fun h => .inr h
      · exact hsort.sublist (List.append_sublist_append_left p |>.2 (List.sublist_cons_self ..))
      · by_cases hji : j = it.i
        · subst hji
          constructor
          · intro h
            simp [Array.getD, hislt] at h
          · rintro (⟨t, ht, hti⟩ | hl)
            · exfalso
              rcases List.mem_append.1 ht with ht | ht
              · have := hlt t ht; omega
              · have := (List.pairwise_cons.1 (List.pairwise_append.1 hsort).2.1).1 t ht; omega
            · have := ((hlst it.i hl).2 it (by simp)).1
              omega
        · rw [getD_set_ne true (Ne.symm hji), hlist j]
          constructor
          · rintro (⟨t, ht, hti⟩ | hl)
            · refine .inl ⟨t, ?_, hti⟩
              simp only [List.mem_append, List.mem_cons] at ht ⊢
              rcases ht with h | h | h
              · exact .inl h
              · subst h; exact absurd hti.symm hji
              · exact .inr h
            · exact .inr hl
          · rintro (⟨t, ht, hti⟩ | hl)
            · refine .inl ⟨t, ?_, hti⟩
              simp only [List.mem_append, List.mem_cons] at ht ⊢
              exact ht.imp (fun h => h) fun h => .inr h
            · exact .inr hl
      · simp only [List.mem_append, List.mem_cons] at ht ⊢
        exact ht.imp (fun h => h) fun h => .inr h
      · refine getD_set_true ?_
        by_cases hji : j = it.i
        · subst hji
          rw [ho] at ho2
          cases ho2
          exact hall e2 he2 hb2
        · rw [getD_set_ne false (Ne.symm hji)] at hj2
          exact hdown j o2 ho2 hj2 e2 he2 hb2
      · exact hgood.sublist (List.append_sublist_append_left rp |>.2 (List.sublist_cons_self ..))

end

theorem regL_sound {E : Env} {F : Fun} (hE : okFns E = true) (hF : FSound E F) (hm : E.P.follows .mixedOrders = true) {C : Ctx} (hok : Ok C) {st : St} {a : Act} (hs : SR C st a) {id : Nat} {ops : Array Oper} {draw : Bool} {l : List Oper} {k : Nat} (hll : l.length + k = ops.size) (hla : ∀ (m : Nat) o, l[m]? = some o → ops[m]? = some o) {α : Type} {K : St → Option α} {r : α}
    (h : regL E F ops draw l st K = some r) {Q : Exit → Act → World → Prop} (hk : k = 0 ∨ (k = 1 ∧ (draw = true → ∀ m, m < l.length → ((Region.before ops).getD l.length 0).testBit m = true)))
    (hQ1 : draw = false → ∀ C' st' a', Ok C' → Ext C C' → SR C' st' a' → Same a a' → K st' = some r → wpOps E.P ops Q (List.range' l.length k) a' C'.w)
    (hQ2 : draw = true → drawOk ops (Region.before ops) 0 ops.toList = true → ∀ C' st' a' (listed' : Array Bool), listed'.size = ops.size → (∀ j, listed'.getD j true = false ↔ k = 1 ∧ j = l.length) → Ok C' → Ext C C' → SR C' st' a' → Same a a' → K st' = some r → wpAny E.P .any ops Q k listed' a' C'.w) :
    (Code.region id ops draw).wp E.P Q a C.w := by
  unfold regL at h
  dsimp only at h
  split at h
  case isFalse => cases h
  rename_i hc
  obtain ⟨tr, se', st2, lg', h1, h2, h3, _, hgood⟩ := seqK_x _ _ _ _ _ _ _ _ _ _ _ _ h (Le.refl _)
  have hfr : ∀ n, st.heap.length ≤ n → nth Ent.fresh (st.heap ++ reps .fresh (resvs l)) n = .fresh := fun n hn => by
    rw [nth_more, nth_out hn]
  have hln : (st.heap ++ reps Ent.fresh (resvs l)).length = st.heap.length + resvs l := by simp [reps_length]
  cases draw with
  | false =>
    refine wp_region ?_
    simp only [cond_false, isDraw] at h1
    have hx := ext_more C (resvs l)
    have := ops_plain hE hF (List.range' l.length k) l 0 st.heap.length (C.more (resvs l)) _ a tr (fun m o hm => by rw [Nat.zero_add]; exact hla m o hm) h1 (ok_more hok _) (hs.more _) (fun n h1 _ => hfr n h1) (by rw [hln]; exact Nat.le_refl _)
      (fun C' a' hok' hx' hs' hd' => hQ1 rfl C' st2 a' hok' (hx.trans hx') (hs'.le h2) hd' h3) (Q := Q)
    have e : (C.more (resvs l)).w = C.w := rfl
    have e2 : List.range' 0 l.length ++ List.range' l.length k = List.range' 0 ops.size := by
      have := List.range'_append_1 (s := 0) (m := l.length) (n := k)
      rw [Nat.zero_add] at this
      rw [this, hll]
    rw [e, e2] at this
    simpa [List.range_eq_range'] using this
  | true =>
    refine wp_region_any hm ?_
    simp only [Bool.not_true, Bool.false_or, cond_true] at hc h1 hgood
    have hdraw : isDraw (cond (s1Ok E (Region.before ops) l 0 l) Md.s1 Md.dyn) = true := by cases s1Ok E (Region.before ops) l 0 l <;> rfl
    rw [hdraw] at h1
    let W : World := { C.w with drawn := C.w.drawn + 1 }
    have hxw := ext_drawn C W rfl rfl rfl rfl
    have hokw := ok_drawn hok W rfl rfl rfl rfl
    have hsw : SR (C.setW W) st a := hs.ext hxw rfl
    have hx := ext_more (C.setW W) (resvs l)
    have hok0 := ok_more hokw (resvs l)
    have hs0 := hsw.more (resvs l)
    have hitems : ∀ (m : Nat) t, (items 0 st.heap.length l)[m]? = some t → ops[t.i]? = some t.o := fun m t hm => by
      obtain ⟨g1, g2⟩ := items_get _ _ _ _ _ hm
      rw [Nat.zero_add] at g2
      subst g2
      exact hla _ _ g1
    have htr := xrun_tr h1
    have hpw : tr.Pairwise (okp (Region.before ops)) := by
      cases hs1 : s1Ok E (Region.before ops) l 0 l with
      | false => exact (hgood.dyn (by rw [hs1]; rfl)).2
      | true =>
        have hg := hgood.s1 (by rw [hs1]; rfl) (by rw [hs1]; rfl)
        refine List.pairwise_iff_getElem.2 fun x y hx hy hxy => ?_
        have hlen := htr.length
        have gx := List.getElem?_eq_getElem (l := items 0 st.heap.length l) (i := x) (by omega)
        have gy := List.getElem?_eq_getElem (l := items 0 st.heap.length l) (i := y) (by omega)
        obtain ⟨rx, ex, tx⟩ := htr.get x _ gx
        obtain ⟨ry, ey, ty⟩ := htr.get y _ gy
        obtain ⟨rx', ex', wx⟩ := hg.get x _ gx
        obtain ⟨ry', ey', wy⟩ := hg.get y _ gy
        rw [List.getElem?_eq_getElem hx] at ex ex'
        rw [List.getElem?_eq_getElem hy] at ey ey'
        cases ex; cases ey; cases ex'; cases ey'
        obtain ⟨ox, ix⟩ := items_get _ _ _ _ _ gx
        obtain ⟨oy, iy⟩ := items_get _ _ _ _ _ gy
        rw [Nat.zero_add] at ix iy
        unfold okp
        rw [tx.1, ty.1, ix, iy]
        have h5 := s1Ok_at hs1 y _ oy
        rw [Nat.zero_add] at h5
        have h6 := s1Row_at h5 x _ ox (by omega)
        rw [Nat.zero_add] at h6
        refine h6.imp (fun h => h) fun h6 hw z hz hz' => ?_
        simp only [Bool.or_eq_false_iff, Bool.and_eq_false_iff] at h6
        have cx : clsH (items 0 st.heap.length l)[x].o.op = true := by
          cases hc : clsH (items 0 st.heap.length l)[x].o.op with
          | true => rfl
          | false => rw [tx.2 hc] at hz; cases hz
        have cy : clsH (items 0 st.heap.length l)[y].o.op = true := by
          cases hc : clsH (items 0 st.heap.length l)[y].o.op with
          | true => rfl
          | false => rw [ty.2 hc] at hz'; cases hz'
        rcases hw with hw | hw
        · have := wx hw
          rcases h6.1 with h | h
          · rw [this] at h; cases h
          · rw [cy] at h; cases h
        · have := wy hw
          rcases h6.2 with h | h
          · rw [cx] at h; cases h
          · rw [this] at h; cases h
    have hfit : Fit (items 0 st.heap.length l) ⟨st.slots, st.heap ++ reps .fresh (resvs l)⟩ := by
      refine ⟨hs0.closed hok0, fun t ht hb => ?_, items_apart _ _ _⟩
      have := items_nid _ _ _ t ht
      have hr : resv t.o = 2 := by unfold resv; rw [hb]; rfl
      exact ⟨hfr _ (by omega), hfr _ (by omega), by show _ < (st.heap ++ reps Ent.fresh (resvs l)).length; rw [hln]; omega⟩
    have hrep : ∀ (j : Nat) (d : Bool), (Array.replicate ops.size false).getD j d = if j < ops.size then false else d := fun j d => by
      rw [Array.getD_eq_getD_getElem?, Array.getElem?_replicate]
      split <;> rfl
    have hitl : ∀ t ∈ items 0 st.heap.length l, t.i < l.length := fun t ht => by
      obtain ⟨m, hm, he⟩ := List.mem_iff_getElem.1 ht
      have := (items_get _ _ _ _ _ (by rw [← he]; exact List.getElem?_eq_getElem hm : (items 0 st.heap.length l)[m]? = some t)).2
      rw [items_len] at hm
      omega
    have hfin := ops_draw hE hF hc k (if k = 1 then some l.length else none) l.length (items 0 st.heap.length l) (Array.replicate ops.size false) (((C.setW W)).more (resvs l)) _ a tr (by rw [items_len]) h1 hok0 hs0 hfit (fun t ht => ?_) (items_sorted _ _ _) (by simp) (fun j => ?_)
      (fun j hj => ?_) (fun j o ho hj => ?_) hpw (Q := Q) (fun C' a' l' hz' hl' hok' hx' hs' hd' => hQ2 rfl hc C' st2 a' l' hz' (fun j => ?_) hok' ((hxw.trans hx).trans hx') (hs'.le h2) hd' h3)
    · rw [hll] at hfin
      exact hfin
    · obtain ⟨m, hm, he⟩ := List.mem_iff_getElem.1 ht
      exact hitems m t (by rw [← he]; exact List.getElem?_eq_getElem hm)
    · rw [hrep]
      constructor
      · intro h
        have hj : j < ops.size := by
          by_cases hlt : j < ops.size
          · exact hlt
          · rw [if_neg hlt] at h; cases h
        by_cases hjl : j < l.length
        · have hj' : j < (items 0 st.heap.length l).length := by rw [items_len]; exact hjl
          have g := List.getElem?_eq_getElem hj'
          exact .inl ⟨_, List.getElem_mem hj', by have := (items_get _ _ _ _ _ g).2; omega⟩
        · refine .inr ?_
          rcases hk with rfl | ⟨rfl, _⟩
          · omega
          · rw [if_pos rfl]; congr 1; omega
      · rintro (⟨t, ht, rfl⟩ | hj)
        · have := hitl t ht
          rw [if_pos (by omega)]
        · split at hj
          · rename_i h1; cases hj; rw [if_pos (by omega)]
          · cases hj
    · split at hj
      · rename_i hk1
        cases hj
        refine ⟨⟨ops[l.length]'(by omega), Array.getElem?_eq_getElem _⟩, fun t ht => ⟨hitl t ht, ?_⟩⟩
        rcases hk with hk0 | ⟨_, hkb⟩
        · omega
        · exact hkb rfl _ (hitl t ht)
      · cases hj
    · rw [hrep] at hj
      split at hj <;> cases hj
    · rw [hl' j]
      by_cases hk1 : k = 1
      · rw [if_pos hk1]; constructor
        · intro h; cases h; exact ⟨hk1, rfl⟩
        · rintro ⟨_, rfl⟩; rfl
      · rw [if_neg hk1]; constructor
        · intro h; cases h
        · rintro ⟨h, _⟩; exact absurd h hk1

theorem ready_nil {ops : Array Oper} {listed : Array Bool} (h : ∀ j, listed.getD j true = true) : Region.ready .any ops listed = [] :=
  List.eq_nil_iff_forall_not_mem.2 fun j hj => by
    have := (mem_ready.1 hj).1
    rw [h j] at this
    cases this

theorem regK_sound {E : Env} {F : Fun} (hE : okFns E = true) (hF : FSound E F) (hm : E.P.follows .mixedOrders = true) {C : Ctx} (hok : Ok C) {st : St} {a : Act} (hs : SR C st a) {id : Nat} {ops : Array Oper} {draw : Bool} {α : Type} {K : St → Option α} {r : α}
    (h : regK E F ops draw st K = some r) {Q : Exit → Act → World → Prop} (hQ : ∀ C' st' a', Ok C' → Ext C C' → SR C' st' a' → Same a a' → K st' = some r → Q .normal a' C'.w) : (Code.region id ops draw).wp E.P Q a C.w := by
  refine regL_sound hE hF hm hok hs (l := ops.toList) (k := 0) (by simp) (fun m o hm => by simpa using hm) h (.inl rfl) (fun _ C' st' a' h1 h2 h3 h4 h5 => hQ C' st' a' h1 h2 h3 h4 h5) fun _ _ C' st' a' l' h0 hl h1 h2 h3 h4 h5 => ⟨ready_nil fun j => ?_, hQ C' st' a' h1 h2 h3 h4 h5⟩
  cases hc : l'.getD j true with
  | true => rfl
  | false => have := ((hl j).1 hc).1; omega

end Go.Proofs.YtpnpdkgdgfkpfaaGreatDoor.Vm
