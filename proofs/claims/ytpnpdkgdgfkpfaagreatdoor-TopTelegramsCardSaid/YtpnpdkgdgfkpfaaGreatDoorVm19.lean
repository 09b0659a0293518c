/- The abstract machine, part 19: the evaluator of regions, seen as one operation after the other. -/
import Derived.Test.YtpnpdkgdgfkpfaaGreatDoorVm18
namespace Go.Proofs.YtpnpdkgdgfkpfaaGreatDoor.Vm
set_option linter.unusedVariables false
set_option linter.unusedSimpArgs false

structure Le (st se : St) : Prop where
  heap : se.heap = st.heap
  len : se.slots.length = st.slots.length
  slot : ∀ t, nth .undef st.slots t = .undef ∨ nth .undef st.slots t = nth .undef se.slots t

theorem Le.refl (st : St) : Le st st := ⟨rfl, rfl, fun _ => .inr rfl⟩

theorem Le.ev {st se : St} (h : Le st se) (x : Operand) : evalA st.slots x = .undef ∨ evalA st.slots x = evalA se.slots x := by
  cases x with
  | tmp t => exact h.slot t
  | const v => exact .inr rfl
  | global g => exact .inr rfl
  | func f => exact .inr rfl

theorem length_setDst (d : Option Nat) (v : AV) (s : List AV) : (setDst d v s).length = s.length := by
  cases d with
  | none => rfl
  | some d => exact length_upd ..

theorem Le.put {st se : St} (h : Le st se) (d : Option Nat) {v v' : AV} (hv : v = .undef ∨ v = v') (us : Ups) : Le ⟨setDst d v st.slots, putUps us st.heap⟩ ⟨setDst d v' se.slots, putUps us se.heap⟩ := by
  refine ⟨by rw [h.heap], by simp [length_setDst, h.len], fun t => ?_⟩
  simp only [nth_setDst, h.len]
  by_cases hc : d = some t ∧ t < st.slots.length
  · rw [if_pos hc, if_pos hc]; exact hv
  · rw [if_neg hc, if_neg hc]; exact h.slot t

theorem xopK_eq {α : Type} {E : Env} {F : Fun} {dr : Bool} {nid : Nat} {o : Oper} {st se : St} (he : ∀ x ∈ o.op.operands, evalA se.slots x = evalA st.slots x) (hh : se.heap = st.heap) (K : AV → Ups → List Nat → Bool → Option α) :
    xopK E F dr nid o se K = xopK E F dr nid o st K := by
  cases dr with
  | true => exact xopK_same he (fun _ _ _ => by rw [hh]) K
  | false =>
    unfold xopK
    rw [defd_congr he, hh]
    congr 1
    exact opK_congr _ _ _ _ _ he _

def xres (E : Env) (F : Fun) (dr : Bool) (nid : Nat) (o : Oper) (st : St) : Option (AV × Ups × List Nat × Bool) := xopK E F dr nid o st fun v us fp w => some (v, us, fp, w)

theorem xopK_res {α : Type} {E : Env} {F : Fun} {dr : Bool} {nid : Nat} {o : Oper} {st : St} {K : AV → Ups → List Nat → Bool → Option α} {r : α} (h : xopK E F dr nid o st K = some r) :
    ∃ v us fp w, xres E F dr nid o st = some (v, us, fp, w) ∧ K v us fp w = some r := by
  have hn := xopK_nat E F dr nid o st (fun v us fp w => some (v, us, fp, w)) (fun p : AV × Ups × List Nat × Bool => K p.1 p.2.1 p.2.2.1 p.2.2.2)
  have hn' := hn.trans h
  obtain ⟨⟨v, us, fp, w⟩, h1, h2⟩ := Option.bind_eq_some_iff.1 hn'
  exact ⟨v, us, fp, w, h1, h2⟩

theorem xres_K {α : Type} {E : Env} {F : Fun} {dr : Bool} {nid : Nat} {o : Oper} {st : St} {v : AV} {us : Ups} {fp : List Nat} {w : Bool} (h : xres E F dr nid o st = some (v, us, fp, w)) (K : AV → Ups → List Nat → Bool → Option α) :
    xopK E F dr nid o st K = K v us fp w := by
  have hn := xopK_nat E F dr nid o st (fun v us fp w => some (v, us, fp, w)) (fun p : AV × Ups × List Nat × Bool => K p.1 p.2.1 p.2.2.1 p.2.2.2)
  have hx : xopK E F dr nid o st (fun v us fp w => some (v, us, fp, w)) = some (v, us, fp, w) := h
  rw [hx] at hn
  exact hn.symm

theorem ctl_or {α : Type} {b : Bool} {x y : Option α} {r : α} (h : ctl b x y = some r) : (b = true ∧ x = some r) ∨ (b = false ∧ y = some r) := by
  cases b
  · exact .inr ⟨rfl, h⟩
  · exact .inl ⟨rfl, h⟩

theorem passing_val {E : Env} {F : Fun} {dr : Bool} {nid : Nat} {o : Oper} {st se : St} (hp : passing o.op = true) (hle : Le st se) {v : AV} {us : Ups} {fp : List Nat} {w : Bool} (h : xres E F dr nid o st = some (v, us, fp, w)) :
    ∃ v', xres E F dr nid o se = some (v', us, fp, w) ∧ (v = .undef ∨ v = v') := by
  have key : ∀ x ∈ o.op.operands, (∀ look ev, (∃ r, opK E F look nid o.op ev two = some r) → True) → True := fun _ _ _ => trivial
  -- in both states the operation takes operand x
  have gen : ∀ x : Operand, x ∈ o.op.operands → clsH o.op = false → (∀ look, opK E F look nid o.op (evalA st.slots) two = some (evalA st.slots x, [])) → (∀ look, opK E F look nid o.op (evalA se.slots) two = some (evalA se.slots x, [])) →
      ∃ v', xres E F dr nid o se = some (v', us, fp, w) ∧ (v = .undef ∨ v = v') := by
    intro x hx hh h1 h2
    have opn : ∀ (β : Type) (st : St) look (K : Step β), opK E F look nid o.op (evalA st.slots) K = (opK E F look nid o.op (evalA st.slots) two).bind fun p => K p.1 p.2 := fun β st look K => (opK_nat E F look nid o.op (evalA st.slots) two fun p => K p.1 p.2).symm
    unfold xres xopK at h ⊢
    simp only [defd, hp, Bool.true_or, if_true] at h ⊢
    cases dr with
    | false =>
      dsimp only at h ⊢
      rw [opn, h1] at h
      rw [opn, h2]
      simp only [Option.bind_some, Option.some.injEq, Prod.mk.injEq] at h ⊢
      obtain ⟨rfl, rfl, rfl, rfl⟩ := h
      exact ⟨_, ⟨rfl, rfl, rfl, rfl⟩, hle.ev x⟩
    | true =>
      dsimp only at h ⊢
      rw [opn, h1] at h
      rw [opn, h2]
      simp only [Option.bind_some, hh, Bool.false_and, cond_false] at h ⊢
      split at h
      · simp only [Option.some.injEq, Prod.mk.injEq] at h
        obtain ⟨rfl, rfl, rfl, rfl⟩ := h
        refine ⟨evalA se.slots x, ?_, hle.ev x⟩
        rw [if_pos]
        have hsub : subN (evalA se.slots x).refs (fpOf false se.heap (evalA se.slots) o.op ++ []) = true := by
          refine List.all_eq_true.2 fun y hy => hasN_iff.2 (List.mem_append.2 (.inl ?_))
          exact List.mem_flatMap.2 ⟨x, by simpa using hx, hy⟩
        simp only [upsOk, refsOk, List.all_nil, Bool.true_and, Bool.and_true, List.map_nil, hsub]
      · cases h
  obtain ⟨dst, op, ty, pos, after, guard⟩ := o
  cases op <;> first | (cases hp; done) | skip
  case move x => exact gen x (by simp [Op.operands]) rfl (fun _ => rfl) (fun _ => rfl)
  case assign x => exact gen x (by simp [Op.operands]) rfl (fun _ => rfl) (fun _ => rfl)
  case pick c a b =>
    -- the number that chooses is known
    have hc : ∃ t, evalA st.slots c = .t (.p (.bool t)) := by
      have opf : ∀ look (β : Type) (K : Step β), (∀ t, evalA st.slots c ≠ .t (.p (.bool t))) → opK E F look nid (.pick c a b) (evalA st.slots) K = none := by
        intro look β K hn
        simp only [opK, execK]
      rcases Classical.em (∃ t, evalA st.slots c = .t (.p (.bool t))) with h' | h'
      · exact h'
      · have hn : ∀ t, evalA st.slots c ≠ .t (.p (.bool t)) := fun t ht => h' ⟨t, ht⟩
        unfold xres xopK at h
        split at h
        · cases dr
          · dsimp only at h; rw [opf _ _ _ hn] at h; cases h
          · dsimp only at h; rw [opf _ _ _ hn] at h; cases h
        · cases h
    obtain ⟨t, ht⟩ := hc
    have ht' : evalA se.slots c = .t (.p (.bool t)) := by
      rcases hle.ev c with h' | h'
      · rw [ht] at h'; cases h'
      · rw [← h', ht]
    have e1 : ∀ look, opK E F look nid (.pick c a b) (evalA st.slots) two = some (evalA st.slots (cond t a b), []) := fun look => by
      simp only [opK, execK, ht]; cases t <;> rfl
    have e2 : ∀ look, opK E F look nid (.pick c a b) (evalA se.slots) two = some (evalA se.slots (cond t a b), []) := fun look => by
      simp only [opK, execK, ht']; cases t <;> rfl
    exact gen (cond t a b) (by cases t <;> simp [Op.operands]) rfl e1 e2

theorem xres_le {E : Env} {F : Fun} {dr : Bool} {nid : Nat} {o : Oper} {st se : St} (hle : Le st se) {v : AV} {us : Ups} {fp : List Nat} {w : Bool} (h : xres E F dr nid o st = some (v, us, fp, w)) :
    ∃ v', xres E F dr nid o se = some (v', us, fp, w) ∧ (v = .undef ∨ v = v') := by
  cases hp : passing o.op with
  | true => exact passing_val hp hle h
  | false =>
    have hd : defd (evalA st.slots) o.op = true := by
      unfold xres xopK at h
      split at h
      · assumption
      · cases h
    simp only [defd, hp, Bool.false_or] at hd
    refine ⟨v, ?_, .inr rfl⟩
    rw [← h]
    unfold xres
    refine xopK_eq (fun x hx => ?_) hle.heap _
    have := List.all_eq_true.1 hd x (by simpa using hx)
    rcases hle.ev x with h' | h'
    · rw [h'] at this; cases this
    · exact h'.symm

end Go.Proofs.YtpnpdkgdgfkpfaaGreatDoor.Vm
