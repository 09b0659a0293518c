/- The abstract machine, part 17: the order of operations. One after the other; two that share nothing may change places. -/
import Derived.Test.YtpnpdkgdgfkpfaaGreatDoorVm16
namespace Go.Proofs.YtpnpdkgdgfkpfaaGreatDoor.Vm
set_option linter.unusedVariables false
set_option linter.unusedSimpArgs false

theorem fillA_congr {pl : Nat → Option (Nat × Nat)} {look : Look} {ev ev' : Operand → AV} : ∀ (parts : List (Nat × Operand)) (cells : List PV), (∀ x ∈ parts.map (·.2), ev x = ev' x) →
    fillA pl look ev cells parts = fillA pl look ev' cells parts
  | [], _, _ => rfl
  | (i, x) :: l, cells, h => by
    have hx : ev x = ev' x := h x (by simp)
    have ih := fun cs => fillA_congr (pl := pl) (look := look) l cs fun y hy => h y (by simp at hy ⊢; exact .inr hy)
    simp only [fillA, hx, ih]

theorem fillO_congr {pl : Nat → Option (Nat × Nat)} {ev ev' : Operand → AV} : ∀ (parts : List (Nat × Operand)) (cells : List TV), (∀ x ∈ parts.map (·.2), ev x = ev' x) → fillO pl ev cells parts = fillO pl ev' cells parts
  | [], _, _ => rfl
  | (i, x) :: l, cells, h => by
    have hx : ev x = ev' x := h x (by simp)
    have ih := fun cs => fillO_congr (pl := pl) l cs fun y hy => h y (by simp at hy ⊢; exact .inr hy)
    simp only [fillO, hx, ih]
theorem any_congr {ev ev' : Operand → AV} : ∀ (parts : List (Nat × Operand)), (∀ x ∈ parts.map (·.2), ev x = ev' x) → (parts.any fun x => ownsA (ev x.2)) = parts.any fun x => ownsA (ev' x.2)
  | [], _ => rfl
  | (i, x) :: l, h => by
    have hx : ev x = ev' x := h x (by simp)
    have ih := any_congr l fun y hy => h y (by simp at hy ⊢; exact .inr hy)
    simp only [List.any_cons, hx, ih]

theorem fillX_congr {pl : Nat → Option (Nat × Nat)} {look : Look} {ev ev' : Operand → AV} (parts : List (Nat × Operand)) (cells : List PV) (h : ∀ x ∈ parts.map (·.2), ev x = ev' x) :
    fillX pl look ev cells parts = fillX pl look ev' cells parts := by
  have hs : ∀ (parts : List (Nat × Operand)) (cur : Nat), (∀ x ∈ parts.map (·.2), ev x = ev' x) → fillSeq pl look ev cur parts = fillSeq pl look ev' cur parts := by
    intro parts
    induction parts with
    | nil => intro cur _; rfl
    | cons p l ih =>
      obtain ⟨i, x⟩ := p
      intro cur h
      have hx : ev x = ev' x := h x (by simp)
      have ih := fun c => ih c fun y hy => h y (by simp at hy ⊢; exact .inr hy)
      simp only [fillSeq, hx, ih]
  unfold fillX
  rw [hs parts 0 h, fillA_congr parts cells h]

theorem intOpt_congr {ev ev' : Operand → AV} {o : Option Operand} (h : ∀ x ∈ o.toArray, ev x = ev' x) : intOpt ev o = intOpt ev' o := by
  cases o with
  | none => rfl
  | some x => simp only [intOpt]; rw [h x (by simp)]

theorem map_ev_congr {ev ev' : Operand → AV} {l : List Operand} (h : ∀ x ∈ l, ev x = ev' x) : l.map ev = l.map ev' := List.map_congr_left h

theorem opK_congr {α : Type} (E : Env) (F : Fun) (look : Look) (nid : Nat) (op : Op) {ev ev' : Operand → AV} (h : ∀ x ∈ op.operands, ev x = ev' x) (K : Step α) :
    opK E F look nid op ev K = opK E F look nid op ev' K := by
  cases op
  case call c =>
    obtain ⟨callee, args, ats⟩ := c
    have ha : args.toList.map ev = args.toList.map ev' := map_ev_congr fun x hx => h x (by
      have : x ∈ args := by simpa using hx
      simp [Op.operands, Call.operands, this])
    cases callee with
    | value f =>
      have hf : ev f = ev' f := h f (by simp [Op.operands, Call.operands])
      simp only [opK, hf, ha]
    | invoke r m => rfl
    | builtin b => simp only [opK, execK, ha]
  case build t ps =>
    have hp : ∀ x ∈ ps.toList.map (·.2), ev x = ev' x := fun x hx => h x (by simpa [Op.operands] using hx)
    have e := fun cs => fillX_congr (pl := place E.P t) (look := look) ps.toList cs hp
    have e2 := fun cs => fillO_congr (pl := place E.P t) ps.toList cs hp
    have e3 := any_congr ps.toList hp
    simp only [opK, execK, e, e2, e3]
  case buildSlice t n ps =>
    have e := fun pl cs => fillX_congr (pl := pl) (look := look) ps.toList cs fun x hx => h x (by simpa [Op.operands] using hx)
    simp only [opK, execK, e]
  case makeFunc fn first caps =>
    have ha : caps.toList.map ev = caps.toList.map ev' := map_ev_congr fun x hx => h x (by
      have : x ∈ caps := by simpa using hx
      simp [Op.operands, this])
    cases fn <;> simp only [opK, execK, ha]
  case slice t x lo hi mx =>
    have hx : ev x = ev' x := h x (by simp [Op.operands])
    have h1 : intOpt ev lo = intOpt ev' lo := intOpt_congr fun y hy => h y (by simp [Op.operands] at hy ⊢; simp [hy])
    have h2 : intOpt ev hi = intOpt ev' hi := intOpt_congr fun y hy => h y (by simp [Op.operands] at hy ⊢; simp [hy])
    simp only [opK, execK, hx, h1, h2]
  all_goals simp only [Op.operands] at h
  all_goals first
    | rfl
    | (rename_i x; simp only [opK, execK, h x (by simp)]; done)
    | (rename_i x _; simp only [opK, execK, h x (by simp)]; done)
    | (rename_i x _ _; simp only [opK, execK, h x (by simp)]; done)
    | (rename_i x y; simp only [opK, execK, h x (by simp), h y (by simp)]; done)
    | (rename_i x y _; simp only [opK, execK, h x (by simp), h y (by simp)]; done)
    | (rename_i x y z; simp only [opK, execK, h x (by simp), h y (by simp), h z (by simp)]; done)

theorem opRefs_congr {ev ev' : Operand → AV} {op : Op} (h : ∀ x ∈ op.operands, ev x = ev' x) : opRefs ev op = opRefs ev' op := by
  unfold opRefs
  have h' : ∀ x ∈ op.operands.toList, (ev x).refs = (ev' x).refs := fun x hx => by rw [h x (by simpa using hx)]
  generalize op.operands.toList = l at *
  induction l with
  | nil => rfl
  | cons a l ih => simp only [List.flatMap_cons]; rw [h' a (by simp), ih fun x hx => h' x (by simp [hx])]

theorem defd_congr {ev ev' : Operand → AV} {op : Op} (h : ∀ x ∈ op.operands, ev x = ev' x) : defd ev op = defd ev' op := by
  unfold defd
  have h' : ∀ x ∈ op.operands.toList, isDef (ev x) = isDef (ev' x) := fun x hx => by rw [h x (by simpa using hx)]
  generalize op.operands.toList = l at *
  congr 1
  induction l with
  | nil => rfl
  | cons a l ih => simp only [List.all_cons]; rw [h' a (by simp), ih fun x hx => h' x (by simp [hx])]

structure It where
  i : Nat
  nid : Nat
  o : Oper

structure Tr where
  i : Nat
  fp : List Nat
  w : Bool

def act (ops : Array Oper) (o : Oper) (slots : List AV) : Option Bool :=
  match o.guard with
  | none => some true
  | some (j, w) =>
    match guardSlot ops j with
    | none => none
    | some d =>
      match nth .undef slots d with
      | .no => some false
      | .t (.p (.bool b)) => some (b == w)
      | _ => none

def eff (E : Env) (F : Fun) (ops : Array Oper) (dr : Bool) (t : It) (st : St) : Option (Tr × AV × Ups) :=
  match act ops t.o st.slots with
  | none => none
  | some true => xopK E F dr t.nid t.o st fun v us fp w => some (⟨t.i, fp, w⟩, v, us)
  | some false => some (⟨t.i, [], false⟩, .no, [])

def put (t : It) (e : AV × Ups) (st : St) : St := ⟨setDst t.o.dst e.1 st.slots, putUps e.2 st.heap⟩

def xrun (E : Env) (F : Fun) (ops : Array Oper) (dr : Bool) : List It → St → Option (List Tr × St)
  | [], st => some ([], st)
  | t :: l, st =>
    match eff E F ops dr t st with
    | none => none
    | some (r, e) => match xrun E F ops dr l (put t e st) with | some (rs, st'') => some (r :: rs, st'') | none => none

theorem xrun_cons {E : Env} {F : Fun} {ops : Array Oper} {dr : Bool} {t : It} {l : List It} {st : St} {rs : List Tr} {st' : St} :
    xrun E F ops dr (t :: l) st = some (rs, st') ↔ ∃ r e rs', eff E F ops dr t st = some (r, e) ∧ xrun E F ops dr l (put t e st) = some (rs', st') ∧ rs = r :: rs' := by
  constructor
  · intro h
    simp only [xrun] at h
    split at h
    · cases h
    · rename_i r e h1
      split at h
      · rename_i rs' s2 h2
        cases h
        exact ⟨r, e, rs', h1, h2, rfl⟩
      · cases h
  · rintro ⟨r, e, rs', h1, h2, rfl⟩
    simp only [xrun, h1, h2]

structure Closed (st : St) : Prop where
  slot : ∀ t, ∀ id ∈ (nth .undef st.slots t).refs, known st.heap id
  box : ∀ id cs, live st.heap id (.box cs) → ∀ c ∈ cs, ∀ id' ∈ c.refs, known st.heap id'

theorem hasN_iff {x : Nat} : ∀ {l : List Nat}, hasN x l = true ↔ x ∈ l
  | [] => by simp [hasN]
  | y :: l => by simp [hasN, hasN_iff (l := l), Nat.beq_eq]

theorem constOf_refs (v : Value) : (constOf v).refs = [] := by
  unfold constOf
  repeat' split
  all_goals rfl

theorem Closed.ev {st : St} (h : Closed st) (x : Operand) : ∀ id ∈ (evalA st.slots x).refs, known st.heap id := by
  cases x with
  | tmp t => exact h.slot t
  | const v => intro id hid; simp only [evalA, constOf_refs] at hid; cases hid
  | global g => intro id hid; cases hid
  | func f => intro id hid; cases hid

theorem lookH_live {h : List Ent} {id : Nat} {b : Blk} : lookH h id = some b ↔ live h id b := by
  unfold lookH live
  split
  · rename_i c hc; rw [hc]; simp
  · rename_i hn
    constructor
    · intro h; cases h
    · intro h; exact absurd h (hn b)

theorem mem_boxRefs {h : List Ent} {id x : Nat} (hx : x ∈ boxRefs h id) : ∃ cs, live h id (.box cs) ∧ ∃ c ∈ cs, x ∈ c.refs := by
  unfold boxRefs at hx
  split at hx
  · rename_i cs hl
    obtain ⟨c, hc, hxc⟩ := List.mem_flatMap.1 hx
    exact ⟨cs, lookH_live.1 hl, c, hc, hxc⟩
  · cases hx

theorem Closed.opRefs {st : St} (h : Closed st) {op : Op} : ∀ id ∈ opRefs (evalA st.slots) op, known st.heap id := by
  intro id hid
  obtain ⟨x, _, hx⟩ := List.mem_flatMap.1 hid
  exact h.ev x id hx

theorem Closed.fp {st : St} (h : Closed st) {hp : Bool} {op : Op} : ∀ id ∈ fpOf hp st.heap (evalA st.slots) op, known st.heap id := by
  intro id hid
  cases hp with
  | false => exact h.opRefs id hid
  | true =>
    rcases List.mem_append.1 hid with h1 | h1
    · exact h.opRefs id h1
    · obtain ⟨y, _, hy⟩ := List.mem_flatMap.1 h1
      obtain ⟨cs, hl, c, hc, hxc⟩ := mem_boxRefs hy
      exact h.box y cs hl c hc id hxc

def rlook (hp : Bool) (fp : List Nat) (h : List Ent) : Look := fun id => cond (hp && hasN id fp) (lookH h id) none

theorem boxRefs_same {h h' : List Ent} {id : Nat} (e : nth Ent.fresh h' id = nth Ent.fresh h id) : boxRefs h' id = boxRefs h id := by
  unfold boxRefs lookH
  rw [e]

theorem fpOf_same {hp : Bool} {h h' : List Ent} {ev : Operand → AV} {op : Op} (e : hp = true → ∀ id ∈ fpOf true h ev op, nth Ent.fresh h' id = nth Ent.fresh h id) : fpOf hp h' ev op = fpOf hp h ev op := by
  cases hp with
  | false => rfl
  | true =>
    have e' := e rfl
    simp only [fpOf, cond_true] at e' ⊢
    congr 1
    have : ∀ id ∈ opRefs ev op, boxRefs h' id = boxRefs h id := fun id hid => boxRefs_same (e' id (List.mem_append.2 (.inl hid)))
    generalize opRefs ev op = l at *
    clear e e'
    induction l with
    | nil => rfl
    | cons a l ih => simp only [List.flatMap_cons]; rw [this a (by simp), ih fun x hx => this x (by simp [hx])]

theorem rlook_same {hp : Bool} {fp : List Nat} {h h' : List Ent} (e : hp = true → ∀ id ∈ fp, nth Ent.fresh h' id = nth Ent.fresh h id) : rlook hp fp h' = rlook hp fp h := by
  funext id
  unfold rlook
  cases hp with
  | false => rfl
  | true =>
    cases hm : hasN id fp with
    | false => rfl
    | true =>
      have := e rfl id (hasN_iff.1 hm)
      simp only [Bool.true_and, cond_true, lookH, this]

theorem xopK_same {α : Type} {E : Env} {F : Fun} {nid : Nat} {o : Oper} {st st' : St} (he : ∀ x ∈ o.op.operands, evalA st'.slots x = evalA st.slots x)
    (hh : clsH o.op = true → ∀ id ∈ fpOf true st.heap (evalA st.slots) o.op, nth Ent.fresh st'.heap id = nth Ent.fresh st.heap id) (K : AV → Ups → List Nat → Bool → Option α) :
    xopK E F true nid o st' K = xopK E F true nid o st K := by
  have e1 : fpOf (clsH o.op) st'.heap (evalA st'.slots) o.op = fpOf (clsH o.op) st.heap (evalA st.slots) o.op := by
    have : fpOf (clsH o.op) st'.heap (evalA st'.slots) o.op = fpOf (clsH o.op) st'.heap (evalA st.slots) o.op := by unfold fpOf; rw [opRefs_congr he]
    rw [this]
    exact fpOf_same hh
  unfold xopK
  rw [defd_congr he]
  dsimp only
  rw [e1]
  have e2 : (fun id => cond (clsH o.op && hasN id (fpOf (clsH o.op) st.heap (evalA st.slots) o.op)) (lookH st'.heap id) none) =
      (fun id => cond (clsH o.op && hasN id (fpOf (clsH o.op) st.heap (evalA st.slots) o.op)) (lookH st.heap id) none) :=
    rlook_same (hp := clsH o.op) (fp := fpOf (clsH o.op) st.heap (evalA st.slots) o.op) fun h id hid => hh h id (by rw [h] at hid; exact hid)
  rw [e2]
  congr 1
  exact opK_congr _ _ _ _ _ he _

theorem act_same {ops : Array Oper} {o : Oper} {slots slots' : List AV} (h : ∀ d ∈ lookSlots ops o, nth .undef slots' d = nth .undef slots d) : act ops o slots' = act ops o slots := by
  unfold act
  cases hg : o.guard with
  | none => rfl
  | some gw =>
    obtain ⟨j, w⟩ := gw
    dsimp only
    cases hd : guardSlot ops j with
    | none => rfl
    | some d =>
      dsimp only
      rw [h d (by simp [lookSlots, hg, hd])]

theorem ev_same {ops : Array Oper} {o : Oper} {slots slots' : List AV} (h : ∀ d ∈ lookSlots ops o, nth .undef slots' d = nth .undef slots d) : ∀ x ∈ o.op.operands, evalA slots' x = evalA slots x := by
  intro x hx
  cases x with
  | tmp t =>
    refine h t ?_
    unfold lookSlots
    exact List.mem_append.2 (.inr (List.mem_flatMap.2 ⟨.tmp t, by simpa using hx, by simp⟩))
  | const v => rfl
  | global g => rfl
  | func f => rfl

theorem eff_same {E : Env} {F : Fun} {ops : Array Oper} {t : It} {st st' : St} (hs : ∀ d ∈ lookSlots ops t.o, nth .undef st'.slots d = nth .undef st.slots d)
    (hh : act ops t.o st.slots = some true → clsH t.o.op = true → ∀ id ∈ fpOf true st.heap (evalA st.slots) t.o.op, nth Ent.fresh st'.heap id = nth Ent.fresh st.heap id) :
    eff E F ops true t st' = eff E F ops true t st := by
  unfold eff
  rw [act_same hs]
  split
  · rfl
  · rename_i ha
    exact xopK_same (ev_same hs) (hh ha) _
  · rfl

theorem eff_info {E : Env} {F : Fun} {ops : Array Oper} {t : It} {st : St} {r : Tr} {v : AV} {us : Ups} (h : eff E F ops true t st = some (r, v, us)) :
    r.i = t.i ∧ ((act ops t.o st.slots = some false ∧ r = ⟨t.i, [], false⟩ ∧ v = .no ∧ us = []) ∨
    (act ops t.o st.slots = some true ∧ ∃ fp, fp = fpOf (clsH t.o.op) st.heap (evalA st.slots) t.o.op ∧ r = ⟨t.i, cond (clsH t.o.op) fp [], clsH t.o.op && us.any fun u => hasN u.1 fp⟩ ∧
      upsOk (clsH t.o.op) (brings t.o.op) fp t.nid us = true ∧ refsOk fp us v = true)) := by
  unfold eff at h
  split at h
  · cases h
  · rename_i ha
    unfold xopK at h
    split at h
    · dsimp only at h
      have hn := opK_nat E F (rlook (clsH t.o.op) (fpOf (clsH t.o.op) st.heap (evalA st.slots) t.o.op) st.heap) t.nid t.o.op (evalA st.slots) two
        (fun p : AV × Ups => if (upsOk (clsH t.o.op) (brings t.o.op) (fpOf (clsH t.o.op) st.heap (evalA st.slots) t.o.op) t.nid p.2 && refsOk (fpOf (clsH t.o.op) st.heap (evalA st.slots) t.o.op) p.2 p.1) = true then
          some (Tr.mk t.i (cond (clsH t.o.op) (fpOf (clsH t.o.op) st.heap (evalA st.slots) t.o.op) []) (clsH t.o.op && p.2.any fun u => hasN u.1 (fpOf (clsH t.o.op) st.heap (evalA st.slots) t.o.op)), p.1, p.2) else none)
      have hn' := hn.trans h
      obtain ⟨p, _, hp⟩ := Option.bind_eq_some_iff.1 hn'
      split at hp
      · rename_i hc
        cases hp
        simp only [Bool.and_eq_true] at hc
        exact ⟨rfl, .inr ⟨ha, _, rfl, rfl, hc.1, hc.2⟩⟩
      · cases hp
    · cases h
  · rename_i ha
    cases h
    exact ⟨rfl, .inl ⟨ha, rfl, rfl, rfl⟩⟩

end Go.Proofs.YtpnpdkgdgfkpfaaGreatDoor.Vm
