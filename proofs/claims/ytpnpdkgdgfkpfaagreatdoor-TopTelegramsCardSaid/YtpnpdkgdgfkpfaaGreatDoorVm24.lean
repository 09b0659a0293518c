/- The abstract machine, part 24: single steps and regions against the model's. -/
import Derived.Test.YtpnpdkgdgfkpfaaGreatDoorVm23
import Derived.Orders
namespace Go.Proofs.YtpnpdkgdgfkpfaaGreatDoor.Vm
set_option linter.unusedVariables false
set_option linter.unusedSimpArgs false
set_option linter.unusedSectionVars false

def okFns (E : Env) : Bool := E.okf.all fun f => match E.P.funcs[f]? with | some fn => fn.body.isSome && !(fn.name == "runtime.NumGoroutine") | none => false

theorem okFns_at {E : Env} (h : okFns E = true) {f : Nat} (hf : hasN f E.okf = true) : ∃ fn c, E.P.funcs[f]? = some fn ∧ fn.body = some c ∧ (fn.name == "runtime.NumGoroutine") = false := by
  have := List.all_eq_true.1 h f (hasN_iff.1 hf)
  split at this
  · rename_i fn hfn
    simp only [Bool.and_eq_true, Bool.not_eq_true'] at this
    obtain ⟨c, hc⟩ := Option.isSome_iff_exists.1 this.1
    exact ⟨fn, c, hfn, hc, this.2⟩
  · cases this

theorem run_callFunc {E : Env} (h : okFns E = true) {f : Nat} (hf : hasN f E.okf = true) (args : Array Value) (w : World) : (callFunc f args).run E.P w = .ok (.enter f args) w := by
  obtain ⟨fn, c, h1, h2, h3⟩ := okFns_at h hf
  have h4 : ¬ fn.name = "runtime.NumGoroutine" := by simpa using h3
  simp [callFunc, h1, h2, h4]

theorem run_call {E : Env} (h : okFns E = true) {o : Oper} {c : Call} {f : Operand} {ρ : Operand → Value} (hop : o.op = .call c) (hc : c.callee = .value f) {g : Nat} {caps : Array Value} (hf : ρ f = .func (.func g) #[] caps) (hg : hasN g E.okf = true) (w : World) :
    (execOp ρ o).run E.P w = .ok (.enter g (c.args.map ρ ++ caps)) w := by
  have h1 := run_callFunc h hg (c.args.map ρ ++ caps) w
  unfold execOp
  rw [hop]
  simp only [resolve, hc, hf, Deferred.ofValue, Sem.run_bind, Sem.run_pure, Result.andThen_ok, invoke]
  simpa using h1

theorem frzA_sound {C : Ctx} (hok : Ok C) {E : Env} {look : Look} (hl : LookOk C look) {f : Nat} : ∀ {args : List AV} {i : Nat} {us : List Value}, All2 (VA C) args us →
    allDead (frzA E look f i args).2 ∧ (∀ u ∈ (frzA E look f i args).2, ∃ b, look u.1 = some b) ∧ ∀ K, allDead K → (∀ u ∈ (frzA E look f i args).2, u ∈ K) → All2 (VA (C.kill K)) (frzA E look f i args).1 us
  | [], i, us, h => by
    cases us with
    | nil => exact ⟨fun u hu => (by cases hu), fun u hu => (by cases hu), fun _ _ _ => trivial⟩
    | cons => exact h.elim
  | a :: l, i, us, h => by
    cases us with
    | nil => exact h.elim
    | cons u us =>
      obtain ⟨d1, d2, d3⟩ := frzA_sound (E := E) (f := f) hok hl (i := i + 1) h.2
      have plain : frzA E look f i (a :: l) = (a :: (frzA E look f (i + 1) l).1, (frzA E look f (i + 1) l).2) → allDead (frzA E look f i (a :: l)).2 ∧ (∀ u ∈ (frzA E look f i (a :: l)).2, ∃ b, look u.1 = some b) ∧ ∀ K, allDead K → (∀ u ∈ (frzA E look f i (a :: l)).2, u ∈ K) → All2 (VA (C.kill K)) (frzA E look f i (a :: l)).1 (u :: us) := by
        intro e
        rw [e]
        exact ⟨d1, d2, fun K hK hin => ⟨(ext_kill C hK).va h.1, d3 K hK hin⟩⟩
      by_cases hc : ∃ id sz es, a = .t (.hsl id) ∧ has2 f i E.frz = true ∧ look id = some (.arr sz es)
      · obtain ⟨id, sz, es, rfl, h1, h2⟩ := hc
        have e : frzA E look f i (.t (.hsl id) :: l) = (.t (.p (.sl sz es)) :: (frzA E look f (i + 1) l).1, (id, .dead) :: (frzA E look f (i + 1) l).2) := by
          simp only [frzA, h1, h2, cond_true]
        rw [e]
        refine ⟨fun v hv => ?_, fun v hv => ?_, fun K hK hin => ⟨?_, d3 K hK fun v hv => hin v (by simp [hv])⟩⟩
        · rcases List.mem_cons.1 hv with rfl | hv
          · rfl
          · exact d1 v hv
        · rcases List.mem_cons.1 hv with rfl | hv
          · exact ⟨_, h2⟩
          · exact d2 v hv
        · obtain ⟨_, _, h3⟩ := h.1
          exact frozen_sound hok (hl _ _ h2) (h3 _ _ (hl _ _ h2)) hK (hin _ (by simp))
      · by_cases hc2 : ∃ vs cs us', a = .aggo vs ∧ pureTs look vs = some (cs, us')
        · obtain ⟨vs, cs, us', rfl, hp⟩ := hc2
          have e : frzA E look f i (.aggo vs :: l) = (.t (.agg cs) :: (frzA E look f (i + 1) l).1, us' ++ (frzA E look f (i + 1) l).2) := by
            simp only [frzA, hp]
          rw [e]
          refine ⟨fun v hv => ?_, fun v hv => ?_, fun K hK hin => ⟨?_, d3 K hK fun v hv => hin v (by simp [hv])⟩⟩
          · rcases List.mem_append.1 hv with hv | hv
            · exact pureTs_dead hp v hv
            · exact d1 v hv
          · rcases List.mem_append.1 hv with hv | hv
            · obtain ⟨w, x, z, h1, h2⟩ := pureTs_from hp v hv
              cases w with
              | p _ => cases h1; cases h2
              | agg _ => cases h1; cases h2
              | hsl id =>
                simp only [pureT] at h1
                split at h1
                · rename_i hlk; cases h1; simp only [List.mem_singleton] at h2; subst h2; exact ⟨_, hlk⟩
                · cases h1
              | ptr _ _ => cases h1
            · exact d2 v hv
          · obtain ⟨uus, rfl, ha⟩ := h.1
            exact ⟨uus, rfl, pureTs_sound hok hl ha hp hK fun v hv => hin v (by simp [hv])⟩
        refine plain ?_
        simp only [frzA]
        split
        · rename_i id
          cases hb : has2 f i E.frz with
          | false => rfl
          | true =>
            rw [cond_true]
            split
            · rename_i sz es hl'
              exact absurd ⟨id, sz, es, rfl, hb, hl'⟩ hc
            · rfl
        · rename_i vs
          split
          · rename_i cs us' hp
            exact absurd ⟨vs, cs, us', rfl, hp⟩ hc2
          · rfl
        · rfl

theorem callF_sound {C : Ctx} (hok : Ok C) {E : Env} {F : Fun} (hF : FSound E F) {look : Look} (hl : LookOk C look) {nid f : Nat} {args : List AV} {v : AV} {us : Ups} (h : callF E F look nid f args two = some (v, us))
    (hn : nth Ent.fresh C.h nid = .fresh ∧ nth Ent.fresh C.h (nid + 1) = .fresh ∧ nid + 1 < C.h.length) {uargs : Array Value} (ha : All2 (VA C) args uargs.toList) :
    hasN f E.okf = true ∧ Calls E.P f uargs C.w fun e w' => match e with
      | .returned u => Gives C us v u w'
      | _ => False := by
  obtain ⟨hd, hlk, hargs⟩ := frzA_sound (E := E) (f := f) hok hl (i := 0) ha
  unfold callF at h
  have hn' := (callK_nat E F (frzLook look (frzA E look f 0 args).2) nid f (frzA E look f 0 args).1 two (fun p : P2 => two p.1 ((frzA E look f 0 args).2 ++ p.2))).trans h
  obtain ⟨⟨v', us'⟩, h1, h2⟩ := Option.bind_eq_some_iff.1 hn'
  obtain ⟨rfl, rfl⟩ := two_inj h2
  have hnot : ∀ n, nth Ent.fresh C.h n = .fresh → ∀ e, (n, e) ∉ (frzA E look f 0 args).2 := fun n hf e he => by
    obtain ⟨b, hb⟩ := hlk _ he
    have := hl _ _ hb
    unfold live at this
    rw [hf] at this
    cases this
  have hl' : LookOk (C.kill (frzA E look f 0 args).2) (frzLook look (frzA E look f 0 args).2) := fun id b hb => by
    unfold frzLook at hb
    cases hc : (frzA E look f 0 args).2.any fun u => Nat.beq u.1 id with
    | true => rw [hc] at hb; cases hb
    | false =>
      rw [hc] at hb
      refine live_put_ne (fun e he => ?_) (hl _ _ hb)
      have := List.any_eq_false.1 hc _ he
      simp at this
  obtain ⟨g1, g2⟩ := callK_sound (ok_kill hok hd) hF hl' h1 ⟨nth_putDead_fresh (hnot _ hn.1) hn.1, nth_putDead_fresh (hnot _ hn.2.1) hn.2.1, by show _ < (putUps _ C.h).length; rw [length_putUps]; exact hn.2.2⟩
    (hargs _ hd fun u hu => hu)
  refine ⟨g1, Calls.mono g2 fun e w' he => ?_⟩
  cases e with
  | returned u => exact Gives.after hd he
  | panicked _ => exact he
  | outgrown => exact he

theorem nrmA_sound {C : Ctx} {P : Program} {t : TypeId} {a : AV} {u : Value} (h : VA C a u) : VA C (nrmA P t a) u := by
  unfold nrmA
  split
  · split
    · obtain ⟨us, rfl, ha⟩ := h
      exact ⟨us, rfl, nrmC_sound ha⟩
    · exact h
  · split
    · have h0 : u = .slice none 0 0 := (fun u (h : C.P .nils u) => show u = .slice none 0 0 by cases h; rfl) _ h
      rw [h0]
      exact .sl0 _ none 0
    · exact h
  · exact h

theorem nrmL_sound {C : Ctx} {P : Program} : ∀ {ts : List TypeId} {as : List AV} {us : List Value}, All2 (VA C) as us → All2 (VA C) (nrmL P ts as) us
  | [], as, us, h => by cases as <;> exact h
  | t :: ts, [], us, h => h
  | t :: ts, a :: as, us, h => by
    cases us with
    | nil => exact h.elim
    | cons u us => exact ⟨nrmA_sound h.1, nrmL_sound h.2⟩

theorem nrmAs_sound {C : Ctx} {P : Program} {g : Nat} {as : List AV} {us : List Value} (h : All2 (VA C) as us) : All2 (VA C) (nrmAs P g as) us := by
  unfold nrmAs
  split
  · exact nrmL_sound h
  · exact h

theorem opK_step {C : Ctx} (hok : Ok C) {E : Env} {F : Fun} (hE : okFns E = true) (hF : FSound E F) {look : Look} (hl : LookOk C look) {nid : Nat} {o : Oper}
    (hn : brings o.op = true → nth Ent.fresh C.h nid = .fresh ∧ nth Ent.fresh C.h (nid + 1) = .fresh ∧ nid + 1 < C.h.length) {ev : Operand → AV} {a : Act} (hρ : ∀ x, VA C (ev x) (a.eval x))
    {v : AV} {us : Ups} (h : opK E F look nid o.op ev two = some (v, us)) {next : Act → World → Prop} {Q : Exit → Act → World → Prop} (hnext : ∀ u w', Gives C us v u w' → next (a.put o.dst u) w') :
    o.wp E.P a C.w next Q := by
  have plain : execK E.P look nid o.op ev two = some (v, us) → o.wp E.P a C.w next Q := by
    intro h
    obtain ⟨u, w', hr, hg⟩ := execK_sound hok hl (fun hb => ⟨(hn hb).1, by have := (hn hb).2.2; omega⟩) hρ (fun y hy => by
      unfold isNilI at hy
      split at hy
      · rfl
      · cases hy) h
    unfold Oper.wp
    rcases hr with hr | ⟨hr, rfl⟩
    · rw [hr]; exact hnext u w' hg
    · rw [hr]; exact hnext _ w' hg
  have hcall : ∀ (c : Call) (f : Operand) (g : Nat) (k : HPrim), o.op = .call c → c.callee = .value f → a.eval f = .func (.func g) #[] #[] → findP g E.hpr = some k →
      hprK k look nid (c.args.toList.map ev) two = some (v, us) → o.wp E.P a C.w next Q := by
    intro c f g k hop hc hf hk h
    have hb : brings o.op = true := by rw [hop]; obtain ⟨cc, _, _⟩ := c; cases hc; rfl
    obtain ⟨hg, hcalls⟩ := hF.hp g k hk
    unfold Oper.wp
    rw [run_call hE hop hc hf hg]
    refine Calls.mono (hcalls C look nid _ v us _ hok hl (hn hb) (by simpa using all2_map_ev hρ c.args.toList) h) fun e w' he => ?_
    cases e with
    | returned u => exact hnext u w' he
    | panicked _ => exact he.elim
    | outgrown => exact he.elim
  have call : ∀ (c : Call) (f : Operand) (g : Nat) (caps : Array Value) (as : List AV), o.op = .call c → c.callee = .value f → a.eval f = .func (.func g) #[] caps → All2 (VA C) as (c.args.map a.eval ++ caps).toList →
      callF E F look nid g as two = some (v, us) → o.wp E.P a C.w next Q := by
    intro c f g caps as hop hc hf ha hk
    have hb : brings o.op = true := by rw [hop]; obtain ⟨cc, _, _⟩ := c; cases hc; rfl
    obtain ⟨hg, hcalls⟩ := callF_sound hok hF hl hk (hn hb) ha
    unfold Oper.wp
    rw [run_call hE hop hc hf hg]
    refine Calls.mono hcalls fun e w' he => ?_
    cases e with
    | returned u => exact hnext u w' he
    | panicked _ => exact he.elim
    | outgrown => exact he.elim
  unfold opK at h
  split at h
  · rename_i f args ats hop
    have hargs : All2 (VA C) (args.toList.map ev) (args.toList.map a.eval) := all2_map_ev hρ args.toList
    have hf := hρ f
    split at h
    · rename_i g caps he
      rw [he] at hf
      obtain ⟨us', hu, hc⟩ := hf
      split at h
      · rename_i k hk
        split at h
        · have : us' = #[] := by
            have := hc.length
            exact Array.toList_eq_nil_iff.1 (List.length_eq_zero_iff.1 (by simpa using this.symm))
          subst this
          exact hcall _ f g k hop rfl hu hk h
        · cases h
      refine call _ f g us' _ hop rfl hu ?_ h
      have hcaps : All2 (VA C) (caps.map AV.t) us'.toList := by
        clear hop h he call plain hargs
        revert hc
        generalize us'.toList = l
        induction caps generalizing l with
        | nil => intro hc; cases l with | nil => trivial | cons => exact hc.elim
        | cons c caps ih => intro hc; cases l with | nil => exact hc.elim | cons x l => exact ⟨hc.1, ih l hc.2⟩
      exact nrmAs_sound (by simpa using hargs.append hcaps)
    · rename_i g he
      rw [he] at hf
      cases hfv : a.eval f with
      | func fn first caps =>
        rw [hfv] at hf
        cases hf
        refine call _ f g #[] _ hop rfl hfv ?_ h
        exact nrmAs_sound (by simpa using hargs)
      | _ => rw [hfv] at hf; cases hf
    · cases h
  · exact plain h

structure SR (C : Ctx) (st : St) (a : Act) : Prop where
  h : C.h = st.heap
  s : SlotsR C st.slots a.tmps
  n : st.slots.length ≤ a.tmps.size

theorem tmps_get {a : Act} {d : Nat} {u : Value} (h : a.tmps.getD d Go.undef = u) : a.tmps[d]? = some u ∨ (a.tmps[d]? = none ∧ u = Go.undef) := by
  rw [Array.getD_eq_getD_getElem?] at h
  cases hd : a.tmps[d]? with
  | none => rw [hd] at h; exact .inr ⟨rfl, h.symm⟩
  | some x => rw [hd] at h; exact .inl (by rw [← h]; rfl)

theorem SR.yield {C : Ctx} {st : St} {a : Act} (hs : SR C st a) {ops : Array Oper} {o : Oper} {b : Bool} (h : act ops o st.slots = some b) : Region.wanted o (yielded ops a.tmps) = b := by
  unfold act at h
  unfold Region.wanted
  split at h
  · rename_i hg
    simp only [hg]
    exact Option.some.inj h
  · rename_i j w hg
    simp only [hg]
    split at h
    · cases h
    · rename_i d hd
      have hd' : (ops[j]?).bind (·.dst) = some d := hd
      split at h
      · rename_i hno
        cases h
        have h1 := hs.s d
        rw [hno] at h1
        have h1 : a.tmps.getD d Go.undef = Go.undef := h1
        have : yielded ops a.tmps j = none := by
          unfold yielded
          rw [hd']
          simp only [Option.bind_some]
          rcases tmps_get h1 with h2 | ⟨h2, _⟩
          · rw [h2]; rfl
          · rw [h2]
        rw [this]
        rfl
      · rename_i c hc
        have h1 := hs.s d
        rw [hc] at h1
        have h1 : a.tmps.getD d Go.undef = .bool c := (fun u (h : C.P (.bool c) u) => show u = .bool c by cases h; rfl) _ h1
        have : yielded ops a.tmps j = some c := by
          unfold yielded
          rw [hd']
          simp only [Option.bind_some]
          rcases tmps_get h1 with h2 | ⟨_, h2⟩
          · rw [h2]
          · cases h2
        rw [this]
        have h := Option.some.inj h
        subst h
        cases c <;> cases w <;> rfl
      · cases h

theorem put_size (a : Act) (d : Option Nat) (u : Value) : (a.put d u).tmps.size = a.tmps.size := by
  cases d <;> simp [Act.put]

theorem put_defers (a : Act) (d : Option Nat) (u : Value) : (a.put d u).defers = a.defers := by
  cases d <;> rfl

theorem SR.put {C C' : Ctx} {st : St} {a : Act} (hs : SR C st a) (hx : Ext C C') {us : Ups} (hh : C'.h = putUps us C.h) (d : Option Nat) {v : AV} {u : Value} (hv : VA C' v u) :
    SR C' ⟨setDst d v st.slots, putUps us st.heap⟩ (a.put d u) := by
  refine ⟨by rw [hh, hs.h], fun t => ?_, by rw [put_size]; exact Nat.le_trans (Nat.le_of_eq (length_setDst ..)) hs.n⟩
  have h0 := hx.va (hs.s t)
  show VA C' (nth .undef (setDst d v st.slots) t) _
  rw [nth_setDst]
  cases d with
  | none => rw [if_neg (by simp)]; exact h0
  | some d =>
    simp only [Act.put, Array.getD_eq_getD_getElem?] at h0 ⊢
    by_cases hdt : d = t
    · subst hdt
      by_cases hlt : d < st.slots.length
      · rw [if_pos ⟨rfl, hlt⟩, Array.getElem?_setIfInBounds_self_of_lt (Nat.lt_of_lt_of_le hlt hs.n)]
        exact hv
      · rw [if_neg fun h => hlt h.2, nth_out (Nat.not_lt.1 hlt)]
        trivial
    · rw [if_neg fun h => hdt (Option.some.inj h.1), Array.getElem?_setIfInBounds_ne hdt]
      exact h0

theorem eff_op {E : Env} {F : Fun} {ops : Array Oper} {dr : Bool} {t : It} {st : St} {r : Tr} {v : AV} {us : Ups} (h : eff E F ops dr t st = some (r, v, us)) :
    (act ops t.o st.slots = some false ∧ v = .no ∧ us = []) ∨
    (act ops t.o st.slots = some true ∧ ∃ look : Look, (∀ id b, look id = some b → lookH st.heap id = some b) ∧ opK E F look t.nid t.o.op (evalA st.slots) two = some (v, us)) := by
  unfold eff at h
  split at h
  · cases h
  · rename_i ha
    refine .inr ⟨ha, ?_⟩
    unfold xopK at h
    split at h
    · cases dr with
      | false =>
        dsimp only at h
        refine ⟨lookH st.heap, fun _ _ h => h, ?_⟩
        have hn := (opK_nat E F (lookH st.heap) t.nid t.o.op (evalA st.slots) two (fun p : AV × Ups => some (Tr.mk t.i [] false, p.1, p.2))).trans h
        obtain ⟨p, hp, he⟩ := Option.bind_eq_some_iff.1 hn
        cases he
        exact hp
      | true =>
        dsimp only at h
        refine ⟨rlook (clsH t.o.op) (fpOf (clsH t.o.op) st.heap (evalA st.slots) t.o.op) st.heap, fun id b hb => ?_, ?_⟩
        rotate_left
        · have hn := (opK_nat E F (rlook (clsH t.o.op) (fpOf (clsH t.o.op) st.heap (evalA st.slots) t.o.op) st.heap) t.nid t.o.op (evalA st.slots) two
            (fun p : AV × Ups => if (upsOk (clsH t.o.op) (brings t.o.op) (fpOf (clsH t.o.op) st.heap (evalA st.slots) t.o.op) t.nid p.2 && refsOk (fpOf (clsH t.o.op) st.heap (evalA st.slots) t.o.op) p.2 p.1) = true then
              some (Tr.mk t.i (cond (clsH t.o.op) (fpOf (clsH t.o.op) st.heap (evalA st.slots) t.o.op) []) (clsH t.o.op && p.2.any fun u => hasN u.1 (fpOf (clsH t.o.op) st.heap (evalA st.slots) t.o.op)), p.1, p.2) else none)).trans h
          obtain ⟨p, hp, he⟩ := Option.bind_eq_some_iff.1 hn
          split at he
          · cases he; exact hp
          · cases he
        · unfold rlook at hb
          cases hc : (clsH t.o.op && hasN id (fpOf (clsH t.o.op) st.heap (evalA st.slots) t.o.op)) with
          | false => rw [hc] at hb; cases hb
          | true => rw [hc] at hb; exact hb
    · cases h
  · rename_i ha
    cases h
    exact .inl ⟨ha, rfl, rfl⟩

def Same (a b : Act) : Prop := b.defers = a.defers ∧ b.tmps.size = a.tmps.size
theorem Same.refl (a : Act) : Same a a := ⟨rfl, rfl⟩
theorem Same.trans {a b c : Act} (h : Same a b) (k : Same b c) : Same a c := ⟨k.1.trans h.1, k.2.trans h.2⟩
theorem Same.put (a : Act) (d : Option Nat) (u : Value) : Same a (a.put d u) := ⟨put_defers .., put_size ..⟩

theorem eff_step {C : Ctx} (hok : Ok C) {E : Env} {F : Fun} (hE : okFns E = true) (hF : FSound E F) {st : St} {a : Act} (hs : SR C st a) {ops : Array Oper} {dr : Bool} {t : It} (ho : ops[t.i]? = some t.o)
    (hn : brings t.o.op = true → nth Ent.fresh C.h t.nid = .fresh ∧ nth Ent.fresh C.h (t.nid + 1) = .fresh ∧ t.nid + 1 < C.h.length)
    {r : Tr} {e : AV × Ups} (h : eff E F ops dr t st = some (r, e)) {K : Act → World → Prop} {Q : Exit → Act → World → Prop}
    (hK : ∀ C' a', Ok C' → Ext C C' → SR C' (put t e st) a' → Same a a' → K a' C'.w) : wpOp E.P ops Q t.i K a C.w := by
  obtain ⟨v, us⟩ := e
  unfold wpOp
  rw [ho]
  dsimp only
  rcases eff_op h with ⟨ha, rfl, rfl⟩ | ⟨ha, look, hl, hop⟩
  · rw [hs.yield ha]
    simp only [Bool.false_eq_true, if_false]
    exact hK C _ hok (Ext.refl C) (hs.put (Ext.refl C) rfl t.o.dst rfl) (Same.put ..)
  · rw [hs.yield ha]
    simp only [if_true]
    refine .inl (opK_step hok hE hF (fun id b hb => lookH_live.1 (by rw [hs.h]; exact hl id b hb)) hn (fun x => evalA_sound hs.s x) hop fun u w' hg => ?_)
    obtain ⟨C', rfl, hh, hx, hok', hv⟩ := hg
    exact hK C' _ hok' hx (hs.put hx hh t.o.dst hv) (Same.put ..)

end Go.Proofs.YtpnpdkgdgfkpfaaGreatDoor.Vm
