/- The abstract machine, part 20: a region's evaluator comes to what its operations come to, one after the other. -/
import Derived.Test.YtpnpdkgdgfkpfaaGreatDoorVm19
namespace Go.Proofs.YtpnpdkgdgfkpfaaGreatDoor.Vm
set_option linter.unusedVariables false
set_option linter.unusedSimpArgs false

def items : Nat → Nat → List Oper → List It
  | _, _, [] => []
  | i, nid, o :: l => ⟨i, nid, o⟩ :: items (i + 1) (nid + resv o) l

theorem items_append : ∀ (a b : List Oper) (i nid : Nat), items i nid (a ++ b) = items i nid a ++ items (i + a.length) (nid + resvs a) b
  | [], b, i, nid => by simp [items, resvs]
  | o :: a, b, i, nid => by
    simp only [List.cons_append, items, items_append a b, resvs, List.length_cons]
    rw [show i + 1 + a.length = i + (a.length + 1) by omega, show nid + resv o + resvs a = nid + (resv o + resvs a) by omega]

theorem items_mem : ∀ {l : List Oper} {i nid : Nat} {it : It}, it ∈ items i nid l → it.o ∈ l
  | [], _, _, _, h => by cases h
  | o :: l, i, nid, it, h => by
    rcases List.mem_cons.1 h with rfl | h
    · simp
    · exact List.mem_cons_of_mem _ (items_mem h)

theorem spanPick_spec {d : Nat} : ∀ {l b : List Oper} {p : Oper} {r : List Oper}, spanPick d l = some (b, p, r) → l = b ++ p :: r ∧ isPick d p = true
  | [], _, _, _, h => by cases h
  | o :: l, b, p, r, h => by
    simp only [spanPick] at h
    cases hp : isPick d o with
    | true => simp only [hp, cond_true] at h; cases h; exact ⟨rfl, hp⟩
    | false =>
      simp only [hp, cond_false] at h
      split at h
      · rename_i b' p' r' he
        cases h
        obtain ⟨rfl, h2⟩ := spanPick_spec he
        exact ⟨rfl, h2⟩
      · cases h

theorem isPick_spec {d : Nat} {p : Oper} (h : isPick d p = true) : ∃ x y, p.op = .pick (.tmp d) x y := by
  unfold isPick at h
  split at h
  · have := Nat.eq_of_beq_eq_true h
    subst this
    exact ⟨_, _, rfl⟩
  · cases h

theorem xrun_append {E : Env} {F : Fun} {ops : Array Oper} {dr : Bool} : ∀ {a b : List It} {st s1 s2 : St} {ra rb : List Tr}, xrun E F ops dr a st = some (ra, s1) → xrun E F ops dr b s1 = some (rb, s2) → xrun E F ops dr (a ++ b) st = some (ra ++ rb, s2)
  | [], b, st, s1, s2, ra, rb, h1, h2 => by simp only [xrun] at h1; cases h1; exact h2
  | t :: a, b, st, s1, s2, ra, rb, h1, h2 => by
    obtain ⟨r, e, rs, g1, g2, rfl⟩ := xrun_cons.1 h1
    exact xrun_cons.2 ⟨r, e, rs ++ rb, g1, xrun_append g2 h2, rfl⟩

theorem xrun_other {E : Env} {F : Fun} {ops : Array Oper} {dr : Bool} {t : Nat} : ∀ {l : List It} {st st' : St} {rs : List Tr}, xrun E F ops dr l st = some (rs, st') → (∀ it ∈ l, it.o.dst ≠ some t) → nth .undef st'.slots t = nth .undef st.slots t
  | [], _, _, _, h, _ => by simp only [xrun] at h; cases h; rfl
  | it :: l, st, st', rs, h, hn => by
    obtain ⟨r, e, rs', h1, h2, rfl⟩ := xrun_cons.1 h
    rw [xrun_other h2 fun x hx => hn x (by simp [hx])]
    show nth .undef (setDst it.o.dst e.1 st.slots) t = _
    rw [nth_setDst, if_neg fun hc => hn it (by simp) hc.1]

theorem xrun_len {E : Env} {F : Fun} {ops : Array Oper} {dr : Bool} : ∀ {l : List It} {st st' : St} {rs : List Tr}, xrun E F ops dr l st = some (rs, st') → st'.slots.length = st.slots.length
  | [], _, _, _, h => by simp only [xrun] at h; cases h; rfl
  | it :: l, st, st', rs, h => by
    obtain ⟨r, e, rs', h1, h2, rfl⟩ := xrun_cons.1 h
    rw [xrun_len h2]
    exact length_setDst ..

theorem undefAll_spec : ∀ (l : List Oper) (s : List AV) (t : Nat), nth .undef (undefAll l s) t = .undef ∨ (nth .undef (undefAll l s) t = nth .undef s t ∧ ((∀ o ∈ l, o.dst ≠ some t) ∨ s.length ≤ t))
  | [], s, t => .inr ⟨rfl, .inl fun o ho => by cases ho⟩
  | o :: l, s, t => by
    simp only [undefAll]
    rcases undefAll_spec l (setDst o.dst .undef s) t with h | ⟨h, h2⟩
    · exact .inl h
    · rw [nth_setDst] at h
      split at h
      · exact .inl h
      · rename_i hc
        refine .inr ⟨h, ?_⟩
        rw [length_setDst] at h2
        rcases h2 with h2 | h2
        · by_cases ht : t < s.length
          · refine .inl fun o' ho' => ?_
            rcases List.mem_cons.1 ho' with rfl | ho'
            · exact fun he => hc ⟨he, ht⟩
            · exact h2 o' ho'
          · exact .inr (by omega)
        · exact .inr h2
theorem length_undefAll : ∀ (l : List Oper) (s : List AV), (undefAll l s).length = s.length
  | [], _ => rfl
  | o :: l, s => by simp only [undefAll]; rw [length_undefAll l]; exact length_setDst ..

theorem nth_out {α : Type} {d : α} {s : List α} {t : Nat} (h : s.length ≤ t) : nth d s t = d := by
  rw [nth_eq]; simp [List.getD, List.getElem?_eq_none h]

theorem skip_group {E : Env} {F : Fun} {ops : Array Oper} {dr : Bool} {d : Nat} {w b : Bool} (hbw : (b == w) = false) : ∀ (l : List Oper) (ds : List Nat) (i nid : Nat) (se : St), chainOk ops d w l ds = true → l.all (fun o => inRange se.slots.length o) = true →
    nth .undef se.slots d = .t (.p (.bool b)) → (∀ e ∈ ds, nth .undef se.slots e = .no) →
    ∃ tr se', xrun E F ops dr (items i nid l) se = some (tr, se') ∧ se'.heap = se.heap ∧ ∀ r ∈ tr, r.w = false
  | [], ds, i, nid, se, _, _, _, _ => ⟨[], se, rfl, rfl, fun r hr => by cases hr⟩
  | o :: l, ds, i, nid, se, hc, hr, hd, hds => by
    simp only [chainOk, Bool.and_eq_true] at hc
    obtain ⟨hg, hc⟩ := hc
    simp only [List.all_cons, Bool.and_eq_true] at hr
    have hact : act ops o se.slots = some false := by
      unfold act
      split at hg
      · rename_i j w' hgd
        simp only [hgd]
        split at hg
        · rename_i d' hd'
          simp only [hd']
          simp only [Bool.or_eq_true, Bool.and_eq_true, Nat.beq_eq] at hg
          rcases hg with ⟨rfl, hw⟩ | hm
          · rw [hd]
            have : w = w' := by simpa using hw
            subst this
            simp only [hbw]
          · rw [hds d' (hasN_iff.1 hm)]
        · cases hg
      · cases hg
    have heff : eff E F ops dr ⟨i, nid, o⟩ se = some (⟨i, [], false⟩, .no, []) := by
      unfold eff
      rw [hact]
    have fin : ∀ ds', chainOk ops d w l ds' = true → (∀ e ∈ ds', nth .undef (put ⟨i, nid, o⟩ (.no, []) se).slots e = .no) → o.dst ≠ some d →
        ∃ tr se', xrun E F ops dr (items i nid (o :: l)) se = some (tr, se') ∧ se'.heap = se.heap ∧ ∀ r ∈ tr, r.w = false := by
      intro ds' hc' hds' hnd
      have hd' : nth .undef (put ⟨i, nid, o⟩ (.no, []) se).slots d = .t (.p (.bool b)) := by
        show nth .undef (setDst o.dst .no se.slots) d = _
        rw [nth_setDst, if_neg fun h => hnd h.1, hd]
      obtain ⟨tr, se', h1, h2, h3⟩ := skip_group hbw l ds' (i + 1) (nid + resv o) (put ⟨i, nid, o⟩ (.no, []) se) hc' (by
        have : (put ⟨i, nid, o⟩ (AV.no, []) se).slots.length = se.slots.length := length_setDst ..
        rw [this]; exact hr.2) hd' hds'
      refine ⟨⟨i, [], false⟩ :: tr, se', xrun_cons.2 ⟨_, _, _, heff, h1, rfl⟩, h2, fun r hr => ?_⟩
      rcases List.mem_cons.1 hr with rfl | hr
      · rfl
      · exact h3 r hr
    cases hdst : o.dst with
    | none =>
      rw [hdst] at hc
      refine fin ds hc (fun e he => ?_) (by rw [hdst]; simp)
      show nth .undef (setDst o.dst .no se.slots) e = _
      rw [hdst]; exact hds e he
    | some e0 =>
      rw [hdst] at hc
      simp only [Bool.and_eq_true, Bool.not_eq_true'] at hc
      have hlt : e0 < se.slots.length := by
        have := hr.1
        simp only [inRange, hdst] at this
        simpa [Nat.blt_eq] using this
      refine fin (e0 :: ds) hc.2 (fun e he => ?_) (by rw [hdst]; intro h; cases h; simp at hc)
      show nth .undef (setDst o.dst .no se.slots) e = _
      rw [nth_setDst, hdst]
      by_cases hee : e0 = e
      · subst hee; rw [if_pos ⟨rfl, hlt⟩]
      · rw [if_neg fun h => hee (Option.some.inj h.1)]
        rcases List.mem_cons.1 he with rfl | he
        · exact absurd rfl hee
        · exact hds e he

def okp (before : Array Nat) (a b : Tr) : Prop := (before.getD b.i 0).testBit a.i = true ∨ noClash a b
def lgT (lg : Log) : List Tr := lg.map fun e => ⟨e.1, e.2.1, e.2.2⟩

structure Good (cx : Cx) (lg : Log) (its : List It) (tr : List Tr) : Prop where
  dyn : isDyn cx.md = true → (∀ t ∈ tr, ∀ e ∈ lgT lg, okp cx.before e t) ∧ tr.Pairwise (okp cx.before)
  s1 : isDyn cx.md = false → isDraw cx.md = true → All2 (fun (it : It) (r : Tr) => r.w = true → clsW cx.E it.o.op = true) its tr

theorem Good.nil (cx : Cx) (lg : Log) : Good cx lg [] [] := ⟨fun _ => ⟨fun t ht => (by cases ht), List.Pairwise.nil⟩, fun _ _ => trivial⟩

theorem Good.skip {cx : Cx} {lg : Log} {it : It} {its : List It} {tr : List Tr} (h : Good cx lg its tr) : Good cx lg (it :: its) (⟨it.i, [], false⟩ :: tr) where
  dyn hd := by
    obtain ⟨h1, h2⟩ := h.dyn hd
    refine ⟨fun t ht e he => ?_, List.pairwise_cons.2 ⟨fun t ht => .inr fun _ x hx => (by cases hx), h2⟩⟩
    rcases List.mem_cons.1 ht with rfl | ht
    · exact .inr fun _ x _ hx => (by cases hx)
    · exact h1 t ht e he
  s1 hd hs := ⟨fun hw => (by cases hw), h.s1 hd hs⟩

theorem clash_spec {before : Array Nat} {i : Nat} {fp : List Nat} {w : Bool} {lg : Log} (h : clash before i fp w lg = false) : ∀ e ∈ lgT lg, okp before e ⟨i, fp, w⟩ := by
  intro e he
  obtain ⟨l, hl, rfl⟩ := List.mem_map.1 he
  unfold clash at h
  have h1 := List.any_eq_false.1 h l hl
  unfold okp
  cases hb : (before.getD i 0).testBit l.1 with
  | true => exact .inl rfl
  | false =>
    refine .inr fun hw x hx hx' => h1 ?_
    simp only [hb, Bool.not_false, Bool.true_and, Bool.and_eq_true, Bool.or_eq_true]
    refine ⟨hw.symm, List.any_eq_true.2 ⟨x, hx', hasN_iff.2 hx⟩⟩

theorem Good.step {cx : Cx} {lg : Log} {it : It} {its : List It} {r : Tr} {tr : List Tr} (hi : r.i = it.i) (hok : stepOk cx it.i it.o r.fp r.w lg = true) (h : Good cx (logOf cx.md it.i r.fp r.w lg) its tr) : Good cx lg (it :: its) (r :: tr) where
  dyn hd := by
    obtain ⟨h1, h2⟩ := h.dyn hd
    have hmd : cx.md = .dyn := by cases hm : cx.md <;> rw [hm] at hd <;> first | rfl | cases hd
    rw [hmd] at h1
    unfold stepOk at hok
    rw [hmd] at hok
    have hr : r = ⟨it.i, r.fp, r.w⟩ := by rw [← hi]
    refine ⟨fun t ht e he => ?_, List.pairwise_cons.2 ⟨fun t ht => ?_, h2⟩⟩
    · rcases List.mem_cons.1 ht with rfl | ht
      · rw [hr]; exact clash_spec (by simpa using hok) e he
      · exact h1 t ht e (by simp only [logOf, lgT, List.map_cons, List.mem_cons]; exact .inr he)
    · rw [hr]; exact h1 t ht _ (by simp [logOf, lgT])
  s1 hd hs := by
    refine ⟨fun hw => ?_, h.s1 hd hs⟩
    unfold stepOk at hok
    cases hm : cx.md with
    | plain => rw [hm] at hs; cases hs
    | dyn => rw [hm] at hd; cases hd
    | s1 => rw [hm, hw] at hok; simpa using hok

theorem Good.append {cx : Cx} {lg lg' : Log} (hd : isDyn cx.md = false) {a b : List It} {ra rb : List Tr} (h1 : Good cx lg a ra) (h2 : Good cx lg' b rb) : Good cx lg' (a ++ b) (ra ++ rb) where
  dyn h := by rw [hd] at h; cases h
  s1 h hs := (h1.s1 h hs).append (h2.s1 h hs)

theorem xres_eff {E : Env} {F : Fun} {ops : Array Oper} {dr : Bool} {t : It} {st : St} {v : AV} {us : Ups} {fp : List Nat} {w : Bool} (ha : act ops t.o st.slots = some true) (h : xres E F dr t.nid t.o st = some (v, us, fp, w)) :
    eff E F ops dr t st = some (⟨t.i, fp, w⟩, v, us) := by
  unfold eff
  rw [ha]
  exact xres_K h _

theorem stepK_x {cx : Cx} {α : Type} {i nid : Nat} {o : Oper} {pu : Bool} {st se : St} {lg : Log} {K : St → Log → Option α} {r : α} (h : stepK cx i nid o pu st lg K = some r) (hle : Le st se) (ha : act cx.ops o se.slots = some true) :
    ∃ tr e st1, eff cx.E cx.F cx.ops (isDraw cx.md) ⟨i, nid, o⟩ se = some (tr, e) ∧ Le st1 (put ⟨i, nid, o⟩ e se) ∧ K st1 (logOf cx.md i tr.fp tr.w lg) = some r ∧ (pu = true → e.2 = []) ∧ stepOk cx i o tr.fp tr.w lg = true ∧ tr.i = i := by
  unfold stepK at h
  obtain ⟨v, us, fp, w, h1, h2⟩ := xopK_res h
  split at h2
  · rename_i hc
    simp only [Bool.and_eq_true, Bool.or_eq_true, Bool.not_eq_true'] at hc
    obtain ⟨v', g1, g2⟩ := xres_le hle h1
    refine ⟨⟨i, fp, w⟩, (v', us), _, xres_eff (t := ⟨i, nid, o⟩) ha g1, hle.put _ g2 us, h2, fun hp => ?_, hc.2, rfl⟩
    rcases hc.1 with h | h
    · rw [hp] at h; cases h
    · simpa using h
  · cases h2

theorem upd_same_bool {st se : St} (hle : Le st se) {d : Nat} {b : Bool} (h : nth .undef st.slots d = .t (.p (.bool b))) : Le ⟨upd (.t (.p (.bool b))) st.slots d, st.heap⟩ se := by
  refine ⟨hle.heap, by simp [length_upd, hle.len], fun t => ?_⟩
  simp only [nth_upd]
  by_cases hc : d = t ∧ t < st.slots.length
  · rw [if_pos hc]
    obtain ⟨rfl, _⟩ := hc
    rw [← h]
    exact hle.slot d
  · rw [if_neg hc]; exact hle.slot t

theorem Le.bool {st se : St} (h : Le st se) {d : Nat} {b : Bool} (hd : nth .undef st.slots d = .t (.p (.bool b))) : nth .undef se.slots d = .t (.p (.bool b)) := by
  rcases h.slot d with h' | h'
  · rw [hd] at h'; cases h'
  · rw [← h', hd]

theorem boolOf_some {v : AV} {b : Bool} (h : boolOf v = some b) : v = .t (.p (.bool b)) := by
  unfold boolOf at h
  split at h
  · cases h; rfl
  · cases h

theorem act_none {ops : Array Oper} {o : Oper} {slots : List AV} (h : o.guard = none) : act ops o slots = some true := by unfold act; rw [h]

theorem eff_skip {E : Env} {F : Fun} {ops : Array Oper} {dr : Bool} {t : It} {st : St} (h : act ops t.o st.slots = some false) : eff E F ops dr t st = some (⟨t.i, [], false⟩, .no, []) := by
  unfold eff; rw [h]

theorem undefAll_le {E : Env} {F : Fun} {ops : Array Oper} {dr : Bool} {i nid : Nat} {body : List Oper} {st se se1 : St} {tr : List Tr} (hle : Le st se) (hx : xrun E F ops dr (items i nid body) se = some (tr, se1)) (hh : se1.heap = se.heap) :
    Le ⟨undefAll body st.slots, st.heap⟩ se1 := by
  refine ⟨by rw [hh, hle.heap], by rw [xrun_len hx, hle.len]; exact (length_undefAll ..).symm, fun t => ?_⟩
  simp only
  rcases undefAll_spec body st.slots t with h | ⟨h, h2⟩
  · exact .inl h
  · rw [h]
    rcases h2 with h2 | h2
    · rw [xrun_other hx fun it hit => h2 it.o (items_mem hit)]
      exact hle.slot t
    · exact .inl (nth_out h2)

theorem pick_eff {E : Env} {F : Fun} {ops : Array Oper} {dr : Bool} {i nid : Nat} {pk : Oper} {d : Nat} {b v : Bool} {x y : Operand} {se : St} (hg : pk.guard = none) (hop : pk.op = .pick (.tmp d) x y)
    (hd : nth .undef se.slots d = .t (.p (.bool b))) (hv : evalA se.slots (cond b x y) = .t (.p (.bool v))) : eff E F ops dr ⟨i, nid, pk⟩ se = some (⟨i, [], false⟩, .t (.p (.bool v)), []) := by
  have hres : xres E F dr nid pk se = some (.t (.p (.bool v)), [], [], false) := by
    have hpk : ∀ look (β : Type) (K : Step β), opK E F look nid pk.op (evalA se.slots) K = K (.t (.p (.bool v))) [] := by
      intro look β K
      rw [hop]
      have hd' : evalA se.slots (.tmp d) = .t (.p (.bool b)) := hd
      simp only [opK, execK, hd']
      cases b <;> simp only [cond_true, cond_false] at hv <;> rw [hv] <;> rfl
    unfold xres xopK
    have hdef : defd (evalA se.slots) pk.op = true := by rw [hop]; rfl
    rw [if_pos hdef]
    have hcl : clsH pk.op = false := by rw [hop]; rfl
    cases dr with
    | false => dsimp only; rw [hpk]
    | true =>
      dsimp only
      rw [hpk, hcl]
      rfl
  exact xres_eff (t := ⟨i, nid, pk⟩) (act_none hg) hres

theorem chain_dst {ops : Array Oper} {d : Nat} {w : Bool} : ∀ {l : List Oper} {ds : List Nat}, chainOk ops d w l ds = true → ∀ o ∈ l, o.dst ≠ some d
  | [], _, _, o, ho => by cases ho
  | a :: l, ds, h, o, ho => by
    simp only [chainOk, Bool.and_eq_true] at h
    obtain ⟨_, h⟩ := h
    cases hd : a.dst with
    | none =>
      rw [hd] at h
      rcases List.mem_cons.1 ho with rfl | ho
      · rw [hd]; simp
      · exact chain_dst h o ho
    | some e =>
      rw [hd] at h
      simp only [Bool.and_eq_true, Bool.not_eq_true'] at h
      rcases List.mem_cons.1 ho with rfl | ho
      · rw [hd]; intro he; cases he; simp at h
      · exact chain_dst h.2 o ho

theorem seqK_x (cx : Cx) : ∀ (n : Nat) (α : Type) (pu : Bool) (i nid : Nat) (l : List Oper) (st se : St) (lg : Log) (K : St → Log → Option α) (r : α), seqK cx n α pu i nid l st lg K = some r → Le st se →
    ∃ tr se' st' lg', xrun cx.E cx.F cx.ops (isDraw cx.md) (items i nid l) se = some (tr, se') ∧ Le st' se' ∧ K st' lg' = some r ∧ (pu = true → se'.heap = se.heap) ∧ Good cx lg (items i nid l) tr
  | 0, _, _, _, _, [], st, se, lg, _, _, h, hle => ⟨[], se, st, lg, rfl, hle, h, fun _ => rfl, Good.nil _ _⟩
  | _ + 1, _, _, _, _, [], st, se, lg, _, _, h, hle => ⟨[], se, st, lg, rfl, hle, h, fun _ => rfl, Good.nil _ _⟩
  | 0, _, _, _, _, _ :: _, _, _, _, _, _, h, _ => by cases h
  | n + 1, α, pu, i, nid, o :: rest, st, se, lg, K, r, h, hle => by
    have ih := seqK_x cx n
    -- one operation that is done
    have hdo : ∀ {st : St}, Le st se → act cx.ops o se.slots = some true → (stepK cx i nid o pu st lg fun st' lg' => seqK cx n α pu (i + 1) (nid + resv o) rest st' lg' K) = some r →
        ∃ tr se' st' lg', xrun cx.E cx.F cx.ops (isDraw cx.md) (items i nid (o :: rest)) se = some (tr, se') ∧ Le st' se' ∧ K st' lg' = some r ∧ (pu = true → se'.heap = se.heap) ∧ Good cx lg (items i nid (o :: rest)) tr := by
      intro st hle ha h
      obtain ⟨r1, e, st1, h1, h2, h3, h4, h5, h6⟩ := stepK_x h hle ha
      obtain ⟨tr, se', st', lg', g1, g2, g3, g4, g5⟩ := ih α pu _ _ rest st1 _ _ K r h3 h2
      refine ⟨r1 :: tr, se', st', lg', xrun_cons.2 ⟨_, _, _, h1, g1, rfl⟩, g2, g3, fun hp => ?_, Good.step h6 h5 g5⟩
      rw [g4 hp]
      show putUps e.2 se.heap = _
      rw [h4 hp]; rfl
    have hskip : ∀ {st : St}, Le st se → act cx.ops o se.slots = some false → seqK cx n α pu (i + 1) (nid + resv o) rest ⟨setDst o.dst .no st.slots, st.heap⟩ lg K = some r →
        ∃ tr se' st' lg', xrun cx.E cx.F cx.ops (isDraw cx.md) (items i nid (o :: rest)) se = some (tr, se') ∧ Le st' se' ∧ K st' lg' = some r ∧ (pu = true → se'.heap = se.heap) ∧ Good cx lg (items i nid (o :: rest)) tr := by
      intro st hle ha h
      have hle' : Le ⟨setDst o.dst .no st.slots, st.heap⟩ (put ⟨i, nid, o⟩ (.no, []) se) := hle.put o.dst (.inr rfl) []
      obtain ⟨tr, se', st', lg', g1, g2, g3, g4, g5⟩ := ih α pu _ _ rest _ _ _ K r h hle'
      exact ⟨_, se', st', lg', xrun_cons.2 ⟨_, _, _, eff_skip (t := ⟨i, nid, o⟩) ha, g1, rfl⟩, g2, g3, fun hp => g4 hp, Good.skip (it := ⟨i, nid, o⟩) g5⟩
    simp only [seqK] at h
    split at h
    · rename_i hg
      exact hdo hle (act_none hg) h
    · rename_i j w hg
      split at h
      · cases h
      · rename_i d hgd
        split at h
        · rename_i hno
          refine hskip hle ?_ h
          unfold act
          simp only [hg, hgd]
          rcases hle.slot d with h' | h'
          · rw [hno] at h'; cases h'
          · rw [← h', hno]
        · rename_i b hb
          have hse := hle.bool hb
          have hact : act cx.ops o se.slots = some (b == w) := by
            unfold act
            simp only [hg, hgd, hse]
          have hsplit : ctl (cond w b (!b))
                (stepK cx i nid o pu ⟨upd (.bool w) st.slots d, st.heap⟩ lg fun st' lg' => seqK cx n α pu (i + 1) (nid + resv o) rest st' lg' K)
                (seqK cx n α pu (i + 1) (nid + resv o) rest ⟨setDst o.dst .no (upd (.bool (!w)) st.slots d), st.heap⟩ lg K) = some r →
              ∃ tr se' st' lg', xrun cx.E cx.F cx.ops (isDraw cx.md) (items i nid (o :: rest)) se = some (tr, se') ∧ Le st' se' ∧ K st' lg' = some r ∧ (pu = true → se'.heap = se.heap) ∧ Good cx lg (items i nid (o :: rest)) tr := by
            intro h0
            rcases ctl_or h0 with ⟨hc, h1⟩ | ⟨hc, h1⟩
            · have hbw : b = w := by cases w <;> cases b <;> first | rfl | cases hc
              subst hbw
              exact hdo (upd_same_bool hle hb) (by rw [hact]; simp) h1
            · have hbw : (!w) = b := by cases w <;> cases b <;> first | rfl | cases hc
              rw [hbw] at h1
              exact hskip (upd_same_bool hle hb) (by rw [hact, ← hbw]; cases w <;> rfl) h1
          split at h
          · rename_i body pk rest' hsp
            split at h
            · rename_i hcond
              simp only [Bool.and_eq_true, Bool.not_eq_true'] at hcond
              obtain ⟨⟨⟨⟨hdyn, hpg⟩, hpd⟩, hbody⟩, hchain⟩ := hcond
              split at h
              · rename_i c y' x hop
                obtain ⟨hl, hpick⟩ := spanPick_spec hsp
                obtain ⟨x2, y2, hop2⟩ := isPick_spec hpick
                rw [hop] at hop2
                obtain ⟨rfl, rfl, rfl⟩ : c = Operand.tmp d ∧ y' = x2 ∧ x = y2 := by injection hop2 with h1 h2 h3; exact ⟨h1, h2, h3⟩
                unfold bnd at h
                obtain ⟨v, hv, h⟩ := Option.bind_eq_some_iff.1 h
                have hpgn : pk.guard = none := by simpa using hpg
                -- what the group comes to
                have hgrp : ∃ tr1 se1, xrun cx.E cx.F cx.ops (isDraw cx.md) (items i nid body) se = some (tr1, se1) ∧ se1.heap = se.heap ∧ Good cx [] (items i nid body) tr1 ∧ evalA se1.slots (cond b y' x) = .t (.p (.bool v)) := by
                  rcases ctl_or hv with ⟨hc, hv⟩ | ⟨hc, hv⟩
                  · have hbw : b = w := by cases w <;> cases b <;> first | rfl | cases hc
                    subst hbw
                    obtain ⟨tr1, se1, st1, lg1, g1, g2, g3, g4, g5⟩ := ih Bool true i nid body _ se [] _ v hv (upd_same_bool hle hb)
                    refine ⟨tr1, se1, g1, g4 rfl, g5, ?_⟩
                    have := boolOf_some g3
                    rcases g2.ev (cond b y' x) with h' | h'
                    · rw [this] at h'; cases h'
                    · rw [← h', this]
                  · have hbw : b = !w := by cases w <;> cases b <;> first | rfl | cases hc
                    have hbw' : (b == w) = false := by subst hbw; cases w <;> rfl
                    obtain ⟨tr1, se1, g1, g2, g3⟩ := skip_group (E := cx.E) (F := cx.F) (dr := isDraw cx.md) hbw' body [] i nid se hchain (by
                      rw [hle.len]
                      refine List.all_eq_true.2 fun o ho => ?_
                      have := List.all_eq_true.1 hbody o ho
                      simp only [Bool.and_eq_true] at this
                      exact this.2) hse (fun e he => by cases he)
                    refine ⟨tr1, se1, g1, g2, ⟨fun hd => (by rw [hdyn] at hd; cases hd), fun _ _ => ?_⟩, ?_⟩
                    · refine All2.of_get (xrun_length g1).symm fun k a r' _ hr' hw => ?_
                      rw [g3 r' (List.mem_of_getElem? hr')] at hw
                      cases hw
                    · have := boolOf_some hv
                      have hle1 := undefAll_le hle g1 g2
                      have e0 : cond b y' x = cond w x y' := by subst hbw; cases w <;> rfl
                      rw [e0]
                      rcases hle1.ev (cond w x y') with h' | h'
                      · simp only at h'; rw [this] at h'; cases h'
                      · simp only at h'; rw [← h', this]
                obtain ⟨tr1, se1, g1, g2, g3, g4⟩ := hgrp
                have hd1 : nth .undef se1.slots d = .t (.p (.bool b)) := by
                  rw [xrun_other g1 fun it hit => chain_dst hchain it.o (items_mem hit)]
                  exact hse
                have hpe := pick_eff (E := cx.E) (F := cx.F) (ops := cx.ops) (dr := isDraw cx.md) (i := i + body.length) (nid := nid + resvs body) hpgn hop hd1 g4
                have hle1 := undefAll_le hle g1 g2
                have hle2 : Le ⟨setDst pk.dst (.bool v) (undefAll body st.slots), st.heap⟩ (put ⟨i + body.length, nid + resvs body, pk⟩ (.t (.p (.bool v)), []) se1) := hle1.put pk.dst (.inr rfl) []
                obtain ⟨tr2, se2, st2, lg2, k1, k2, k3, k4, k5⟩ := ih α pu _ _ rest' _ _ _ K r h hle2
                have hits : items i nid (o :: rest) = items i nid body ++ ⟨i + body.length, nid + resvs body, pk⟩ :: items (i + body.length + 1) (nid + resvs body + resv pk) rest' := by
                  rw [hl, items_append]; rfl
                rw [hits]
                refine ⟨tr1 ++ ⟨i + body.length, [], false⟩ :: tr2, se2, st2, lg2, xrun_append g1 (xrun_cons.2 ⟨_, _, _, hpe, k1, rfl⟩), k2, k3, fun hp => ?_, ?_⟩
                · rw [k4 hp]
                  show putUps [] se1.heap = _
                  exact g2
                · refine ⟨fun hd => (by rw [hdyn] at hd; cases hd), fun h1 h2 => (g3.s1 h1 h2).append ⟨fun hw => (by cases hw), k5.s1 h1 h2⟩⟩
              · cases h
            · exact hsplit h
          · exact hsplit h
        · cases h

end Go.Proofs.YtpnpdkgdgfkpfaaGreatDoor.Vm
