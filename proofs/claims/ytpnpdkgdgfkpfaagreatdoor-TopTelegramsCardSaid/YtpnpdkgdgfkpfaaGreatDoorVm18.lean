/- The abstract machine, part 18: operations that share nothing change places; any order that the region allows comes to the same. -/
import Derived.Test.YtpnpdkgdgfkpfaaGreatDoorVm17
namespace Go.Proofs.YtpnpdkgdgfkpfaaGreatDoor.Vm
set_option linter.unusedVariables false
set_option linter.unusedSimpArgs false

structure Info (t : It) (st : St) (r : Tr) (v : AV) (us : Ups) : Prop where
  i : r.i = t.i
  ids : ∀ u ∈ us, u.2 ≠ .fresh ∧ ((r.w = true ∧ u.1 ∈ r.fp) ∨ (brings t.o.op = true ∧ (u.1 = t.nid ∨ u.1 = t.nid + 1)))
  fp : ∀ id ∈ r.fp, known st.heap id
  refs : ∀ id ∈ v.refs, known st.heap id ∨ id ∈ us.map Prod.fst
  erefs : ∀ u ∈ us, ∀ id ∈ entRefs u.2, known st.heap id ∨ id ∈ us.map Prod.fst

theorem subN_mem {xs ys : List Nat} (h : subN xs ys = true) : ∀ x ∈ xs, x ∈ ys := fun x hx => hasN_iff.1 (List.all_eq_true.1 h x hx)

theorem info_of {E : Env} {F : Fun} {ops : Array Oper} {t : It} {st : St} {r : Tr} {v : AV} {us : Ups} (hc : Closed st) (h : eff E F ops true t st = some (r, v, us)) : Info t st r v us := by
  obtain ⟨hi, h⟩ := eff_info h
  rcases h with ⟨_, rfl, rfl, rfl⟩ | ⟨_, fp, hfp, rfl, hu, hr⟩
  · exact ⟨rfl, fun u hu => by (cases hu), fun id hid => by (cases hid), fun id hid => by (cases hid), fun u hu => by (cases hu)⟩
  · have hk : ∀ id ∈ fp, known st.heap id := by subst hfp; exact hc.fp
    unfold refsOk at hr
    simp only [Bool.and_eq_true] at hr
    have happ : ∀ id, id ∈ fp ++ us.map Prod.fst → known st.heap id ∨ id ∈ us.map Prod.fst := fun id hid => (List.mem_append.1 hid).imp (hk id) fun h => h
    refine ⟨rfl, fun u hu' => ?_, fun id hid => ?_, fun id hid => happ id (subN_mem hr.1 id hid), fun u hu' id hid => happ id (subN_mem (List.all_eq_true.1 hr.2 u hu') id hid)⟩
    · have h1 := List.all_eq_true.1 hu u hu'
      simp only [Bool.and_eq_true, Bool.or_eq_true, Nat.beq_eq] at h1
      refine ⟨fun he => by rw [he] at h1; exact absurd h1.1 (by simp [entOk]), ?_⟩
      rcases h1.2 with ⟨h2, h3⟩ | h2
      · refine .inl ⟨?_, ?_⟩
        · simp only [h2, Bool.true_and]
          exact List.any_eq_true.2 ⟨u, hu', h3⟩
        · simp only [h2, cond_true]; exact hasN_iff.1 h3
      · exact .inr h2
    · cases hh : clsH t.o.op with
      | false => simp only [hh, cond_false] at hid; cases hid
      | true => simp only [hh, cond_true] at hid; exact hk id hid

theorem putUps_get_of_not : ∀ {us : Ups} {h : List Ent} {id : Nat}, (∀ u ∈ us, u.1 ≠ id) → nth Ent.fresh (putUps us h) id = nth Ent.fresh h id
  | [], _, _, _ => rfl
  | (i, e) :: us, h, id, hn => by
    rw [putUps, putUps_get_of_not fun u hu => hn u (by simp [hu]), nth_upd, if_neg fun hc => hn (i, e) (by simp) hc.1]

theorem known_putUps' {us : Ups} (hf : ∀ u ∈ us, u.2 ≠ .fresh) {h : List Ent} {id : Nat} (hk : known h id ∨ (id ∈ us.map Prod.fst ∧ id < h.length)) : known (putUps us h) id := by
  rcases hk with hk | ⟨hm, hlt⟩
  · exact known_putUps hf hk
  · induction us generalizing h with
    | nil => cases hm
    | cons u us ih =>
      obtain ⟨i, e⟩ := u
      rw [putUps]
      by_cases hi : i = id
      · subst hi
        refine known_putUps (fun u hu => hf u (by simp [hu])) ?_
        unfold known
        rw [nth_upd, if_pos ⟨rfl, hlt⟩]
        exact hf (i, e) (by simp)
      · refine ih (fun u hu => hf u (by simp [hu])) ?_ (by rw [length_upd]; exact hlt)
        simp only [List.map_cons, List.mem_cons] at hm
        exact hm.resolve_left fun h => hi h.symm

theorem live_putUps : ∀ {us : Ups} {h : List Ent} {id : Nat} {b : Blk}, live (putUps us h) id b → (id, .blk b) ∈ us ∨ live h id b
  | [], _, _, _, hl => .inr hl
  | (i, e) :: us, h, id, b, hl => by
    rcases live_putUps (us := us) hl with h1 | h1
    · exact .inl (by simp [h1])
    · rcases live_upd.1 h1 with ⟨rfl, _, rfl⟩ | ⟨_, h2⟩
      · exact .inl (by simp)
      · exact .inr h2

theorem nth_setDst (d : Option Nat) (v : AV) (slots : List AV) (t : Nat) : nth .undef (setDst d v slots) t = if d = some t ∧ t < slots.length then v else nth .undef slots t := by
  cases d with
  | none => simp [setDst]
  | some d => simp only [setDst, nth_upd, Option.some.injEq]

structure Fit (l : List It) (st : St) : Prop where
  closed : Closed st
  fresh : ∀ t ∈ l, brings t.o.op = true → nth Ent.fresh st.heap t.nid = .fresh ∧ nth Ent.fresh st.heap (t.nid + 1) = .fresh ∧ t.nid + 1 < st.heap.length
  apart : l.Pairwise fun a b => brings a.o.op = true → brings b.o.op = true → a.nid + 1 < b.nid ∨ b.nid + 1 < a.nid

theorem Info.range {t : It} {st : St} {r : Tr} {v : AV} {us : Ups} (h : Info t st r v us) (hf : brings t.o.op = true → t.nid + 1 < st.heap.length) : ∀ id ∈ us.map Prod.fst, id < st.heap.length := by
  intro id hid
  obtain ⟨u, hu, rfl⟩ := List.mem_map.1 hid
  rcases (h.ids u hu).2 with ⟨_, h2⟩ | ⟨hb, h2⟩
  · have := h.fp _ h2
    rcases Nat.lt_or_ge u.1 st.heap.length with h' | h'
    · exact h'
    · unfold known at this
      rw [nth_eq] at this
      simp [List.getD, List.getElem?_eq_none h'] at this
  · have := hf hb
    rcases h2 with h2 | h2 <;> omega

theorem Info.kn {t : It} {st : St} {r : Tr} {v : AV} {us : Ups} (h : Info t st r v us) (hf : brings t.o.op = true → t.nid + 1 < st.heap.length) {id : Nat} (hid : known st.heap id ∨ id ∈ us.map Prod.fst) : known (put t (v, us) st).heap id :=
  known_putUps' (fun u hu => (h.ids u hu).1) (hid.imp (fun h => h) fun hm => ⟨hm, h.range hf id hm⟩)

theorem Fit.step {t : It} {l : List It} {st : St} {r : Tr} {v : AV} {us : Ups} (hf : Fit (t :: l) st) (h : Info t st r v us) : Fit l (put t (v, us) st) := by
  have hlen : brings t.o.op = true → t.nid + 1 < st.heap.length := fun hb => (hf.fresh t (by simp) hb).2.2
  have hap := List.pairwise_cons.1 hf.apart
  refine ⟨⟨fun s id hid => ?_, fun id cs hl c hc id' hid => ?_⟩, fun t' ht' hb => ?_, hap.2⟩
  · have hid' : id ∈ (nth .undef (setDst t.o.dst v st.slots) s).refs := hid
    rw [nth_setDst] at hid'
    split at hid'
    · exact h.kn hlen (h.refs id hid')
    · exact h.kn hlen (.inl (hf.closed.slot s id hid'))
  · rcases live_putUps hl with h1 | h1
    · exact h.kn hlen (h.erefs _ h1 id' (by simp only [entRefs]; exact List.mem_flatMap.2 ⟨c, hc, hid⟩))
    · exact h.kn hlen (.inl (hf.closed.box id cs h1 c hc id' hid))
  · obtain ⟨f1, f2, f3⟩ := hf.fresh t' (by simp [ht']) hb
    have hne : ∀ n, (n = t'.nid ∨ n = t'.nid + 1) → ∀ u ∈ us, u.1 ≠ n := by
      intro n hn u hu he
      have hfr : nth Ent.fresh st.heap n = .fresh := by rcases hn with rfl | rfl <;> assumption
      rcases (h.ids u hu).2 with ⟨_, h2⟩ | ⟨hb', h2⟩
      · exact h.fp _ h2 (by rw [he]; exact hfr)
      · have := hap.1 t' ht' hb' hb
        omega
    refine ⟨?_, ?_, ?_⟩
    · show nth Ent.fresh (putUps us st.heap) _ = _
      rw [putUps_get_of_not (hne _ (.inl rfl))]; exact f1
    · show nth Ent.fresh (putUps us st.heap) _ = _
      rw [putUps_get_of_not (hne _ (.inr rfl))]; exact f2
    · show _ < (putUps us st.heap).length
      rw [length_putUps]; exact f3

theorem upd_comm {α : Type} (x y : α) : ∀ (h : List α) (i j : Nat), i ≠ j → upd x (upd y h j) i = upd y (upd x h i) j := by
  intro h i j hij
  simp only [upd_eq]
  exact List.set_comm _ _ (fun e => hij e.symm)

theorem putUps_upd : ∀ {us : Ups} {h : List Ent} {i : Nat} {e : Ent}, (∀ u ∈ us, u.1 ≠ i) → putUps us (upd e h i) = upd e (putUps us h) i
  | [], _, _, _, _ => rfl
  | (j, x) :: us, h, i, e, hn => by
    rw [putUps, putUps, upd_comm _ _ _ _ _ (hn (j, x) (by simp)), putUps_upd fun u hu => hn u (by simp [hu])]

theorem putUps_comm : ∀ {us vs : Ups} {h : List Ent}, (∀ u ∈ us, ∀ v ∈ vs, u.1 ≠ v.1) → putUps us (putUps vs h) = putUps vs (putUps us h)
  | _, [], _, _ => rfl
  | us, (j, x) :: vs, h, hn => by
    rw [putUps, putUps_comm fun u hu v hv => hn u hu v (by simp [hv]), putUps_upd fun u hu => hn u hu (j, x) (by simp), putUps]

theorem setDst_comm {d e : Option Nat} {v u : AV} {s : List AV} (h : ∀ x, d = some x → e ≠ some x) : setDst e u (setDst d v s) = setDst d v (setDst e u s) := by
  cases d with
  | none => rfl
  | some d =>
    cases e with
    | none => rfl
    | some e =>
      simp only [setDst]
      exact upd_comm _ _ _ _ _ fun he => h d rfl (by rw [he])

def noClash (a b : Tr) : Prop := (a.w = true ∨ b.w = true) → ∀ x ∈ a.fp, x ∉ b.fp

theorem apartB_spec {ops : Array Oper} {x y : Oper} (h : apartB ops x y = true) : (∀ d, x.dst = some d → d ∉ lookSlots ops y) ∧ (∀ d, x.dst = some d → y.dst ≠ some d) ∧ (∀ d, y.dst = some d → d ∉ lookSlots ops x) := by
  unfold apartB at h
  simp only [Bool.and_eq_true] at h
  obtain ⟨h1, h2⟩ := h
  refine ⟨fun d hd hm => ?_, fun d hd hy => ?_, fun d hd hm => ?_⟩
  · rw [hd] at h1
    simp only [Bool.and_eq_true, Bool.not_eq_true'] at h1
    rw [hasN_iff.2 hm] at h1
    cases h1.1
  · rw [hd, hy] at h1
    simp only [Bool.and_eq_true, Bool.not_eq_true'] at h1
    have := h1.2
    simp at this
  · rw [hd] at h2
    simp only [Bool.not_eq_true'] at h2
    rw [hasN_iff.2 hm] at h2
    cases h2

theorem swap {E : Env} {F : Fun} {ops : Array Oper} {k i : It} {st : St} {rk ri : Tr} {ek ei : AV × Ups} (hap : apartB ops k.o i.o = true) (hf : Fit [k, i] st)
    (h1 : eff E F ops true k st = some (rk, ek)) (h2 : eff E F ops true i (put k ek st) = some (ri, ei)) (hcl : noClash rk ri) :
    eff E F ops true i st = some (ri, ei) ∧ eff E F ops true k (put i ei st) = some (rk, ek) ∧ put k ek (put i ei st) = put i ei (put k ek st) := by
  obtain ⟨vk, uk⟩ := ek
  obtain ⟨vi, ui⟩ := ei
  obtain ⟨a1, a2, a3⟩ := apartB_spec hap
  have ik := info_of hf.closed h1
  have hf1 := hf.step ik
  have ii := info_of hf1.closed h2
  have hfk : brings k.o.op = true → nth Ent.fresh st.heap k.nid = .fresh ∧ nth Ent.fresh st.heap (k.nid + 1) = .fresh := fun hb => ⟨(hf.fresh k (by simp) hb).1, (hf.fresh k (by simp) hb).2.1⟩
  have hfi : brings i.o.op = true → nth Ent.fresh st.heap i.nid = .fresh ∧ nth Ent.fresh st.heap (i.nid + 1) = .fresh := fun hb => ⟨(hf.fresh i (by simp) hb).1, (hf.fresh i (by simp) hb).2.1⟩
  have hsl : ∀ d ∈ lookSlots ops i.o, nth .undef st.slots d = nth .undef (put k (vk, uk) st).slots d := fun d hd => by
    show _ = nth .undef (setDst k.o.dst vk st.slots) d
    rw [nth_setDst, if_neg fun hc => a1 d hc.1 hd]
  -- what k put is not what was known, but for what it wrote
  have hk0 : ∀ u ∈ uk, known st.heap u.1 → rk.w = true ∧ u.1 ∈ rk.fp := fun u hu hkn => by
    rcases (ik.ids u hu).2 with h | ⟨hb, h⟩
    · exact h
    · exfalso
      obtain ⟨f1, f2⟩ := hfk hb
      rcases h with h | h <;> rw [h] at hkn <;> exact hkn (by assumption)
  -- the places that i looks at are known before k
  have hget : ∀ id, known st.heap id → (∀ u ∈ uk, u.1 ≠ id) → nth Ent.fresh (put k (vk, uk) st).heap id = nth Ent.fresh st.heap id := fun id _ hn => putUps_get_of_not hn
  have hev : ∀ x ∈ i.o.op.operands, evalA (put k (vk, uk) st).slots x = evalA st.slots x := fun x hx => (ev_same hsl x hx).symm
  have hfi0 : act ops i.o (put k (vk, uk) st).slots = some true → clsH i.o.op = true → ∀ id ∈ fpOf true (put k (vk, uk) st).heap (evalA (put k (vk, uk) st).slots) i.o.op, id ∈ ri.fp ∧ known st.heap id ∧ ∀ u ∈ uk, u.1 ≠ id := by
    intro hact hh
    have hrfp : ri.fp = fpOf true (put k (vk, uk) st).heap (evalA (put k (vk, uk) st).slots) i.o.op := by
      obtain ⟨_, hx⟩ := eff_info h2
      rcases hx with ⟨h0, _⟩ | ⟨_, fp, rfl, rfl, _⟩
      · rw [hact] at h0; cases h0
      · simp only [hh, cond_true]
    have hno : ∀ id ∈ ri.fp, known st.heap id → ∀ u ∈ uk, u.1 ≠ id := fun id hid hkn u hu he => by
      obtain ⟨h3, h4⟩ := hk0 u hu (by rw [he]; exact hkn)
      exact hcl (.inl h3) u.1 h4 (by rw [he]; exact hid)
    have h0 : ∀ id ∈ opRefs (evalA (put k (vk, uk) st).slots) i.o.op, known st.heap id := fun id hid => by
      rw [opRefs_congr hev] at hid
      exact hf.closed.opRefs id hid
    intro id hid
    have hkn : known st.heap id := by
      rcases List.mem_append.1 hid with h | h
      · exact h0 id h
      · obtain ⟨y, hy, hxy⟩ := List.mem_flatMap.1 h
        have hyk := h0 y hy
        have hyn := hno y (by rw [hrfp]; exact List.mem_append.2 (.inl hy)) hyk
        rw [boxRefs_same (hget y hyk hyn)] at hxy
        obtain ⟨cs, hl, c, hc, hxc⟩ := mem_boxRefs hxy
        exact hf.closed.box y cs hl c hc id hxc
    have hm : id ∈ ri.fp := by rw [hrfp]; exact hid
    exact ⟨hm, hkn, hno id hm hkn⟩
  have e1 : eff E F ops true i st = some (ri, vi, ui) := by
    rw [← h2]
    refine eff_same hsl fun hact hh id hid => ?_
    obtain ⟨_, hkn, hn⟩ := hfi0 hact hh id hid
    exact (hget id hkn hn).symm
  have ii0 := info_of hf.closed e1
  have e2 : eff E F ops true k (put i (vi, ui) st) = some (rk, vk, uk) := by
    rw [← h1]
    refine eff_same (fun d hd => ?_) fun hact hh id hid => ?_
    · show nth .undef (setDst i.o.dst vi st.slots) d = _
      rw [nth_setDst, if_neg fun hc => a3 d hc.1 hd]
    · refine putUps_get_of_not fun u hu he => ?_
      have hkn := hf.closed.fp id hid
      have hrk : id ∈ rk.fp := by
        obtain ⟨_, hx⟩ := eff_info h1
        rcases hx with ⟨h0, _⟩ | ⟨_, fp, rfl, rfl, _⟩
        · rw [hact] at h0; cases h0
        · simp only [hh, cond_true]; exact hid
      rcases (ii0.ids u hu).2 with ⟨h3, h4⟩ | ⟨hb, h3⟩
      · exact hcl (.inr h3) id hrk (he ▸ h4)
      · obtain ⟨f1, f2⟩ := hfi hb
        rw [← he] at hkn
        rcases h3 with h3 | h3 <;> rw [h3] at hkn <;> exact hkn (by assumption)
  refine ⟨e1, e2, ?_⟩
  unfold put
  simp only [St.mk.injEq]
  refine ⟨setDst_comm fun x hx he => a2 x he hx, putUps_comm fun u hu u' hu' he => ?_⟩
  have hkk : known st.heap u'.1 → False := fun hkn => by
    rcases (ii0.ids u' hu').2 with ⟨h3, h4⟩ | ⟨hb, h3⟩
    · obtain ⟨h5, h6⟩ := hk0 u hu (by rw [he]; exact hkn)
      exact hcl (.inl h5) u.1 h6 (by rw [he]; exact h4)
    · obtain ⟨f1, f2⟩ := hfi hb
      rcases h3 with h3 | h3 <;> rw [h3] at hkn <;> exact hkn (by assumption)
  rcases (ii0.ids u' hu').2 with ⟨h3, h4⟩ | ⟨hb, h3⟩
  · exact hkk (ii0.fp _ h4)
  · rcases (ik.ids u hu).2 with ⟨h5, h6⟩ | ⟨hb', h5⟩
    · exact hkk (by rw [← he]; exact ik.fp _ h6)
    · have := (List.pairwise_cons.1 hf.apart).1 i (by simp) hb' hb
      omega

theorem Fit.sub {l l' : List It} {st : St} (h : Fit l st) (hs : l'.Sublist l) : Fit l' st :=
  ⟨h.closed, fun t ht => h.fresh t (hs.subset ht), h.apart.sublist hs⟩

theorem front {E : Env} {F : Fun} {ops : Array Oper} {i : It} {q : List It} {st' : St} : ∀ (p : List It) {st : St} {rs : List Tr}, Fit (p ++ i :: q) st → (∀ k ∈ p, apartB ops k.o i.o = true) →
    xrun E F ops true (p ++ i :: q) st = some (rs, st') → (∀ rp ri rq, rs = rp ++ ri :: rq → rp.length = p.length → ∀ rk ∈ rp, noClash rk ri) →
    ∃ ri rp rq, rs = rp ++ ri :: rq ∧ rp.length = p.length ∧ xrun E F ops true (i :: (p ++ q)) st = some (ri :: (rp ++ rq), st')
  | [], st, rs, _, _, h, _ => by
    obtain ⟨r, e, rs', h1, h2, rfl⟩ := xrun_cons.1 h
    exact ⟨r, [], rs', rfl, rfl, h⟩
  | k :: p, st, rs, hf, hap, h, hcl => by
    obtain ⟨rk, ek, rs', h1, h2, rfl⟩ := xrun_cons.1 h
    have ik := info_of (v := ek.1) (us := ek.2) hf.closed h1
    have hf' : Fit (p ++ i :: q) (put k ek st) := hf.step ik
    obtain ⟨ri, rp, rq, rfl, hlen, h3⟩ := front p hf' (fun k' hk' => hap k' (by simp [hk'])) h2 (fun rp ri rq he hl rk' hrk' =>
      hcl (rk :: rp) ri rq (by rw [he]; rfl) (by simp [hl]) rk' (by simp [hrk']))
    obtain ⟨ri', ei, rs3, h4, h5, he⟩ := xrun_cons.1 h3
    simp only [List.cons.injEq] at he
    obtain ⟨rfl, rfl⟩ := he
    have hnc : noClash rk ri := hcl (rk :: rp) ri rq rfl (by simp [hlen]) rk (by simp)
    obtain ⟨g1, g2, g3⟩ := swap (hap k (by simp)) (hf.sub (by
      simp only [List.cons_append]
      exact List.Sublist.cons_cons _ (List.Sublist.trans (List.Sublist.cons_cons _ (List.nil_sublist _)) (List.sublist_append_right p (i :: q))))) h1 h4 hnc
    refine ⟨ri, rk :: rp, rq, rfl, by simp [hlen], xrun_cons.2 ⟨ri, ei, _, g1, xrun_cons.2 ⟨rk, ek, rp ++ rq, g2, ?_, rfl⟩, rfl⟩⟩
    rw [g3]
    exact h5

theorem xrun_length {E : Env} {F : Fun} {ops : Array Oper} {dr : Bool} : ∀ {l : List It} {st st' : St} {rs : List Tr}, xrun E F ops dr l st = some (rs, st') → rs.length = l.length
  | [], _, _, _, h => by simp only [xrun] at h; cases h; rfl
  | t :: l, st, st', rs, h => by
    obtain ⟨r, e, rs', h1, h2, rfl⟩ := xrun_cons.1 h
    simp [xrun_length h2]

end Go.Proofs.YtpnpdkgdgfkpfaaGreatDoor.Vm
