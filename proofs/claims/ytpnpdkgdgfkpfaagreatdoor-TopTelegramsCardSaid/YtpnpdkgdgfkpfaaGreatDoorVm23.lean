/- The abstract machine, part 23: what comes back from a call; calls against the model's. -/
import Derived.Test.YtpnpdkgdgfkpfaaGreatDoorVm22
namespace Go.Proofs.YtpnpdkgdgfkpfaaGreatDoor.Vm
set_option linter.unusedVariables false
set_option linter.unusedSimpArgs false
set_option linter.unusedSectionVars false

def canB : List RSh → Nat → List RV → List Blk
  | [], _, _ => []
  | .one _ :: l, i, rs => canB l (i + 1) rs
  | .agg _ :: l, i, rs => canB l (i + 1) rs
  | .own sz :: l, i, rs => .arr sz (nth (.p .nilp) rs i).toEs :: canB l (i + 1) rs
  | .ownp ss :: l, i, rs => .box ((canCs ss (nth (.p .nilp) rs i).toCs 0).map AV.p) :: canB l (i + 1) rs

def zipFrom : Nat → List Blk → Ups
  | _, [] => []
  | n, b :: l => (n, .blk b) :: zipFrom (n + 1) l

theorem bring_ups : ∀ (rsh : List RSh) (nid i : Nat) (rs : List RV), (bring nid rsh i rs).2 = zipFrom nid (canB rsh i rs)
  | [], _, _, _ => rfl
  | .one _ :: l, nid, i, rs => by simp only [bring, canB]; exact bring_ups l _ _ _
  | .agg _ :: l, nid, i, rs => by simp only [bring, canB]; exact bring_ups l _ _ _
  | .own _ :: l, nid, i, rs => by simp only [bring, canB, zipFrom]; rw [bring_ups l]
  | .ownp _ :: l, nid, i, rs => by simp only [bring, canB, zipFrom]; rw [bring_ups l]

theorem zipFrom_eq : ∀ (n : Nat) (l : List Blk), zipFrom n l = zipUps (List.range' n l.length) l
  | _, [] => rfl
  | n, b :: l => by simp only [zipFrom, List.length_cons, List.range'_succ, zipUps]; rw [zipFrom_eq (n + 1) l]

theorem zipUps_append : ∀ {a a' : List Nat} {b b' : List Blk}, a.length = b.length → zipUps (a ++ a') (b ++ b') = zipUps a b ++ zipUps a' b'
  | [], _, [], _, _ => rfl
  | [], _, _ :: _, _, h => by cases h
  | _ :: _, _, [], _, h => by cases h
  | x :: a, a', y :: b, b', h => by simp only [List.cons_append, zipUps]; rw [zipUps_append (by simpa using h)]

def From (rs : List RV) (i : Nat) (rs' : List RV) : Prop := ∀ j, j < rs'.length → nth (.p .nilp) rs (i + j) = nth (.p .nilp) rs' j
theorem From.head {rs : List RV} {i : Nat} {r : RV} {l : List RV} (h : From rs i (r :: l)) : nth (.p .nilp) rs i = r := by
  have := h 0 (by simp)
  simpa [nth] using this
theorem From.tail {rs : List RV} {i : Nat} {r : RV} {l : List RV} (h : From rs i (r :: l)) : From rs (i + 1) l := by
  intro j hj
  have := h (j + 1) (by simp; omega)
  rw [show i + 1 + j = i + (j + 1) by omega, this]
  rfl

theorem canB_tb : ∀ {rsh : List RSh} {rs' : List RV} {rs : List RV} {i : Nat}, okR rsh rs' = true → From rs i rs' → (canB rsh i rs).length = owns rsh ∧ (rawB rs').length = owns rsh ∧ All2 TB (rawB rs') (canB rsh i rs)
  | [], [], _, _, _, _ => ⟨rfl, rfl, trivial⟩
  | [], _ :: _, _, _, h, _ => by simp [okR] at h
  | s :: rsh, [], _, _, h, _ => by cases s <;> simp [okR] at h
  | s :: rsh, r :: rs', rs, i, h, hf => by
    have hh := hf.head
    have ih := fun h => canB_tb (rsh := rsh) (rs' := rs') h hf.tail
    cases s <;> cases r <;> simp only [okR, Bool.and_eq_true] at h <;> first | (cases h; done) | skip
    · exact ih h.2
    · exact ih h.2
    · obtain ⟨h1, h2, h3⟩ := ih h.2
      simp only [canB, rawB, owns, hh, RV.toEs]
      have := Nat.eq_of_beq_eq_true h.1
      subst this
      exact ⟨by simp [h1], by simp [h2], .inl ⟨rfl, _, _, rfl⟩, h3⟩
    · obtain ⟨h1, h2, h3⟩ := ih h.2
      simp only [canB, rawB, owns, hh, RV.toCs]
      exact ⟨by simp [h1], by simp [h2], .inr ⟨_, _, rfl, rfl, h.1⟩, h3⟩

theorem backB_tb : ∀ {ss : List (List Sh ⊕ Nat)} {bs' bs : List Blk} {i : Nat}, okB ss bs' = true → (∀ j, j < bs'.length → nth (.box []) bs (i + j) = nth (.box []) bs' j) →
    (backB ss i bs).length = ss.length ∧ bs'.length = ss.length ∧ All2 TB bs' (backB ss i bs)
  | [], [], _, _, _, _ => ⟨rfl, rfl, trivial⟩
  | [], _ :: _, _, _, h, _ => by simp [okB] at h
  | s :: ss, [], _, _, h, _ => by cases s <;> simp [okB] at h
  | s :: ss, b :: bs', bs, i, h, hf => by
    have hh : nth (.box []) bs i = b := by
      have := hf 0 (by simp)
      simpa [nth] using this
    have ih := fun h => backB_tb (ss := ss) (bs' := bs') (bs := bs) (i := i + 1) h (fun j hj => by
      have := hf (j + 1) (by simp; omega)
      rw [show i + 1 + j = i + (j + 1) by omega, this]
      rfl)
    cases s <;> cases b <;> simp only [okB, Bool.and_eq_true] at h <;> first | (cases h; done) | skip
    · obtain ⟨h1, h2, h3⟩ := ih h.2
      have h0 := h.1
      split at h0
      · rename_i vs hvs
        have e := pureCells_map hvs
        simp only [backB, hh, Blk.toCs]
        refine ⟨by simp [h1], by simp [h2], .inr ⟨_, vs, by rw [e], ?_, h0⟩, h3⟩
        rw [e]
        unfold canBox
        congr 3
        simp only [List.map_map]
        have : (AV.toPV ∘ AV.p) = id := rfl
        rw [this, List.map_id]
      · cases h0
    · obtain ⟨h1, h2, h3⟩ := ih h.2
      have := Nat.eq_of_beq_eq_true h.1
      subst this
      simp only [backB, hh, Blk.toEs]
      exact ⟨by simp [h1], by simp [h2], .inl ⟨rfl, _, _, rfl⟩, h3⟩

theorem nosl_rawB : ∀ {rs : List RV}, noslR rs = true → ∀ b ∈ rawB rs, noslBlk b = true
  | [], _, b, hb => by cases hb
  | r :: rs, h, b, hb => by
    cases r <;> simp only [noslR, Bool.and_eq_true] at h <;> simp only [rawB] at hb
    · exact nosl_rawB h.2 b hb
    · exact nosl_rawB h.2 b hb
    · rcases List.mem_cons.1 hb with rfl | hb
      · exact h.1
      · exact nosl_rawB h.2 b hb
    · rcases List.mem_cons.1 hb with rfl | hb
      · simp only [noslBlk, List.all_map]
        exact h.1
      · exact nosl_rawB h.2 b hb

theorem nosl_B : ∀ {bs : List Blk}, noslB bs = true → ∀ b ∈ bs, noslBlk b = true
  | [], _, b, hb => by cases hb
  | x :: bs, h, b, hb => by
    cases x <;> simp only [noslB, Bool.and_eq_true] at h
    all_goals
      rcases List.mem_cons.1 hb with rfl | hb
      · exact h.1
      · exact nosl_B h.2 b hb

section res
variable {C : Ctx} {ids L : List Nat} {bs : List Blk} {D : Ctx} {nids : List Nat} {R ds : List Blk} (M : MergeOk C ids L bs D nids R ds)
include M

theorem MergeOk.known_at {k id : Nat} (h : (ids ++ nids)[k]? = some id) : known (C.merge D (ids ++ nids) ds).h id := by
  have hcl : (ids ++ nids).length = ds.length := by rw [List.length_append, M.dlen, M.len]
  have hlt : k < ds.length := by rw [← hcl]; exact (List.getElem?_eq_some_iff.1 h).1
  have := nodup_put (h := C.h) M.nodup h (List.getElem?_eq_getElem hlt) (M.clt h)
  exact live_known (b := ds[k]) this

theorem MergeOk.at_k {k id : Nat} {b : Blk} (h : (ids ++ nids)[k]? = some id) (hl : live (C.merge D (ids ++ nids) ds).h id b) : ∃ r, TB r b ∧ live D.h k r ∧ (C.merge D (ids ++ nids) ds).ι id = D.ι k := by
  rcases M.cases hl with ⟨k', r, h1, _, _, h4, h5, h6⟩ | ⟨h1, _⟩
  · have := nodup_inj M.nodup h h1
    subst this
    exact ⟨r, h4, h5, h6⟩
  · exact absurd (List.mem_of_getElem? h) h1

theorem MergeOk.hsl {k id : Nat} {u : Value} (h : (ids ++ nids)[k]? = some id) (hv : VT D (.hsl k) u) : VT (C.merge D (ids ++ nids) ds) (.hsl id) u := by
  obtain ⟨_, hform, hp⟩ := hv
  refine ⟨M.known_at h, hform, fun sz es hl => ?_⟩
  obtain ⟨r, h1, h2, h3⟩ := M.at_k h hl
  rcases h1 with ⟨rfl, _⟩ | ⟨_, _, _, he, _⟩
  · have := hp sz es h2
    unfold HS at this ⊢
    rw [h3]; exact this
  · cases he

theorem MergeOk.ptr {k id o : Nat} {u : Value} (h : (ids ++ nids)[k]? = some id) (hv : VT D (.ptr k o) u) : VT (C.merge D (ids ++ nids) ds) (.ptr id o) u := by
  obtain ⟨_, b, hu, hp⟩ := hv
  refine ⟨M.known_at h, b, hu, fun cs hl => ?_⟩
  obtain ⟨r, h1, h2, h3⟩ := M.at_k h hl
  rw [h3]
  rcases h1 with ⟨rfl, _, _, he⟩ | ⟨_, vs, rfl, _, _⟩
  · cases he
  · exact hp _ h2

theorem MergeOk.res {nid m : Nat} : ∀ {rsh : List RSh} {rs' : List RV} {rs : List RV} {i k : Nat} {us : List Value}, okR rsh rs' = true → From rs i rs' → (L = [] ∨ noslR rs' = true) →
    (∀ j, j < owns rsh → (ids ++ nids)[m + k + j]? = some (nid + k + j)) → All2 (VT D) (rawT (m + k) rs') us → All2 (VT (C.merge D (ids ++ nids) ds)) (bring (nid + k) rsh i rs).1 us
  | [], [], _, _, _, us, _, _, _, _, h => by simp only [rawT] at h; simp only [bring]; cases us with | nil => trivial | cons => exact h.elim
  | [], _ :: _, _, _, _, _, h, _, _, _, _ => by simp [okR] at h
  | s :: rsh, [], _, _, _, _, h, _, _, _, _ => by cases s <;> simp [okR] at h
  | s :: rsh, r :: rs', rs, i, k, us, h, hf, hn, hj, hu => by
    have hh := hf.head
    cases us with
    | nil => cases r <;> exact hu.elim
    | cons u us =>
    cases s <;> cases r <;> simp only [okR, Bool.and_eq_true] at h <;> first | (cases h; done) | skip
    · rename_i s v
      simp only [rawT] at hu
      simp only [bring, hh, RV.toPV]
      have hn2 : L = [] ∨ noslR rs' = true := hn.imp id fun h => by simp only [noslR, Bool.and_eq_true] at h; exact h.2
      refine ⟨?_, MergeOk.res h.2 hf.tail hn2 hj hu.2⟩
      refine canP_sound h.1 (M.vp (hn.imp id fun h => ?_) hu.1)
      simp only [noslR, Bool.and_eq_true] at h; exact h.1
    · rename_i ss cs
      simp only [rawT] at hu
      simp only [bring, hh, RV.toCs]
      have hn2 : L = [] ∨ noslR rs' = true := hn.imp id fun h => by simp only [noslR, Bool.and_eq_true] at h; exact h.2
      refine ⟨?_, MergeOk.res h.2 hf.tail hn2 hj hu.2⟩
      obtain ⟨uus, rfl, ha⟩ := hu.1
      refine ⟨uus, rfl, canCs_sound h.1 (fun j _ => by rw [Nat.zero_add]) (All2.of_get ha.length fun j a b ha' hb' => ?_)⟩
      obtain ⟨b', k1, k2⟩ := ha.get j a ha'
      rw [hb'] at k1; cases k1
      refine M.vp (hn.imp id fun h => ?_) k2
      simp only [noslR, Bool.and_eq_true] at h
      exact List.all_eq_true.1 h.1 a (List.mem_of_getElem? ha')
    · simp only [rawT] at hu
      simp only [bring]
      simp only [owns] at hj
      have hn2 : L = [] ∨ noslR rs' = true := hn.imp id fun h => by simp only [noslR, Bool.and_eq_true] at h; exact h.2
      have h0 := hj 0 (by omega)
      refine ⟨M.hsl (by simpa using h0) hu.1, ?_⟩
      have := MergeOk.res (nid := nid) (m := m) (k := k + 1) h.2 hf.tail hn2 (fun j hj' => by
        have := hj (j + 1) (by omega)
        rw [show m + (k + 1) + j = m + k + (j + 1) by omega, show nid + (k + 1) + j = nid + k + (j + 1) by omega]; exact this) hu.2
      exact this
    · simp only [rawT] at hu
      simp only [bring]
      simp only [owns] at hj
      have hn2 : L = [] ∨ noslR rs' = true := hn.imp id fun h => by simp only [noslR, Bool.and_eq_true] at h; exact h.2
      have h0 := hj 0 (by omega)
      refine ⟨M.ptr (by simpa using h0) hu.1, ?_⟩
      have := MergeOk.res (nid := nid) (m := m) (k := k + 1) h.2 hf.tail hn2 (fun j hj' => by
        have := hj (j + 1) (by omega)
        rw [show m + (k + 1) + j = m + k + (j + 1) by omega, show nid + (k + 1) + j = nid + k + (j + 1) by omega]; exact this) hu.2
      exact this

end res

theorem bring_length : ∀ {rsh : List RSh} {rs' rs : List RV} {nid m i : Nat}, okR rsh rs' = true → (bring nid rsh i rs).1.length = (rawT m rs').length
  | [], [], _, _, _, _, _ => rfl
  | [], _ :: _, _, _, _, _, h => by simp [okR] at h
  | s :: rsh, [], _, _, _, _, h => by cases s <;> simp [okR] at h
  | s :: rsh, r :: rs', rs, nid, m, i, h => by
    cases s <;> cases r <;> simp only [okR, Bool.and_eq_true] at h <;> first | (cases h; done) | skip
    all_goals
      simp only [bring, rawT, List.length_cons]
      rw [bring_length h.2]

theorem valOf_trans {C D : Ctx} {ts ts' : List TV} {u : Value} (hl : ts'.length = ts.length) (h : ∀ us, All2 (VT D) ts us → All2 (VT C) ts' us) (hv : VA D (valOf ts) u) : VA C (valOf ts') u := by
  match ts, ts', hl with
  | [], [], _ =>
    obtain ⟨us, hu, ha⟩ := hv
    exact ⟨us, hu, h _ ha⟩
  | [t], [t'], _ => exact (h [u] ⟨hv, trivial⟩).1
  | a :: b :: l, a' :: b' :: l', _ =>
    obtain ⟨us, hu, ha⟩ := hv
    exact ⟨us, hu, h _ ha⟩

theorem callK_sound {C : Ctx} (hok : Ok C) {E : Env} {F : Fun} (hF : FSound E F) {look : Look} (hl : LookOk C look) {nid f : Nat} {args : List AV} {v : AV} {us : Ups} (h : callK E F look nid f args two = some (v, us))
    (hn : nth Ent.fresh C.h nid = .fresh ∧ nth Ent.fresh C.h (nid + 1) = .fresh ∧ nid + 1 < C.h.length) {uargs : Array Value} (ha : All2 (VA C) args uargs.toList) :
    hasN f E.okf = true ∧ Calls E.P f uargs C.w fun e w' => match e with
      | .returned u => Gives C us v u w'
      | _ => False := by
  unfold callK at h
  split at h
  case isFalse => cases h
  rename_i hokf
  refine ⟨hokf, ?_⟩
  split at h
  · cases h
  rename_i fn hfn
  split at h
  · cases h
  rename_i rsh hrsh
  dsimp only at h
  split at h
  case h_2 => cases h
  rename_i as bs ss hpa hpb
  split at h
  case isFalse => cases h
  rename_i hown
  unfold bnd at h
  obtain ⟨⟨rs, hs'⟩, hFr, h⟩ := Option.bind_eq_some_iff.1 h
  obtain ⟨hc, h⟩ := ctl_some h
  obtain ⟨rfl, rfl⟩ := two_inj h
  dsimp only at hc hFr ⊢
  -- what was checked
  have hchk : okR rsh rs = true ∧ okB ss hs' = true ∧ (lentIds E f 0 args = [] ∨ (noslR rs = true ∧ noslB hs' = true)) := by
    cases hle : lends E f 0 args with
    | true =>
      rw [hle] at hc
      simp only [cond_true, Bool.and_eq_true] at hc
      exact ⟨hc.1.1, hc.1.2, .inr hc.2⟩
    | false =>
      rw [hle] at hc
      simp only [cond_false, Bool.and_eq_true] at hc
      exact ⟨hc.1, hc.2, .inl (lends_false hle)⟩
  obtain ⟨hoR, hoB, hnosl⟩ := hchk
  obtain ⟨hbl, hsl, hbat⟩ := passB_at hpb
  have H : SubOk C (passIds E f 0 args []) (lentIds E f 0 args) bs := ⟨hok, passIds_nodup List.nodup_nil, hbl, fun i id hi => by
    obtain ⟨b, h1, h2, h3⟩ := hbat i id hi
    exact ⟨b, h1, hl _ _ h2, h3⟩, fun id hid => by
    obtain ⟨h1, sz, es, h2⟩ := passA_lent hpa id hid
    exact ⟨⟨_, hl _ _ h2⟩, h1⟩⟩
  have hargs := passA_sound H hl rfl (fun id hid => hid) hpa ha
  obtain ⟨hbk1, hbk2, hbk3⟩ := backB_tb (bs := hs') (i := 0) hoB (fun j _ => by rw [Nat.zero_add])
  obtain ⟨hcb1, hcb2, hcb3⟩ := canB_tb (rs := rs) (i := 0) hoR (fun j _ => by rw [Nat.zero_add])
  refine Calls.mono (hF.fn f as bs rs hs' hFr hokf (C.sub (passIds E f 0 args []) (lentIds E f 0 args) bs) H.sub rfl uargs hargs) fun e w' he => ?_
  cases e with
  | panicked c => exact he
  | outgrown => exact he
  | returned u =>
    obtain ⟨D, rfl, hx, hokD, hDh, hva⟩ := he
    have hown2 : owns rsh ≤ 2 := Nat.le_of_ble_eq_true hown
    have M : MergeOk C (passIds E f 0 args []) (lentIds E f 0 args) bs D (List.range' nid (owns rsh)) (hs' ++ rawB rs) (backB ss 0 hs' ++ canB rsh 0 rs) := by
      have hall : All2 TB (hs' ++ rawB rs) (backB ss 0 hs' ++ canB rsh 0 rs) := hbk3.append hcb3
      refine ⟨H, hx, hokD, hDh, by simp [hbk2, hsl, hcb2], hall.length.symm, fun k r d hr hd => ?_, fun n hnm => ?_, List.nodup_range', ?_⟩
      · obtain ⟨d', h1, h2⟩ := hall.get k r hr
        rw [hd] at h1; cases h1; exact h2
      · have hm := List.mem_range'_1.1 hnm
        have : n = nid ∨ n = nid + 1 := by omega
        rcases this with rfl | rfl
        · exact ⟨hn.1, by omega⟩
        · exact ⟨hn.2.1, hn.2.2⟩
      · refine hnosl.imp id fun hh b hb => ?_
        rcases List.mem_append.1 hb with hb | hb
        · exact nosl_B hh.2 b hb
        · exact nosl_rawB hh.1 b hb
    refine ⟨C.merge D (passIds E f 0 args [] ++ List.range' nid (owns rsh)) (backB ss 0 hs' ++ canB rsh 0 rs), rfl, ?_, M.extC, M.okC, ?_⟩
    · show putUps (zipUps _ _) C.h = _
      rw [zipUps_append (by rw [hbk1, hsl]), bring_ups, zipFrom_eq, hcb1]
    · refine valOf_trans (bring_length hoR) (fun uus hu => ?_) hva
      have hm : bs.length = (passIds E f 0 args []).length := hbl
      refine M.res (nid := nid) (m := bs.length) (k := 0) hoR (fun j _ => by rw [Nat.zero_add]) (hnosl.imp id fun hh => hh.1) (fun j hj => ?_) hu
      rw [List.getElem?_append_right (by omega)]
      rw [hm, Nat.add_zero, Nat.add_zero, Nat.add_sub_cancel_left]
      rw [List.getElem?_eq_getElem (by simpa using hj), List.getElem_range']
      simp

end Go.Proofs.YtpnpdkgdgfkpfaaGreatDoor.Vm
