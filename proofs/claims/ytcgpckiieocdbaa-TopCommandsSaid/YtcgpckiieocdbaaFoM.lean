import Derived.Test.YtcgpckiieocdbaaFoI
/- Chapter 33: contracts: Reach, Controllers. -/
namespace Go.Proofs.Ytcgpckiieocdbaa.Vm
set_option linter.unusedVariables false
set_option linter.unusedSimpArgs false

end Go.Proofs.Ytcgpckiieocdbaa.Vm

/- Chapter 33: plain laws of a round. -/
namespace Go.Proofs.Ytcgpckiieocdbaa.Vm
set_option linter.unusedVariables false
set_option linter.unusedSimpArgs false

theorem filter_disj {p q : Nat → Bool} : ∀ {l : List Nat}, (∀ x ∈ l, p x = true → q x = true → False) → (l.filter p).length + (l.filter q).length ≤ l.length
  | [], _ => by simp
  | x :: l, h => by
    have ih := filter_disj (p := p) (q := q) (l := l) fun y hy => h y (by simp [hy])
    have hx := h x (by simp)
    rw [List.filter_cons, List.filter_cons]
    cases hp : p x <;> cases hq : q x <;> simp_all <;> omega
/-- Two majorities share a member. -/
theorem meet {p q : Nat → Bool} {l : List Nat} {n : Nat} (hn : l.length = n) (hp : (n : Int) < 2 * ((l.filter p).length : Nat)) (hq : (n : Int) < 2 * ((l.filter q).length : Nat)) : ∃ x ∈ l, p x = true ∧ q x = true := by
  apply Classical.byContradiction
  intro h
  have := filter_disj (p := p) (q := q) (l := l) fun x hx h1 h2 => h ⟨x, hx, h1, h2⟩
  omega

theorem gt_out {l : List Ct} {i : Nat} (h : ¬ i < l.length) : gt l i = default := by simp [gt, List.getD, h]
theorem each_out {l : List Ct} {f} {i : Nat} (h : ¬ i < l.length) : gt (eachL l f) i = gt l i := by
  rw [gt_out h, gt_out (by rw [eachL_length]; exact h)]
theorem up_each {l : List Ct} {f : Nat → Ct → Ct} (hf : ∀ i c, c.st ≠ 2 → (f i c).st ≠ 2) (i : Nat) : upB (eachL l f) i = upB l i := by
  by_cases h : i < l.length
  · unfold upB
    rw [gt_each h]
    unfold eachC
    split
    · rename_i hu
      unfold upB at hu
      have h1 : (gt l i).st ≠ 2 := by simpa using hu
      have h2 := hf i _ h1
      exact (bne_iff_ne.2 h2).trans (bne_iff_ne.2 h1).symm
    · rfl
  · unfold upB; rw [each_out h]
theorem learn_up (l : List Ct) (R) (i : Nat) (c : Ct) (h : c.st ≠ 2) : (learnC l R i c).st ≠ 2 := h
theorem yield_up (l : List Ct) (R b) (i : Nat) (c : Ct) (h : c.st ≠ 2) : (yieldC l R b i c).st ≠ 2 := by
  unfold yieldC
  split
  · show (0 : Int) ≠ 2
    decide
  · exact h
theorem listen_up (l : List Ct) (R t) (i : Nat) (c : Ct) (h : c.st ≠ 2) : (listenC l R t i c).st ≠ 2 := by
  unfold listenC
  split <;> exact h
theorem t1_len (l : List Ct) (R) : (t1 l R).length = l.length := eachL_length ..
theorem t2_len (l : List Ct) (R) : (t2 l R).length = l.length := by unfold t2; rw [eachL_length, t1_len]
theorem t3_len (l : List Ct) (R t) : (t3 l R t).length = l.length := by unfold t3; rw [eachL_length, t2_len]
theorem t1_up (l : List Ct) (R i) : upB (t1 l R) i = upB l i := up_each (learn_up l R) i
theorem t2_up (l : List Ct) (R i) : upB (t2 l R) i = upB l i := (up_each (yield_up _ R _) i).trans (t1_up l R i)
theorem t3_up (l : List Ct) (R t i) : upB (t3 l R t) i = upB l i := (up_each (listen_up _ R t) i).trans (t2_up l R i)

theorem hears_congr {l l' : List Ct} (hl : l.length = l'.length) (hu : ∀ i, upB l i = upB l' i) (R : List (List Bool)) (i : Nat) : hearsL l R i = hearsL l' R i := by
  unfold hearsL
  rw [hl]
  congr 1
  funext k
  unfold hr
  rw [hu, hu]
theorem hears_mem {l : List Ct} {R : List (List Bool)} {i k : Nat} : k ∈ hearsL l R i ↔ k < l.length ∧ hr l R i k = true := by
  unfold hearsL
  rw [List.mem_filter]
  simp
theorem hears_self {l : List Ct} {R : List (List Bool)} {i : Nat} (hi : i < l.length) (hu : upB l i = true) : i ∈ hearsL l R i := by
  rw [hears_mem]
  exact ⟨hi, by simp [hr, hu]⟩
theorem hr_symm {l : List Ct} {R : List (List Bool)} {i k : Nat} : hr l R i k = hr l R k i := by
  unfold hr
  have : ((i : Int) == (k : Int)) = ((k : Int) == (i : Int)) := by rw [Bool.eq_iff_iff]; simp; omega
  rw [this, Bool.and_comm (upB l i), Bool.or_comm (rb R i k)]
theorem hr_up {l : List Ct} {R : List (List Bool)} {i k : Nat} (h : hr l R i k = true) : upB l i = true ∧ upB l k = true := by
  unfold hr at h
  simp only [Bool.and_eq_true] at h
  exact h.1

theorem great_o (l : List Ct) : ∀ (xs : List Nat) (o : Int), o ≤ great l o xs
  | [], o => Int.le_refl o
  | x :: xs, o => by
    have := great_o l xs (maxI (gt l x).ep o)
    have h : o ≤ maxI (gt l x).ep o := by unfold maxI; split <;> omega
    show o ≤ great l (maxI (gt l x).ep o) xs
    omega
theorem great_mem (l : List Ct) : ∀ (xs : List Nat) (o : Int), ∀ x ∈ xs, (gt l x).ep ≤ great l o xs
  | [], o, x, h => by cases h
  | y :: xs, o, x, h => by
    show (gt l x).ep ≤ great l (maxI (gt l y).ep o) xs
    rcases List.mem_cons.1 h with rfl | h
    · have := great_o l xs (maxI (gt l x).ep o)
      have h : (gt l x).ep ≤ maxI (gt l x).ep o := by unfold maxI; split <;> omega
      omega
    · exact great_mem l xs _ x h
theorem great_le (l : List Ct) {b : Int} : ∀ (xs : List Nat) (o : Int), o ≤ b → (∀ x ∈ xs, (gt l x).ep ≤ b) → great l o xs ≤ b
  | [], o, h, _ => h
  | y :: xs, o, h, hx => great_le l xs _ (by have := hx y (by simp); show maxI (gt l y).ep o ≤ b; unfold maxI; split <;> omega) fun x hm => hx x (by simp [hm])

/-! ### The election -/
theorem set_gt {l : List Ct} {c i : Nat} {v : Ct} (hc : c < l.length) : gt (l.set c v) i = if i = c then v else gt l i := by
  unfold gt
  simp only [List.getD, List.getElem?_set]
  by_cases h : c = i
  · subst h; simp [hc]
  · rw [if_neg h, if_neg (fun e => h e.symm)]
theorem setEp_len (e : Int) : ∀ (xs : List Nat) (o : List Ct), (xs.foldl (setEp e) o).length = o.length
  | [], o => rfl
  | x :: xs, o => by rw [List.foldl_cons, setEp_len e xs]; simp [setEp]
theorem setEp_gt (e : Int) : ∀ (xs : List Nat) (o : List Ct) (i : Nat), (∀ x ∈ xs, x < o.length) → gt (xs.foldl (setEp e) o) i = if i ∈ xs then ⟨(gt o i).st, e, (gt o i).hd⟩ else gt o i
  | [], o, i, _ => by simp
  | x :: xs, o, i, hx => by
    have hxl := hx x (by simp)
    rw [List.foldl_cons, setEp_gt e xs _ i fun y hy => by simpa [setEp] using hx y (by simp [hy])]
    unfold setEp
    rw [set_gt hxl]
    by_cases h1 : i = x
    · subst h1
      simp
    · simp [h1]
def win (l : List Ct) (t : Int) (c : Nat) (V : List Nat) (e : Int) : List Ct := crown t ((V ++ [c]).foldl (setEp e) l) c
theorem win_len {l t c V e} : (win l t c V e).length = l.length := by unfold win crown; rw [List.length_set, setEp_len]
theorem win_gt {l : List Ct} {t : Int} {c : Nat} {V : List Nat} {e : Int} (hc : c < l.length) (hV : ∀ x ∈ V, x < l.length) (i : Nat) :
    gt (win l t c V e) i = if i = c then ⟨1, e, t⟩ else if i ∈ V then ⟨(gt l i).st, e, (gt l i).hd⟩ else gt l i := by
  have hV' : ∀ x ∈ V ++ [c], x < l.length := fun x hx => by
    rcases List.mem_append.1 hx with h | h
    · exact hV x h
    · rw [List.mem_singleton] at h; rw [h]; exact hc
  unfold win crown
  rw [set_gt (by rw [setEp_len]; exact hc), setEp_gt e _ _ _ hV', setEp_gt e _ _ _ hV']
  by_cases h : i = c
  · subst h; simp
  · simp [h]

theorem elect_none {l : List Ct} {t : Int} {V : Nat → List Nat} : ∀ {cs : List Nat} {out : List Ct}, (∀ c ∈ cs, maj l (V c).length = false) → elect l t V cs out = some out
  | [], out, _ => rfl
  | c :: cs, out, h => by
    unfold elect
    rw [h c (by simp), if_neg (by simp)]
    exact elect_none fun x hx => h x (by simp [hx])
theorem elect_one {l : List Ct} {t : Int} {V : Nat → List Nat} {c : Nat} {post : List Nat} (hc : maj l (V c).length = true) (h2 : ∀ x ∈ post, maj l (V x).length = false) : ∀ {pre : List Nat} {out : List Ct}, (∀ x ∈ pre, maj l (V x).length = false) →
    elect l t V (pre ++ c :: post) out = if 2147483648 < 1 + great l 0 (V c ++ [c]) then none else some (win out t c (V c) (1 + great l 0 (V c ++ [c])))
  | [], out, _ => by
    rw [List.nil_append]
    unfold elect
    rw [if_pos hc, elect_none h2]
    rfl
  | x :: pre, out, h => by
    rw [List.cons_append]
    unfold elect
    rw [h x (by simp), if_neg (by simp)]
    exact elect_one hc h2 fun y hy => h y (by simp [hy])

theorem votes_disj {l : List Ct} {R : List (List Bool)} {all : List Nat} {c c' : Nat} (h1 : maj l (votesL l R all l.length c).length = true) (h2 : maj l (votesL l R all l.length c').length = true) : c = c' := by
  have h1' : (l.length : Int) < 2 * ((votesL l R all l.length c).length : Nat) := by simpa [maj] using h1
  have h2' : (l.length : Int) < 2 * ((votesL l R all l.length c').length : Nat) := by simpa [maj] using h2
  unfold votesL at h1' h2'
  obtain ⟨x, _, e1, e2⟩ := meet (by simp) h1' h2'
  have e1 : votes l R all x = some c := by simpa using e1
  have e2 : votes l R all x = some c' := by simpa using e2
  rw [e1] at e2
  cases e2; rfl

theorem cand_nodup (l : List Ct) (R : List (List Bool)) (t d : Int) : (candL l R t d).Nodup := (List.nodup_range' (step := 1)).filter _
theorem cand_mem {l : List Ct} {R : List (List Bool)} {t d : Int} {c : Nat} : c ∈ candL l R t d ↔ c < l.length ∧ candB l R t d c = true := by
  unfold candL
  rw [List.mem_filter]
  simp
abbrev VL (l : List Ct) (R : List (List Bool)) (t d : Int) (c : Nat) : List Nat := votesL l R (candL l R t d) l.length c
theorem VL_mem {l : List Ct} {R : List (List Bool)} {t d : Int} {c i : Nat} : i ∈ VL l R t d c ↔ i < l.length ∧ votes l R (candL l R t d) i = some c := by
  unfold VL votesL
  rw [List.mem_filter]
  simp

/-- What an election comes to. -/
theorem elect_cases (l : List Ct) (R : List (List Bool)) (t d : Int) :
    ((∀ c ∈ candL l R t d, maj l (VL l R t d c).length = false) ∧ elect l t (votesL l R (candL l R t d) l.length) (candL l R t d) l = some l) ∨
    ∃ c, c ∈ candL l R t d ∧ maj l (VL l R t d c).length = true ∧ elect l t (votesL l R (candL l R t d) l.length) (candL l R t d) l =
      if 2147483648 < 1 + great l 0 (VL l R t d c ++ [c]) then none else some (win l t c (VL l R t d c) (1 + great l 0 (VL l R t d c ++ [c]))) := by
  by_cases h : ∀ c ∈ candL l R t d, maj l (VL l R t d c).length = false
  · exact .inl ⟨h, elect_none h⟩
  · obtain ⟨c, hc, hm⟩ : ∃ c, c ∈ candL l R t d ∧ maj l (VL l R t d c).length = true := by
      apply Classical.byContradiction
      intro hn
      refine h fun c hc => ?_
      cases hm : maj l (VL l R t d c).length with
      | false => rfl
      | true => exact (hn ⟨c, hc, hm⟩).elim
    refine .inr ⟨c, hc, hm, ?_⟩
    obtain ⟨pre, post, hs⟩ := List.append_of_mem hc
    have hnd := cand_nodup l R t d
    have other : ∀ x, x ≠ c → maj l (VL l R t d x).length = false := fun x hx => by
      cases hm' : maj l (VL l R t d x).length with
      | false => rfl
      | true => exact (hx (votes_disj hm' hm)).elim
    have hnd' : (pre ++ c :: post).Nodup := hs ▸ hnd
    have h3 := (List.nodup_append.1 hnd').2.2
    have h4 := (List.nodup_cons.1 (List.nodup_append.1 hnd').2.1).1
    rw [show elect l t (votesL l R (candL l R t d) l.length) (candL l R t d) l = elect l t (fun x => VL l R t d x) (pre ++ c :: post) l by rw [← hs]]
    exact elect_one hm (fun x hx => other x fun e => h4 (e ▸ hx)) fun x hx => other x fun e => h3 x hx c (by simp) e

/-! ### A round, controller by controller -/
theorem t1_gt {l : List Ct} {R : List (List Bool)} {i : Nat} (hi : i < l.length) : gt (t1 l R) i = if upB l i = true then ⟨(gt l i).st, great l 0 (hearsL l R i), (gt l i).hd⟩ else gt l i := gt_each hi
theorem t2_gt {l : List Ct} {R : List (List Bool)} {i : Nat} (hi : i < l.length) : gt (t2 l R) i = if upB l i = true then yieldC (t1 l R) R l i (gt (t1 l R) i) else gt (t1 l R) i := by
  unfold t2
  rw [gt_each (by rw [t1_len]; exact hi)]
  unfold eachC
  rw [t1_up]
theorem t3_gt {l : List Ct} {R : List (List Bool)} {t : Int} {i : Nat} (hi : i < l.length) : gt (t3 l R t) i = if upB l i = true then listenC (t2 l R) R t i (gt (t2 l R) i) else gt (t2 l R) i := by
  unfold t3
  rw [gt_each (by rw [t2_len]; exact hi)]
  unfold eachC
  rw [t2_up]
theorem t2_ep {l : List Ct} {R : List (List Bool)} {i : Nat} (hi : i < l.length) : (gt (t2 l R) i).ep = (gt (t1 l R) i).ep := by
  rw [t2_gt hi]
  split
  · unfold yieldC; split <;> rfl
  · rfl
theorem t3_ep {l : List Ct} {R : List (List Bool)} {t : Int} {i : Nat} (hi : i < l.length) : (gt (t3 l R t) i).ep = (gt (t1 l R) i).ep := by
  rw [← t2_ep hi, t3_gt hi]
  split
  · unfold listenC; split <;> rfl
  · rfl
theorem t3_st {l : List Ct} {R : List (List Bool)} {t : Int} {i : Nat} (hi : i < l.length) : (gt (t3 l R t) i).st = (gt (t2 l R) i).st := by
  rw [t3_gt hi]
  split
  · unfold listenC; split <;> rfl
  · rfl
theorem t1_ep_up {l : List Ct} {R : List (List Bool)} {i : Nat} (hi : i < l.length) : (gt l i).ep ≤ (gt (t1 l R) i).ep := by
  rw [t1_gt hi]
  split
  · rename_i h
    exact great_mem l _ 0 i (hears_self hi h)
  · exact Int.le_refl _
theorem t1_st {l : List Ct} {R : List (List Bool)} {i : Nat} (hi : i < l.length) : (gt (t1 l R) i).st = (gt l i).st := by
  rw [t1_gt hi]; split <;> rfl
/-- Who is still active behind part 2. -/
theorem t2_act {l : List Ct} {R : List (List Bool)} {i : Nat} (hi : i < l.length) (h : (gt (t2 l R) i).st = 1) :
    (gt l i).st = 1 ∧ maj l (hearsL l R i).length = true ∧ (gt (t1 l R) i).ep ≤ (gt l i).ep ∧ (hearsL l R i).any (rival (t1 l R) i (gt (t1 l R) i)) = false := by
  have hh : hearsL (t1 l R) R i = hearsL l R i := hears_congr (t1_len l R) (t1_up l R) R i
  have hm : ∀ n, maj (t1 l R) n = maj l n := fun n => by unfold maj; rw [t1_len]
  rw [t2_gt hi] at h
  have hs : (gt (t1 l R) i).st = 1 := by
    split at h
    · unfold yieldC at h
      split at h
      · exact absurd h (by show ¬ (0 : Int) = 1; decide)
      · exact h
    · exact h
  have hs' : (gt l i).st = 1 := by rw [← t1_st (R := R) hi]; exact hs
  have hu : upB l i = true := by unfold upB; rw [hs']; rfl
  rw [if_pos hu] at h
  unfold yieldC at h
  split at h
  · exact absurd h (by show ¬ (0 : Int) = 1; decide)
  · rename_i hy
    unfold yieldB at hy
    have ha : actB (t1 l R) i = true := by unfold actB; rw [hs]; rfl
    rw [ha, hh, hm, Bool.true_and] at hy
    simp only [Bool.or_eq_true, not_or, Bool.not_eq_true', decide_eq_true_eq] at hy
    obtain ⟨y1, y2, y3⟩ := hy
    refine ⟨hs', ?_, by omega, ?_⟩
    · cases hc : maj l (hearsL l R i).length with
      | true => rfl
      | false => exact (y1 hc).elim
    · cases hc : (hearsL l R i).any (rival (t1 l R) i (gt (t1 l R) i)) with
      | false => rfl
      | true => exact (y3 hc).elim

end Go.Proofs.Ytcgpckiieocdbaa.Vm

/- Chapter 33: what a round does. -/
namespace Go.Proofs.Ytcgpckiieocdbaa.Vm
set_option linter.unusedVariables false
set_option linter.unusedSimpArgs false

theorem electM_cases (l : List Ct) (R : List (List Bool)) (t d : Int) :
    ((∀ c ∈ candL l R t d, maj l (VL l R t d c).length = false) ∧ electM l R t d = some l) ∨
    ∃ c, c ∈ candL l R t d ∧ maj l (VL l R t d c).length = true ∧ electM l R t d =
      if 2147483648 < 1 + great l 0 (VL l R t d c ++ [c]) then none else some (win l t c (VL l R t d c) (1 + great l 0 (VL l R t d c ++ [c]))) := elect_cases l R t d

structure Rnd (l : List Ct) (R : List (List Bool)) (o : List Ct) : Prop where
  len : o.length = l.length
  up : ∀ i, upB o i = upB l i
  ep : ∀ i, i < l.length → (gt l i).ep ≤ (gt o i).ep
  act : ∀ i, i < l.length → (gt o i).st = 1 → maj l (hearsL l R i).length = true

theorem step_t3 (l : List Ct) (R : List (List Bool)) (t : Int) : Rnd l R (t3 l R t) :=
  ⟨t3_len .., t3_up l R t, fun i hi => by rw [t3_ep hi]; exact t1_ep_up hi, fun i hi h => (t2_act hi (by rw [← t3_st hi]; exact h)).2.1⟩

theorem VL_lt {l : List Ct} {R : List (List Bool)} {t d : Int} {c : Nat} : ∀ x ∈ VL l R t d c, x < l.length := fun x hx => (VL_mem.1 hx).1

theorem cand_st {l : List Ct} {R : List (List Bool)} {t d : Int} {c : Nat} (h : c ∈ candL l R t d) : (gt l c).st = 0 ∧ maj l (hearsL l R c).length = true ∧ leadsB l R c = false ∧ d ≤ t - (gt l c).hd := by
  have := (cand_mem.1 h).2
  unfold candB at this
  simp only [Bool.and_eq_true, decide_eq_true_eq, Bool.not_eq_true'] at this
  exact ⟨by simpa using this.1.1.1, this.1.1.2, this.1.2, this.2⟩

theorem step_win {l : List Ct} {R : List (List Bool)} {t d : Int} {c : Nat} {e : Int} (hc : c ∈ candL (t3 l R t) R t d) (he : ∀ i, i ∈ VL (t3 l R t) R t d c ∨ i = c → (gt (t3 l R t) i).ep ≤ e) : Rnd l R (win (t3 l R t) t c (VL (t3 l R t) R t d c) e) := by
  have hs := step_t3 l R t
  have hcl : c < (t3 l R t).length := cand_lt hc
  have hg := win_gt (t := t) (e := e) hcl (VL_lt (l := t3 l R t) (R := R) (t := t) (d := d) (c := c))
  obtain ⟨c1, c2, _, _⟩ := cand_st hc
  have hh : hearsL (t3 l R t) R c = hearsL l R c := hears_congr hs.len hs.up R c
  have hm : ∀ n, maj (t3 l R t) n = maj l n := fun n => by unfold maj; rw [hs.len]
  refine ⟨by rw [win_len, hs.len], fun i => ?_, fun i hi => ?_, fun i hi h => ?_⟩
  · rw [← hs.up i]
    unfold upB
    rw [hg]
    split
    · rename_i h; subst h; rw [c1]; rfl
    · split <;> rfl
  · have h1 := hs.ep i hi
    rw [hg]
    split
    · rename_i h; have := he i (.inr h); show _ ≤ e; omega
    · split
      · rename_i h; have := he i (.inl h); show _ ≤ e; omega
      · exact h1
  · rw [hg] at h
    split at h
    · rename_i hi; subst hi; rw [← hh, ← hm]; exact c2
    · refine hs.act i hi ?_
      split at h <;> exact h

/-- A round of controllers with small epochs. -/
theorem tick_step {l : List Ct} {R : List (List Bool)} {t d : Int} {B : Int} (hB : 0 ≤ B ∧ B < 2147483648) (hl : ∀ i, i < l.length → (gt l i).ep ≤ B) : ∃ o, electM (t3 l R t) R t d = some o ∧ Rnd l R o ∧ ∀ i, i < l.length → (gt o i).ep ≤ B + 1 := by
  have h3 : ∀ i, i < l.length → (gt (t3 l R t) i).ep ≤ B := fun i hi => by
    rw [t3_ep hi, t1_gt hi]
    split
    · exact great_le l _ 0 hB.1 fun x hx => hl x (hears_lt hx)
    · exact hl i hi
  rcases electM_cases (t3 l R t) R t d with ⟨_, h⟩ | ⟨c, hc, _, h⟩
  · exact ⟨_, h, step_t3 l R t, fun i hi => by have := h3 i hi; omega⟩
  · have hcl : c < (t3 l R t).length := cand_lt hc
    have hx : ∀ x ∈ VL (t3 l R t) R t d c ++ [c], x < l.length := fun x hx => by
      rw [← t3_len l R t]
      rcases List.mem_append.1 hx with h | h
      · exact VL_lt x h
      · rw [List.mem_singleton] at h; rw [h]; exact hcl
    have hgl : great (t3 l R t) 0 (VL (t3 l R t) R t d c ++ [c]) ≤ B := great_le _ _ 0 hB.1 fun x hm => h3 x (hx x hm)
    rw [if_neg (by omega)] at h
    refine ⟨_, h, step_win hc fun i hi => ?_, fun i hi => ?_⟩
    · have := great_mem (t3 l R t) (VL (t3 l R t) R t d c ++ [c]) 0 i (by rcases hi with h | h <;> simp [h])
      omega
    · have h1 := h3 i hi
      rw [win_gt hcl VL_lt]
      split
      · show 1 + _ ≤ B + 1; omega
      · split
        · show 1 + _ ≤ B + 1; omega
        · omega

end Go.Proofs.Ytcgpckiieocdbaa.Vm
