/- Chapter 33: all that are up reach each other. -/
import Derived.Test.YthmhnnppikdafaaFoV
namespace Go.Proofs.Ythmhnnppikdafaa.Vm
set_option linter.unusedVariables false
set_option linter.unusedSimpArgs false

def Full (n : Nat) (R : List (List Bool)) : Prop := ∀ i k, i < n → k < n → rb R i k = true
def ups (l : List Ct) : List Nat := (List.range' 0 l.length).filter (upB l)
theorem ups_mem {l : List Ct} {i : Nat} : i ∈ ups l ↔ i < l.length ∧ upB l i = true := by
  unfold ups
  rw [List.mem_filter]
  simp
theorem ups_congr {l o : List Ct} (hl : o.length = l.length) (hu : ∀ i, upB o i = upB l i) : ups o = ups l := by
  unfold ups
  rw [hl]
  congr 1
  funext i
  exact hu i
theorem hears_full {l : List Ct} {R : List (List Bool)} (hF : Full l.length R) {i : Nat} (hi : i < l.length) (hu : upB l i = true) : hearsL l R i = ups l := by
  unfold hearsL ups
  refine List.filter_congr fun k hk => ?_
  have hk' : k < l.length := by simpa using hk
  unfold hr
  rw [hF i k hi hk', hu]
  simp

def anyA (l : List Ct) : Bool := (ups l).any (actB l)
theorem anyA_iff {l : List Ct} : anyA l = true ↔ ∃ i, i < l.length ∧ (gt l i).st = 1 := by
  unfold anyA
  rw [List.any_eq_true]
  constructor
  · rintro ⟨i, h1, h2⟩
    exact ⟨i, (ups_mem.1 h1).1, by unfold actB at h2; simpa using h2⟩
  · rintro ⟨i, h1, h2⟩
    exact ⟨i, ups_mem.2 ⟨h1, by unfold upB; rw [h2]; rfl⟩, by unfold actB; rw [h2]; rfl⟩
theorem leads_full {l : List Ct} {R : List (List Bool)} (hF : Full l.length R) {i : Nat} (hi : i < l.length) (hu : upB l i = true) : leadsB l R i = anyA l := by
  unfold leadsB anyA
  rw [hears_full hF hi hu]

theorem cand_up {l : List Ct} {R : List (List Bool)} {t d : Int} {c : Nat} (h : c ∈ candL l R t d) : c < l.length ∧ upB l c = true := ⟨cand_lt h, by unfold upB; rw [(cand_st h).1]; rfl⟩

/-- With an active one there is no election. -/
theorem elect_act {l : List Ct} {R : List (List Bool)} {t d : Int} (hF : Full l.length R) (ha : anyA l = true) : electM l R t d = some l := by
  rcases electM_cases l R t d with ⟨_, h⟩ | ⟨c, hc, _, _⟩
  · exact h
  · obtain ⟨h1, h2⟩ := cand_up hc
    have h3 := (cand_st hc).2.2.1
    rw [leads_full hF h1 h2, ha] at h3
    cases h3

/-- All that are up vote for the winner. -/
theorem win_all {l : List Ct} {R : List (List Bool)} {t d : Int} {c : Nat} (hF : Full l.length R) (hc : c ∈ candL l R t d) (hm : maj l (VL l R t d c).length = true) : ∀ x, x < l.length → upB l x = true → x ∈ VL l R t d c := by
  intro x hx hu
  obtain ⟨h1, h2⟩ := cand_up hc
  have hna : anyA l = false := by rw [← leads_full hF h1 h2]; exact (cand_st hc).2.2.1
  have hv := (VL_mem.1 (self_vote hc hm)).2
  rw [VL_mem]
  refine ⟨hx, ?_⟩
  unfold votes at hv ⊢
  rw [leads_full hF h1 h2, hna, if_neg (by simp), hears_full hF h1 h2] at hv
  rw [leads_full hF hx hu, hna, if_neg (by simp), hears_full hF hx hu]
  exact hv

def EQ (l : List Ct) (G : Int) : Prop := ∀ i, i < l.length → upB l i = true → (gt l i).ep = G

theorem t3_eq {l : List Ct} {R : List (List Bool)} {t : Int} (hF : Full l.length R) : EQ (t3 l R t) (great l 0 (ups l)) := by
  intro i hi hu
  rw [t3_len] at hi
  rw [t3_up] at hu
  rw [t3_ep hi, t1_gt hi, if_pos hu, hears_full hF hi hu]

/-- Behind a round all that are up have one epoch. -/
theorem round_eq {l : List Ct} {R : List (List Bool)} {t d : Int} (hF : Full l.length R) {o : List Ct} (ho : electM (t3 l R t) R t d = some o) : ∃ G, EQ o G := by
  have hF3 : Full (t3 l R t).length R := by rw [t3_len]; exact hF
  rcases electM_cases (t3 l R t) R t d with ⟨_, h⟩ | ⟨c, hc, hm, h⟩
  · rw [h] at ho
    cases ho
    exact ⟨_, t3_eq hF⟩
  · rw [h] at ho
    split at ho
    · cases ho
    cases ho
    have hcl : c < (t3 l R t).length := cand_lt hc
    have hg := win_gt (t := t) (e := 1 + great (t3 l R t) 0 (VL (t3 l R t) R t d c ++ [c])) hcl (VL_lt (l := t3 l R t) (R := R) (t := t) (d := d) (c := c))
    refine ⟨1 + great (t3 l R t) 0 (VL (t3 l R t) R t d c ++ [c]), fun i hi hu => ?_⟩
    rw [win_len] at hi
    by_cases hic : i = c
    · rw [hg, if_pos hic]
    · unfold upB at hu
      have hst : (gt (win (t3 l R t) t c (VL (t3 l R t) R t d c) (1 + great (t3 l R t) 0 (VL (t3 l R t) R t d c ++ [c]))) i).st = (gt (t3 l R t) i).st := by
        rw [hg, if_neg hic]
        split <;> rfl
      rw [hst] at hu
      rw [hg, if_neg hic, if_pos (win_all hF3 hc hm i hi hu)]

/-- The only active one stays. -/
theorem round_stay {l : List Ct} {R : List (List Bool)} {t d G : Int} (hF : Full l.length R) (hG : 0 ≤ G) (hE : EQ l G) (hm : maj l (ups l).length = true) {j : Nat} (hj : j < l.length) (hone : ∀ i, i < l.length → ((gt l i).st = 1 ↔ i = j)) :
    electM (t3 l R t) R t d = some (t3 l R t) ∧ ∀ i, i < l.length → ((gt (t3 l R t) i).st = 1 ↔ i = j) := by
  have hF3 : Full (t3 l R t).length R := by rw [t3_len]; exact hF
  have hja : (gt l j).st = 1 := (hone j hj).2 rfl
  have hju : upB l j = true := by unfold upB; rw [hja]; rfl
  -- epochs do not grow
  have hgr : great l 0 (ups l) = G := by
    have h1 := great_mem l (ups l) 0 j (ups_mem.2 ⟨hj, hju⟩)
    rw [hE j hj hju] at h1
    have h2 := great_le l (b := G) (ups l) 0 hG fun x hx => by
      obtain ⟨a, b⟩ := ups_mem.1 hx
      rw [hE x a b]; exact Int.le_refl _
    omega
  have t1g : gt (t1 l R) j = gt l j := by
    rw [t1_gt hj, if_pos hju, hears_full hF hj hju, hgr]
    have := hE j hj hju
    cases hh : gt l j with
    | mk a b c => rw [hh] at this; simp at this ⊢; exact this.symm
  have hact1 : ∀ k, k < l.length → actB (t1 l R) k = true → k = j := fun k hk h => by
    unfold actB at h
    rw [t1_st hk] at h
    exact (hone k hk).1 (by simpa using h)
  have hh1 : hearsL (t1 l R) R j = ups l := (hears_congr (t1_len l R) (t1_up l R) R j).trans (hears_full hF hj hju)
  have t2g : gt (t2 l R) j = gt l j := by
    rw [t2_gt hj, if_pos hju, t1g]
    unfold yieldC
    rw [if_neg]
    unfold yieldB
    rw [hh1]
    have m1 : maj (t1 l R) (ups l).length = true := by unfold maj; rw [t1_len]; exact hm
    have r1 : (ups l).any (rival (t1 l R) j (gt l j)) = false := by
      rw [List.any_eq_false]
      intro k hk hr
      unfold rival at hr
      simp only [Bool.and_eq_true, decide_eq_true_eq] at hr
      have := hact1 k (ups_mem.1 hk).1 hr.1.2
      omega
    rw [m1, r1]
    simp
  have ha3 : ∀ i, i < l.length → ((gt (t3 l R t) i).st = 1 ↔ i = j) := fun i hi => by
    rw [t3_st hi]
    constructor
    · intro h
      exact (hone i hi).1 (t2_act (R := R) hi h).1
    · rintro rfl
      rw [t2g]; exact hja
  refine ⟨elect_act hF3 (anyA_iff.2 ⟨j, by rw [t3_len]; exact hj, (ha3 j hj).2 rfl⟩), ha3⟩

/-- With none active: the times stay; and if all have waited, one is elected. -/
theorem round_none {l : List Ct} {R : List (List Bool)} {t d : Int} (hF : Full l.length R) (hn : ∀ i, i < l.length → (gt l i).st ≠ 1) :
    (∀ i, i < l.length → (gt (t3 l R t) i).st ≠ 1) ∧ (∀ i, i < l.length → (gt (t3 l R t) i).hd = (gt l i).hd) := by
  have n3 : ∀ i, i < l.length → (gt (t3 l R t) i).st ≠ 1 := fun i hi h => hn i hi (act_t3 (R := R) hi h).1
  refine ⟨n3, fun i hi => ?_⟩
  have n2 : anyA (t2 l R) = false := by
    cases h : anyA (t2 l R) with
    | false => rfl
    | true =>
      obtain ⟨k, hk, hs⟩ := anyA_iff.1 h
      rw [t2_len] at hk
      exact (n3 k hk (by rw [t3_st hk]; exact hs)).elim
  have h2 : (gt (t2 l R) i).hd = (gt l i).hd := by
    have h1 : (gt (t1 l R) i).hd = (gt l i).hd := by rw [t1_gt hi]; split <;> rfl
    rw [t2_gt hi]
    split
    · unfold yieldC
      split <;> exact h1
    · exact h1
  rw [t3_gt hi]
  split
  · rename_i hu
    unfold listenC
    rw [leads_full (by rw [t2_len]; exact hF) (by rw [t2_len]; exact hi) (by rw [t2_up]; exact hu), n2, if_neg (by simp)]
    exact h2
  · exact h2

theorem round_elect {l : List Ct} {R : List (List Bool)} {t d : Int} (hV : Val l t) (hF : Full l.length R) (hm : maj l (ups l).length = true) (hn : ∀ i, i < l.length → (gt l i).st ≠ 1) (hw : ∀ i, i < l.length → d ≤ t - (gt l i).hd) {o : List Ct} (ho : electM (t3 l R t) R t d = some o) : ∃ j, j < o.length ∧ (gt o j).st = 1 := by
  obtain ⟨n3, h3⟩ := round_none (t := t) (d := d) hF hn
  have hF3 : Full (t3 l R t).length R := by rw [t3_len]; exact hF
  have na : anyA (t3 l R t) = false := by
    cases h : anyA (t3 l R t) with
    | false => rfl
    | true =>
      obtain ⟨k, hk, hs⟩ := anyA_iff.1 h
      rw [t3_len] at hk
      exact (n3 k hk hs).elim
  have hu3 : ups (t3 l R t) = ups l := ups_congr (t3_len l R t) (t3_up l R t)
  have m3 : ∀ n, maj (t3 l R t) n = maj l n := fun n => by unfold maj; rw [t3_len]
  -- all that are up are candidates
  have hcand : ∀ x, x < l.length → upB l x = true → x ∈ candL (t3 l R t) R t d := fun x hx hu => by
    have hx3 : x < (t3 l R t).length := by rw [t3_len]; exact hx
    have hux : upB (t3 l R t) x = true := by rw [t3_up]; exact hu
    rw [cand_mem]
    refine ⟨hx3, ?_⟩
    unfold candB
    have hs0 : (gt (t3 l R t) x).st = 0 := by
      have h1 := n3 x hx
      have h2 : (gt (t3 l R t) x).st ≠ 2 := by unfold upB at hux; simpa using hux
      have hst : (gt (t3 l R t) x).st = (gt (t2 l R) x).st := t3_st hx
      have h4 := (hV.c x hx).1
      have h5 : (gt (t2 l R) x).st = (gt l x).st ∨ (gt (t2 l R) x).st = 0 := by
        rw [t2_gt hx, if_pos hu]
        unfold yieldC
        by_cases hy : yieldB (t1 l R) R l x (gt (t1 l R) x) = true
        · rw [if_pos hy]; exact .inr rfl
        · rw [if_neg hy]; exact .inl (t1_st hx)
      have h6 := hn x hx
      have h7 : (gt l x).st ≠ 2 := by unfold upB at hu; simpa using hu
      omega
    rw [hs0, hears_full hF3 hx3 hux, hu3, m3, hm, leads_full hF3 hx3 hux, na, h3 x hx]
    simp
    exact hw x hx
  rcases electM_cases (t3 l R t) R t d with ⟨hno, h⟩ | ⟨c, hc, hmc, h⟩
  · exfalso
    -- the first candidate has all votes
    have hne : ups l ≠ [] := fun h0 => by
      rw [h0] at hm
      unfold maj at hm
      simp at hm
      omega
    obtain ⟨x, hx⟩ := List.exists_mem_of_ne_nil _ hne
    obtain ⟨hxl, hxu⟩ := ups_mem.1 hx
    have hxc := hcand x hxl hxu
    cases hf : (candL (t3 l R t) R t d).find? (hasB (ups l)) with
    | none => exact absurd (by unfold hasB; rw [List.contains_iff_mem]; exact hx) (List.find?_eq_none.1 hf x hxc)
    | some c =>
      have hcm := List.mem_of_find?_eq_some hf
      have hall : ∀ y ∈ List.range' 0 (t3 l R t).length, upB (t3 l R t) y = true → (votes (t3 l R t) R (candL (t3 l R t) R t d) y == some c) = true := fun y hy hu => by
        have hyl : y < (t3 l R t).length := by simpa using hy
        unfold votes
        rw [leads_full hF3 hyl hu, na, if_neg (by simp), hears_full hF3 hyl hu, hu3]
        show (List.find? (hasB (ups l)) _ == some c) = true
        rw [hf]
        simp
      have hge := filter_mono hall
      have := hno c hcm
      rw [m3] at this
      unfold maj at this hm
      simp only [decide_eq_false_iff_not, decide_eq_true_eq] at this hm
      have e1 : (VL (t3 l R t) R t d c).length = ((List.range' 0 (t3 l R t).length).filter fun i => votes (t3 l R t) R (candL (t3 l R t) R t d) i == some c).length := rfl
      have e2 : (ups l).length = ((List.range' 0 (t3 l R t).length).filter (upB (t3 l R t))).length := by rw [← hu3]; rfl
      omega
  · rw [h] at ho
    split at ho
    · cases ho
    cases ho
    exact ⟨c, by rw [win_len]; exact cand_lt hc, by rw [win_gt (cand_lt hc) VL_lt, if_pos rfl]⟩

end Go.Proofs.Ythmhnnppikdafaa.Vm
