/- Chapter 05: what a cutter does with a byte, in plain Lean. -/
import Derived.Test.YtmlhemkadoadaaaDoorSentG
namespace Go.Proofs.YtmlhemkadoadaaaDoor.Vm
set_option linter.unusedVariables false
set_option linter.unusedSimpArgs false

/-- The fields of a text. -/
def pf (b : List UInt8) : Option (List (List UInt8)) :=
  if 200 < b.length then none else
  match splitS b with
  | none => none
  | some (body, x, y) => if validB (spl 44 body) = true then (if ((sumB body).toNat : Int) = 16 * hexv x + hexv y then some (spl 44 body) else none) else none

theorem prs_pf (b : List UInt8) : (∃ l, pf b = some l ∧ prs b = (.sl 1 (strsK l), 0)) ∨ (pf b = none ∧ ∃ e, prs b = (.nils, e) ∧ (e = 2 ∨ e = 3 ∨ e = 4)) := by
  unfold pf prs
  by_cases h0 : 200 < b.length
  · rw [if_pos h0, if_pos h0]; exact .inr ⟨rfl, _, rfl, .inl rfl⟩
  · rw [if_neg h0, if_neg h0]
    cases hs : splitS b with
    | none => exact .inr ⟨rfl, _, rfl, .inr (.inl rfl)⟩
    | some p =>
      obtain ⟨body, x, y⟩ := p
      simp only
      by_cases h1 : validB (spl 44 body) = true
      · rw [if_pos h1, if_pos h1]
        by_cases h2 : ((sumB body).toNat : Int) = 16 * hexv x + hexv y
        · rw [if_pos h2, if_pos h2]; exact .inl ⟨_, rfl, rfl⟩
        · rw [if_neg h2, if_neg h2]; exact .inr ⟨rfl, _, rfl, .inr (.inr rfl)⟩
      · rw [if_neg h1, if_neg h1]; exact .inr ⟨rfl, _, rfl, .inr (.inl rfl)⟩

structure Cu where
  rest : List UInt8
  old : Int
  ss : List (List (List UInt8))
  lost : Int

/-- A byte. -/
def stp (c : Cu) (b : UInt8) : Cu :=
  bif b == 36 then ⟨[36], 0, c.ss, c.lost + (c.rest.length - c.old)⟩ else
  bif c.rest.isEmpty then ⟨[], c.old, c.ss, c.lost + 1⟩ else
  bif b == 10 then (match pf (c.rest ++ [b]) with
    | some l => ⟨[], 0, c.ss ++ [l], c.lost⟩
    | none => ⟨[], 0, c.ss, c.lost + ((c.rest ++ [b]).length - c.old)⟩)
  else bif leB 200 (c.rest ++ [b]).length then ⟨[], 0, c.ss, c.lost + ((c.rest ++ [b]).length - c.old)⟩
  else ⟨c.rest ++ [b], c.old, c.ss, c.lost⟩

def run (c : Cu) (bs : List UInt8) : Cu := bs.foldl stp c
theorem run_app (c : Cu) (a b : List UInt8) : run c (a ++ b) = run (run c a) b := by unfold run; rw [List.foldl_append]
theorem run_cons (c : Cu) (b : UInt8) (bs : List UInt8) : run c (b :: bs) = run (stp c b) bs := rfl
theorem run_nil (c : Cu) : run c [] = c := rfl

/-- What holds of a cutter that has read n bytes. -/
structure Iv (c : Cu) (n : Nat) : Prop where
  old : 0 ≤ c.old ∧ c.old ≤ c.rest.length
  len : c.rest.length ≤ 199
  lost : 0 ≤ c.lost ∧ c.lost + (c.rest.length - c.old) ≤ n
  ss : c.ss.length ≤ n

theorem Iv.stp {c : Cu} {n : Nat} (h : Iv c n) (b : UInt8) : Iv (stp c b) (n + 1) := by
  obtain ⟨⟨h1, h2⟩, h3, ⟨h4, h5⟩, h6⟩ := h
  unfold Vm.stp
  cases hb : b == 36 with
  | true => exact ⟨⟨by simp, by simp⟩, by simp, ⟨by simp only [cond_true]; omega, by simp only [cond_true, List.length_cons, List.length_nil]; omega⟩, by simp only [cond_true]; omega⟩
  | false =>
    simp only [cond_false]
    cases he : c.rest.isEmpty with
    | true =>
      have : c.rest = [] := by simpa using he
      rw [this] at h2 h5
      simp only [List.length_nil] at h2 h5
      exact ⟨⟨h1, h2⟩, by simp, ⟨by simp only [cond_true]; omega, by simp only [cond_true, List.length_nil]; omega⟩, by simp only [cond_true]; omega⟩
    | false =>
      simp only [cond_false]
      have hl : (c.rest ++ [b]).length = c.rest.length + 1 := by simp
      cases hn : b == 10 with
      | true =>
        simp only [cond_true]
        split
        · exact ⟨⟨by simp, by simp⟩, by simp, ⟨h4, by simp only [List.length_nil]; omega⟩, by simp only [List.length_append, List.length_cons, List.length_nil]; omega⟩
        · exact ⟨⟨by simp, by simp⟩, by simp, ⟨by simp only [hl]; omega, by simp only [hl, List.length_nil]; omega⟩, by simp only; omega⟩
      | false =>
        simp only [cond_false]
        cases hg : leB 200 (c.rest ++ [b]).length with
        | true => exact ⟨⟨by simp, by simp⟩, by simp, ⟨by simp only [cond_true, hl]; omega, by simp only [cond_true, hl, List.length_nil]; omega⟩, by simp only [cond_true]; omega⟩
        | false =>
          have hg : ¬ (200 : Int) ≤ ((c.rest ++ [b]).length : Int) := of_decide_eq_false hg
          rw [hl] at hg
          exact ⟨⟨h1, by simp only [cond_false, hl]; omega⟩, by simp only [cond_false, hl]; omega, ⟨h4, by simp only [cond_false, hl]; omega⟩, by simp only [cond_false]; omega⟩

theorem Iv.run {bs : List UInt8} : ∀ {c : Cu} {n : Nat}, Iv c n → Iv (run c bs) (n + bs.length) := by
  induction bs with
  | nil => intro c n h; exact h
  | cons b bs ih =>
    intro c n h
    have := ih (h.stp b)
    rwa [show n + 1 + bs.length = n + (b :: bs).length by simp; omega] at this

/-- May it be the beginning of a text? -/
def bg (b : List UInt8) : Bool :=
  match b with
  | [] => false
  | c :: t => c == 36 && leB (t.length + 1 : Nat) 199 && t.all fun x => !(x == 36) && !(x == 10)

def ini (b : List UInt8) : Cu := bif bg b then ⟨b, b.length, [], 0⟩ else ⟨[], 0, [], 0⟩
theorem bg_len {b : List UInt8} (h : bg b = true) : b.length ≤ 199 ∧ b ≠ [] := by
  cases b with
  | nil => cases h
  | cons c t =>
    unfold bg at h
    simp only [Bool.and_eq_true] at h
    have : ((t.length + 1 : Nat) : Int) ≤ 199 := of_decide_eq_true h.1.2
    exact ⟨by simp only [List.length_cons]; omega, by simp⟩
theorem ini_iv (b : List UInt8) : Iv (ini b) 0 := by
  unfold ini
  cases h : bg b with
  | true =>
    have := (bg_len h).1
    exact ⟨⟨by simp, by simp⟩, by simpa using this, ⟨by simp, by simp⟩, by simp⟩
  | false => exact ⟨⟨by simp, by simp⟩, by simp, ⟨by simp, by simp⟩, by simp⟩

/-- What is kept may be the beginning of a text, or is nothing. -/
def Gd (b : List UInt8) : Prop := b = [] ∨ bg b = true
theorem Gd.ini (b : List UInt8) : Gd (ini b).rest := by
  unfold Vm.ini
  cases h : bg b with
  | true => exact .inr h
  | false => exact .inl rfl
theorem Gd.stp {c : Cu} (h : Gd c.rest) (b : UInt8) : Gd (stp c b).rest := by
  unfold Vm.stp
  cases hb : b == 36 with
  | true => exact .inr (by simp only [cond_true]; decide)
  | false =>
    simp only [cond_false]
    cases he : c.rest.isEmpty with
    | true => exact .inl rfl
    | false =>
      simp only [cond_false]
      cases hn : b == 10 with
      | true =>
        simp only [cond_true]
        split <;> exact .inl rfl
      | false =>
        simp only [cond_false]
        cases hg : leB 200 (c.rest ++ [b]).length with
        | true => exact .inl rfl
        | false =>
          simp only [cond_false]
          right
          rcases h with h | h
          · rw [h] at he; cases he
          · have hg : ¬ (200 : Int) ≤ ((c.rest ++ [b]).length : Int) := of_decide_eq_false hg
            cases hr : c.rest with
            | nil => rw [hr] at he; cases he
            | cons x t =>
              rw [hr] at h hg
              unfold bg at h
              simp only [Bool.and_eq_true] at h
              show (x == 36 && leB ((t ++ [b]).length + 1 : Nat) 199 && (t ++ [b]).all fun x => !(x == 36) && !(x == 10)) = true
              simp only [List.length_append, List.length_cons, List.length_nil] at hg
              rw [h.1.1, List.all_append, h.2]
              have : leB (((t ++ [b]).length + 1 : Nat) : Int) 199 = true := decide_eq_true (by simp only [List.length_append, List.length_cons, List.length_nil]; omega)
              rw [this]
              simp [hb, hn]
theorem Gd.run {bs : List UInt8} : ∀ {c : Cu}, Gd c.rest → Gd (run c bs).rest := by
  induction bs with
  | nil => intro c h; exact h
  | cons b bs ih => intro c h; exact ih (h.stp b)

/-- What is kept, and what is found, do not hang on the counts. -/
theorem stp_same {c d : Cu} (h1 : c.rest = d.rest) (b : UInt8) : (stp c b).rest = (stp d b).rest ∧ ∀ a, d.ss = a ++ c.ss → (stp d b).ss = a ++ (stp c b).ss := by
  unfold stp
  rw [h1]
  cases b == 36 with
  | true => exact ⟨rfl, fun a h => h⟩
  | false =>
    simp only [cond_false]
    cases d.rest.isEmpty with
    | true => exact ⟨rfl, fun a h => h⟩
    | false =>
      simp only [cond_false]
      cases b == 10 with
      | true =>
        simp only [cond_true]
        split
        · exact ⟨rfl, fun a h => by simp only [h, List.append_assoc]⟩
        · exact ⟨rfl, fun a h => h⟩
      | false =>
        simp only [cond_false]
        cases leB 200 ((d.rest ++ [b]).length : Int) with
        | true => exact ⟨rfl, fun a h => h⟩
        | false => exact ⟨rfl, fun a h => h⟩
theorem run_same {bs : List UInt8} : ∀ {c d : Cu}, c.rest = d.rest → (run c bs).rest = (run d bs).rest ∧ ∀ a, d.ss = a ++ c.ss → (run d bs).ss = a ++ (run c bs).ss := by
  induction bs with
  | nil => intro c d h; exact ⟨h, fun a h => h⟩
  | cons b bs ih =>
    intro c d h
    obtain ⟨h1, h2⟩ := stp_same h b
    obtain ⟨h3, h4⟩ := ih h1
    exact ⟨h3, fun a ha => h4 a (h2 a ha)⟩

/-- A piece, and then another one. -/
theorem pieces (c : Cu) (h : Gd c.rest) (b : List UInt8) : (run (ini c.rest) b).rest = (run c b).rest ∧ (run c b).ss = c.ss ++ (run (ini c.rest) b).ss := by
  have e : (ini c.rest).rest = c.rest ∧ (ini c.rest).ss = [] := by
    unfold ini
    rcases h with h | h
    · rw [h]; exact ⟨rfl, rfl⟩
    · rw [h]; exact ⟨rfl, rfl⟩
  obtain ⟨h1, h2⟩ := run_same (bs := b) e.1
  exact ⟨h1, h2 c.ss (by rw [e.2, List.append_nil])⟩

/-- Bytes without '$' and '\n' behind a beginning. -/
theorem run_mid : ∀ (bs : List UInt8) (c : Cu), c.rest ≠ [] → c.rest.length + bs.length ≤ 199 → (∀ b ∈ bs, b ≠ 36 ∧ b ≠ 10) → run c bs = ⟨c.rest ++ bs, c.old, c.ss, c.lost⟩
  | [], c, _, _, _ => by simp [run]
  | b :: bs, c, hne, hl, hb => by
    simp only [List.length_cons] at hl
    obtain ⟨h1, h2⟩ := hb b (by simp)
    have e : stp c b = ⟨c.rest ++ [b], c.old, c.ss, c.lost⟩ := by
      unfold stp
      have a1 : (b == 36) = false := by simpa using h1
      have a2 : (b == 10) = false := by simpa using h2
      have a3 : c.rest.isEmpty = false := by cases hr : c.rest with | nil => exact absurd hr hne | cons => rfl
      have a4 : leB 200 ((c.rest ++ [b]).length : Int) = false := decide_eq_false (by simp only [List.length_append, List.length_cons, List.length_nil]; omega)
      rw [a1, a2, a3, a4]
      rfl
    rw [run_cons, e, run_mid bs _ (by simp) (by simp only [List.length_append, List.length_cons, List.length_nil]; omega) fun x hx => hb x (by simp [hx])]
    simp

/-- Bytes that begin nothing. -/
theorem run_garb : ∀ (bs : List UInt8) (c : Cu), c.rest = [] → (∀ b ∈ bs, b ≠ 36) → run c bs = ⟨[], c.old, c.ss, c.lost + bs.length⟩
  | [], c, h, _ => by cases c; simp only at h; subst h; simp [run]
  | b :: bs, c, h, hb => by
    have e : stp c b = ⟨[], c.old, c.ss, c.lost + 1⟩ := by
      unfold stp
      have a1 : (b == 36) = false := by simpa using hb b (by simp)
      rw [a1, h]
      rfl
    rw [run_cons, e, run_garb bs _ rfl fun x hx => hb x (by simp [hx])]
    simp only [List.length_cons, Cu.mk.injEq, true_and]
    omega

/-! ### A whole text -/
theorem hexd_no : ∀ n : Nat, n < 16 → hexd n ≠ 36 ∧ hexd n ≠ 10 := by decide +kernel
theorem fld_no2 {s : List UInt8} (h : fldB s = true) : ∀ b ∈ s, b ≠ 36 ∧ b ≠ 10 := by
  intro b hb
  unfold fldB at h
  simp only [Bool.and_eq_true] at h
  have := List.all_eq_true.1 h.2 b hb
  constructor <;> (intro he; subst he; exact absurd this (by decide))
theorem join_no {l : List (List UInt8)} (h : ∀ s ∈ l, ∀ b ∈ s, b ≠ 36 ∧ b ≠ 10) : ∀ b ∈ Lib.join l [44], b ≠ 36 ∧ b ≠ 10 := by
  induction l with
  | nil => intro b hb; simp [Lib.join] at hb
  | cons x r ih =>
    cases r with
    | nil => rw [Lib.join_one]; exact h x (by simp)
    | cons y r =>
      have e : Lib.join (x :: y :: r) [44] = x ++ 44 :: Lib.join (y :: r) [44] := by
        rw [Lib.join_cons, Lib.join_cons]
        simp [Lib.joinTail]
      intro b hb
      rw [e] at hb
      simp only [List.mem_append, List.mem_cons] at hb
      rcases hb with hb | rfl | hb
      · exact h x (by simp) b hb
      · decide
      · exact ih (fun s hs => h s (by simp [hs])) b hb

/-- All of a text but its last byte. -/
def tx0 (l : List (List UInt8)) : List UInt8 := (Lib.join l [44]) ++ [42, hexd ((sumB (Lib.join l [44])).toNat / 16), hexd ((sumB (Lib.join l [44])).toNat % 16), 13]
theorem txt_tx0 (l : List (List UInt8)) : txt (Lib.join l [44]) = 36 :: (tx0 l ++ [10]) := by simp [txt, tx0]
theorem tx0_no {l : List (List UInt8)} (h : validB l = true) : ∀ b ∈ tx0 l, b ≠ 36 ∧ b ≠ 10 := by
  have hj := join_no fun s hs => fld_no2 ((valid_ne h).2 s hs)
  have hlt := (sumB (Lib.join l [44])).toNat_lt
  intro b hb
  unfold tx0 at hb
  simp only [List.mem_append, List.mem_cons, List.not_mem_nil, or_false] at hb
  rcases hb with hb | rfl | rfl | rfl | rfl
  · exact hj b hb
  · decide
  · exact hexd_no _ (by omega)
  · exact hexd_no _ (by omega)
  · decide

theorem run_txt {l : List (List UInt8)} (h : validB l = true) (hl : (txt (Lib.join l [44])).length ≤ 200) (c : Cu) : run c (txt (Lib.join l [44])) = ⟨[], 0, c.ss ++ [l], c.lost + (c.rest.length - c.old)⟩ := by
  have hp := prs_txt h hl
  rw [txt_tx0] at hl hp ⊢
  simp only [List.length_cons, List.length_append, List.length_nil] at hl
  have e : stp c 36 = ⟨[36], 0, c.ss, c.lost + (c.rest.length - c.old)⟩ := rfl
  rw [run_cons, e, run_app, run_mid _ _ (by simp) (by simp only [List.length_cons, List.length_nil]; omega) (tx0_no h)]
  have hpf : pf (36 :: (tx0 l ++ [10])) = some l := by
    rcases prs_pf (36 :: (tx0 l ++ [10])) with ⟨l', h1, h2⟩ | ⟨_, e, h2, h3⟩
    · rw [hp] at h2
      have h2 := (Prod.mk.inj h2).1
      have h2 := (PV.sl.inj h2).2
      have : l = l' := by
        have inj : ∀ a b : List (List UInt8), strsK a = strsK b → a = b := by
          intro a
          induction a with
          | nil => intro b h; cases b with | nil => rfl | cons => simp [strsK] at h
          | cons x a ih =>
            intro b h
            cases b with
            | nil => simp [strsK] at h
            | cons y b =>
              simp only [strsK, List.map_cons, List.cons.injEq, PV.str.injEq, and_true] at h
              obtain ⟨h1, h2⟩ := h
              rw [h1, ih b h2]
        exact inj _ _ h2
      subst this; exact h1
    · rw [hp] at h2
      have h2 := (Prod.mk.inj h2).2
      omega
  show stp ⟨[36] ++ tx0 l, 0, c.ss, c.lost + (c.rest.length - c.old)⟩ 10 = _
  unfold stp
  have a1 : ((10 : UInt8) == 36) = false := by decide
  have a2 : ((10 : UInt8) == 10) = true := by decide
  have a3 : ([36] ++ tx0 l).isEmpty = false := rfl
  have a4 : [36] ++ tx0 l ++ [10] = 36 :: (tx0 l ++ [10]) := by simp
  simp only [a1, a2, a3, a4, cond_true, cond_false, hpf]

end Go.Proofs.YtmlhemkadoadaaaDoor.Vm
