import Derived.Test.YtpnpdkgdgfkpfaaGreatDoorSentG
/- Chapter 05: what a cutter does with a byte, in plain Lean. -/
namespace Go.Proofs.YtpnpdkgdgfkpfaaGreatDoor.Vm
set_option linter.unusedVariables false
set_option linter.unusedSimpArgs false

def pf (b : List UInt8) : Option (List (List UInt8)) :=
  if 200 < b.length then none else
  match splitS b with
  | none => none
  | some (body, x, y) => if validB (spl 44 body) = true then (if ((sumB body).toNat : Int) = 16 * hexv x + hexv y then some (spl 44 body) else none) else none

theorem prs_pf (b : List UInt8) : (∃ l, pf b = some l ∧ prs b = (.sl 1 (strsK l), 0)) ∨ (pf b = none ∧ ∃ e, prs b = (.nils, e) ∧ (e = 2 ∨ e = 3 ∨ e = 4)) := by
  unfold pf prs
  by_cases h0 : 200 < b.length
  · rw [if_pos h0, if_pos h0]; exact .inr ⟨rfl, _, rfl, .inl rfl⟩
  · rw [if_neg h0, if_neg h0]
    cases hs : splitS b with
    | none => exact .inr ⟨rfl, _, rfl, .inr (.inl rfl)⟩
    | some p =>
      obtain ⟨body, x, y⟩ := p
      simp only
      by_cases h1 : validB (spl 44 body) = true
      · rw [if_pos h1, if_pos h1]
        by_cases h2 : ((sumB body).toNat : Int) = 16 * hexv x + hexv y
        · rw [if_pos h2, if_pos h2]; exact .inl ⟨_, rfl, rfl⟩
        · rw [if_neg h2, if_neg h2]; exact .inr ⟨rfl, _, rfl, .inr (.inr rfl)⟩
      · rw [if_neg h1, if_neg h1]; exact .inr ⟨rfl, _, rfl, .inr (.inl rfl)⟩

structure Cu where
  rest : List UInt8
  old : Int
  ss : List (List (List UInt8))
  lost : Int

def stp (c : Cu) (b : UInt8) : Cu :=
  bif b == 36 then ⟨[36], 0, c.ss, c.lost + (c.rest.length - c.old)⟩ else
  bif c.rest.isEmpty then ⟨[], c.old, c.ss, c.lost + 1⟩ else
  bif b == 10 then (match pf (c.rest ++ [b]) with
    | some l => ⟨[], 0, c.ss ++ [l], c.lost⟩
    | none => ⟨[], 0, c.ss, c.lost + ((c.rest ++ [b]).length - c.old)⟩)
  else bif leB 200 (c.rest ++ [b]).length then ⟨[], 0, c.ss, c.lost + ((c.rest ++ [b]).length - c.old)⟩
  else ⟨c.rest ++ [b], c.old, c.ss, c.lost⟩

def run (c : Cu) (bs : List UInt8) : Cu := bs.foldl stp c

theorem run_app (c : Cu) (a b : List UInt8) : run c (a ++ b) = run (run c a) b := by unfold run; rw [List.foldl_append]

theorem run_cons (c : Cu) (b : UInt8) (bs : List UInt8) : run c (b :: bs) = run (stp c b) bs := rfl

structure Iv (c : Cu) (n : Nat) : Prop where
  old : 0 ≤ c.old ∧ c.old ≤ c.rest.length
  len : c.rest.length ≤ 199
  lost : 0 ≤ c.lost ∧ c.lost + (c.rest.length - c.old) ≤ n
  ss : c.ss.length ≤ n

theorem Iv.stp {c : Cu} {n : Nat} (h : Iv c n) (b : UInt8) : Iv (stp c b) (n + 1) := by
  obtain ⟨⟨h1, h2⟩, h3, ⟨h4, h5⟩, h6⟩ := h
  unfold Vm.stp
  cases hb : b == 36 with
  | true => exact ⟨⟨by simp, by simp⟩, by simp, ⟨by simp only [cond_true]; omega, by simp only [cond_true, List.length_cons, List.length_nil]; omega⟩, by simp only [cond_true]; omega⟩
  | false =>
    simp only [cond_false]
    cases he : c.rest.isEmpty with
    | true =>
      have : c.rest = [] := by simpa using he
      rw [this] at h2 h5
      simp only [List.length_nil] at h2 h5
      exact ⟨⟨h1, h2⟩, by simp, ⟨by simp only [cond_true]; omega, by simp only [cond_true, List.length_nil]; omega⟩, by simp only [cond_true]; omega⟩
    | false =>
      simp only [cond_false]
      have hl : (c.rest ++ [b]).length = c.rest.length + 1 := by simp
      cases hn : b == 10 with
      | true =>
        simp only [cond_true]
        split
        · exact ⟨⟨by simp, by simp⟩, by simp, ⟨h4, by simp only [List.length_nil]; omega⟩, by simp only [List.length_append, List.length_cons, List.length_nil]; omega⟩
        · exact ⟨⟨by simp, by simp⟩, by simp, ⟨by simp only [hl]; omega, by simp only [hl, List.length_nil]; omega⟩, by simp only; omega⟩
      | false =>
        simp only [cond_false]
        cases hg : leB 200 (c.rest ++ [b]).length with
        | true => exact ⟨⟨by simp, by simp⟩, by simp, ⟨by simp only [cond_true, hl]; omega, by simp only [cond_true, hl, List.length_nil]; omega⟩, by simp only [cond_true]; omega⟩
        | false =>
          have hg : ¬ (200 : Int) ≤ ((c.rest ++ [b]).length : Int) := of_decide_eq_false hg
          rw [hl] at hg
          exact ⟨⟨h1, by simp only [cond_false, hl]; omega⟩, by simp only [cond_false, hl]; omega, ⟨h4, by simp only [cond_false, hl]; omega⟩, by simp only [cond_false]; omega⟩

theorem Iv.run {bs : List UInt8} : ∀ {c : Cu} {n : Nat}, Iv c n → Iv (run c bs) (n + bs.length) := by
  induction bs with
  | nil => intro c n h; exact h
  | cons b bs ih =>
    intro c n h
    have := ih (h.stp b)
    rwa [show n + 1 + bs.length = n + (b :: bs).length by simp; omega] at this

def bg (b : List UInt8) : Bool :=
  match b with
  | [] => false
  | c :: t => c == 36 && leB (t.length + 1 : Nat) 199 && t.all fun x => !(x == 36) && !(x == 10)

def ini (b : List UInt8) : Cu := bif bg b then ⟨b, b.length, [], 0⟩ else ⟨[], 0, [], 0⟩

theorem bg_len {b : List UInt8} (h : bg b = true) : b.length ≤ 199 ∧ b ≠ [] := by
  cases b with
  | nil => cases h
  | cons c t =>
    unfold bg at h
    simp only [Bool.and_eq_true] at h
    have : ((t.length + 1 : Nat) : Int) ≤ 199 := of_decide_eq_true h.1.2
    exact ⟨by simp only [List.length_cons]; omega, by simp⟩

theorem ini_iv (b : List UInt8) : Iv (ini b) 0 := by
  unfold ini
  cases h : bg b with
  | true =>
    have := (bg_len h).1
    exact ⟨⟨by simp, by simp⟩, by simpa using this, ⟨by simp, by simp⟩, by simp⟩
  | false => exact ⟨⟨by simp, by simp⟩, by simp, ⟨by simp, by simp⟩, by simp⟩

def Gd (b : List UInt8) : Prop := b = [] ∨ bg b = true

theorem Gd.ini (b : List UInt8) : Gd (ini b).rest := by
  unfold Vm.ini
  cases h : bg b with
  | true => exact .inr h
  | false => exact .inl rfl

theorem Gd.stp {c : Cu} (h : Gd c.rest) (b : UInt8) : Gd (stp c b).rest := by
  unfold Vm.stp
  cases hb : b == 36 with
  | true => exact .inr (by simp only [cond_true]; decide)
  | false =>
    simp only [cond_false]
    cases he : c.rest.isEmpty with
    | true => exact .inl rfl
    | false =>
      simp only [cond_false]
      cases hn : b == 10 with
      | true =>
        simp only [cond_true]
        split <;> exact .inl rfl
      | false =>
        simp only [cond_false]
        cases hg : leB 200 (c.rest ++ [b]).length with
        | true => exact .inl rfl
        | false =>
          simp only [cond_false]
          right
          rcases h with h | h
          · rw [h] at he; cases he
          · have hg : ¬ (200 : Int) ≤ ((c.rest ++ [b]).length : Int) := of_decide_eq_false hg
            cases hr : c.rest with
            | nil => rw [hr] at he; cases he
            | cons x t =>
              rw [hr] at h hg
              unfold bg at h
              simp only [Bool.and_eq_true] at h
              show (x == 36 && leB ((t ++ [b]).length + 1 : Nat) 199 && (t ++ [b]).all fun x => !(x == 36) && !(x == 10)) = true
              simp only [List.length_append, List.length_cons, List.length_nil] at hg
              rw [h.1.1, List.all_append, h.2]
              have : leB (((t ++ [b]).length + 1 : Nat) : Int) 199 = true := decide_eq_true (by simp only [List.length_append, List.length_cons, List.length_nil]; omega)
              rw [this]
              simp [hb, hn]

theorem Gd.run {bs : List UInt8} : ∀ {c : Cu}, Gd c.rest → Gd (run c bs).rest := by
  induction bs with
  | nil => intro c h; exact h
  | cons b bs ih => intro c h; exact ih (h.stp b)

theorem stp_same {c d : Cu} (h1 : c.rest = d.rest) (b : UInt8) : (stp c b).rest = (stp d b).rest ∧ ∀ a, d.ss = a ++ c.ss → (stp d b).ss = a ++ (stp c b).ss := by
  unfold stp
  rw [h1]
  cases b == 36 with
  | true => exact ⟨rfl, fun a h => h⟩
  | false =>
    simp only [cond_false]
    cases d.rest.isEmpty with
    | true => exact ⟨rfl, fun a h => h⟩
    | false =>
      simp only [cond_false]
      cases b == 10 with
      | true =>
        simp only [cond_true]
        split
        · exact ⟨rfl, fun a h => by simp only [h, List.append_assoc]⟩
        · exact ⟨rfl, fun a h => h⟩
      | false =>
        simp only [cond_false]
        cases leB 200 ((d.rest ++ [b]).length : Int) with
        | true => exact ⟨rfl, fun a h => h⟩
        | false => exact ⟨rfl, fun a h => h⟩

theorem run_same {bs : List UInt8} : ∀ {c d : Cu}, c.rest = d.rest → (run c bs).rest = (run d bs).rest ∧ ∀ a, d.ss = a ++ c.ss → (run d bs).ss = a ++ (run c bs).ss := by
  induction bs with
  | nil => intro c d h; exact ⟨h, fun a h => h⟩
  | cons b bs ih =>
    intro c d h
    obtain ⟨h1, h2⟩ := stp_same h b
    obtain ⟨h3, h4⟩ := ih h1
    exact ⟨h3, fun a ha => h4 a (h2 a ha)⟩

theorem pieces (c : Cu) (h : Gd c.rest) (b : List UInt8) : (run (ini c.rest) b).rest = (run c b).rest ∧ (run c b).ss = c.ss ++ (run (ini c.rest) b).ss := by
  have e : (ini c.rest).rest = c.rest ∧ (ini c.rest).ss = [] := by
    unfold ini
    rcases h with h | h
    · rw [h]; exact ⟨rfl, rfl⟩
    · rw [h]; exact ⟨rfl, rfl⟩
  obtain ⟨h1, h2⟩ := run_same (bs := b) e.1
  exact ⟨h1, h2 c.ss (by rw [e.2, List.append_nil])⟩

theorem run_mid : ∀ (bs : List UInt8) (c : Cu), c.rest ≠ [] → c.rest.length + bs.length ≤ 199 → (∀ b ∈ bs, b ≠ 36 ∧ b ≠ 10) → run c bs = ⟨c.rest ++ bs, c.old, c.ss, c.lost⟩
  | [], c, _, _, _ => by simp [run]
  | b :: bs, c, hne, hl, hb => by
    simp only [List.length_cons] at hl
    obtain ⟨h1, h2⟩ := hb b (by simp)
    have e : stp c b = ⟨c.rest ++ [b], c.old, c.ss, c.lost⟩ := by
      unfold stp
      have a1 : (b == 36) = false := by simpa using h1
      have a2 : (b == 10) = false := by simpa using h2
      have a3 : c.rest.isEmpty = false := by cases hr : c.rest with | nil => exact absurd hr hne | cons => rfl
      have a4 : leB 200 ((c.rest ++ [b]).length : Int) = false := decide_eq_false (by simp only [List.length_append, List.length_cons, List.length_nil]; omega)
      rw [a1, a2, a3, a4]
      rfl
    rw [run_cons, e, run_mid bs _ (by simp) (by simp only [List.length_append, List.length_cons, List.length_nil]; omega) fun x hx => hb x (by simp [hx])]
    simp

theorem run_garb : ∀ (bs : List UInt8) (c : Cu), c.rest = [] → (∀ b ∈ bs, b ≠ 36) → run c bs = ⟨[], c.old, c.ss, c.lost + bs.length⟩
  | [], c, h, _ => by cases c; simp only at h; subst h; simp [run]
  | b :: bs, c, h, hb => by
    have e : stp c b = ⟨[], c.old, c.ss, c.lost + 1⟩ := by
      unfold stp
      have a1 : (b == 36) = false := by simpa using hb b (by simp)
      rw [a1, h]
      rfl
    rw [run_cons, e, run_garb bs _ rfl fun x hx => hb x (by simp [hx])]
    simp only [List.length_cons, Cu.mk.injEq, true_and]
    omega

theorem hexd_no : ∀ n : Nat, n < 16 → hexd n ≠ 36 ∧ hexd n ≠ 10 := by decide +kernel

theorem fld_no2 {s : List UInt8} (h : fldB s = true) : ∀ b ∈ s, b ≠ 36 ∧ b ≠ 10 := by
  intro b hb
  unfold fldB at h
  simp only [Bool.and_eq_true] at h
  have := List.all_eq_true.1 h.2 b hb
  constructor <;> (intro he; subst he; exact absurd this (by decide))

theorem join_no {l : List (List UInt8)} (h : ∀ s ∈ l, ∀ b ∈ s, b ≠ 36 ∧ b ≠ 10) : ∀ b ∈ Lib.join l [44], b ≠ 36 ∧ b ≠ 10 := by
  induction l with
  | nil => intro b hb; simp [Lib.join] at hb
  | cons x r ih =>
    cases r with
    | nil => rw [Lib.join_one]; exact h x (by simp)
    | cons y r =>
      have e : Lib.join (x :: y :: r) [44] = x ++ 44 :: Lib.join (y :: r) [44] := by
        rw [Lib.join_cons, Lib.join_cons]
        simp [Lib.joinTail]
      intro b hb
      rw [e] at hb
      simp only [List.mem_append, List.mem_cons] at hb
      rcases hb with hb | rfl | hb
      · exact h x (by simp) b hb
      · decide
      · exact ih (fun s hs => h s (by simp [hs])) b hb

def tx0 (l : List (List UInt8)) : List UInt8 := (Lib.join l [44]) ++ [42, hexd ((sumB (Lib.join l [44])).toNat / 16), hexd ((sumB (Lib.join l [44])).toNat % 16), 13]

theorem txt_tx0 (l : List (List UInt8)) : txt (Lib.join l [44]) = 36 :: (tx0 l ++ [10]) := by simp [txt, tx0]

theorem tx0_no {l : List (List UInt8)} (h : validB l = true) : ∀ b ∈ tx0 l, b ≠ 36 ∧ b ≠ 10 := by
  have hj := join_no fun s hs => fld_no2 ((valid_ne h).2 s hs)
  have hlt := (sumB (Lib.join l [44])).toNat_lt
  intro b hb
  unfold tx0 at hb
  simp only [List.mem_append, List.mem_cons, List.not_mem_nil, or_false] at hb
  rcases hb with hb | rfl | rfl | rfl | rfl
  · exact hj b hb
  · decide
  · exact hexd_no _ (by omega)
  · exact hexd_no _ (by omega)
  · decide

theorem run_txt {l : List (List UInt8)} (h : validB l = true) (hl : (txt (Lib.join l [44])).length ≤ 200) (c : Cu) : run c (txt (Lib.join l [44])) = ⟨[], 0, c.ss ++ [l], c.lost + (c.rest.length - c.old)⟩ := by
  have hp := prs_txt h hl
  rw [txt_tx0] at hl hp ⊢
  simp only [List.length_cons, List.length_append, List.length_nil] at hl
  have e : stp c 36 = ⟨[36], 0, c.ss, c.lost + (c.rest.length - c.old)⟩ := rfl
  rw [run_cons, e, run_app, run_mid _ _ (by simp) (by simp only [List.length_cons, List.length_nil]; omega) (tx0_no h)]
  have hpf : pf (36 :: (tx0 l ++ [10])) = some l := by
    rcases prs_pf (36 :: (tx0 l ++ [10])) with ⟨l', h1, h2⟩ | ⟨_, e, h2, h3⟩
    · rw [hp] at h2
      have h2 := (Prod.mk.inj h2).1
      have h2 := (PV.sl.inj h2).2
      have : l = l' := by
        have inj : ∀ a b : List (List UInt8), strsK a = strsK b → a = b := by
          intro a
          induction a with
          | nil => intro b h; cases b with | nil => rfl | cons => simp [strsK] at h
          | cons x a ih =>
            intro b h
            cases b with
            | nil => simp [strsK] at h
            | cons y b =>
              simp only [strsK, List.map_cons, List.cons.injEq, PV.str.injEq, and_true] at h
              obtain ⟨h1, h2⟩ := h
              rw [h1, ih b h2]
        exact inj _ _ h2
      subst this; exact h1
    · rw [hp] at h2
      have h2 := (Prod.mk.inj h2).2
      omega
  show stp ⟨[36] ++ tx0 l, 0, c.ss, c.lost + (c.rest.length - c.old)⟩ 10 = _
  unfold stp
  have a1 : ((10 : UInt8) == 36) = false := by decide
  have a2 : ((10 : UInt8) == 10) = true := by decide
  have a3 : ([36] ++ tx0 l).isEmpty = false := rfl
  have a4 : [36] ++ tx0 l ++ [10] = 36 :: (tx0 l ++ [10]) := by simp
  simp only [a1, a2, a3, a4, cond_true, cond_false, hpf]

end Go.Proofs.YtpnpdkgdgfkpfaaGreatDoor.Vm

/- Chapter 05: the contracts of the cutter. -/
namespace Go.Proofs.YtpnpdkgdgfkpfaaGreatDoor.Vm
set_option linter.unusedVariables false
set_option linter.unusedSimpArgs false

def lastR : List UInt8 → UInt8 → Int
  | [], _ => -1
  | x :: r, c => bif x == c then (r.length : Int) else lastR r c

theorem l_last (c : UInt8) (r : List UInt8) : ∀ (post : List UInt8), (r.reverse ++ post).length ≤ 100000 → lp E (denC E) 82 0 [] 0 { vals := [AV.sl 1 (byteEs (r.reverse ++ post)), AV.int .u8 c.toNat, AV.int .i64 ((r.length : Int) - 1)], blks := [] } =
    some (bif lastR r c == -1 then (Ex.exit 0, { vals := [], blks := [] }) else (Ex.ret, { vals := [AV.int .i64 (lastR r c)], blks := [] })) := by
  induction r with
  | nil =>
    intro post h
    rw [r82_0, ctl_dec, if_neg (by simp)]
    rfl
  | cons x r ih =>
    intro post h
    have e1 : (x :: r).reverse ++ post = r.reverse ++ x :: post := by simp
    have e2 : (((x :: r).length : Int) - 1) = (r.reverse.length : Int) := by simp
    rw [e1] at h ⊢
    rw [e2, r82_0, ctl_dec, if_pos (by omega), getE_bytes (by simp <;> omega), Int.toNat_natCast, getD_mid]
    simp only [SB, Nat.reduceAdd]
    rw [b_eq]
    cases hb : x == c with
    | true =>
      have : ((r.length : Int) == -1) = false := by simp <;> omega
      unfold lastR
      rw [hb, ctl_true, cond_true, this, cond_false]
      simp
    | false =>
      rw [ctl_false, w64 (by simp at h ⊢; omega)]
      have := ih (x :: post) h
      rw [show ((r.reverse.length : Int) - 1) = (r.length : Int) - 1 by simp, this]
      unfold lastR
      rw [hb, cond_false]
      cases r with
      | nil => rfl
      | cons y r => rfl

theorem c_LastIndexByte (s : List UInt8) (c : UInt8) (h : s.length ≤ 100000) : denC E 54 [AV.sl 1 (byteEs s), AV.int .u8 c.toNat] [] = some ([RV.p (PV.int .i64 (lastR s.reverse c))], []) := by
  have h0 : denC E 82 [AV.sl 1 (byteEs s), AV.int .u8 c.toNat] [] = some ([RV.p (PV.int .i64 (lastR s.reverse c))], []) := by
    rw [denC_eq, r82, byteEs_length, w64 (by omega)]
    have := l_last c s.reverse [] (by simpa using h)
    simp only [List.reverse_reverse, List.append_nil, List.length_reverse] at this
    rw [this]
    cases hm : lastR s.reverse c == -1 with
    | true => rw [show lastR s.reverse c = -1 from beq_iff_eq.1 hm]; rfl
    | false => simp only [SB, Nat.reduceAdd]
  rw [denC_eq, r54, h0]
  simp only [SB, Nat.reduceAdd]

theorem c_BIndexByte (s : List UInt8) (c : UInt8) (h : s ≠ []) : denC E 55 [AV.sl 1 (byteEs s), AV.int .u8 c.toNat] [] = some ([RV.p (PV.int .i64 (Lib.indexByte s c))], []) := by
  rw [denC_eq]
  have : pBIndexByte [AV.sl 1 (byteEs s), AV.int .u8 c.toNat] = some [RV.p (PV.int .i64 (Lib.indexByte s c))] := by
    unfold pBIndexByte
    have hne : (byteEs s).isEmpty = false := by cases s with | nil => exact absurd rfl h | cons => rfl
    simp only [bytesOk_byteEs, hne, toBytes_byteEs, u8_back]
    rfl
  show (match pBIndexByte [AV.sl 1 (byteEs s), AV.int .u8 c.toNat] with | some rs => some (rs, []) | none => none) = _
  rw [this]

theorem lastR_zero (c x : UInt8) : ∀ r : List UInt8, (lastR (r ++ [x]) c == 0) = (x == c && r.all fun y => !(y == c))
  | [] => by
    show ((bif x == c then ((0 : Nat) : Int) else -1) == 0) = _
    cases x == c <;> rfl
  | y :: r => by
    have ih := lastR_zero c x r
    show ((bif y == c then ((r ++ [x]).length : Int) else lastR (r ++ [x]) c) == 0) = _
    rw [List.all_cons]
    cases hy : y == c with
    | true =>
      have : (((r ++ [x]).length : Int) == 0) = false := by simp <;> omega
      rw [cond_true, this]
      cases x == c <;> rfl
    | false =>
      rw [cond_false, ih]
      rfl

theorem idx_neg (c : UInt8) : ∀ s : List UInt8, ltB (Lib.indexByte s c) 0 = s.all fun y => !(y == c)
  | [] => rfl
  | x :: s => by
    have ih := idx_neg c s
    have hge := Lib.indexByte_ge s c
    have e : Lib.indexByte (x :: s) c = if (x == c) = true then 0 else if (Lib.indexByte s c == -1) = true then -1 else Lib.indexByte s c + 1 := rfl
    rw [List.all_cons, ← ih, e]
    cases hx : x == c with
    | true => rfl
    | false =>
      simp only [Bool.false_eq_true, if_false, Bool.not_false, Bool.true_and]
      cases hm : (Lib.indexByte s c == -1) with
      | true => rw [beq_iff_eq.1 hm]; rfl
      | false =>
        have := (beq_eq_false_iff_ne).1 hm
        simp only [Bool.false_eq_true, if_false]
        rw [show ltB (Lib.indexByte s c + 1) 0 = false from decide_eq_false (by omega), show ltB (Lib.indexByte s c) 0 = false from decide_eq_false (by omega)]

theorem all_two : ∀ t : List UInt8, (t.all fun y => !(y == 36) && !(y == 10)) = ((t.all fun y => !(y == 36)) && (t.all fun y => !(y == 10)))
  | [] => rfl
  | a :: t => by
    simp only [List.all_cons]
    rw [all_two t]
    cases a == 36 <;> cases a == 10 <;> simp

theorem c_begun (b : List UInt8) (h : b.length ≤ 100000) : denC E 26 [AV.sl 1 (byteEs b)] [] = some ([RV.p (PV.bool (bg b))], []) := by
  rw [denC_eq, r26]
  cases b with
  | nil => rfl
  | cons x t =>
    have e36 : (AV.int IntKind.u8 36) = AV.int .u8 ((36 : UInt8).toNat : Int) := rfl
    have e10 : (AV.int IntKind.u8 10) = AV.int .u8 ((10 : UInt8).toNat : Int) := rfl
    have h1 : ltB 0 ((byteEs (x :: t)).length : Int) = true := decide_eq_true (by rw [byteEs_length]; simp <;> omega)
    rw [h1, e36, e10, c_LastIndexByte _ _ h, c_BIndexByte _ _ (by simp)]
    simp only [SB, Nat.reduceAdd]
    rw [List.reverse_cons, lastR_zero, idx_neg]
    have h2 : ltB ((byteEs (x :: t)).length : Int) 200 = leB ((t.length + 1 : Nat) : Int) 199 := by
      rw [byteEs_length]
      by_cases hl : ((t.length + 1 : Nat) : Int) ≤ 199
      · rw [show leB ((t.length + 1 : Nat) : Int) 199 = true from decide_eq_true hl]; exact decide_eq_true (by simp only [List.length_cons]; omega)
      · rw [show leB ((t.length + 1 : Nat) : Int) 199 = false from decide_eq_false hl]; exact decide_eq_false (by simp only [List.length_cons]; omega)
    rw [h2]
    have hbg : bg (x :: t) = (x == 36 && leB ((t.length + 1 : Nat) : Int) 199 && t.all fun y => !(y == 36) && !(y == 10)) := rfl
    rw [hbg, all_two, List.all_reverse, List.all_cons]
    cases hl : leB ((t.length + 1 : Nat) : Int) 199 with
    | false => simp [ctl]
    | true =>
      cases hx : x == 36 with
      | false => simp [ctl]
      | true =>
        have hx10 : (x == 10) = false := by rw [beq_iff_eq.1 hx]; decide
        rw [hx10]
        cases t.all fun y => !(y == 36) <;> simp [ctl]

def fldK (ss : List (List (List UInt8))) : List (List PV) := ss.map fun l => [PV.sl 1 (strsK l)]

theorem fldK_length (ss : List (List (List UInt8))) : (fldK ss).length = ss.length := by simp [fldK]

theorem fldK_snoc (ss : List (List (List UInt8))) (l : List (List UInt8)) : fldK ss ++ [[PV.sl 1 (strsK l)]] = fldK (ss ++ [l]) := by simp [fldK]

theorem byteEs_snoc (s : List UInt8) (b : UInt8) : byteEs s ++ [[PV.int .u8 (b.toNat : Int)]] = byteEs (s ++ [b]) := by simp [byteEs]

theorem b36 (b : UInt8) : ((b.toNat : Int) == 36) = (b == 36) := b_eq b 36

theorem b10 (b : UInt8) : ((b.toNat : Int) == 10) = (b == 10) := b_eq b 10

theorem len0 (s : List UInt8) : ((s.length : Int) == 0) = s.isEmpty := by cases s <;> simp <;> omega

theorem l_SFeed (z : List (List PV)) (l : List UInt8) : ∀ (pre : List UInt8) (c : Cu), (pre ++ l).length ≤ 100000 → Iv c pre.length →
    lp E (denC E) 12 0 [] 0 { vals := [AV.sl 1 (byteEs (pre ++ l)), AV.int .i64 (pre ++ l).length, AV.int .i64 pre.length], blks := [Blk.box [AV.sl 1 z], Blk.box [AV.t (TV.hsl 2), AV.int .i64 c.old, AV.t (TV.hsl 3), AV.int .i64 c.lost], Blk.arr 1 (byteEs c.rest), Blk.arr 1 (fldK c.ss)] } =
    some (Ex.exit 0, { vals := [], blks := [Blk.box [AV.sl 1 z], Blk.box [AV.t (TV.hsl 2), AV.int .i64 (run c l).old, AV.t (TV.hsl 3), AV.int .i64 (run c l).lost], Blk.arr 1 (byteEs (run c l).rest), Blk.arr 1 (fldK (run c l).ss)] }) := by
  induction l with
  | nil =>
    intro pre c h hI
    rw [r12_0, ctl_dec, if_neg (by simp)]
    rfl
  | cons b l ih =>
    intro pre c h hI
    have hn : pre.length ≤ 99999 := by simp at h; omega
    have hI' := hI.stp b
    obtain ⟨⟨h1, h2⟩, h3, ⟨h4, h5⟩, h6⟩ := hI
    have ih' := ih (pre ++ [b]) (stp c b) (by simpa using h) (by simpa using hI')
    rw [run_cons, r12_0, ctl_dec, if_pos (by simp <;> omega), getE_bytes (by simp <;> omega), Int.toNat_natCast, getD_mid]
    simp only [SB, Nat.reduceAdd]
    rw [b36, b10, w64 (n := (pre.length : Int) + 1) (by omega), byteEs_length, fldK_length, len0, len_snoc pre b]
    rw [w64 (n := (c.rest.length : Int) - c.old) (by omega), w64 (n := c.lost + ((c.rest.length : Int) - c.old)) (by omega), w64 (n := c.lost + 1) (by omega)]
    rw [app_cons]
    unfold stp at ih' ⊢
    cases hb : b == 36 with
    | true =>
      have hb' := beq_iff_eq.1 hb
      have h10 : (b == 10) = false := by rw [hb']; decide
      rw [hb, cond_true] at ih'
      rw [h10, ctl_true, ctl_false, cond_true]
      rw [hb']
      rw [hb'] at ih'
      exact ih'
    | false =>
      rw [hb, cond_false] at ih'
      rw [ctl_false, cond_false]
      cases he : c.rest.isEmpty with
      | true =>
        have : c.rest = [] := by simpa using he
        rw [he, cond_true] at ih'
        rw [ctl_true, cond_true, this]
        exact ih'
      | false =>
        rw [he, cond_false] at ih'
        have a1 : leN ((c.rest.length + 1) * 1) 140737488355328 = true := decide_eq_true (by omega)
        have a2 : leN ((c.ss.length + 1) * 24) 140737488355328 = true := decide_eq_true (by omega)
        have a3 : (c.rest ++ [b]).length = c.rest.length + 1 := by simp
        rw [ctl_false, cond_false, a1, ctl_true, byteEs_snoc, byteEs_length]
        rw [w64 (n := ((c.rest ++ [b]).length : Int) - c.old) (by rw [a3]; omega), w64 (n := c.lost + (((c.rest ++ [b]).length : Int) - c.old)) (by rw [a3]; omega)]
        cases hn : b == 10 with
        | true =>
          rw [hn, cond_true] at ih'
          rw [ctl_true, cond_true, c_Parse _ (by rw [a3]; omega)]
          rcases prs_pf (c.rest ++ [b]) with ⟨f, hf, hp⟩ | ⟨hf, e, hp, he4⟩
          · rw [hf] at ih' ⊢
            rw [hp]
            simp only [SB, Nat.reduceAdd]
            rw [show ((0 : Int) == 0) = true from rfl, ctl_true, a2, ctl_true, fldK_snoc, show c.lost + 0 = c.lost by omega, w64 (by omega)]
            exact ih'
          · rw [hf] at ih' ⊢
            rw [hp]
            simp only [SB, Nat.reduceAdd]
            rw [show (e == 0) = false by rcases he4 with rfl | rfl | rfl <;> rfl, ctl_false]
            exact ih'
        | false =>
          rw [hn, cond_false] at ih'
          rw [ctl_false, cond_false]
          cases hg : leB 200 ((c.rest ++ [b]).length : Int) with
          | true =>
            rw [hg, cond_true] at ih'
            rw [ctl_true, cond_true]
            exact ih'
          | false =>
            rw [hg, cond_false] at ih'
            rw [ctl_false, cond_false]
            exact ih'

theorem c_SFeed (f b : List UInt8) (h1 : f.length ≤ 100000) (h2 : b.length ≤ 100000) : denC E 12 [AV.agg [PV.sl 1 (byteEs f)], AV.sl 1 (byteEs b)] [] =
    some ([RV.agg [PV.sl 1 (byteEs (run (ini f) b).rest)], RV.p (PV.sl 1 (fldK (run (ini f) b).ss)), RV.p (PV.int .i64 (run (ini f) b).lost)], []) := by
  rw [denC_eq, r12, c_begun f h1]
  simp only [SB, Nat.reduceAdd]
  have hl := l_SFeed [] b [] (ini f) (by simpa using h2) (ini_iv f)
  simp only [List.nil_append, List.length_nil] at hl
  cases hg : bg f with
  | true =>
    obtain ⟨g1, g2⟩ := bg_len hg
    have hi : ini f = ⟨f, f.length, [], 0⟩ := by unfold ini; rw [hg]; rfl
    rw [hi] at hl ⊢
    have hcl : denC E 27 [AV.sl 1 (byteEs f)] [] = some ([RV.own 1 (byteEs f)], []) := by
      cases f with
      | nil => exact absurd rfl g2
      | cons x t =>
        rw [denC_eq]
        show funK E (denC E) 27 [AV.sl 1 ([PV.int .u8 x.toNat] :: byteEs t)] [] = _
        rw [r27c]
        have : leN ((0 + ([PV.int IntKind.u8 (x.toNat : Int)] :: byteEs t).length) * 1) 140737488355328 = true := decide_eq_true (by
          have := byteEs_length t
          simp only [List.length_cons] at h1 ⊢
          omega)
        rw [this]
        rfl
    rw [ctl_true, hcl]
    simp only [SB, Nat.reduceAdd]
    rw [byteEs_length, byteEs_length]
    simp only [Int.natCast_zero] at hl
    rw [show fldK [] = [] from rfl] at hl
    rw [hl]
    simp only [SB, Nat.reduceAdd]
  | false =>
    have hi : ini f = ⟨[], 0, [], 0⟩ := by unfold ini; rw [hg]; rfl
    rw [hi] at hl ⊢
    simp only [Int.natCast_zero] at hl
    rw [ctl_false, byteEs_length]
    rw [show fldK [] = [] from rfl, show byteEs [] = [] from rfl] at hl
    rw [hl]
    simp only [SB, Nat.reduceAdd]

theorem c_SAll (b : List UInt8) (h2 : b.length ≤ 100000) : denC E 41 [AV.sl 1 (byteEs b)] [] =
    some ([RV.p (PV.sl 1 (fldK (run ⟨[], 0, [], 0⟩ b).ss)), RV.p (PV.int .i64 (run ⟨[], 0, [], 0⟩ b).lost)], []) := by
  rw [denC_eq, r41]
  have := c_SFeed [] b (by simp) h2
  rw [show (byteEs ([] : List UInt8)) = [] from rfl, show ini [] = ⟨[], 0, [], 0⟩ from rfl] at this
  rw [this]
  simp only [SB, Nat.reduceAdd]

end Go.Proofs.YtpnpdkgdgfkpfaaGreatDoor.Vm
