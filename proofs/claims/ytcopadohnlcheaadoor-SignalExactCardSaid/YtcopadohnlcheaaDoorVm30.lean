/- The abstract machine, part 30: code. -/
import Derived.Test.YtcopadohnlcheaaDoorVm29
namespace Go.Proofs.YtcopadohnlcheaaDoor.Vm
set_option linter.unusedVariables false
set_option linter.unusedSimpArgs false

theorem Ex.eqb_iff : ∀ {a b : Ex}, Ex.eqb a b = true ↔ a = b
  | .nrm, .nrm => by simp [Ex.eqb]
  | .exit i, .exit j => by simp [Ex.eqb]
  | .ret, .ret => by simp [Ex.eqb]
  | .nrm, .exit _ => by simp [Ex.eqb]
  | .nrm, .ret => by simp [Ex.eqb]
  | .exit _, .nrm => by simp [Ex.eqb]
  | .exit _, .ret => by simp [Ex.eqb]
  | .ret, .nrm => by simp [Ex.eqb]
  | .ret, .exit _ => by simp [Ex.eqb]

def exOf : Ex → Exit
  | .nrm => .normal
  | .exit i => .exit i
  | .ret => .ret

theorem packEx_some {m : Nat} {p : Ex × Pack} : ∀ {exs : List (Ex × Ann)} {e : Ex} {st : St}, packEx m exs some e st = some p → p.1 = e ∧ ∃ an, packK m an st some = some p.2 ∧
    ∀ {α : Type} {nt : Nat} {K : Ex → St → Option α} {r : α}, unpackEx nt exs p K = some r → unpackK nt an p.2 (K e) = some r
  | [], _, _, h => by cases h
  | (x, an) :: l, e, st, h => by
    simp only [packEx] at h
    rcases ctl_or h with ⟨hb, h⟩ | ⟨hb, h⟩
    · have hex := Ex.eqb_iff.1 hb
      subst hex
      have hn := (packK_nat m an st some fun pk => some (e, pk)).trans h
      obtain ⟨pk, h1, h2⟩ := Option.bind_eq_some_iff.1 hn
      cases h2
      refine ⟨rfl, an, h1, fun hu => ?_⟩
      simp only [unpackEx] at hu
      have : Ex.eqb e e = true := Ex.eqb_iff.2 rfl
      rw [this] at hu
      exact hu
    · obtain ⟨h1, an', h2, h3⟩ := packEx_some h
      refine ⟨h1, an', h2, fun hu => h3 ?_⟩
      simp only [unpackEx, h1, hb] at hu
      exact hu

theorem least {p : Nat → Prop} (h : ∃ n, p n) : ∃ n, p n ∧ ∀ k, p k → n ≤ k := by
  obtain ⟨n, hn⟩ := h
  induction n using Nat.strongRecOn with
  | _ n ih =>
    rcases Classical.em (∃ k, k < n ∧ p k) with ⟨k, h1, h2⟩ | h
    · exact ih k h1 h2
    · exact ⟨n, hn, fun k hk => Nat.not_lt.1 fun hlt => h ⟨k, hlt, hk⟩⟩

/-- A loop that ends after so many rounds. -/
theorem wp_loop_n {P : Program} {Q : Exit → Act → World → Prop} {c : Code} (I : Nat → Act → World → Prop) {a : Act} {w : World} (n : Nat) (h : I n a w)
    (round : ∀ n a w, I n a w → c.wp P (Exit.then (fun a' w' => ∃ k, k < n ∧ I k a' w') Q) a w) : (Code.loop c).wp P Q a w := by
  classical
  refine wp_loop (fun a w => ∃ n, I n a w) (fun a w => if h : ∃ n, I n a w then Classical.choose (least h) else 0) ⟨n, h⟩ fun a w hI => ?_
  have hsp := Classical.choose_spec (least hI)
  refine wp_mono (round _ a w hsp.1) fun e a' w' hq => ?_
  cases e with
  | normal =>
    obtain ⟨k, hk, hIk⟩ := hq
    refine ⟨⟨k, hIk⟩, ?_⟩
    show (if h : ∃ n, I n a' w' then Classical.choose (least h) else 0) < (if h : ∃ n, I n a w then Classical.choose (least h) else 0)
    rw [dif_pos ⟨k, hIk⟩, dif_pos hI]
    exact Nat.lt_of_le_of_lt ((Classical.choose_spec (least (p := fun n => I n a' w') ⟨k, hIk⟩)).2 k hIk) hk
  | exit id => exact hq
  | goto l => exact hq
  | ret => exact hq
  | panic ch => exact hq
  | outgrown => exact hq

theorem denK_sound {fx : Fx} (hE : okFns fx.E = true) (hF : FSound fx.E fx.F) (hm : fx.E.P.follows .mixedOrders = true) {C0 : Ctx} (hm0 : C0.h.length = fx.m) :
    ∀ (c : Code) (blk : Nat) (α : Type) (st : St) (K : Ex → St → Option α) (r : α) (C : Ctx) (a : Act) (Q : Exit → Act → World → Prop), denK fx c blk α st K = some r → Ok C → Ext C0 C → SR C st a → a.defers = [] → fx.nt ≤ a.tmps.size →
      (∀ e st' C' a', K e st' = some r → Ok C' → Ext C0 C' → SR C' st' a' → a'.defers = [] → fx.nt ≤ a'.tmps.size → Q (exOf e) a' C'.w) → c.wp fx.E.P Q a C.w := by
  intro c
  induction c with
  | skip => intro blk α st K r C a Q h hok hx hs hd hn hQ; exact wp_skip (hQ .nrm st C a h hok hx hs hd hn)
  | exit id => intro blk α st K r C a Q h hok hx hs hd hn hQ; exact wp_exit (hQ (.exit id) st C a h hok hx hs hd hn)
  | ret => intro blk α st K r C a Q h hok hx hs hd hn hQ; exact wp_ret (hQ .ret st C a h hok hx hs hd hn)
  | goto l => intro blk α st K r C a Q h; cases h
  | label l => intro blk α st K r C a Q h; cases h
  | scope c => intro blk α st K r C a Q h; cases h
  | rangeFunc f ps x y => intro blk α st K r C a Q h; cases h
  | refuse => intro blk α st K r C a Q h; cases h
  | region id ops draw =>
    intro blk α st K r C a Q h hok hx hs hd hn hQ
    exact regK_sound hE hF hm hok hs (K := K .nrm) h fun C' st' a' hok' hx' hs' hsame hK => hQ .nrm st' C' a' hK hok' (hx.trans hx') hs' (hsame.1.trans hd) (by rw [hsame.2]; exact hn)
  | seq x y ihx ihy =>
    intro blk α st K r C a Q h hok hx hs hd hn hQ
    refine wp_seq (ihx blk α st _ r C a _ h hok hx hs hd hn fun e st' C' a' hK hok' hx' hs' hd' hn' => ?_)
    cases e with
    | nrm => exact ihy blk α st' K r C' a' Q hK hok' hx' hs' hd' hn' hQ
    | exit i => exact hQ (.exit i) st' C' a' hK hok' hx' hs' hd' hn'
    | ret => exact hQ .ret st' C' a' hK hok' hx' hs' hd' hn'
  | cond c x y ihx ihy =>
    intro blk α st K r C a Q h hok hx hs hd hn hQ
    simp only [denK] at h
    split at h
    · rename_i t hc
      have hcv := evalA_sound hs.s c
      rw [hc] at hcv
      have hcv : a.eval c = .bool t := (fun u (h : C.P (.bool t) u) => show u = .bool t by cases h; rfl) _ hcv
      split at h
      · refine wp_cond hcv ?_
        cases t with
        | true => exact ihx blk α st K r C a Q h hok hx hs hd hn hQ
        | false => exact ihy blk α st K r C a Q h hok hx hs hd hn hQ
      · rename_i exs _
        unfold bnd at h
        obtain ⟨p, hp, h⟩ := Option.bind_eq_some_iff.1 h
        have key : ∀ e st' C' a', packEx fx.m (resX fx.fa exs) some e st' = some p → Ok C' → Ext C0 C' → SR C' st' a' → a'.defers = [] → fx.nt ≤ a'.tmps.size → Q (exOf e) a' C'.w := by
          intro e st' C' a' hK hok' hx' hs' hd' hn'
          obtain ⟨he, an, h1, h2⟩ := packEx_some hK
          obtain ⟨pk, hpk, hPK⟩ := packK_sound hx' hok' hs' hm0 hn' h1
          cases hpk
          obtain ⟨ho, h3⟩ := unpackK_some (h2 h)
          obtain ⟨C2, hw, hok2, hx2, hs2⟩ := hPK ho
          rw [← hw]
          exact hQ e _ C2 a' h3 hok2 hx2 hs2 hd' hn'
        refine wp_cond hcv ?_
        cases t with
        | true => exact ihx blk (Ex × Pack) st _ p C a Q hp hok hx hs hd hn key
        | false => exact ihy blk (Ex × Pack) st _ p C a Q hp hok hx hs hd hn key
    · rename_i hc
      have hcv := evalA_sound hs.s c
      rw [hc] at hcv
      obtain ⟨t, hcv⟩ : ∃ t, a.eval c = .bool t := (fun u (h : C.P .anyb u) => show ∃ t, u = .bool t by cases h; exact ⟨_, rfl⟩) _ hcv
      cases hnf : hasN fx.f fx.E.nilf with
      | false => rw [hnf] at h; cases h
      | true =>
        rw [hnf] at h
        obtain ⟨h1, h2⟩ := both_some h
        refine wp_cond hcv ?_
        cases t with
        | true => exact ihx blk α st K r C a Q h1 hok hx hs hd hn hQ
        | false => exact ihy blk α st K r C a Q h2 hok hx hs hd hn hQ
    · cases h
  | block id b ih =>
    intro blk α st K r C a Q h hok hx hs hd hn hQ
    refine wp_block (ih id α st _ r C a _ h hok hx hs hd hn fun e st' C' a' hK hok' hx' hs' hd' hn' => ?_)
    cases e with
    | nrm => exact hQ .nrm st' C' a' hK hok' hx' hs' hd' hn'
    | exit i =>
      simp only at hK
      show if i = id then Q .normal a' C'.w else Q (.exit i) a' C'.w
      rcases ctl_or hK with ⟨hb, hK⟩ | ⟨hb, hK⟩
      · rw [if_pos (Nat.eq_of_beq_eq_true hb)]
        exact hQ .nrm st' C' a' hK hok' hx' hs' hd' hn'
      · rw [if_neg fun he => by subst he; simp at hb]
        exact hQ (.exit i) st' C' a' hK hok' hx' hs' hd' hn'
    | ret => exact hQ .ret st' C' a' hK hok' hx' hs' hd' hn'
  | loop b ih =>
    intro blk α st K r C a Q h hok hx hs hd hn hQ
    simp only [denK] at h
    split at h
    · cases h
    rename_i la _
    obtain ⟨pk, h, hPK⟩ := packK_sound hx hok hs hm0 hn h
    unfold bnd lpC at h
    obtain ⟨p, hp, h⟩ := Option.bind_eq_some_iff.1 h
    obtain ⟨n, hn'⟩ := loopC_some _ hp
    refine wp_loop_n (fun n a w => ∃ pk, loopN _ n pk = some p ∧ PK C0 fx.nt (resA fx.fa la.head) pk a w ∧ a.defers = [] ∧ fx.nt ≤ a.tmps.size) n ⟨pk, hn', hPK, hd, hn⟩ fun n a w hI => ?_
    obtain ⟨pk, hl, hPK, hd, hn⟩ := hI
    cases n with
    | zero => cases hl
    | succ n =>
      simp only [loopN] at hl
      obtain ⟨p1, hB, hl⟩ := Option.bind_eq_some_iff.1 hl
      obtain ⟨ho, hB⟩ := unpackK_some hB
      obtain ⟨C2, rfl, hok2, hx2, hs2⟩ := hPK ho
      refine ih blk (Ex × Pack) _ _ p1 C2 a _ hB hok2 hx2 hs2 hd hn fun e st' C' a' hK hok' hx' hs' hd' hn' => ?_
      cases e with
      | nrm =>
        simp only [packEx] at hK
        have : Ex.eqb .nrm .nrm = true := rfl
        rw [this] at hK
        obtain ⟨pk', h1, hPK'⟩ := packK_sound hx' hok' hs' hm0 hn' (show packK fx.m (resA fx.fa la.head) st' (fun pk => some (Ex.nrm, pk)) = some p1 from hK)
        cases h1
        exact ⟨n, Nat.lt_succ_self n, pk', hl, hPK', hd', hn'⟩
      | exit i =>
        have hne : Ex.eqb (.exit i) .nrm = false := rfl
        simp only [packEx, hne] at hK
        obtain ⟨he, an, h1, h2⟩ := packEx_some (show packEx fx.m (resX fx.fa la.exits) some (.exit i) st' = some p1 from hK)
        rw [he, hne] at hl
        cases hl
        obtain ⟨pk', h3, hPK'⟩ := packK_sound hx' hok' hs' hm0 hn' h1
        cases h3
        obtain ⟨ho', h4⟩ := unpackK_some (h2 h)
        obtain ⟨C3, hw, hok3, hx3, hs3⟩ := hPK' ho'
        show Q (.exit i) a' C'.w
        rw [← hw]
        exact hQ (.exit i) _ C3 a' h4 hok3 hx3 hs3 hd' hn'
      | ret =>
        have hne : Ex.eqb .ret .nrm = false := rfl
        simp only [packEx, hne] at hK
        obtain ⟨he, an, h1, h2⟩ := packEx_some (show packEx fx.m (resX fx.fa la.exits) some .ret st' = some p1 from hK)
        rw [he, hne] at hl
        cases hl
        obtain ⟨pk', h3, hPK'⟩ := packK_sound hx' hok' hs' hm0 hn' h1
        cases h3
        obtain ⟨ho', h4⟩ := unpackK_some (h2 h)
        obtain ⟨C3, hw, hok3, hx3, hs3⟩ := hPK' ho'
        show Q .ret a' C'.w
        rw [← hw]
        exact hQ .ret _ C3 a' h4 hok3 hx3 hs3 hd' hn'

end Go.Proofs.YtcopadohnlcheaaDoor.Vm
