/- The abstract machine, part 28: a state that is reduced to what an annotation names. -/
import Derived.Test.YtpnpdkgdgfkpfaaGreatDoorVm27
namespace Go.Proofs.YtpnpdkgdgfkpfaaGreatDoor.Vm
set_option linter.unusedVariables false
set_option linter.unusedSimpArgs false

def MLe (mp mp' : Mp) : Prop := ∀ j y, mpGet j mp = some y → mpGet j mp' = some y
def MInj (mp : Mp) : Prop := ∀ j j' id, mpGet j mp = some (some id) → mpGet j' mp = some (some id) → j = j'
theorem MLe.refl (mp : Mp) : MLe mp mp := fun _ _ h => h
theorem MLe.trans {a b c : Mp} (h : MLe a b) (k : MLe b c) : MLe a c := fun j y hj => k j y (h j y hj)

theorem mpGet_append (j : Nat) : ∀ (mp : Mp) (k : Nat) (x : Option Nat), mpGet j (mp ++ [(k, x)]) = match mpGet j mp with | some y => some y | none => if j = k then some x else none
  | [], k, x => by
    simp only [List.nil_append, mpGet]
    by_cases h : j = k
    · subst h; simp
    · rw [if_neg h]
      have : Nat.beq j k = false := by cases hb : Nat.beq j k with | false => rfl | true => exact absurd (Nat.eq_of_beq_eq_true hb) h
      rw [this]; rfl
  | (k', x') :: mp, k, x => by
    simp only [List.cons_append, mpGet]
    cases h : Nat.beq j k' with
    | true => rfl
    | false => exact mpGet_append j mp k x

theorem mpHas_of {mp : Mp} {j id : Nat} (h : mpGet j mp = some (some id)) : mpHas id mp = true := by
  induction mp with
  | nil => cases h
  | cons x mp ih =>
    obtain ⟨k, y⟩ := x
    simp only [mpGet] at h
    cases hb : Nat.beq j k with
    | true =>
      rw [hb] at h
      simp only [cond_true] at h
      cases h
      simp [mpHas]
    | false =>
      rw [hb] at h
      have := ih h
      cases y with
      | none => simpa [mpHas] using this
      | some y => simp [mpHas, this]

theorem mpGet_mem {mp : Mp} {j : Nat} {y : Option Nat} (h : mpGet j mp = some y) : ∃ x ∈ mp, x.1 = j := by
  induction mp with
  | nil => cases h
  | cons x mp ih =>
    obtain ⟨k, z⟩ := x
    simp only [mpGet] at h
    cases hb : Nat.beq j k with
    | true => exact ⟨(k, z), by simp, (Nat.eq_of_beq_eq_true hb).symm⟩
    | false =>
      rw [hb] at h
      obtain ⟨x, h1, h2⟩ := ih h
      exact ⟨x, by simp [h1], h2⟩

theorem optEq_iff {a b : Option Nat} (h : optEq a b = true) : a = b := by
  cases a <;> cases b <;> first | rfl | (cases h; done) | (have := Nat.eq_of_beq_eq_true h; subst this; rfl)

theorem link_spec {j : Nat} {x : Option Nat} {mp mp' : Mp} (h : link j x mp = some mp') : mpGet j mp' = some x ∧ MLe mp mp' ∧ (MInj mp → MInj mp') := by
  unfold link at h
  split at h
  · rename_i y hy
    cases hb : optEq x y with
    | true =>
      rw [hb] at h
      cases h
      exact ⟨by rw [hy, optEq_iff hb], MLe.refl _, fun h => h⟩
    | false => rw [hb] at h; cases h
  · rename_i hno
    have key : ∀ x : Option Nat, (∀ id, x = some id → mpHas id mp = false) → mpGet j (mp ++ [(j, x)]) = some x ∧ MLe mp (mp ++ [(j, x)]) ∧ (MInj mp → MInj (mp ++ [(j, x)])) := by
      intro x hx
      refine ⟨by rw [mpGet_append, hno]; simp, fun k y hk => by rw [mpGet_append, hk], fun hi a b id ha hb => ?_⟩
      rw [mpGet_append] at ha hb
      cases hga : mpGet a mp with
      | some y =>
        rw [hga] at ha
        simp only [Option.some.injEq] at ha
        subst ha
        cases hgb : mpGet b mp with
        | some z =>
          rw [hgb] at hb
          simp only [Option.some.injEq] at hb
          subst hb
          exact hi a b id hga hgb
        | none =>
          rw [hgb] at hb
          simp only at hb
          split at hb
          · have := hx id (Option.some.inj hb)
            rw [mpHas_of hga] at this; cases this
          · cases hb
      | none =>
        rw [hga] at ha
        simp only at ha
        split at ha
        · rename_i haj
          cases hgb : mpGet b mp with
          | some z =>
            rw [hgb] at hb
            simp only [Option.some.injEq] at hb
            subst hb
            have := hx id (Option.some.inj ha)
            rw [mpHas_of hgb] at this; cases this
          | none =>
            rw [hgb] at hb
            simp only at hb
            split at hb
            · rename_i hbj; rw [haj, hbj]
            · cases hb
        · cases ha
    split at h
    · rename_i id
      cases hb : mpHas id mp with
      | true => rw [hb] at h; cases h
      | false =>
        rw [hb] at h
        cases h
        exact key _ fun id' he => by cases he; exact hb
    · cases h
      exact key _ fun id' he => by cases he

def LinkedTVs (mp : Mp) : List TV → List TV → Prop
  | [], [] => True
  | .ptr j o :: l, .ptr id o' :: r => o = o' ∧ mpGet j mp = some (some id) ∧ LinkedTVs mp l r
  | _, _ => False

def Linked (mp : Mp) (w a : AV) : Prop :=
  match w, a with
  | .t (.hsl j), .t (.hsl id) => mpGet j mp = some (some id)
  | .t (.hsl j), .t (.p .nils) => mpGet j mp = some none
  | .t (.ptr j o), .t (.ptr id o') => o = o' ∧ mpGet j mp = some (some id)
  | .nptr j, .nptr id => mpGet j mp = some (some id)
  | .nptr j, .t (.p .nilp) => ∃ id, mpGet j mp = some (some id)
  | .fn f l, .fn g r => f = g ∧ LinkedTVs mp l r
  | .fn f [], .t (.p (.fn g)) => f = g
  | _, _ => False

theorem LinkedTVs.mono {mp mp' : Mp} (hm : MLe mp mp') : ∀ {l r : List TV}, LinkedTVs mp l r → LinkedTVs mp' l r
  | [], [], _ => trivial
  | .ptr j o :: l, .ptr id o' :: r, h => ⟨h.1, hm _ _ h.2.1, LinkedTVs.mono hm h.2.2⟩
  | [], _ :: _, h => h.elim
  | .p _ :: _, _, h => by cases h
  | .agg _ :: _, _, h => by cases h
  | .hsl _ :: _, _, h => by cases h
  | .ptr _ _ :: _, [], h => h.elim
  | .ptr _ _ :: _, .p _ :: _, h => h.elim
  | .ptr _ _ :: _, .agg _ :: _, h => h.elim
  | .ptr _ _ :: _, .hsl _ :: _, h => h.elim

theorem Linked.mono {mp mp' : Mp} (hm : MLe mp mp') {w a : AV} (h : Linked mp w a) : Linked mp' w a := by
  unfold Linked at h ⊢
  split at h
  · exact hm _ _ h
  · exact hm _ _ h
  · exact ⟨h.1, hm _ _ h.2⟩
  · exact hm _ _ h
  · obtain ⟨id, h⟩ := h; exact ⟨id, hm _ _ h⟩
  · exact ⟨h.1, h.2.mono hm⟩
  · exact h
  · exact h.elim

theorem cond_some {α : Type} {b : Bool} {x : Option α} {r : α} (h : cond b x none = some r) : b = true ∧ x = some r := by
  cases b
  · cases h
  · exact ⟨rfl, h⟩

theorem linkTVs_spec : ∀ {l r : List TV} {mp mp' : Mp}, linkTVs l r mp = some mp' → LinkedTVs mp' l r ∧ MLe mp mp' ∧ (MInj mp → MInj mp')
  | [], [], mp, mp', h => by cases h; exact ⟨trivial, MLe.refl _, fun h => h⟩
  | .ptr j o :: l, .ptr id o' :: r, mp, mp', h => by
    simp only [linkTVs] at h
    obtain ⟨hb, h⟩ := cond_some h
    split at h
    · rename_i mp1 h1
      obtain ⟨a1, a2, a3⟩ := link_spec h1
      obtain ⟨b1, b2, b3⟩ := linkTVs_spec h
      exact ⟨⟨Nat.eq_of_beq_eq_true hb, b2 _ _ a1, b1⟩, a2.trans b2, fun h => b3 (a3 h)⟩
    · cases h
  | [], _ :: _, _, _, h => by cases h
  | .p _ :: _, _, _, _, h => by simp [linkTVs] at h
  | .agg _ :: _, _, _, _, h => by simp [linkTVs] at h
  | .hsl _ :: _, _, _, _, h => by simp [linkTVs] at h
  | .ptr _ _ :: _, [], _, _, h => by cases h
  | .ptr _ _ :: _, .p _ :: _, _, _, h => by cases h
  | .ptr _ _ :: _, .agg _ :: _, _, _, h => by cases h
  | .ptr _ _ :: _, .hsl _ :: _, _, _, h => by cases h

theorem linkRef_spec {w a : AV} {mp mp' : Mp} (h : linkRef w a mp = some mp') : Linked mp' w a ∧ MLe mp mp' ∧ (MInj mp → MInj mp') := by
  unfold linkRef at h
  split at h
  · exact link_spec h
  · exact link_spec h
  · obtain ⟨hb, h⟩ := cond_some h
    obtain ⟨h1, h2⟩ := link_spec h
    exact ⟨⟨Nat.eq_of_beq_eq_true hb, h1⟩, h2⟩
  · exact link_spec h
  · split at h
    · rename_i id hid
      cases h
      exact ⟨⟨id, hid⟩, MLe.refl _, fun h => h⟩
    · cases h
  · obtain ⟨hb, h⟩ := cond_some h
    obtain ⟨h1, h2⟩ := linkTVs_spec h
    exact ⟨⟨Nat.eq_of_beq_eq_true hb, h1⟩, h2⟩
  · obtain ⟨hb, h⟩ := cond_some h
    cases h
    exact ⟨Nat.eq_of_beq_eq_true hb, MLe.refl _, fun h => h⟩
  · cases h

theorem linkSlots_spec {slots : List AV} : ∀ {l : List (Nat × SSh)} {mp mp' : Mp}, linkSlots slots l mp = some mp' → MLe mp mp' ∧ (MInj mp → MInj mp') ∧ ∀ i w, (i, Sum.inr (Sum.inr w)) ∈ l → Linked mp' w (nth .undef slots i)
  | [], _, _, h => by cases h; exact ⟨MLe.refl _, fun h => h, fun i w hw => by cases hw⟩
  | (i, .inr (.inr w)) :: l, mp, mp', h => by
    simp only [linkSlots] at h
    split at h
    · rename_i mp1 h1
      obtain ⟨a1, a2, a3⟩ := linkRef_spec h1
      obtain ⟨b1, b2, b3⟩ := linkSlots_spec h
      refine ⟨a2.trans b1, fun h => b2 (a3 h), fun i' w' hw => ?_⟩
      rcases List.mem_cons.1 hw with he | hw
      · cases he; exact a1.mono b1
      · exact b3 i' w' hw
    · cases h
  | (i, .inl s) :: l, mp, mp', h => by
    obtain ⟨b1, b2, b3⟩ := linkSlots_spec (l := l) h
    exact ⟨b1, b2, fun i' w' hw => b3 i' w' (by simpa using hw)⟩
  | (i, .inr (.inl s)) :: l, mp, mp', h => by
    obtain ⟨b1, b2, b3⟩ := linkSlots_spec (l := l) h
    exact ⟨b1, b2, fun i' w' hw => b3 i' w' (by simpa using hw)⟩

def CellL (mp : Mp) (s : Sh ⊕ AV) (c : AV) : Prop := match s with | .inr w => Linked mp w c | .inl _ => True

theorem linkCells_spec : ∀ {l : List (Sh ⊕ AV)} {cs : List AV} {mp mp' : Mp}, linkCells l cs mp = some mp' → MLe mp mp' ∧ (MInj mp → MInj mp') ∧ All2 (CellL mp') l cs
  | [], [], _, _, h => by cases h; exact ⟨MLe.refl _, fun h => h, trivial⟩
  | .inr w :: l, c :: cs, mp, mp', h => by
    simp only [linkCells] at h
    split at h
    · rename_i mp1 h1
      obtain ⟨a1, a2, a3⟩ := linkRef_spec h1
      obtain ⟨b1, b2, b3⟩ := linkCells_spec h
      exact ⟨a2.trans b1, fun h => b2 (a3 h), a1.mono b1, b3⟩
    · cases h
  | .inl s :: l, c :: cs, mp, mp', h => by
    obtain ⟨b1, b2, b3⟩ := linkCells_spec (l := l) (cs := cs) h
    exact ⟨b1, b2, trivial, b3⟩
  | [], _ :: _, _, _, h => by cases h
  | .inl _ :: _, [], _, _, h => by cases h
  | .inr _ :: _, [], _, _, h => by cases h

theorem CellL.mono {mp mp' : Mp} (hm : MLe mp mp') {s : Sh ⊕ AV} {c : AV} (h : CellL mp s c) : CellL mp' s c := by
  cases s with
  | inl => trivial
  | inr w => exact Linked.mono hm h

abbrev BSh := List (Sh ⊕ AV) ⊕ Nat

def BlkL (look : Look) (mp : Mp) (j : Nat) : BSh → Prop
  | .inr sz => (∃ id es, mpGet j mp = some (some id) ∧ look id = some (.arr sz es)) ∨ mpGet j mp = some none
  | .inl cs => ∃ id ds, mpGet j mp = some (some id) ∧ look id = some (.box ds) ∧ All2 (CellL mp) cs ds

theorem BlkL.mono {look : Look} {mp mp' : Mp} (hm : MLe mp mp') {j : Nat} {b : BSh} (h : BlkL look mp j b) : BlkL look mp' j b := by
  cases b with
  | inr sz => exact h.imp (fun ⟨id, es, h1, h2⟩ => ⟨id, es, hm _ _ h1, h2⟩) fun h => hm _ _ h
  | inl cs => obtain ⟨id, ds, h1, h2, h3⟩ := h; exact ⟨id, ds, hm _ _ h1, h2, h3.mono fun _ _ => CellL.mono hm⟩

theorem linkBlks_spec {look : Look} : ∀ {l : List BSh} {j : Nat} {mp mp' : Mp}, linkBlks look j l mp = some mp' → MLe mp mp' ∧ (MInj mp → MInj mp') ∧ ∀ (k : Nat) b, l[k]? = some b → BlkL look mp' (j + k) b
  | [], _, _, _, h => by cases h; exact ⟨MLe.refl _, fun h => h, fun k b hk => by simp at hk⟩
  | .inr sz :: l, j, mp, mp', h => by
    simp only [linkBlks] at h
    have fin : ∀ {mp1 : Mp}, linkBlks look (j + 1) l mp = some mp' → BlkL look mp j (.inr sz) → MLe mp mp' ∧ (MInj mp → MInj mp') ∧ ∀ (k : Nat) b, (Sum.inr sz :: l)[k]? = some b → BlkL look mp' (j + k) b := by
      intro _ h hb
      obtain ⟨b1, b2, b3⟩ := linkBlks_spec h
      refine ⟨b1, b2, fun k b hk => ?_⟩
      cases k with
      | zero => simp at hk; subst hk; exact hb.mono b1
      | succ k => rw [show j + (k + 1) = j + 1 + k by omega]; exact b3 k b (by simpa using hk)
    split at h
    · rename_i id hg
      split at h
      · rename_i sz' es hl
        obtain ⟨hb, h'⟩ := cond_some h
        have := Nat.eq_of_beq_eq_true hb
        subst this
        exact fin (mp1 := mp) h' (.inl ⟨id, es, hg, hl⟩)
      · cases h
    · rename_i hg
      exact fin (mp1 := mp) h (.inr hg)
    · cases h
  | .inl cs :: l, j, mp, mp', h => by
    simp only [linkBlks] at h
    split at h
    · rename_i id hg
      split at h
      · rename_i ds hl
        split at h
        · rename_i mp1 h1
          obtain ⟨a1, a2, a3⟩ := linkCells_spec h1
          obtain ⟨b1, b2, b3⟩ := linkBlks_spec h
          refine ⟨a1.trans b1, fun h => b2 (a2 h), fun k b hk => ?_⟩
          cases k with
          | zero =>
            simp at hk; subst hk
            exact ⟨id, ds, b1 _ _ (a1 _ _ hg), hl, a3.mono fun _ _ => CellL.mono b1⟩
          | succ k => rw [show j + (k + 1) = j + 1 + k by omega]; exact b3 k b (by simpa using hk)
        · cases h
      · cases h
    · cases h

theorem idMp_get : ∀ (n s j : Nat), mpGet j (idMp s n) = if s ≤ j ∧ j < s + n then some (some j) else none
  | 0, s, j => by rw [if_neg (by omega)]; rfl
  | n + 1, s, j => by
    simp only [idMp, mpGet]
    cases hb : Nat.beq j s with
    | true =>
      have := Nat.eq_of_beq_eq_true hb
      subst this
      rw [if_pos (by omega)]; rfl
    | false =>
      have hne : j ≠ s := fun h => by subst h; simp at hb
      rw [cond_false, idMp_get n (s + 1) j]
      by_cases h : s + 1 ≤ j ∧ j < s + 1 + n
      · rw [if_pos h, if_pos (by omega)]
      · rw [if_neg h, if_neg (by omega)]

theorem idMp_inj (s n : Nat) : MInj (idMp s n) := by
  intro j j' id h h'
  rw [idMp_get] at h h'
  split at h
  · split at h'
    · cases h; cases h'; rfl
    · cases h'
  · cases h

def canBlk (look : Look) (x : Option (Option Nat)) : BSh → Blk
  | .inr sz => match x with | some (some id) => (match look id with | some (.arr _ es) => Blk.arr sz es | _ => .arr sz []) | _ => .arr sz []
  | .inl cs => match x with | some (some id) => (match look id with | some (.box ds) => Blk.box (canCells look cs ds) | _ => .box []) | _ => .box []
def putBlk (x : Blk) : BSh → Blk
  | .inl cs => .box (putCells cs 0 x.toCs)
  | .inr sz => .arr sz x.toEs

theorem canBlks_get {look : Look} {mp : Mp} : ∀ {l : List BSh} {j k : Nat} {b : BSh}, l[k]? = some b → (canBlks look mp j l)[k]? = some (canBlk look (mpGet (j + k) mp) b)
  | [], _, k, b, h => by simp at h
  | x :: l, j, 0, b, h => by
    simp at h; subst h
    cases x <;> simp only [canBlks, canBlk, List.getElem?_cons_zero] <;> rfl
  | x :: l, j, k + 1, b, h => by
    have := canBlks_get (look := look) (mp := mp) (l := l) (j := j + 1) (k := k) (b := b) (by simpa using h)
    rw [show j + (k + 1) = j + 1 + k by omega, ← this]
    cases x <;> simp [canBlks]

theorem putBlks_get : ∀ {l : List BSh} {j k : Nat} {b : BSh} {bs : List Blk}, l[k]? = some b → (putBlks l j bs)[k]? = some (.blk (putBlk (nth (.box []) bs (j + k)) b))
  | [], _, k, b, _, h => by simp at h
  | x :: l, j, 0, b, bs, h => by
    simp at h; subst h
    cases x <;> simp [putBlks, putBlk]
  | x :: l, j, k + 1, b, bs, h => by
    have := putBlks_get (l := l) (j := j + 1) (k := k) (b := b) (bs := bs) (by simpa using h)
    rw [show j + (k + 1) = j + 1 + k by omega, ← this]
    cases x <;> simp [putBlks]

theorem putBlks_length : ∀ (l : List BSh) (j : Nat) (bs : List Blk), (putBlks l j bs).length = l.length
  | [], _, _ => rfl
  | x :: l, j, bs => by cases x <;> simp [putBlks, putBlks_length l]

theorem blk_at {look : Look} {mp : Mp} {l : List BSh} {j : Nat} {b : BSh} (h : l[j]? = some b) : nth Ent.fresh (putBlks l 0 (canBlks look mp 0 l)) j = .blk (putBlk (canBlk look (mpGet j mp) b) b) := by
  refine nth_some _ ?_
  rw [putBlks_get h, Nat.zero_add, nth_some _ (canBlks_get h), Nat.zero_add]

theorem okPutBlks_at : ∀ {l : List BSh} {j k : Nat} {cs : List (Sh ⊕ AV)} {bs : List Blk}, okPutBlks l j bs = true → l[k]? = some (.inl cs) → okPutCells cs 0 (nth (.box []) bs (j + k)).toCs = true
  | [], _, k, _, _, _, h => by simp at h
  | x :: l, j, 0, cs, bs, hok, h => by
    simp at h; subst h
    simp only [okPutBlks, Bool.and_eq_true] at hok
    exact hok.1.2
  | x :: l, j, k + 1, cs, bs, hok, h => by
    rw [show j + (k + 1) = j + 1 + k by omega]
    refine okPutBlks_at (l := l) ?_ (by simpa using h)
    cases x <;> simp only [okPutBlks, Bool.and_eq_true] at hok <;> exact hok.2

theorem okBlks_at {look : Look} {mp : Mp} : ∀ {l : List BSh} {j k : Nat} {cs : List (Sh ⊕ AV)}, okBlks look mp j l = true → l[k]? = some (.inl cs) → ∃ id ds, mpGet (j + k) mp = some (some id) ∧ look id = some (.box ds) ∧ okCells look cs ds = true
  | [], _, k, _, _, h => by simp at h
  | x :: l, j, 0, cs, hok, h => by
    simp at h; subst h
    simp only [okBlks, Bool.and_eq_true] at hok
    obtain ⟨h1, _⟩ := hok
    split at h1
    · rename_i id hg
      split at h1
      · rename_i ds hl; exact ⟨id, ds, hg, hl, h1⟩
      · cases h1
    · cases h1
  | x :: l, j, k + 1, cs, hok, h => by
    rw [show j + (k + 1) = j + 1 + k by omega]
    refine okBlks_at (l := l) ?_ (by simpa using h)
    cases x with
    | inl => simp only [okBlks, Bool.and_eq_true] at hok; exact hok.2
    | inr => exact hok

theorem frzBlks_at {look : Look} {mp : Mp} : ∀ {l : List BSh} {j k id : Nat} {cs : List (Sh ⊕ AV)} {ds : List AV}, l[k]? = some (.inl cs) → mpGet (j + k) mp = some (some id) → look id = some (.box ds) → ∀ x ∈ frzCells cs ds, x ∈ frzBlks look mp j l
  | [], _, k, _, _, _, h, _, _ => by simp at h
  | x :: l, j, 0, id, cs, ds, h, hg, hl => by
    simp at h; subst h
    intro y hy
    simp only [Nat.add_zero] at hg
    simp only [frzBlks, hg, hl]
    exact List.mem_append.2 (.inl hy)
  | x :: l, j, k + 1, id, cs, ds, h, hg, hl => by
    rw [show j + (k + 1) = j + 1 + k by omega] at hg
    intro y hy
    have := frzBlks_at (l := l) (by simpa using h) hg hl y hy
    cases x with
    | inl => simp only [frzBlks]; exact List.mem_append.2 (.inr this)
    | inr => exact this

theorem frzCells_at : ∀ {cs : List (Sh ⊕ AV)} {ds : List AV} {k : Nat} {s : Sh ⊕ AV} {d : AV}, cs[k]? = some s → ds[k]? = some d → ∀ x ∈ frz (cellSh s) d, x ∈ frzCells cs ds
  | [], _, k, _, _, h, _ => by simp at h
  | s :: cs, [], k, _, _, _, h => by simp at h
  | s :: cs, d :: ds, 0, _, _, h1, h2 => by
    simp at h1 h2; subst h1; subst h2
    intro x hx; exact List.mem_append.2 (.inl hx)
  | s :: cs, d :: ds, k + 1, _, _, h1, h2 => by
    intro x hx
    exact List.mem_append.2 (.inr (frzCells_at (by simpa using h1) (by simpa using h2) x hx))

theorem okCells_at {look : Look} : ∀ {cs : List (Sh ⊕ AV)} {ds : List AV} {k : Nat} {s : Sh ⊕ AV} {d : AV}, okCells look cs ds = true → cs[k]? = some s → ds[k]? = some d → okVal look (cellSh s) d = true
  | [], _, k, _, _, _, h, _ => by simp at h
  | s :: cs, [], k, _, _, h, _, _ => by cases h
  | s :: cs, d :: ds, 0, _, _, h, h1, h2 => by
    simp at h1 h2; subst h1; subst h2
    simp only [okCells, Bool.and_eq_true] at h
    exact h.1
  | s :: cs, d :: ds, k + 1, _, _, h, h1, h2 => by
    simp only [okCells, Bool.and_eq_true] at h
    exact okCells_at h.2 (by simpa using h1) (by simpa using h2)

theorem canVal_one (look : Look) (s : Sh) (d : AV) : ∃ x, canVal look (.inl s) d = [x] := by
  unfold canVal
  split
  · exact ⟨_, rfl⟩
  · split <;> exact ⟨_, rfl⟩
  · rename_i h; cases h
  · rename_i h; cases h
  · exact ⟨_, rfl⟩

theorem canCells_at {look : Look} : ∀ {cs : List (Sh ⊕ AV)} {ds : List AV} {k : Nat} {s : Sh} {d : AV}, cs.length = ds.length → cs[k]? = some (.inl s) → ds[k]? = some d → canVal look (.inl s) d = [nth .undef (canCells look cs ds) k]
  | [], _, k, _, _, _, h, _ => by simp at h
  | s :: cs, [], k, _, _, h, _, _ => by simp at h
  | s :: cs, d :: ds, 0, _, _, h, h1, h2 => by
    simp at h1 h2; subst h1; subst h2
    rename_i s'
    obtain ⟨x, hx⟩ := canVal_one look s' d
    simp only [canCells, hx]
    rfl
  | s :: cs, d :: ds, k + 1, s0, d0, h, h1, h2 => by
    have ih := canCells_at (look := look) (cs := cs) (ds := ds) (k := k) (by simpa using h) (by simpa using h1) (by simpa using h2)
    rw [ih]
    cases s with
    | inl s =>
      obtain ⟨x, hx⟩ := canVal_one look s d
      simp only [canCells, hx]
      rfl
    | inr w => rfl

theorem putCells_get : ∀ {cs : List (Sh ⊕ AV)} {i k : Nat} {xs : List AV} {s : Sh ⊕ AV}, cs[k]? = some s → (putCells cs i xs)[k]? = some (match s with | .inl s => .t (.p (canP s (nth .undef xs (i + k)).toPV)) | .inr w => w)
  | [], _, k, _, _, h => by simp at h
  | s :: cs, i, 0, xs, _, h => by
    simp at h; subst h
    cases s <;> rfl
  | s :: cs, i, k + 1, xs, s', h => by
    have := putCells_get (cs := cs) (i := i + 1) (k := k) (xs := xs) (by simpa using h)
    rw [show i + (k + 1) = i + 1 + k by omega, ← this]
    cases s <;> rfl

theorem putCells_length : ∀ (cs : List (Sh ⊕ AV)) (i : Nat) (xs : List AV), (putCells cs i xs).length = cs.length
  | [], _, _ => rfl
  | s :: cs, i, xs => by cases s <;> simp [putCells, putCells_length cs]

theorem okPutCells_at : ∀ {cs : List (Sh ⊕ AV)} {i k : Nat} {xs : List AV} {s : Sh}, okPutCells cs i xs = true → cs[k]? = some (.inl s) → okP s (nth .undef xs (i + k)).toPV = true
  | [], _, k, _, _, _, h => by simp at h
  | s :: cs, i, 0, xs, _, h0, h => by
    simp at h; subst h
    simp only [okPutCells, Bool.and_eq_true] at h0
    exact h0.1.2
  | s :: cs, i, k + 1, xs, s', h0, h => by
    rw [show i + (k + 1) = i + 1 + k by omega]
    refine okPutCells_at (cs := cs) ?_ (by simpa using h)
    cases s <;> simp only [okPutCells, Bool.and_eq_true] at h0 <;> first | exact h0.2 | exact h0

def sig (mp : Mp) (j : Nat) : Option Nat := match mpGet j mp with | some x => x | none => none

theorem sig_some {mp : Mp} {j : Nat} {x : Option Nat} (h : mpGet j mp = some x) : sig mp j = x := by unfold sig; rw [h]

theorem not_sig {mp : Mp} {id : Nat} (h : mpHas id mp = false) (j : Nat) : sig mp j ≠ some id := by
  intro he
  unfold sig at he
  split at he
  · rename_i x hx
    subst he
    rw [mpHas_of hx] at h
    cases h
  · cases he

section
variable {C : Ctx} {mp : Mp} {hD : List Ent} (R : RenOk C (sig mp) hD) (hk : ∀ j y, mpGet j mp = some y → known hD j)
include R hk

theorem linked_tvs : ∀ {l r : List TV} {us : List Value}, LinkedTVs mp l r → All2 (VT C) r us → All2 (VT (C.ren (sig mp) hD)) l us
  | [], [], us, _, h => by cases us with | nil => trivial | cons => exact h.elim
  | .ptr j o :: l, .ptr id o' :: r, us, h, hv => by
    cases us with
    | nil => exact hv.elim
    | cons u us =>
      obtain ⟨rfl, h1, h2⟩ := h
      exact ⟨R.ptr (hk _ _ h1) (sig_some h1) hv.1, linked_tvs h2 hv.2⟩
  | [], _ :: _, _, h, _ => h.elim
  | .p _ :: _, _, _, h, _ => by cases h
  | .agg _ :: _, _, _, h, _ => by cases h
  | .hsl _ :: _, _, _, h, _ => by cases h
  | .ptr _ _ :: _, [], _, h, _ => h.elim
  | .ptr _ _ :: _, .p _ :: _, _, h, _ => h.elim
  | .ptr _ _ :: _, .agg _ :: _, _, h, _ => h.elim
  | .ptr _ _ :: _, .hsl _ :: _, _, h, _ => h.elim

theorem linked_va {w a : AV} (h : Linked mp w a) {u : Value} (hv : VA C a u) : VA (C.ren (sig mp) hD) w u := by
  unfold Linked at h
  split at h
  · exact R.hsl (hk _ _ h) (sig_some h) hv
  · exact R.nils (hk _ _ h) (sig_some h) hv
  · obtain ⟨rfl, h⟩ := h
    exact R.ptr (hk _ _ h) (sig_some h) hv
  · refine ⟨hk _ _ h, hv.2.imp (fun h => h) fun ⟨n, hu, hv'⟩ => ?_⟩
    obtain ⟨_, n', hu', hp⟩ := R.ptr (o := 0) (hk _ _ h) (sig_some h) ⟨hv.1, n, hu, hv'⟩
    exact ⟨n', hu', hp⟩
  · obtain ⟨id, h⟩ := h
    refine ⟨hk _ _ h, .inl ?_⟩
    exact (fun u (h : C.P .nilp u) => show u = .pointer none by cases h; rfl) _ hv
  · obtain ⟨rfl, h⟩ := h
    obtain ⟨us, rfl, ha⟩ := hv
    exact ⟨us, rfl, linked_tvs R hk h ha⟩
  · subst h
    cases (show C.P (.fn _) u from hv)
    exact ⟨#[], rfl, trivial⟩
  · exact h.elim
end

end Go.Proofs.YtpnpdkgdgfkpfaaGreatDoor.Vm
