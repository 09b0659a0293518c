/- The abstract machine, part 5: how its values stand to the memory of the model, and what keeps that. -/
import Derived.Test.YtpnpdkgdgfkpfaaGreatDoorVm4
import Derived.Test.YtpnpdkgdgfkpfaaGreatDoorGr
import Derived.Laws.CopyRow
import Derived.Laws.Cells
import Derived.Laws.AppendOwn
namespace Go.Proofs.YtpnpdkgdgfkpfaaGreatDoor.Vm

def All2 {α β : Type} (R : α → β → Prop) : List α → List β → Prop
  | [], [] => True
  | a :: l, b :: m => R a b ∧ All2 R l m
  | _, _ => False

section all2
variable {α β : Type} {R S : α → β → Prop}
theorem All2.mono (h : ∀ a b, R a b → S a b) : ∀ {l : List α} {m : List β}, All2 R l m → All2 S l m
  | [], [], _ => trivial
  | _ :: _, _ :: _, ⟨h1, h2⟩ => ⟨h _ _ h1, h2.mono h⟩
  | [], _ :: _, h => h.elim
  | _ :: _, [], h => h.elim
theorem All2.length : ∀ {l : List α} {m : List β}, All2 R l m → l.length = m.length
  | [], [], _ => rfl
  | _ :: _, _ :: _, ⟨_, h2⟩ => congrArg (· + 1) h2.length
  | [], _ :: _, h => h.elim
  | _ :: _, [], h => h.elim
theorem All2.get : ∀ {l : List α} {m : List β}, All2 R l m → ∀ (i : Nat) (a : α), l[i]? = some a → ∃ b, m[i]? = some b ∧ R a b
  | [], [], _, i, a, h => by simp at h
  | x :: l, y :: m, ⟨h1, h2⟩, 0, a, h => ⟨y, rfl, by simp at h; exact h ▸ h1⟩
  | x :: l, y :: m, ⟨h1, h2⟩, i + 1, a, h => by simpa using h2.get i a (by simpa using h)
  | [], _ :: _, h, _, _, _ => h.elim
  | _ :: _, [], h, _, _, _ => h.elim
theorem All2.of_get : ∀ {l : List α} {m : List β}, l.length = m.length → (∀ (i : Nat) a b, l[i]? = some a → m[i]? = some b → R a b) → All2 R l m
  | [], [], _, _ => trivial
  | x :: l, y :: m, hl, h => ⟨h 0 x y rfl rfl, All2.of_get (by simpa using hl) fun i a b ha hb => h (i + 1) a b (by simpa using ha) (by simpa using hb)⟩
  | [], _ :: _, h, _ => by simp at h
  | _ :: _, [], h, _ => by simp at h
theorem All2.append {l l' : List α} {m m' : List β} : All2 R l m → All2 R l' m' → All2 R (l ++ l') (m ++ m') := by
  intro h h'
  induction l generalizing m with
  | nil => cases m with | nil => exact h' | cons => exact h.elim
  | cons a l ih => cases m with | nil => exact h.elim | cons b m => exact ⟨h.1, ih h.2⟩
theorem All2.take {l : List α} {m : List β} (h : All2 R l m) (n : Nat) : All2 R (l.take n) (m.take n) := by
  induction n generalizing l m with
  | zero => simp [All2]
  | succ n ih => cases l with
    | nil => cases m with | nil => exact trivial | cons => exact h.elim
    | cons a l => cases m with | nil => exact h.elim | cons b m => exact ⟨h.1, ih h.2⟩
theorem All2.drop {l : List α} {m : List β} (h : All2 R l m) (n : Nat) : All2 R (l.drop n) (m.drop n) := by
  induction n generalizing l m with
  | zero => exact h
  | succ n ih => cases l with
    | nil => cases m with | nil => exact trivial | cons => exact h.elim
    | cons a l => cases m with | nil => exact h.elim | cons b m => exact ih h.2
end all2

section lists
variable {α : Type} (d : α)
theorem nth_eq : ∀ (l : List α) (i : Nat), nth d l i = l.getD i d
  | [], i => by cases i <;> rfl
  | x :: l, 0 => rfl
  | x :: l, i + 1 => by simpa [nth] using nth_eq l i
theorem upd_eq (v : α) : ∀ (l : List α) (i : Nat), upd v l i = l.set i v
  | [], i => by cases i <;> rfl
  | x :: l, 0 => rfl
  | x :: l, i + 1 => by simp [upd, upd_eq v l i]
theorem reps_eq (x : α) : ∀ n, reps x n = List.replicate n x
  | 0 => rfl
  | n + 1 => by simp [reps, reps_eq x n, List.replicate_succ]
theorem nth_upd (v : α) (l : List α) (i j : Nat) : nth d (upd v l i) j = if i = j ∧ j < l.length then v else nth d l j := by
  rw [nth_eq, nth_eq, upd_eq]
  simp only [List.getD_eq_getElem?_getD, List.getElem?_set]
  by_cases h : i = j
  · subst h
    by_cases h2 : i < l.length
    · simp [h2]
    · simp [h2]
  · simp [h]
theorem length_upd (v : α) (l : List α) (i : Nat) : (upd v l i).length = l.length := by rw [upd_eq]; simp
theorem nth_some {l : List α} {i : Nat} {x : α} (h : l[i]? = some x) : nth d l i = x := by rw [nth_eq]; simp [List.getD, h]
end lists

theorem kindEq_iff : ∀ a b : IntKind, kindEq a b = true → a = b := by
  intro a b h; cases a <;> cases b <;> first | rfl | cases h

inductive VP (w : World) (O : Nat → Prop) : PV → Value → Prop
  | int (k n) : VP w O (.int k n) (.int k n)
  | bool (b) : VP w O (.bool b) (.bool b)
  | str (s) : VP w O (.str s) (.string ⟨s.toArray⟩)
  | nils : VP w O .nils (.slice none 0 0)
  | nilp : VP w O .nilp (.pointer none)
  | nilf : VP w O .nilf .nilFunc
  | fn (f) : VP w O (.fn f) (.func (.func f) #[] #[])
  | anyb (b) : VP w O .anyb (.bool b)
  | ifcN : VP w O (.ifc true) .nilIface
  | ifc (t v) : VP w O (.ifc false) (.iface t v)
  | sl0 (sz a cap) : VP w O (.sl sz []) (.slice a 0 cap)
  | sl (sz es b off cap) (f : Nat → Nat → Value) : b < w.heap.size → ¬ O b → es.length ≤ cap → (∀ e ∈ es, e.length = sz) →
      (∀ i j e c, es[i]? = some e → e[j]? = some c → w.cell? ⟨b, off + i * sz + j, none⟩ = some (f i j)) →
      (∀ i j e c, es[i]? = some e → e[j]? = some c → VP w O c (f i j)) → VP w O (.sl sz es) (.slice (some ⟨b, off, none⟩) es.length cap)

theorem VP.ext {w w' : World} {O O' : Nat → Prop} (hs : w.heap.size ≤ w'.heap.size) (hk : ∀ b, b < w.heap.size → ¬ O b → w'.heap[b]? = w.heap[b]?)
    (ho : ∀ b, b < w.heap.size → O' b → O b) {v : PV} {u : Value} (h : VP w O v u) : VP w' O' v u := by
  induction h with
  | int k n => exact .int k n
  | bool b => exact .bool b
  | str s => exact .str s
  | nils => exact .nils
  | nilp => exact .nilp
  | nilf => exact .nilf
  | fn f => exact .fn f
  | anyb b => exact .anyb b
  | ifcN => exact .ifcN
  | ifc t v => exact .ifc t v
  | sl0 sz a cap => exact .sl0 sz a cap
  | sl sz es b off cap f hb hO hc hz hcell _ ih =>
    exact .sl sz es b off cap f (by omega) (fun h => hO (ho b hb h)) hc hz
      (fun i j e c he hj => by rw [World.cell?_of_block (w := w) (hk b hb hO)]; exact hcell i j e c he hj) ih

theorem VP.oneCell {w : World} {O : Nat → Prop} {v : PV} {u : Value} (h : VP w O v u) : u.oneCell' = true := by
  cases h <;> rfl

theorem VP.cells {w : World} {O : Nat → Prop} {v : PV} {u : Value} (h : VP w O v u) : u.cells = #[u] := by
  cases h <;> rfl

structure Ctx where
  w : World
  ι : Nat → Option Nat
  h : List Ent
  X : Nat → Prop

def live (h : List Ent) (id : Nat) (b : Blk) : Prop := nth Ent.fresh h id = .blk b
def known (h : List Ent) (id : Nat) : Prop := nth Ent.fresh h id ≠ .fresh
def Ctx.own (C : Ctx) (b : Nat) : Prop := ∃ id blk, live C.h id blk ∧ C.ι id = some b
def Ctx.O (C : Ctx) (b : Nat) : Prop := C.X b ∨ C.own b
abbrev Ctx.P (C : Ctx) : PV → Value → Prop := VP C.w C.O

theorem live_known {h : List Ent} {id : Nat} {b : Blk} (hl : live h id b) : known h id := by unfold known; rw [hl]; simp
theorem live_inj {h : List Ent} {id : Nat} {b b' : Blk} (h1 : live h id b) (h2 : live h id b') : b = b' := by
  unfold live at h1 h2; rw [h1] at h2; simpa using h2

def HS (C : Ctx) (id sz : Nat) (es : List (List PV)) (u : Value) : Prop :=
  match C.ι id with
  | some b => ∃ cap carr e fr, u = .slice (some ⟨b, 0, none⟩) es.length cap ∧ es.length ≤ cap ∧ C.w.heap[b]? = some (.cells carr e fr) ∧ cap * sz ≤ carr.size
  | none => es = [] ∧ u = .slice none 0 0

def VT (C : Ctx) : TV → Value → Prop
  | .p v, u => C.P v u
  | .agg cs, u => ∃ us, u = .agg us ∧ All2 C.P cs us.toList
  | .hsl id, u => known C.h id ∧ (∃ a l c, u = .slice a l c) ∧ ∀ sz es, live C.h id (.arr sz es) → HS C id sz es u
  | .ptr id off, u => known C.h id ∧ ∃ b, u = .pointer (some ⟨b, off, none⟩) ∧ ∀ cs, live C.h id (.box cs) → C.ι id = some b

def VA (C : Ctx) : AV → Value → Prop
  | .undef, _ => True
  | .no, u => u = Go.undef
  | .t v, u => VT C v u
  | .vptr cs, u => ∃ b off, u = .pointer (some ⟨b, off, none⟩) ∧ b < C.w.heap.size ∧ ¬ C.O b ∧ ∀ (j : Nat) c, cs[j]? = some c → ∃ x, C.w.cell? ⟨b, off + j, none⟩ = some x ∧ C.P c x
  | .hptr id i o, u => known C.h id ∧ ∃ b k, u = .pointer (some ⟨b, k + o, none⟩) ∧ ∀ sz es, live C.h id (.arr sz es) → i < es.length ∧ C.ι id = some b ∧ k = i * sz
  | .fn f caps, u => ∃ us, u = .func (.func f) #[] us ∧ All2 (VT C) caps us.toList
  | .tup vs, u => ∃ us, u = .tuple us ∧ All2 (VT C) vs us.toList
  | .aggo vs, u => ∃ us, u = .agg us ∧ All2 (VT C) vs us.toList
  | .nptr id, u => known C.h id ∧ (u = .pointer none ∨ ∃ b, u = .pointer (some ⟨b, 0, none⟩) ∧ ∀ cs, live C.h id (.box cs) → C.ι id = some b)

def noFr (carr : Array Value) (fr : Nat × Nat) : Prop := fr.1 = fr.2 ∨ carr.size ≤ fr.1
theorem noFr.off {carr : Array Value} {fr : Nat × Nat} (h : noFr carr fr) : ∀ off, off < carr.size → ¬ (fr.1 ≤ off ∧ off < fr.2) := fun off ho hc => by
  rcases h with h | h <;> omega
theorem noFr.size {carr carr' : Array Value} {fr : Nat × Nat} (h : noFr carr fr) (hs : carr'.size = carr.size) : noFr carr' fr := h.imp id fun h => by omega

def BlkR (C : Ctx) (id : Nat) : Blk → Prop
  | .box cs => ∃ b carr e fr, C.ι id = some b ∧ C.w.heap[b]? = some (.cells carr e fr) ∧ carr.size = cs.length ∧ noFr carr fr ∧
      ∀ (j : Nat) c, cs[j]? = some c → ∃ u, carr[j]? = some u ∧ VA C c u ∧ u.oneCell' = true
  | .arr sz es => (C.ι id = none ∧ es = []) ∨ ∃ b carr e fr, C.ι id = some b ∧ C.w.heap[b]? = some (.cells carr e fr) ∧ es.length * sz ≤ carr.size ∧ noFr carr fr ∧
      (∀ e ∈ es, e.length = sz) ∧ (∀ u ∈ carr.toList, u.oneCell' = true) ∧ ∀ (i j : Nat) e c, es[i]? = some e → e[j]? = some c → ∃ u, carr[i * sz + j]? = some u ∧ C.P c u

def gOf (w : World) : Nat → Option Obj := fun b => if b < nG then w.heap[b]? else none
structure GrOk (C : Ctx) : Prop where
  low : ∀ b, b < nG → b < C.w.heap.size ∧ ¬ C.own b
  at_ : gFact (gOf C.w)

structure Ok (C : Ctx) : Prop where
  gr : GrOk C
  blk : ∀ id b, live C.h id b → BlkR C id b
  inj : ∀ id id' n b b', live C.h id b → live C.h id' b' → C.ι id = some n → C.ι id' = some n → id = id'
  x : ∀ n, C.X n → n < C.w.heap.size ∧ ¬ C.own n

def like : Blk → Blk → Prop
  | .box cs, .box ds => cs.length = ds.length
  | .arr sz es, .arr sz' es' => sz = sz' ∧ es.length = es'.length
  | _, _ => False

theorem like_refl : ∀ b, like b b
  | .box _ => rfl
  | .arr _ _ => ⟨rfl, rfl⟩
theorem like_trans : ∀ {a b c}, like a b → like b c → like a c
  | .box _, .box _, .box _, h, k => Eq.trans h k
  | .arr _ _, .arr _ _, .arr _ _, h, k => ⟨h.1.trans k.1, h.2.trans k.2⟩
  | .box _, .arr _ _, _, h, _ => h.elim
  | .arr _ _, .box _, _, h, _ => h.elim
  | .box _, .box _, .arr _ _, _, h => h.elim
  | .arr _ _, .arr _ _, .box _, _, h => h.elim

structure Ext (C C' : Ctx) : Prop where
  tape : C'.w.tape = C.w.tape
  os : C'.w.os = C.w.os
  out : C'.w.output = C.w.output
  size : C.w.heap.size ≤ C'.w.heap.size
  X : C'.X = C.X
  keep : ∀ b, b < C.w.heap.size → ¬ C.own b → C'.w.heap[b]? = C.w.heap[b]?
  own : ∀ b, b < C.w.heap.size → C'.own b → C.own b
  ent : ∀ id, known C.h id → known C'.h id ∧ ∀ b', live C'.h id b' → ∃ b, live C.h id b ∧ C'.ι id = C.ι id ∧ like b b'
  row : ∀ b carr e fr, C.own b → C.w.heap[b]? = some (.cells carr e fr) → ∃ carr' fr', C'.w.heap[b]? = some (.cells carr' e fr') ∧ carr'.size = carr.size

theorem Ext.refl (C : Ctx) : Ext C C :=
  ⟨rfl, rfl, rfl, Nat.le_refl _, rfl, fun _ _ _ => rfl, fun _ _ h => h, fun _ h => ⟨h, fun b' hb => ⟨b', hb, rfl, like_refl _⟩⟩, fun _ carr _ fr _ h => ⟨carr, fr, h, rfl⟩⟩

theorem Ext.trans {A B C : Ctx} (h : Ext A B) (k : Ext B C) : Ext A C where
  tape := k.tape.trans h.tape
  os := k.os.trans h.os
  out := k.out.trans h.out
  size := Nat.le_trans h.size k.size
  X := k.X.trans h.X
  keep b hb ho := by
    rw [k.keep b (Nat.lt_of_lt_of_le hb h.size) (fun h' => ho (h.own b hb h')), h.keep b hb ho]
  own b hb ho := h.own b hb (k.own b (Nat.lt_of_lt_of_le hb h.size) ho)
  ent id hid := by
    obtain ⟨h1, h2⟩ := h.ent id hid
    obtain ⟨k1, k2⟩ := k.ent id h1
    refine ⟨k1, fun c hc => ?_⟩
    obtain ⟨b, hb, e1, l1⟩ := k2 c hc
    obtain ⟨a, ha, e2, l2⟩ := h2 b hb
    exact ⟨a, ha, e1.trans e2, like_trans l2 l1⟩
  row b carr e fr ho hc := by
    obtain ⟨c1, f1, h1, s1⟩ := h.row b carr e fr ho hc
    by_cases hb : B.own b
    · obtain ⟨c2, f2, h2, s2⟩ := k.row b c1 e f1 hb h1
      exact ⟨c2, f2, h2, s2.trans s1⟩
    · have hlt : b < B.w.heap.size := (Array.getElem?_eq_some_iff.1 h1).1
      exact ⟨c1, f1, by rw [k.keep b hlt hb]; exact h1, s1⟩

theorem Ext.gr {C C' : Ctx} (h : Ext C C') (g : GrOk C) : GrOk C' where
  low b hb := by
    obtain ⟨h1, h2⟩ := g.low b hb
    exact ⟨Nat.lt_of_lt_of_le h1 h.size, fun ho => h2 (h.own b h1 ho)⟩
  at_ := by
    have : gOf C'.w = gOf C.w := by
      funext b
      unfold gOf
      split
      · rename_i hb
        obtain ⟨h1, h2⟩ := g.low b hb
        exact h.keep b h1 h2
      · rfl
    rw [this]; exact g.at_

theorem Ext.O {C C' : Ctx} (h : Ext C C') (b : Nat) (hb : b < C.w.heap.size) (ho : C'.O b) : C.O b := by
  rcases ho with hx | hw
  · exact .inl (by rw [← h.X]; exact hx)
  · exact .inr (h.own b hb hw)

theorem Ext.keepO {C C' : Ctx} (h : Ext C C') (b : Nat) (hb : b < C.w.heap.size) (ho : ¬ C.O b) : C'.w.heap[b]? = C.w.heap[b]? :=
  h.keep b hb fun hw => ho (.inr hw)

theorem Ext.vp {C C' : Ctx} (h : Ext C C') {v : PV} {u : Value} (hv : C.P v u) : C'.P v u :=
  hv.ext h.size (h.keepO) (h.O)

theorem like_arr {b : Blk} {sz : Nat} {es : List (List PV)} (h : like b (.arr sz es)) : ∃ es0, b = .arr sz es0 ∧ es0.length = es.length := by
  cases b with
  | box _ => exact h.elim
  | arr sz0 es0 => obtain ⟨rfl, h2⟩ := h; exact ⟨es0, rfl, h2⟩
theorem like_box {b : Blk} {cs : List AV} (h : like b (.box cs)) : ∃ cs0, b = .box cs0 ∧ cs0.length = cs.length := by
  cases b with
  | arr _ _ => exact h.elim
  | box cs0 => exact ⟨cs0, rfl, h⟩

theorem Ext.vt {C C' : Ctx} (h : Ext C C') {v : TV} {u : Value} (hv : VT C v u) : VT C' v u := by
  cases v with
  | p v => exact h.vp hv
  | agg cs => obtain ⟨us, rfl, ha⟩ := hv; exact ⟨us, rfl, ha.mono fun _ _ => h.vp⟩
  | hsl id =>
    obtain ⟨hk, hform, hv⟩ := hv
    obtain ⟨hk', he⟩ := h.ent id hk
    refine ⟨hk', hform, fun sz es hl => ?_⟩
    obtain ⟨b, hb, hι, hlk⟩ := he _ hl
    obtain ⟨es0, rfl, hlen⟩ := like_arr hlk
    have := hv sz es0 hb
    unfold HS at this ⊢
    rw [hι]
    cases hi : C.ι id with
    | none => rw [hi] at this; obtain ⟨rfl, hu⟩ := this; exact ⟨List.length_eq_zero_iff.1 hlen.symm, hu⟩
    | some n =>
      rw [hi] at this
      obtain ⟨cap, carr, e, fr, hu, hle, hrow, hcap⟩ := this
      obtain ⟨c2, f2, h2, s2⟩ := h.row n carr e fr ⟨id, _, hb, hi⟩ hrow
      exact ⟨cap, c2, e, f2, by rw [hu, hlen], by omega, h2, by omega⟩
  | ptr id off =>
    obtain ⟨hk, n, hu, hv⟩ := hv
    obtain ⟨hk', he⟩ := h.ent id hk
    refine ⟨hk', n, hu, fun cs hl => ?_⟩
    obtain ⟨b, hb, hι, hlk⟩ := he _ hl
    obtain ⟨cs0, rfl, _⟩ := like_box hlk
    rw [hι]
    exact hv cs0 hb

theorem Ext.va {C C' : Ctx} (h : Ext C C') {v : AV} {u : Value} (hv : VA C v u) : VA C' v u := by
  cases v with
  | undef => trivial
  | no => exact hv
  | t v => exact h.vt hv
  | vptr cs =>
    obtain ⟨b, off, hu, hb, ho, hc⟩ := hv
    refine ⟨b, off, hu, Nat.lt_of_lt_of_le hb h.size, fun h' => ho (h.O b hb h'), fun j c hj => ?_⟩
    obtain ⟨x, hx, hp⟩ := hc j c hj
    exact ⟨x, by rw [World.cell?_of_block (w := C.w) (h.keepO b hb ho)]; exact hx, h.vp hp⟩
  | hptr id i o =>
    obtain ⟨hk, n, k, hu, hv⟩ := hv
    obtain ⟨hk', he⟩ := h.ent id hk
    refine ⟨hk', n, k, hu, fun sz es hl => ?_⟩
    obtain ⟨b, hb, hι, hlk⟩ := he _ hl
    obtain ⟨es0, rfl, hlen⟩ := like_arr hlk
    obtain ⟨h1, h2, h3⟩ := hv sz es0 hb
    exact ⟨by omega, by rw [hι]; exact h2, h3⟩
  | fn f caps => obtain ⟨us, rfl, ha⟩ := hv; exact ⟨us, rfl, ha.mono fun _ _ => h.vt⟩
  | tup vs => obtain ⟨us, rfl, ha⟩ := hv; exact ⟨us, rfl, ha.mono fun _ _ => h.vt⟩
  | aggo vs => obtain ⟨us, rfl, ha⟩ := hv; exact ⟨us, rfl, ha.mono fun _ _ => h.vt⟩
  | nptr id =>
    obtain ⟨hk, hv⟩ := hv
    obtain ⟨hk', he⟩ := h.ent id hk
    refine ⟨hk', hv.imp (fun h => h) fun ⟨n, hu, hv⟩ => ⟨n, hu, fun cs hl => ?_⟩⟩
    obtain ⟨b, hb, hι, hlk⟩ := he _ hl
    obtain ⟨cs0, rfl, _⟩ := like_box hlk
    rw [hι]
    exact hv cs0 hb

theorem Ext.blkR {C C' : Ctx} (h : Ext C C') {id : Nat} {b : Blk} (hb : BlkR C id b) (hι : C'.ι id = C.ι id) (hk : ∀ n, C.ι id = some n → C'.w.heap[n]? = C.w.heap[n]?) : BlkR C' id b := by
  cases b with
  | box cs =>
    obtain ⟨n, carr, e, fr, hi, hr, hs, hf, hc⟩ := hb
    refine ⟨n, carr, e, fr, by rw [hι]; exact hi, by rw [hk n hi]; exact hr, hs, hf, fun j c hj => ?_⟩
    obtain ⟨u, h1, h2, h3⟩ := hc j c hj
    exact ⟨u, h1, h.va h2, h3⟩
  | arr sz es =>
    rcases hb with ⟨hi, he⟩ | ⟨n, carr, e, fr, hi, hr, hs, hf, hz, h1, hc⟩
    · exact .inl ⟨by rw [hι]; exact hi, he⟩
    · refine .inr ⟨n, carr, e, fr, by rw [hι]; exact hi, by rw [hk n hi]; exact hr, hs, hf, hz, h1, fun i j e c he hj => ?_⟩
      obtain ⟨u, h1, h2⟩ := hc i j e c he hj
      exact ⟨u, h1, h.vp h2⟩

end Go.Proofs.YtpnpdkgdgfkpfaaGreatDoor.Vm
