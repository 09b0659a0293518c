/- The abstract machine, part 33: what comes in as arguments; a law's frame. -/
import Derived.Test.YtpnpdkgdgfkpfaaGreatDoorVm32
import Derived.Deep.Slices
import Derived.ChangeArms
import Derived.OpenShut
import Derived.ChangeOld
import Derived.Below
import Derived.Carry
namespace Go.Proofs.YtpnpdkgdgfkpfaaGreatDoor.Vm
open Go.RowKit Go.Deep
set_option linter.unusedVariables false
set_option linter.unusedSimpArgs false

def contig (P : Program) : List Field → Nat → Nat → Bool
  | [], i, n => Nat.beq i n
  | f :: fs, i, n => Nat.beq f.offset i && contig P fs (i + P.cellsOf f.type) n

def okTy (P : Program) : Nat → TypeId → Bool
  | 0, _ => false
  | k + 1, t =>
    match P.underlying t with
    | some .bool => true
    | some (.int _) => true
    | some .string => true
    | some (.slice e) => Nat.ble 1 (P.cellsOf e) && okTy P k e
    | some (.struct fs) => fs.toList.all (fun f => okTy P k f.type) && contig P fs.toList 0 (P.cellsOf t)
    | some (.array n e) => Nat.beq (P.cellsOf t) (n * P.cellsOf e) && okTy P k e
    | _ => false

def WFc (P : Program) : Nat → TypeId → List PV → Prop
  | 0, _, _ => False
  | k + 1, t, cs =>
    match P.underlying t with
    | some .bool => ∃ b, cs = [.bool b]
    | some (.int kd) => ∃ n, cs = [.int kd n] ∧ (Lit.int kd n).wf = true
    | some .string => ∃ s, cs = [.str s] ∧ s.length ≤ maxLen
    | some (.slice e) => ∃ es, cs = [.sl (P.cellsOf e) es] ∧ es.length ≤ maxLen ∧ ∀ x ∈ es, WFc P k e x
    | some (.struct fs) => ∃ xs, All2 (fun (f : Field) x => WFc P k f.type x) fs.toList xs ∧ cs = xs.flatten
    | some (.array n e) => ∃ xs : List (List PV), xs.length = n ∧ cs = xs.flatten ∧ ∀ x ∈ xs, WFc P k e x
    | _ => False

section
variable {H : Type} {enc : TypeId × Value → H} {P : Program} {w : World} {base : Nat} {spare : Nat → Bool} {held : Bool} {O : Nat → Prop}

theorem parts_in {us : List Value} {n k : Nat} (hlen : us.length = n) : ∀ {fs : List Field} {i : Nat}, contig P fs i n = true →
    (∀ f ∈ fs, ∃ x, All2 (VP w O) x ((us.drop f.offset).take (P.cellsOf f.type)) ∧ WFc P k f.type x) →
    ∃ xs, All2 (fun (f : Field) x => WFc P k f.type x) fs xs ∧ All2 (VP w O) xs.flatten (us.drop i)
  | [], i, h, _ => by
    have := Nat.eq_of_beq_eq_true h
    subst this
    rw [List.drop_of_length_le (by omega)]
    exact ⟨[], trivial, trivial⟩
  | f :: fs, i, h, hx => by
    simp only [contig, Bool.and_eq_true] at h
    obtain ⟨xs, h1, h2⟩ := parts_in hlen h.2 fun g hg => hx g (by simp [hg])
    obtain ⟨x, h3, h4⟩ := hx f (by simp)
    rw [Nat.eq_of_beq_eq_true h.1] at h3
    refine ⟨x :: xs, ⟨h4, h1⟩, ?_⟩
    rw [List.flatten_cons]
    have := h3.append h2
    rwa [← List.drop_drop, List.take_append_drop] at this

theorem chunks_in {us : List Value} {sz : Nat} {Q : List PV → Prop} : ∀ (n : Nat) (i : Nat), us.length = (i + n) * sz → (∀ j, j < i + n → ∃ x, All2 (VP w O) x ((us.drop (j * sz)).take sz) ∧ Q x) →
    ∃ xs : List (List PV), xs.length = n ∧ (∀ x ∈ xs, Q x) ∧ All2 (VP w O) xs.flatten (us.drop (i * sz))
  | 0, i, hl, _ => by
    rw [List.drop_of_length_le (by rw [hl]; simp)]
    exact ⟨[], rfl, (fun x hx => by cases hx), trivial⟩
  | n + 1, i, hl, hx => by
    obtain ⟨xs, h1, h2, h3⟩ := chunks_in n (i + 1) (by rw [hl]; congr 1; omega) fun j hj => hx j (by omega)
    obtain ⟨x, h4, h5⟩ := hx i (by omega)
    refine ⟨x :: xs, by simp [h1], fun y hy => ?_, ?_⟩
    · rcases List.mem_cons.1 hy with rfl | hy
      · exact h5
      · exact h2 y hy
    · rw [List.flatten_cons]
      have := h4.append h3
      rwa [show (i + 1) * sz = i * sz + sz by rw [Nat.succ_mul], ← List.drop_drop, List.take_append_drop] at this

theorem cells_at {a : Addr} {n : Nat} {l : List Value} (h : w.cells? base a n = some l) : l.length = n ∧ ∀ j, j < n → w.cell? (a.add j) = l[j]? := by
  unfold World.cells? at h
  split at h
  · have hm := h
    refine ⟨by simpa using mapM_some_length hm, fun j hj => ?_⟩
    have := mapM_some_get hm j j (by simp [hj])
    exact this
  · cases h

theorem trod_in : ∀ (k : Nat) (t : TypeId) (us : List Value) (fuel : Nat) (x : DataW H × List MemPlace), okTy P k t = true → (∀ b, ¬ O b) → DataW.trod enc P w base spare held fuel t us = some x →
    ∃ cs, All2 (VP w O) cs us ∧ WFc P k t cs := by
  intro k
  induction k with
  | zero => intro t us fuel x h; cases h
  | succ k ih =>
    intro t us fuel x h hO hd
    simp only [okTy] at h
    simp only [WFc]
    split at h
    · rename_i ht
      obtain ⟨b, rfl, _⟩ := DataW.trod_bool ht hd
      exact ⟨[.bool b], ⟨.bool b, trivial⟩, b, rfl⟩
    · rename_i kd ht
      obtain ⟨n, rfl, _, hw⟩ := DataW.trod_int ht hd
      exact ⟨[.int kd n], ⟨.int kd n, trivial⟩, n, rfl, hw⟩
    · rename_i ht
      obtain ⟨s, rfl, _, hs⟩ := DataW.trod_string ht hd
      have hsl : s.data.toList.length = s.size := Array.length_toList
      refine ⟨[.str s.data.toList], ⟨?_, trivial⟩, s.data.toList, rfl, by rw [hsl]; exact hs⟩
      have := VP.str (w := w) (O := O) s.data.toList
      simpa using this
    · rename_i e ht
      simp only [Bool.and_eq_true] at h
      have hsz := Nat.le_of_ble_eq_true h.1
      rcases open_slice ht hd with ⟨rfl, _⟩ | ⟨a, len, cap, m, n, D, Pl, rfl, _, hlc, hcm, hm, _, hel⟩
      · exact ⟨[.sl (P.cellsOf e) []], ⟨.sl0 _ none 0, trivial⟩, [], rfl, Nat.zero_le _, fun x hx => by cases hx⟩
      · have hlm : len ≤ m := by rw [hm]; split <;> omega
        have each : ∀ i, i < len → ∃ y l, w.cells? base (a.add (i * P.cellsOf e)) (P.cellsOf e) = some l ∧ All2 (VP w O) y l ∧ WFc P k e y := fun i hi => by
          obtain ⟨l, h1, h2⟩ := hel i (by omega)
          obtain ⟨y, h3, h4⟩ := ih e l n _ h.2 hO h2
          exact ⟨y, l, h1, h3, h4⟩
        by_cases h0 : len = 0
        · subst h0
          exact ⟨[.sl (P.cellsOf e) []], ⟨.sl0 _ (some a) cap, trivial⟩, [], rfl, Nat.zero_le _, fun x hx => by cases hx⟩
        · have hfirst := each 0 (by omega)
          obtain ⟨y0, l0, g1, g2, _⟩ := hfirst
          obtain ⟨g3, g4⟩ := cells_at g1
          have hc0 : w.cell? a = l0[0]? := by
            have := g4 0 (by omega)
            simpa [Addr.add] using this
          have hl0 : l0[0]? = some (l0[0]'(by omega)) := List.getElem?_eq_getElem (by omega)
          have hspot : a.spot = none := by
            unfold World.cell? at hc0
            rw [hl0] at hc0
            split at hc0
            · split at hc0
              · cases hc0
              · rename_i hs; simpa using hs
            · cases hc0
          have hblk : a.block < w.heap.size := by
            unfold World.cell? at hc0
            rw [hl0] at hc0
            split at hc0
            · rename_i c _ _ hr; exact (Array.getElem?_eq_some_iff.1 hr).1
            · cases hc0
          obtain ⟨b, off, sp⟩ := a
          simp only at hspot hblk
          subst hspot
          -- the elements, one after the other
          have : ∀ n, n ≤ len → ∃ es : List (List PV), es.length = n ∧ (∀ x ∈ es, WFc P k e x) ∧ ∀ (i : Nat) y, es[i]? = some y → ∃ l, w.cells? base ((⟨b, off, none⟩ : Addr).add (i * P.cellsOf e)) (P.cellsOf e) = some l ∧ All2 (VP w O) y l := by
            intro n
            induction n with
            | zero => intro _; exact ⟨[], rfl, (fun x hx => by cases hx), (fun i y hy => by simp at hy)⟩
            | succ n ihn =>
              intro hn
              obtain ⟨es, h1, h2, h3⟩ := ihn (by omega)
              obtain ⟨y, l, h4, h5, h6⟩ := each n (by omega)
              refine ⟨es ++ [y], by simp [h1], fun x hx => ?_, fun i z hz => ?_⟩
              · rcases List.mem_append.1 hx with hx | hx
                · exact h2 x hx
                · simp at hx; subst hx; exact h6
              · rw [List.getElem?_append] at hz
                split at hz
                · exact h3 i z hz
                · have hi : i = n := by
                    have := (List.getElem?_eq_some_iff.1 hz).1
                    simp at this; omega
                  subst hi
                  rw [h1, Nat.sub_self] at hz
                  simp at hz; subst hz
                  exact ⟨l, h4, h5⟩
          obtain ⟨es, h1, h2, h3⟩ := this len (Nat.le_refl _)
          refine ⟨[.sl (P.cellsOf e) es], ⟨?_, trivial⟩, es, rfl, by omega, h2⟩
          have hcell : ∀ i j y c, es[i]? = some y → y[j]? = some c → ∃ u, w.cell? ⟨b, off + i * P.cellsOf e + j, none⟩ = some u ∧ VP w O c u := fun i j y c hy hc => by
            obtain ⟨l, h4, h5⟩ := h3 i y hy
            obtain ⟨h6, h7⟩ := cells_at h4
            obtain ⟨u, h8, h9⟩ := h5.get j c hc
            have hj : j < P.cellsOf e := by rw [← h6]; exact (List.getElem?_eq_some_iff.1 h8).1
            have := h7 j hj
            rw [addr_add, addr_add, h8] at this
            exact ⟨u, this, h9⟩
          rw [← h1]
          refine .sl (P.cellsOf e) es b off cap (fun i j => (w.cell? ⟨b, off + i * P.cellsOf e + j, none⟩).getD Go.undef) hblk (hO b) (by omega) (fun y hy => ?_) (fun i j y c hy hc => ?_) (fun i j y c hy hc => ?_)
          · obtain ⟨i, hi⟩ := List.mem_iff_getElem?.1 hy
            obtain ⟨l, h4, h5⟩ := h3 i y hi
            rw [h5.length, (cells_at h4).1]
          · obtain ⟨u, h4, _⟩ := hcell i j y c hy hc
            rw [h4]; rfl
          · obtain ⟨u, h4, h5⟩ := hcell i j y c hy hc
            rw [h4]; exact h5
    · rename_i fs ht
      simp only [Bool.and_eq_true] at h
      obtain ⟨xs, n, _, _, hlen, _, hel⟩ := DataW.trod_struct ht hd
      obtain ⟨ys, h1, h2⟩ := parts_in (us := us) (k := k) (w := w) (O := O) hlen h.2 fun f hf => by
        obtain ⟨i, hi⟩ := List.mem_iff_getElem?.1 hf
        have hi' : fs[i]? = some f := by simpa using hi
        have h3 := hel i f hi'
        have hlt : i < xs.length := by rename_i hxl; rw [hxl]; exact (Array.getElem?_eq_some_iff.1 hi').1
        rw [List.getElem?_eq_getElem hlt] at h3
        exact ih f.type _ n _ (List.all_eq_true.1 h.1 f hf) hO h3
      exact ⟨ys.flatten, by simpa using h2, ys, h1, rfl⟩
    · rename_i n e ht
      simp only [Bool.and_eq_true] at h
      obtain ⟨xs, m, _, _, hlen, hxl, hel⟩ := DataW.trod_array ht hd
      have hn := Nat.eq_of_beq_eq_true h.1
      obtain ⟨ys, h1, h2, h3⟩ := chunks_in (us := us) (w := w) (O := O) (Q := WFc P k e) n 0 (by rw [hlen, hn, Nat.zero_add]) fun j hj => by
        rw [Nat.zero_add] at hj
        have h3 := hel j hj
        rw [List.getElem?_eq_getElem (by omega)] at h3
        exact ih e _ m _ h.2 hO h3
      exact ⟨ys.flatten, by simpa using h3, ys, h1, rfl, h2⟩
    · cases h

def WFA (P : Program) (t : TypeId) (a : AV) : Prop := ∃ cs, WFc P 12 t cs ∧ ((isAggT P t = true ∧ a = .t (.agg cs)) ∨ (isAggT P t = false ∧ ∃ c, cs = [c] ∧ a = .t (.p c)))

theorem okTy_kinds {k : Nat} {t : TypeId} (ha : isAggT P t = false) (h : okTy P k t = true) : P.underlying t = some .bool ∨ (∃ kd, P.underlying t = some (.int kd)) ∨ P.underlying t = some .string ∨ ∃ e, P.underlying t = some (.slice e) := by
  cases k with
  | zero => cases h
  | succ k =>
    simp only [okTy] at h
    unfold isAggT at ha
    split at h
    · rename_i hu; exact .inl hu
    · rename_i kd hu; exact .inr (.inl ⟨kd, hu⟩)
    · rename_i hu; exact .inr (.inr (.inl hu))
    · rename_i e hu; exact .inr (.inr (.inr ⟨e, hu⟩))
    · rename_i fs hu; rw [hu] at ha; cases ha
    · rename_i n e hu; rw [hu] at ha; cases ha
    · cases h

theorem one_of_ok {r : Reach} {k : Nat} {t : TypeId} {v : Value} (ha : isAggT P t = false) (h : okTy P k t = true) (hv : Value.okWide P w r base t v) : v.cells = #[v] := by
  cases v with
  | agg cs =>
    exfalso
    rcases okTy_kinds ha h with hu | ⟨kd, hu⟩ | hu | ⟨e, hu⟩ <;> simp [Value.okWide, Cell.okWide, Cell.ok, hu] at hv
  | _ => rfl

theorem args_in {r : Reach} {b0 : Nat} (hO : ∀ b, ¬ O b) : ∀ {ts : List TypeId} {vs : List Value} {ds : List (DataW H)} {ps : List MemPlace}, ts.all (okTy P 12) = true → DataW.TrodAll enc P w base spare held ts vs ds ps →
    (∀ (j : Nat) t v, ts[j]? = some t → vs[j]? = some v → Value.okWide P w r b0 t v) → ∃ as, All2 (VA ⟨w, fun _ => none, [], O⟩) as vs ∧ All2 (WFA P) ts as
  | [], [], _, _, _, _, _ => ⟨[], trivial, trivial⟩
  | [], _ :: _, _, _, _, h, _ => h.elim
  | _ :: _, [], _, _, _, h, _ => h.elim
  | _ :: _, _ :: _, [], _, _, h, _ => h.elim
  | t :: ts, v :: vs, d :: ds, ps, hk, h, hv => by
    simp only [List.all_cons, Bool.and_eq_true] at hk
    obtain ⟨p, q, ⟨fuel, h1⟩, h2, _⟩ := h
    obtain ⟨as, h3, h4⟩ := args_in hO hk.2 h2 fun j t' v' ht hv' => hv (j + 1) t' v' (by simpa using ht) (by simpa using hv')
    have hok := hv 0 t v rfl rfl
    obtain ⟨cs, h5, h6⟩ := trod_in (O := fun b => O b) 12 t _ _ _ hk.1 hO h1
    have hP : ∀ c u, VP w O c u → Ctx.P ⟨w, fun _ => none, [], O⟩ c u := fun c u hc => hc.sub fun b _ hb => by
      rcases hb with hb | ⟨id, blk, _, hb⟩
      · exact hb
      · cases hb
    cases hag : isAggT P t with
    | true =>
      obtain ⟨us, rfl⟩ : ∃ us, v = .agg us := by
        unfold Value.okWide at hok
        unfold isAggT at hag
        split at hok
        · obtain ⟨us, rfl, _⟩ := hok; exact ⟨us, rfl⟩
        · obtain ⟨us, rfl, _⟩ := hok; exact ⟨us, rfl⟩
        · exfalso
          rename_i hn1 hn2
          split at hag
          · rename_i he; exact hn1 _ he
          · rename_i he; exact hn2 _ _ he
          · cases hag
      exact ⟨.t (.agg cs) :: as, ⟨⟨us, rfl, h5.mono hP⟩, h3⟩, ⟨cs, h6, .inl ⟨hag, rfl⟩⟩, h4⟩
    | false =>
      have hc := one_of_ok hag hk.1 hok
      rw [hc] at h5
      cases cs with
      | nil => exact h5.elim
      | cons c cs =>
        have : cs = [] := by cases cs with | nil => rfl | cons => exact h5.2.elim
        subst this
        exact ⟨.t (.p c) :: as, ⟨hP _ _ h5.1, h3⟩, ⟨[c], h6, .inr ⟨hag, c, rfl, rfl⟩⟩, h4⟩
end

theorem args_stay {H : Type} {enc : TypeId × Value → H} {P : Program} (hl : laidOutB P = true) {W W' : World} (hb : Below W.heap.size W W') : ∀ {ts : List TypeId} {vs : List Value} {ds : List (DataW H)} {ps : List MemPlace},
    ts.all (fun t => P.readableRec t && decide (t < P.types.size)) = true → DataW.TrodAll enc P W 0 (fun _ => true) true ts vs ds ps → DataW.TrodAll enc P W' 0 (fun b => decide (b < W.heap.size)) true ts vs ds ps
  | [], [], [], _, _, h => h
  | [], [], _ :: _, _, _, h => h.elim
  | [], _ :: _, _, _, _, h => h.elim
  | _ :: _, [], _, _, _, h => h.elim
  | _ :: _, _ :: _, [], _, _, h => h.elim
  | t :: ts, v :: vs, d :: ds, ps, hk, h => by
    simp only [List.all_cons, Bool.and_eq_true, decide_eq_true_eq] at hk
    obtain ⟨p, q, h1, h2, rfl⟩ := h
    have h1' := h1
    obtain ⟨fuel, hf⟩ := h1'
    exact ⟨p, q, Below.trod hl hk.1.1 hk.1.2 h1 hb (DataW.trod_lt fuel _ _ _ hf), args_stay hl hb hk.2 h2, rfl⟩

theorem law_calls {E : Env} (hP : PrimsOk E) (hE : okFns E = true) (hm : E.P.follows .mixedOrders = true) {f : Nat} (hf : hasN f E.okf = true) {as : List AV} {us : Array Value} {W : World} (hg : nG ≤ W.heap.size ∧ gFact (gOf W)) (hv : All2 (VA ⟨W, fun _ => none, [], fun _ => False⟩) as us.toList)
    (h : denC E f as [] = some ([.p (.bool true)], [])) : Calls E.P f us W fun e W' => e = .returned (.bool true) ∧ Below W.heap.size W W' := by
  have hok : Ok ⟨W, fun _ => none, [], fun _ => False⟩ := ⟨⟨(fun b hb => ⟨Nat.lt_of_lt_of_le hb hg.1, fun ⟨id, blk, hl, _⟩ => by simp [live, nth] at hl⟩), hg.2⟩, (fun id b hb => by simp [live, nth] at hb), (fun id id' n b b' _ _ h => by cases h), (fun n hn => hn.elim)⟩
  refine ((denC_sound hP hE hm).fn f as [] [.p (.bool true)] [] h hf ⟨W, fun _ => none, [], fun _ => False⟩ hok rfl us hv).mono fun e W' he => ?_
  cases e with
  | returned u =>
    obtain ⟨D, rfl, hx, _, _, hu⟩ := he
    have : u = .bool true := by cases (show D.P (.bool true) u from hu); rfl
    refine ⟨by rw [this], hx.os, hx.tape, hx.out, hx.size, fun b hb => hx.keep b hb fun ⟨id, blk, hl, _⟩ => ?_⟩
    simp [live, nth] at hl
  | panicked _ => exact he.elim
  | outgrown => exact he.elim

theorem trod_len {H : Type} {enc : TypeId × Value → H} {P : Program} {w : World} {base : Nat} {spare : Nat → Bool} {held : Bool} : ∀ {ts : List TypeId} {vs : List Value} {ds : List (DataW H)} {ps : List MemPlace}, DataW.TrodAll enc P w base spare held ts vs ds ps → ds.length = ts.length
  | [], [], [], _, _ => rfl
  | [], [], _ :: _, _, h => h.elim
  | [], _ :: _, _, _, h => h.elim
  | _ :: _, [], _, _, h => h.elim
  | _ :: _, _ :: _, [], _, h => h.elim
  | t :: ts, v :: vs, d :: ds, ps, h => by
    obtain ⟨p, q, _, h2, _⟩ := h
    simp [trod_len h2]

theorem list_cons {α : Type} {l : List α} {n : Nat} (h : l.length = n + 1) : ∃ a t, l = a :: t ∧ t.length = n := by
  cases l with
  | nil => simp at h
  | cons a t => exact ⟨a, t, rfl, by simpa using h⟩
theorem list_nil {α : Type} {l : List α} (h : l.length = 0) : l = [] := List.length_eq_zero_iff.1 h

theorem all2_cons {α β : Type} {R : α → β → Prop} {a : α} {l : List α} {m : List β} (h : All2 R (a :: l) m) : ∃ b t, m = b :: t ∧ R a b ∧ All2 R l t := by
  cases m with
  | nil => exact h.elim
  | cons b t => exact ⟨b, t, rfl, h.1, h.2⟩
theorem all2_nil {α β : Type} {R : α → β → Prop} {m : List β} (h : All2 R ([] : List α) m) : m = [] := by
  cases m with
  | nil => rfl
  | cons => exact h.elim

section
variable {P : Program} {t : TypeId} {k : Nat} {cs : List PV} {a : AV}
theorem wfc_int {kd : IntKind} (hu : P.underlying t = some (.int kd)) (h : WFc P (k + 1) t cs) : ∃ n, cs = [.int kd n] ∧ (Lit.int kd n).wf = true := by
  simp only [WFc, hu] at h; exact h
theorem wfc_sl {e : TypeId} (hu : P.underlying t = some (.slice e)) (h : WFc P (k + 1) t cs) : ∃ es, cs = [.sl (P.cellsOf e) es] ∧ es.length ≤ maxLen ∧ ∀ x ∈ es, WFc P k e x := by
  simp only [WFc, hu] at h; exact h
theorem wfa_one (hag : isAggT P t = false) (h : WFA P t a) : ∃ c, WFc P 12 t [c] ∧ a = .t (.p c) := by
  obtain ⟨cs, h1, h2⟩ := h
  rcases h2 with ⟨h2, _⟩ | ⟨_, c, rfl, rfl⟩
  · rw [hag] at h2; cases h2
  · exact ⟨c, h1, rfl⟩
theorem wfa_sl {e : TypeId} (hu : P.underlying t = some (.slice e)) (h : WFA P t a) : ∃ es, a = .sl (P.cellsOf e) es ∧ es.length ≤ maxLen ∧ ∀ x ∈ es, WFc P 11 e x := by
  obtain ⟨c, h1, rfl⟩ := wfa_one (by simp only [isAggT, hu]) h
  obtain ⟨n, h2, h3⟩ := wfc_sl hu h1
  cases h2; exact ⟨n, rfl, h3⟩
end

def intsK (k : IntKind) (l : List Int) : List (List PV) := l.map fun n => [PV.int k n]

theorem ints_of {k : IntKind} {Q : Int → Prop} : ∀ {es : List (List PV)}, (∀ x ∈ es, ∃ n, x = [PV.int k n] ∧ Q n) → ∃ l, es = intsK k l ∧ ∀ n ∈ l, Q n
  | [], _ => ⟨[], rfl, fun n hn => by cases hn⟩
  | x :: es, h => by
    obtain ⟨l, rfl, h2⟩ := ints_of (es := es) fun y hy => h y (by simp [hy])
    obtain ⟨n, rfl, h3⟩ := h x (by simp)
    exact ⟨n :: l, rfl, fun m hm => by
      rcases List.mem_cons.1 hm with rfl | hm
      · exact h3
      · exact h2 m hm⟩

theorem wf_i64 {n : Int} (h : (Lit.int .i64 n).wf = true) : -9223372036854775808 ≤ n ∧ n ≤ 9223372036854775807 := by
  simp only [Lit.wf, Bool.and_eq_true, decide_eq_true_eq] at h; exact h
theorem wfa_ints {P : Program} {t e : TypeId} {kd : IntKind} {a : AV} (hu : P.underlying t = some (.slice e)) (he : P.underlying e = some (.int kd)) (h : WFA P t a) :
    ∃ l, a = .sl (P.cellsOf e) (intsK kd l) ∧ l.length ≤ maxLen ∧ ∀ n ∈ l, (Lit.int kd n).wf = true := by
  obtain ⟨es, rfl, h2, h3⟩ := wfa_sl hu h
  obtain ⟨l, rfl, h4⟩ := ints_of fun x hx => wfc_int he (h3 x hx)
  exact ⟨l, rfl, by simpa [intsK] using h2, h4⟩

end Go.Proofs.YtpnpdkgdgfkpfaaGreatDoor.Vm
