/- The abstract machine, part 7: operations against the model's: values. -/
import Derived.Lib.SliceRun
import Derived.Test.YtpnpdkgdgfkpfaaGreatDoorVm6
import Derived.Deep.AppendSrc
import Derived.Laws.Strings
import Derived.Laws.StructEq
import Derived.ChangeKeysEq
import Derived.Laws.Entries
namespace Go.Proofs.YtpnpdkgdgfkpfaaGreatDoor.Vm
set_option linter.unusedVariables false
set_option linter.unusedSimpArgs false

theorem constP_sound {w : World} {O : Nat → Prop} {v : Value} {a : PV} (h : constP v = some a) : VP w O a v := by
  unfold constP at h
  split at h <;> first | (cases h; done) | (cases h; constructor) | skip
  all_goals first | (cases h; constructor) | skip

theorem constPs_sound {w : World} {O : Nat → Prop} : ∀ {l : List Value} {cs : List PV}, constPs l = some cs → All2 (VP w O) cs l
  | [], _, h => by simp only [constPs] at h; cases h; exact trivial
  | v :: l, cs, h => by
    simp only [constPs] at h
    split at h
    · rename_i a b ha hb
      cases h
      exact ⟨constP_sound ha, constPs_sound hb⟩
    · cases h

theorem constOf_sound (C : Ctx) (v : Value) : VA C (constOf v) v := by
  unfold constOf
  split
  · rename_i cs
    split
    · rename_i l hl
      exact ⟨cs, rfl, constPs_sound hl⟩
    · trivial
  · split
    · rename_i a ha
      exact constP_sound ha
    · trivial

def SlotsR (C : Ctx) (slots : List AV) (tmps : Array Value) : Prop := ∀ t, VA C (nth .undef slots t) (tmps.getD t Go.undef)

theorem evalA_sound {C : Ctx} {slots : List AV} {a : Act} (h : SlotsR C slots a.tmps) (x : Operand) : VA C (evalA slots x) (a.eval x) := by
  cases x with
  | tmp t => exact h t
  | const v => exact constOf_sound C v
  | global g => trivial
  | func f => exact ⟨#[], rfl, trivial⟩

theorem SlotsR.ext {C C' : Ctx} (hx : Ext C C') {slots : List AV} {tmps : Array Value} (h : SlotsR C slots tmps) : SlotsR C' slots tmps := fun t => hx.va (h t)

def Runs (P : Program) (w : World) (o : Oper) (ρ : Operand → Value) (u : Value) (w' : World) : Prop :=
  (execOp ρ o).run P w = .ok (.value u) w' ∨ ((execOp ρ o).run P w = .ok .skip w' ∧ u = Go.undef)

def Gives (C : Ctx) (us : Ups) (v : AV) (u : Value) (w' : World) : Prop :=
  ∃ C' : Ctx, C'.w = w' ∧ C'.h = putUps us C.h ∧ Ext C C' ∧ Ok C' ∧ VA C' v u

theorem Gives.same {C : Ctx} (hok : Ok C) {v : AV} {u : Value} (h : VA C v u) : Gives C [] v u C.w := ⟨C, rfl, rfl, Ext.refl C, hok, h⟩

section run
variable {P : Program} {w w' : World} {u : Value} {s : Sem Value} {s' : Sem Unit}
theorem run_val (h : s.run P w = .ok u w') : (do pure (Next.value (← s)) : Sem Next).run P w = .ok (.value u) w' := by simp [h]
theorem run_unit (h : s'.run P w = .ok () w') : (do s'; pure Next.skip : Sem Next).run P w = .ok .skip w' := by simp [h]
end run

theorem cells_get (carr : Array Value) (n j : Nat) {w : World} {e : TypeId} {fr : Nat × Nat} (hr : w.heap[n]? = some (.cells carr e fr)) : w.cell? ⟨n, j, none⟩ = carr[j]? := by
  simp [World.cell?, hr]

theorem frozen_sound {C : Ctx} (hok : Ok C) {id sz : Nat} {es : List (List PV)} {u : Value} (hl : live C.h id (.arr sz es)) (hu : HS C id sz es u) {K : Ups} (hK : allDead K) (hin : (id, Ent.dead) ∈ K) :
    (C.kill K).P (.sl sz es) u := by
  unfold HS at hu
  have hb := hok.blk id _ hl
  cases hi : C.ι id with
  | none =>
    rw [hi] at hu
    obtain ⟨rfl, rfl⟩ := hu
    exact .sl0 sz none 0
  | some n =>
    rw [hi] at hu
    obtain ⟨cap, carr, e, fr, rfl, hle, hr, hcap⟩ := hu
    rcases hb with ⟨h1, _⟩ | ⟨m, carr2, e2, fr2, h1, h2, hs, hf, hz, hone, hc⟩
    · rw [hi] at h1; cases h1
    · rw [hi] at h1; cases h1
      rw [hr] at h2; cases h2
      have hO : ¬ (C.kill K).O n := by
        rintro (hx | ⟨id2, b2, h3, h4⟩)
        · exact (hok.x n hx).2 ⟨id, _, hl, hi⟩
        · have h5 := live_putDead hK h3
          have := hok.inj id2 id n b2 _ h5 hl h4 hi
          subst this
          exact not_live_put hK hin h3
      refine .sl sz es n 0 cap (fun i j => carr.getD (i * sz + j) Go.undef) (Array.getElem?_eq_some_iff.1 hr).1 hO hle hz (fun i j e c he hj => ?_) (fun i j e c he hj => ?_)
      · obtain ⟨x, hx, _⟩ := hc i j e c he hj
        show C.w.cell? _ = _
        rw [show 0 + i * sz + j = i * sz + j by omega, cells_get carr n _ hr, hx]
        simp [Array.getD_eq_getD_getElem?, hx]
      · obtain ⟨x, hx, hp⟩ := hc i j e c he hj
        simp only [Array.getD_eq_getD_getElem?, hx, Option.getD_some]
        exact (ext_kill C hK).vp hp

def LookOk (C : Ctx) (look : Look) : Prop := ∀ id b, look id = some b → live C.h id b

theorem pureT_dead {look : Look} {v : TV} {vs : List PV} {us : Ups} (h : pureT look v = some (vs, us)) : allDead us := by
  unfold pureT at h
  split at h
  · cases h; exact fun _ h => by cases h
  · cases h; exact fun _ h => by cases h
  · split at h
    · cases h; intro x hx; simp at hx; rw [hx]
    · cases h
  · cases h

theorem pureTs_from {look : Look} : ∀ {l : List TV} {vs : List PV} {us : Ups}, pureTs look l = some (vs, us) → ∀ y ∈ us, ∃ v x u, pureT look v = some (x, u) ∧ y ∈ u
  | [], _, _, h, y, hy => by simp only [pureTs] at h; cases h; cases hy
  | v :: l, vs, us, h, y, hy => by
    simp only [pureTs] at h
    split at h
    · rename_i x u vs' us' h1 h2
      split at h
      · cases h
        rcases List.mem_append.1 hy with hy | hy
        · exact ⟨v, _, u, h1, hy⟩
        · exact pureTs_from h2 y hy
      · cases h
    · cases h
theorem pureTs_dead {look : Look} {l : List TV} {vs : List PV} {us : Ups} (h : pureTs look l = some (vs, us)) : allDead us := fun y hy => by
  obtain ⟨v, x, u, h1, h2⟩ := pureTs_from h y hy
  exact pureT_dead h1 y h2

theorem pureA_dead {look : Look} {v : AV} {vs : List PV} {us : Ups} (h : pureA look v = some (vs, us)) : allDead us := by
  unfold pureA at h
  split at h
  · exact pureT_dead h
  · cases h; exact fun _ h => by cases h
  · exact pureTs_dead h
  · cases h

theorem pureT_sound {C : Ctx} (hok : Ok C) {look : Look} (hl : LookOk C look) {v : TV} {u : Value} {vs : List PV} {us : Ups} (hv : VT C v u) (h : pureT look v = some (vs, us))
    {K : Ups} (hK : allDead K) (hin : ∀ x ∈ us, x ∈ K) : All2 (C.kill K).P vs u.cells.toList := by
  unfold pureT at h
  split at h
  · cases h
    have hv' : C.P _ u := hv
    rw [hv'.cells]
    exact ⟨(ext_kill C hK).vp hv', trivial⟩
  · cases h
    obtain ⟨cs, rfl, ha⟩ := hv
    exact ha.mono fun _ _ => (ext_kill C hK).vp
  · rename_i id
    split at h
    · rename_i sz es hb
      cases h
      obtain ⟨_, _, hv⟩ := hv
      have hlv := hl _ _ hb
      have := frozen_sound hok hlv (hv _ _ hlv) hK (hin _ (by simp))
      rw [this.cells]
      exact ⟨this, trivial⟩
    · cases h
  · cases h

theorem vt_one {C : Ctx} {v : TV} {u : Value} (h1 : oneT v = true) (h : VT C v u) : u.oneCell' = true ∧ u.cells = #[u] := by
  cases v with
  | p v => exact ⟨VP.oneCell h, VP.cells h⟩
  | agg cs => cases h1
  | hsl id => obtain ⟨_, ⟨a, l, c, rfl⟩, _⟩ := h; exact ⟨rfl, rfl⟩
  | ptr id o => cases h1

theorem pureTs_sound {C : Ctx} (hok : Ok C) {look : Look} (hl : LookOk C look) : ∀ {l : List TV} {xs : List Value} {vs : List PV} {us : Ups}, All2 (VT C) l xs → pureTs look l = some (vs, us) →
    ∀ {K : Ups}, allDead K → (∀ x ∈ us, x ∈ K) → All2 (C.kill K).P vs xs
  | [], [], _, _, _, h, _, _, _ => by simp only [pureTs] at h; cases h; exact trivial
  | [], _ :: _, _, _, ha, _, _, _, _ => ha.elim
  | _ :: _, [], _, _, ha, _, _, _, _ => ha.elim
  | v :: l, x :: xs, vs, us, ha, h, K, hK, hin => by
    simp only [pureTs] at h
    split at h
    · rename_i y u vs' us' h1 h2
      split at h
      · rename_i ho
        cases h
        have hp := pureT_sound hok hl ha.1 h1 hK (fun z hz => hin z (by simp [hz]))
        rw [(vt_one ho ha.1).2] at hp
        exact ⟨hp.1, pureTs_sound hok hl ha.2 h2 hK (fun z hz => hin z (by simp [hz]))⟩
      · cases h
    · cases h

theorem pureA_sound {C : Ctx} (hok : Ok C) {look : Look} (hl : LookOk C look) {v : AV} {u : Value} {vs : List PV} {us : Ups} (hv : VA C v u) (h : pureA look v = some (vs, us))
    {K : Ups} (hK : allDead K) (hin : ∀ x ∈ us, x ∈ K) : All2 (C.kill K).P vs u.cells.toList := by
  unfold pureA at h
  split at h
  · exact pureT_sound hok hl hv h hK hin
  · cases h
    obtain ⟨us, rfl, ha⟩ := hv
    obtain rfl : us = #[] := by
      cases us with | mk l => cases l with | nil => rfl | cons => exact ha.elim
    exact ⟨.fn _, trivial⟩
  · obtain ⟨xs, rfl, ha⟩ := hv
    exact pureTs_sound hok hl ha h hK hin
  · cases h

theorem intBin_sound {op : BinOp} {k : IntKind} {a b : Int} {v : PV} (h : intBin op k a b = some v) (P : Program) (w : World) (xt : TypeId) (O : Nat → Prop) :
    ∃ u, (binOp op xt (.int k a) (.int k b)).run P w = .ok u w ∧ VP w O v u := by
  cases op <;> simp only [intBin] at h <;> first | (cases h; done) | skip
  all_goals
    cases h
    refine ⟨_, by simp only [binOp, Op.intArith, Op.intBits, Op.intCmp, ne_eq, not_true_eq_false, if_false]; rfl, ?_⟩
    constructor

theorem strLess_eq : ∀ x y : List UInt8, strLess x y = Op.bytesLess x y
  | _, [] => by cases ‹List UInt8› <;> rfl
  | [], _ :: _ => rfl
  | a :: x, b :: y => by simp [strLess, Op.bytesLess, strLess_eq x y]

theorem toList_mk (l : List UInt8) : (ByteArray.mk l.toArray).toList = l := by
  rw [ByteArray.toList_eq]

theorem strBin_sound {op : BinOp} {a b : List UInt8} {v : PV} (h : strBin op a b = some v) (P : Program) (w : World) (xt : TypeId) (O : Nat → Prop) :
    ∃ u, (binOp op xt (.string ⟨a.toArray⟩) (.string ⟨b.toArray⟩)).run P w = .ok u w ∧ VP w O v u := by
  cases op <;> simp only [strBin] at h <;> first | (cases h; done) | skip
  all_goals
    cases h
    refine ⟨_, by simp only [binOp, Op.stringOp, toList_mk, ← strLess_eq]; rfl, ?_⟩
    constructor

theorem row_get {w : World} {O : Nat → Prop} {i : Nat} (zs : Array Value) (a : PV) (as : List PV) (hz : All2 (VP w O) (a :: as) (zs.toList.drop i)) : ∃ u, zs[i]? = some u ∧ VP w O a u ∧ All2 (VP w O) as (zs.toList.drop (i + 1)) := by
  cases hd : zs.toList.drop i with
  | nil => rw [hd] at hz; exact hz.elim
  | cons u us =>
    rw [hd] at hz
    refine ⟨u, ?_, hz.1, ?_⟩
    · have := congrArg List.head? hd
      simpa [List.head?_drop] using this
    · have := congrArg List.tail hd
      simp only [List.tail_drop, List.tail_cons] at this
      rw [this]; exact hz.2

theorem items_sound {P : Program} {w : World} {O : Nat → Prop} (d : Nat) {e : TypeId} {kk : IntKind} (he : P.underlying e = some (.int kk)) (xs ys : Array Value) : ∀ (cs ds : List PV) (j : Nat) (b : Bool), eqIn cs ds = some b →
    All2 (VP w O) cs (xs.toList.drop j) → All2 (VP w O) ds (ys.toList.drop j) → (Op.eqItems (d + 1) e 1 xs ys (List.range' j cs.length)).run P w = .ok b w := by
  intro cs
  induction cs with
  | nil =>
    intro ds j b h _ _
    cases ds <;> simp only [eqIn] at h <;> first | (cases h; done) | (cases h; simp [Op.eqItems])
  | cons c cs ih =>
    intro ds j b h hx hy
    cases ds with
    | nil => cases c <;> simp [eqIn] at h
    | cons e' ds =>
      obtain ⟨u, hu, hcu, hx'⟩ := row_get xs c cs hx
      obtain ⟨v, hv, hev, hy'⟩ := row_get ys e' ds hy
      unfold eqIn at h
      split at h
      · rename_i h1 _; cases h1
      · rename_i k a cs' k' b' ds' h1 h2
        cases h1; cases h2
        split at h
        · rename_i r hr
          split at h
          · rename_i hk
            cases h
            cases hcu; cases hev
            cases kindEq_iff _ _ hk
            have ih' := ih ds (j + 1) r hr hx' hy'
            have px : (part e xs j).run P w = .ok (.int k a) w := by simp [part, isAgg, run_underlying he, hu]
            have py : (part e ys j).run P w = .ok (.int k b') w := by simp [part, isAgg, run_underlying he, hv]
            have pe := run_equalIn_int (P := P) w d e k kk a b' he
            rw [List.length_cons, List.range'_succ]
            cases hb : a == b' <;> rw [hb] at pe <;> simp [Op.eqItems, px, py, pe, ih']
          · cases h
        · cases h
      · cases h

theorem cells_of {P : Program} {t : TypeId} {i : TypeInfo} (h : P.info? t = some i) : P.cellsOf t = i.size := by simp [Program.cellsOf, h]

theorem arr_sound {P : Program} {w : World} {O : Nat → Prop} (d : Nat) {t : TypeId} {n : Nat} (ht : arrI P t = some n) (xs ys : Array Value) {cs ds : List PV} {b : Bool} (h : eqIn cs ds = some b) (hl : cs.length = n)
    (hx : All2 (VP w O) cs xs.toList) (hy : All2 (VP w O) ds ys.toList) : (Op.equalIn (d + 2) t (.agg xs) (.agg ys)).run P w = .ok b w := by
  unfold arrI at ht
  split at ht
  · rename_i n' e hu
    split at ht
    · rename_i kk i j hk hi hj
      split at ht
      · rename_i hc
        simp only [Bool.and_eq_true] at hc
        cases ht
        have h1 : P.cellsOf e = 1 := (cells_of hi).trans (Nat.eq_of_beq_eq_true hc.1)
        rw [run_equalIn_array w (d + 1) xs ys hu hi, h1, List.range_eq_range', ← hl]
        exact items_sound d hk xs ys cs ds 0 b h (by simpa using hx) (by simpa using hy)
      · cases ht
    · cases ht
  · cases ht

theorem all2_take {α β : Type} {R : α → β → Prop} : ∀ (n : Nat) {l : List α} {m : List β}, All2 R l m → All2 R (l.take n) (m.take n)
  | 0, _, _, _ => trivial
  | n + 1, [], [], _ => trivial
  | n + 1, a :: l, b :: m, h => ⟨h.1, all2_take n h.2⟩
theorem all2_drop {α β : Type} {R : α → β → Prop} : ∀ (n : Nat) {l : List α} {m : List β}, All2 R l m → All2 R (l.drop n) (m.drop n)
  | 0, _, _, h => h
  | n + 1, [], [], _ => trivial
  | n + 1, a :: l, b :: m, h => all2_drop n h.2

theorem part_arr {P : Program} {w : World} {t : TypeId} {n : Nat} (ht : arrI P t = some n) (zs : Array Value) (i : Nat) : (part t zs i).run P w = .ok (.agg (zs.extract i (i + n))) w := by
  unfold arrI at ht
  split at ht
  · rename_i n' e hu
    split at ht
    · rename_i kk i' j hk hi hj
      split at ht
      · rename_i hc
        simp only [Bool.and_eq_true] at hc
        cases ht
        have h1 : P.cellsOf t = n := (cells_of hj).trans (Nat.eq_of_beq_eq_true hc.2)
        simp [part, isAgg, run_underlying hu, run_sizeOf w hj, h1]
      · cases ht
    · cases ht
  · cases ht

theorem part_str {P : Program} {w : World} {t : TypeId} {n : Nat} {gs : List Field} (ht : strI P t = some (n, gs)) : (∀ (zs : Array Value) (i : Nat), (part t zs i).run P w = .ok (.agg (zs.extract i (i + n))) w) ∧ ∀ (d : Nat) (xs ys : Array Value), (Op.equalIn (d + 1) t (.agg xs) (.agg ys)).run P w = (Op.eqFields d xs ys gs).run P w := by
  unfold strI at ht
  split at ht
  · rename_i fs hu
    split at ht
    · rename_i j hj
      split at ht
      · rename_i hc
        cases ht
        have h1 : P.cellsOf t = j.size := cells_of hj
        have hfs : P.fieldsOf t = fs := by simp [Program.fieldsOf, hu]
        refine ⟨fun zs i => by simp [part, isAgg, run_underlying hu, run_sizeOf w hj, h1], fun d xs ys => ?_⟩
        have := run_equalIn_struct (P := P) w d t xs ys (by rw [hfs]; exact hu) (by simpa using hc)
        rw [hfs] at this
        exact this
      · cases ht
    · cases ht
  · cases ht

theorem eqF0_sound {P : Program} {w : World} {O : Nat → Prop} (d : Nat) (xs ys : Array Value) : ∀ (fs : List Field) (i : Nat) (cs ds : List PV) (r : Bool), eqF0 P fs i cs ds = some r →
    All2 (VP w O) cs (xs.toList.drop i) → All2 (VP w O) ds (ys.toList.drop i) → (Op.eqFields (d + 2) xs ys fs).run P w = .ok r w := by
  intro fs
  induction fs with
  | nil =>
    intro i cs ds r h _ _
    cases cs <;> cases ds <;> simp only [eqF0] at h <;> first | (cases h; done) | (cases h; rfl)
  | cons f fs ih =>
    intro i cs ds r h hx hy
    cases hav : arrI P f.type with
    | some n =>
      simp only [eqF0, hav] at h
      split at h
      · rename_i r' b hr' hb
        split at h
        · rename_i hcond
          cases h
          simp only [Bool.and_eq_true, bne_iff_ne, ne_eq] at hcond
          obtain ⟨⟨h1, h2⟩, h3⟩ := hcond
          have hoff : f.offset = i := Nat.eq_of_beq_eq_true h1
          have ih' := ih (i + n) _ _ r' hr' (by rw [← List.drop_drop]; exact all2_drop n hx) (by rw [← List.drop_drop]; exact all2_drop n hy)
          have ex : ∀ zs : Array Value, (zs.extract i (i + n)).toList = (zs.toList.drop i).take n := fun zs => by simp [List.take_drop, List.extract_eq_take_drop]
          have hb' := arr_sound (w := w) (O := O) d hav (xs.extract i (i + n)) (ys.extract i (i + n)) hb (Nat.eq_of_beq_eq_true h3) (by rw [ex]; exact all2_take n hx) (by rw [ex]; exact all2_take n hy)
          cases b <;> simp [Op.eqFields, h2, hoff, part_arr hav, hb', ih']
        · cases h
      · cases h
    | none =>
      cases cs with
      | nil => cases ds <;> simp [eqF0, hav] at h
      | cons c cs =>
        cases ds with
        | nil => simp [eqF0, hav] at h
        | cons e ds =>
          obtain ⟨u, hu, hcu, hx'⟩ := row_get xs c cs hx
          obtain ⟨v, hv, hev, hy'⟩ := row_get ys e ds hy
          simp only [eqF0, hav] at h
          split at h
          · cases h
          · rename_i r' hr'
            have ih' := ih (i + 1) cs ds r' hr' hx' hy'
            split at h
            · rename_i hcond
              simp only [Bool.and_eq_true, bne_iff_ne, ne_eq] at hcond
              have hoff : f.offset = i := Nat.eq_of_beq_eq_true hcond.1
              have fin : ∀ b : Bool, ((part f.type xs f.offset).run P w = .ok u w) → ((part f.type ys f.offset).run P w = .ok v w) → ((Op.equalIn (d + 2) f.type u v).run P w = .ok b w) → (Op.eqFields (d + 2) xs ys (f :: fs)).run P w = .ok (b && r') w := by
                intro b h1 h2 h3
                cases b <;> simp [Op.eqFields, hcond.2, h1, h2, h3, ih']
              have prt : ∀ (zs : Array Value) (z : Value), zs[i]? = some z → isAggT P f.type = false → (∃ t, P.underlying f.type = some t) → (part f.type zs f.offset).run P w = .ok z w := by
                intro zs z hz hag ⟨t, ht⟩
                rw [hoff]
                unfold isAggT at hag
                rw [ht] at hag
                cases t <;> first | (cases hag; done) | simp [part, isAgg, run_underlying ht, hz]
              split at h
              · rename_i kk k a k' b hty
                split at h
                · rename_i hk
                  cases h
                  cases hcu; cases hev
                  have hag : isAggT P f.type = false := by simp [isAggT, hty]
                  refine fin _ (prt xs _ hu hag ⟨_, hty⟩) (prt ys _ hv hag ⟨_, hty⟩) ?_
                  cases kindEq_iff _ _ hk
                  exact run_equalIn_int _ _ _ _ _ _ _ hty
                · cases h
              · rename_i a b hty
                cases h
                cases hcu; cases hev
                have hag : isAggT P f.type = false := by simp [isAggT, hty]
                exact fin _ (prt xs _ hu hag ⟨_, hty⟩) (prt ys _ hv hag ⟨_, hty⟩) (run_equalIn_bool' _ _ _ _ _ hty)
              · rename_i a b hty
                cases h
                cases hcu; cases hev
                have hag : isAggT P f.type = false := by simp [isAggT, hty]
                refine fin _ (prt xs _ hu hag ⟨_, hty⟩) (prt ys _ hv hag ⟨_, hty⟩) ?_
                have := run_equalIn_string (P := P) w (d + 1) f.type ⟨a.toArray⟩ ⟨b.toArray⟩ hty
                rw [toList_mk, toList_mk] at this
                exact this
              · cases h
            · cases h

theorem eqFl_sound {P : Program} {w : World} {O : Nat → Prop} (d : Nat) (xs ys : Array Value) : ∀ (fs : List Field) (i : Nat) (cs ds : List PV) (r : Bool), eqFl P fs i cs ds = some r →
    All2 (VP w O) cs (xs.toList.drop i) → All2 (VP w O) ds (ys.toList.drop i) → (Op.eqFields (d + 3) xs ys fs).run P w = .ok r w := by
  intro fs
  induction fs with
  | nil =>
    intro i cs ds r h _ _
    cases cs <;> cases ds <;> simp only [eqFl] at h <;> first | (cases h; done) | (cases h; rfl)
  | cons f fs ih =>
    intro i cs ds r h hx hy
    cases hsv : strI P f.type with
    | some p =>
      obtain ⟨n, gs⟩ := p
      simp only [eqFl, hsv] at h
      split at h
      · rename_i r' b hr' hb
        split at h
        · rename_i hcond
          cases h
          simp only [Bool.and_eq_true, bne_iff_ne, ne_eq] at hcond
          obtain ⟨h1, h2⟩ := hcond
          have hoff : f.offset = i := Nat.eq_of_beq_eq_true h1
          have ih' := ih (i + n) _ _ r' hr' (by rw [← List.drop_drop]; exact all2_drop n hx) (by rw [← List.drop_drop]; exact all2_drop n hy)
          have ex : ∀ zs : Array Value, (zs.extract i (i + n)).toList = (zs.toList.drop i).take n := fun zs => by simp [List.take_drop, List.extract_eq_take_drop]
          obtain ⟨hp, hu⟩ := part_str (w := w) hsv
          have hb' : (Op.equalIn (d + 3) f.type (.agg (xs.extract i (i + n))) (.agg (ys.extract i (i + n)))).run P w = .ok b w := by
            rw [hu]
            exact eqF0_sound d _ _ gs 0 _ _ b hb (by rw [List.drop_zero, ex]; exact all2_take n hx) (by rw [List.drop_zero, ex]; exact all2_take n hy)
          cases b <;> simp [Op.eqFields, h2, hoff, hp, hb', ih']
        · cases h
      · cases h
    | none =>
      cases hav : arrI P f.type with
      | some n =>
        simp only [eqFl, hsv, hav] at h
        split at h
        · rename_i r' b hr' hb
          split at h
          · rename_i hcond
            cases h
            simp only [Bool.and_eq_true, bne_iff_ne, ne_eq] at hcond
            obtain ⟨⟨h1, h2⟩, h3⟩ := hcond
            have hoff : f.offset = i := Nat.eq_of_beq_eq_true h1
            have ih' := ih (i + n) _ _ r' hr' (by rw [← List.drop_drop]; exact all2_drop n hx) (by rw [← List.drop_drop]; exact all2_drop n hy)
            have ex : ∀ zs : Array Value, (zs.extract i (i + n)).toList = (zs.toList.drop i).take n := fun zs => by simp [List.take_drop, List.extract_eq_take_drop]
            have hb' := arr_sound (w := w) (O := O) (d + 1) hav (xs.extract i (i + n)) (ys.extract i (i + n)) hb (Nat.eq_of_beq_eq_true h3) (by rw [ex]; exact all2_take n hx) (by rw [ex]; exact all2_take n hy)
            cases b <;> simp [Op.eqFields, h2, hoff, part_arr hav, hb', ih']
          · cases h
        · cases h
      | none =>
        cases cs with
        | nil => cases ds <;> simp [eqFl, hsv, hav] at h
        | cons c cs =>
          cases ds with
          | nil => simp [eqFl, hsv, hav] at h
          | cons e ds =>
            obtain ⟨u, hu, hcu, hx'⟩ := row_get xs c cs hx
            obtain ⟨v, hv, hev, hy'⟩ := row_get ys e ds hy
            simp only [eqFl, hsv, hav] at h
            split at h
            · cases h
            · rename_i r' hr'
              have ih' := ih (i + 1) cs ds r' hr' hx' hy'
              split at h
              · rename_i hcond
                simp only [Bool.and_eq_true, bne_iff_ne, ne_eq] at hcond
                have hoff : f.offset = i := Nat.eq_of_beq_eq_true hcond.1
                have fin : ∀ b : Bool, ((part f.type xs f.offset).run P w = .ok u w) → ((part f.type ys f.offset).run P w = .ok v w) → ((Op.equalIn (d + 3) f.type u v).run P w = .ok b w) → (Op.eqFields (d + 3) xs ys (f :: fs)).run P w = .ok (b && r') w := by
                  intro b h1 h2 h3
                  cases b <;> simp [Op.eqFields, hcond.2, h1, h2, h3, ih']
                have prt : ∀ (zs : Array Value) (z : Value), zs[i]? = some z → isAggT P f.type = false → (∃ t, P.underlying f.type = some t) → (part f.type zs f.offset).run P w = .ok z w := by
                  intro zs z hz hag ⟨t, ht⟩
                  rw [hoff]
                  unfold isAggT at hag
                  rw [ht] at hag
                  cases t <;> first | (cases hag; done) | simp [part, isAgg, run_underlying ht, hz]
                split at h
                · rename_i kk k a k' b hty
                  split at h
                  · rename_i hk
                    cases h
                    cases hcu; cases hev
                    have hag : isAggT P f.type = false := by simp [isAggT, hty]
                    refine fin _ (prt xs _ hu hag ⟨_, hty⟩) (prt ys _ hv hag ⟨_, hty⟩) ?_
                    cases kindEq_iff _ _ hk
                    exact run_equalIn_int _ _ _ _ _ _ _ hty
                  · cases h
                · rename_i a b hty
                  cases h
                  cases hcu; cases hev
                  have hag : isAggT P f.type = false := by simp [isAggT, hty]
                  exact fin _ (prt xs _ hu hag ⟨_, hty⟩) (prt ys _ hv hag ⟨_, hty⟩) (run_equalIn_bool' _ _ _ _ _ hty)
                · rename_i a b hty
                  cases h
                  cases hcu; cases hev
                  have hag : isAggT P f.type = false := by simp [isAggT, hty]
                  refine fin _ (prt xs _ hu hag ⟨_, hty⟩) (prt ys _ hv hag ⟨_, hty⟩) ?_
                  have := run_equalIn_string (P := P) w (d + 2) f.type ⟨a.toArray⟩ ⟨b.toArray⟩ hty
                  rw [toList_mk, toList_mk] at this
                  exact this
                · cases h
              · cases h

theorem binK_sound {C : Ctx} {P : Program} {op : BinOp} {xt : TypeId} {x y : AV} {ux uy : Value} {v : PV} (hx : VA C x ux) (hy : VA C y uy) (h : binK P op xt x y some = some v) (X Y : Operand) :
    ∃ u, (do eqGuard op xt X Y ux uy; binOp op xt ux uy : Sem Value).run P C.w = .ok u C.w ∧ C.P v u := by
  unfold binK at h
  split at h
  · rename_i k a k' b
    cases hx; cases hy
    have hg : (eqGuard op xt X Y (.int k a) (.int k' b)) = pure () := eqGuard_at_int ..
    rw [hg]
    split at h
    · cases hc : (kindEq k k' && decide (b ≠ 0)) with
      | false => rw [hc] at h; cases h
      | true =>
        rw [hc] at h; cases h
        simp only [Bool.and_eq_true, decide_eq_true_eq] at hc
        cases kindEq_iff _ _ hc.1
        exact ⟨_, by simp [binOp, Op.intDiv, hc.2], .int _ _⟩
    · cases hc : (kindEq k k' && decide (b ≠ 0)) with
      | false => rw [hc] at h; cases h
      | true =>
        rw [hc] at h; cases h
        simp only [Bool.and_eq_true, decide_eq_true_eq] at hc
        cases kindEq_iff _ _ hc.1
        exact ⟨_, by simp [binOp, Op.intDiv, hc.2], .int _ _⟩
    · cases hc : leB 0 b with
      | false => rw [hc] at h; cases h
      | true =>
        rw [hc] at h; cases h
        have hb : ¬ b < 0 := by simpa using hc
        exact ⟨_, by simp [binOp, Op.shift, hb], .int _ _⟩
    · cases hc : leB 0 b with
      | false => rw [hc] at h; cases h
      | true =>
        rw [hc] at h; cases h
        have hb : ¬ b < 0 := by simpa using hc
        exact ⟨_, by simp [binOp, Op.shift, hb], .int _ _⟩
    · split at h
      · rename_i v' hv'
        cases hc : kindEq k k' with
        | false => rw [hc] at h; cases h
        | true =>
          rw [hc] at h; cases h
          cases kindEq_iff _ _ hc
          obtain ⟨u, h1, h2⟩ := intBin_sound hv' P C.w xt C.O
          exact ⟨u, by simpa using h1, h2⟩
      · cases h
  · rename_i a b
    cases hx; cases hy
    have hg : (eqGuard op xt X Y (.string ⟨a.toArray⟩) (.string ⟨b.toArray⟩)) = pure () := by cases op <;> rfl
    rw [hg]
    split at h
    · cases hc : leN (a.length + b.length) 9223372036854775807 with
      | false => rw [hc] at h; cases h
      | true =>
        rw [hc] at h; cases h
        simp only [decide_eq_true_eq] at hc
        refine ⟨.string ⟨(a ++ b).toArray⟩, ?_, .str _⟩
        have h1 : ¬ (((ByteArray.mk a.toArray).size + (ByteArray.mk b.toArray).size : Nat) : Int) > IntKind.i64.max := by
          show ¬ (((a.toArray.size + b.toArray.size : Nat) : Int) > 9223372036854775807)
          simp
          omega
        have h2 : (ByteArray.mk a.toArray ++ ByteArray.mk b.toArray) = ⟨(a ++ b).toArray⟩ := by
          apply ByteArray.ext
          simp
        simp only [binOp, Op.stringOp, h1, if_false, h2, Sem.run_bind, Sem.run_pure, Result.andThen_ok]
    · split at h
      · rename_i v' hv'
        cases h
        obtain ⟨u, h1, h2⟩ := strBin_sound hv' P C.w xt C.O
        exact ⟨u, by simpa using h1, h2⟩
      · cases h
  · rename_i a b
    cases hx; cases hy
    have hg : (eqGuard op xt X Y (.bool a) (.bool b)) = pure () := eqGuard_at_bool ..
    rw [hg]
    split at h
    · rename_i hty
      cases h
      refine ⟨_, ?_, .bool _⟩
      have := run_equalIn_bool' (P := P) C.w 9999 xt a b hty
      simp [binOp, Op.equal, Op.maxDepth, this]
    · rename_i hty
      cases h
      refine ⟨_, ?_, .bool _⟩
      have := run_equalIn_bool' (P := P) C.w 9999 xt a b hty
      simp [binOp, Op.equal, Op.maxDepth, this]
    · cases h
  · rename_i cs ds
    obtain ⟨us, rfl, hus⟩ := hx
    obtain ⟨vs, rfl, hvs⟩ := hy
    have key : ∀ r, eqAgg P xt cs ds = some r → (Op.equal xt (.agg us) (.agg vs)).run P C.w = .ok r C.w ∧ P.eqGuardType P.depth xt = false := by
      intro r hr
      unfold eqAgg at hr
      split at hr
      · rename_i fs hty
        split at hr
        · rename_i hc
          simp only [Bool.and_eq_true, Bool.not_eq_true'] at hc
          have hfs : P.fieldsOf xt = fs := by simp [Program.fieldsOf, hty]
          have := run_equalIn_struct (P := P) C.w 9999 xt us vs (by rw [hfs]; exact hty) hc.1
          rw [hfs] at this
          refine ⟨?_, hc.2⟩
          show (Op.equalIn 10000 xt (.agg us) (.agg vs)).run P C.w = _
          rw [this]
          exact eqFl_sound 9996 us vs fs.toList 0 cs ds r hr (by simpa using hus) (by simpa using hvs)
        · cases hr
      · split at hr
        · rename_i hc
          split at hr
          · rename_i n hn
            split at hr
            · rename_i hl
              exact ⟨arr_sound 9998 hn us vs hr (Nat.eq_of_beq_eq_true hl) hus hvs, by simpa using hc⟩
            · cases hr
          · cases hr
        · cases hr
      · cases hr
    split at h
    · rename_i r hr
      cases h
      obtain ⟨h1, h2⟩ := key r hr
      exact ⟨.bool r, by simp [eqGuard, h2, binOp, h1], .bool _⟩
    · rename_i r hr
      cases h
      obtain ⟨h1, h2⟩ := key r hr
      exact ⟨.bool (!r), by simp [eqGuard, h2, binOp, h1], .bool _⟩
    · cases h
  · rename_i sz es
    have hy : uy = .slice none 0 0 := by cases hy; rfl
    subst hy
    split at h
    · rename_i hty
      cases h
      have hx : ∃ a n c, ux = .slice a n c := by cases hx <;> exact ⟨_, _, _, rfl⟩
      obtain ⟨a, n, c, rfl⟩ := hx
      have hg : (eqGuard .eql xt X Y (.slice a n c) (.slice none 0 0)) = pure () := rfl
      rw [hg]
      exact ⟨.bool a.isNone, by simpa using Go.Lib.run_eql_slice_nil C.w xt _ a n c 0 0 hty, .anyb _⟩
    · rename_i hty
      cases h
      have hx : ∃ a n c, ux = .slice (some a) n c := by cases hx; exact ⟨_, _, _, rfl⟩
      obtain ⟨a, n, c, rfl⟩ := hx
      have hg : (eqGuard .eql xt X Y (.slice (some a) n c) (.slice none 0 0)) = pure () := rfl
      rw [hg]
      exact ⟨.bool false, by simpa using Go.Lib.run_eql_slice_nil C.w xt _ (some a) n c 0 0 hty, .bool _⟩
    · cases h
  · have hx : ux = .slice none 0 0 := by cases hx; rfl
    have hy : uy = .slice none 0 0 := by cases hy; rfl
    subst hx; subst hy
    split at h
    · rename_i hty
      cases h
      have hg : (eqGuard .eql xt X Y (.slice none 0 0) (.slice none 0 0)) = pure () := rfl
      rw [hg]
      exact ⟨.bool true, by simpa using Go.Lib.run_eql_slice_nil C.w xt _ none 0 0 0 0 hty, .bool _⟩
    · cases h
  · cases h

end Go.Proofs.YtpnpdkgdgfkpfaaGreatDoor.Vm
