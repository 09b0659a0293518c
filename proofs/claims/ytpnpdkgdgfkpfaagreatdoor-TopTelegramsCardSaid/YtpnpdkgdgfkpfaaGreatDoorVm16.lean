/- The abstract machine, part 16: operations against the model's: all together. -/
import Derived.Test.YtpnpdkgdgfkpfaaGreatDoorVm15
import Derived.Laws.Tables
namespace Go.Proofs.YtpnpdkgdgfkpfaaGreatDoor.Vm
set_option linter.unusedVariables false
set_option linter.unusedSimpArgs false

theorem run_bound {P : Program} {w : World} {k : IntKind} {i : Int} {y : Nat} {code : BoundsCode} (h0 : 0 ≤ i) (h1 : i ≤ y) : (Instr.sliceBound (.int k i) y code).run P w = .ok i.toNat w := by
  simp [Instr.sliceBound, asIntOf, h0, h1]

def BndR (lo : Option Int) (v : Option Value) : Prop :=
  match lo, v with
  | none, none => True
  | some i, some (.int _ j) => i = j
  | _, _ => False

theorem intOpt_sound {C : Ctx} {ev : Operand → AV} {ρ : Operand → Value} (hρ : ∀ x, VA C (ev x) (ρ x)) {o : Option Operand} {r : Option Int} (h : intOpt ev o = some r) : BndR r (o.map ρ) := by
  cases o with
  | none => simp only [intOpt] at h; cases h; trivial
  | some x =>
    simp only [intOpt] at h
    split at h
    · rename_i k i he
      cases h
      have := hρ x
      rw [he] at this
      show BndR (some i) (some (ρ x))
      cases hr : ρ x with
      | int k' j => rw [hr] at this; cases this; exact rfl
      | _ => rw [hr] at this; cases this
    · cases h

theorem run_bounds {P : Program} {w : World} {isS : Bool} {len cap : Nat} {lo hi : Option Int} {vl vh : Option Value} (hl : BndR lo vl) (hh : BndR hi vh) (hlc : len ≤ cap) (h0 : 0 ≤ lo.getD 0) (h1 : lo.getD 0 ≤ hi.getD len) (h2 : hi.getD len ≤ len) :
    (Instr.sliceBounds isS len cap vl vh none).run P w = .ok ((lo.getD 0).toNat, (hi.getD len).toNat, cap) w := by
  unfold Instr.sliceBounds
  cases lo with
  | none =>
    cases vl with
    | some _ => exact hl.elim
    | none =>
      cases hi with
      | none =>
        cases vh with
        | some _ => exact hh.elim
        | none => simp
      | some i =>
        cases vh with
        | none => exact hh.elim
        | some v =>
          cases v with
          | int k j =>
            have hij : i = j := hh
            subst hij
            simp at h1 h2
            have := run_bound (P := P) (w := w) (k := k) (i := i) (y := cap) (code := if isS then .sliceAcap else .sliceAlen) h1 (by omega)
            simp [this]
          | _ => exact hh.elim
  | some l =>
    cases vl with
    | none => exact hl.elim
    | some v =>
      cases v with
      | int kl jl =>
        have hij : l = jl := hl
        subst hij
        cases hi with
        | none =>
          cases vh with
          | some _ => exact hh.elim
          | none =>
            simp at h0 h1 h2
            have := run_bound (P := P) (w := w) (k := kl) (i := l) (y := len) (code := .sliceB) h0 h1
            simp [this]
        | some i =>
          cases vh with
          | none => exact hh.elim
          | some v =>
            cases v with
            | int k j =>
              have hij : i = j := hh
              subst hij
              simp at h0 h1 h2
              have e1 := run_bound (P := P) (w := w) (k := k) (i := i) (y := cap) (code := if isS then .sliceAcap else .sliceAlen) (by omega) (by omega)
              have e2 := run_bound (P := P) (w := w) (k := kl) (i := l) (y := i.toNat) (code := .sliceB) h0 (by omega)
              simp [e1, e2]
            | _ => exact hh.elim
      | _ => exact hl.elim

theorem slice_vp {w : World} {O : Nat → Prop} {sz : Nat} {es : List (List PV)} {u : Value} (h : VP w O (.sl sz es) u) : ∃ a cap, u = .slice a es.length cap ∧ (es.length ≤ cap ∨ es = []) ∧ ∀ l m : Nat, l ≤ m → m ≤ es.length → ∀ cap', (m - l ≤ cap' ∨ m = l) →
    VP w O (.sl sz ((es.take m).drop l)) (.slice (if cap = l then a else a.map (·.add (l * sz))) (m - l) cap') := by
  cases h with
  | sl0 _ a cap =>
    refine ⟨a, cap, rfl, .inr rfl, fun l m h1 h2 cap' _ => ?_⟩
    simp at h2
    subst h2
    obtain rfl : l = 0 := by omega
    exact .sl0 _ _ _
  | sl _ _ b off cap f hb hO hc hz hcell hvp =>
    refine ⟨_, cap, rfl, .inl hc, fun l m h1 h2 cap' h3 => ?_⟩
    have hlen : ((es.take m).drop l).length = m - l := by simp; omega
    by_cases hml : m = l
    · subst hml
      have : (es.take m).drop m = [] := by apply List.eq_nil_of_length_eq_zero; omega
      rw [this, Nat.sub_self]
      exact .sl0 _ _ _
    · rw [if_neg (by omega)]
      simp only [Option.map_some, addr_add]
      rw [← hlen]
      have hget : ∀ (i : Nat) e, ((es.take m).drop l)[i]? = some e → es[i + l]? = some e := by
        intro i e he
        rw [List.getElem?_drop, List.getElem?_take] at he
        split at he
        · rw [Nat.add_comm]; exact he
        · cases he
      refine .sl sz _ b (off + l * sz) cap' (fun i j => f (i + l) j) hb hO (by omega) (fun e he => hz e (List.mem_of_mem_take (List.mem_of_mem_drop he))) (fun i j e c he hj => ?_) (fun i j e c he hj => hvp _ j e c (hget i e he) hj)
      have := hcell _ j e c (hget i e he) hj
      rw [← this]
      congr 2
      rw [Nat.add_mul]
      omega

theorem cutI_take {α : Type} (l : List α) (lo hi : Int) : cutI l lo hi = (l.take hi.toNat).drop lo.toNat := rfl

theorem sliceK_sound {C : Ctx} (hok : Ok C) {P : Program} {look : Look} (hl : LookOk C look) {t : TypeId} {x v : AV} {us : Ups} {ux : Value} (hx : VA C x ux) {lo hi : Option Int} {vl vh : Option Value} (hlo : BndR lo vl) (hhi : BndR hi vh)
    (h : sliceK P look t x lo hi two = some (v, us)) : ∃ u, (Instr.sliceAt t ux vl vh none).run P C.w = .ok u C.w ∧ Gives C us v u C.w := by
  have main : ∀ (C' : Ctx), C'.w = C.w → ∀ {e : TypeId} {sz : Nat} {es : List (List PV)}, P.underlying t = some (.slice e) → sz = P.cellsOf e → tyOk P e = true → C'.P (.sl sz es) ux →
      0 ≤ lo.getD 0 → lo.getD 0 ≤ hi.getD es.length → hi.getD es.length ≤ es.length →
      ∃ u, (Instr.sliceAt t ux vl vh none).run P C.w = .ok u C.w ∧ C'.P (.sl sz (cutI es (lo.getD 0) (hi.getD es.length))) u := by
    intro C' hw e sz es ht hsz hte hp h0 h1 h2
    obtain ⟨a, cap, rfl, hcap, hs⟩ := slice_vp hp
    have hle : es.length ≤ cap ∨ es = [] := hcap
    by_cases hbad : es.length ≤ cap
    · have hb := run_bounds (P := P) (w := C.w) (isS := true) hlo hhi hbad h0 h1 h2
      refine ⟨_, by simp [Instr.sliceAt, Instr.slice, run_underlying ht, hb, run_sizeOf hte]; rfl, ?_⟩
      have := hs (lo.getD 0).toNat (hi.getD es.length).toNat (by omega) (by omega) (cap - (lo.getD 0).toNat) (.inl (by omega))
      rw [cutI_take, ← hsz]
      exact this
    · have he := hle.resolve_left hbad
      subst he
      simp at hbad
  unfold sliceK at h
  split at h
  · rename_i s ht
    cases hx
    obtain ⟨hc, h⟩ := ctl_some h
    obtain ⟨rfl, rfl⟩ := two_inj h
    simp only [Bool.and_eq_true, decide_eq_true_eq] at hc
    obtain ⟨h0, h1, h2⟩ := hc
    have hb := run_bounds (P := P) (w := C.w) (isS := false) (len := s.length) (cap := s.length) hlo hhi (Nat.le_refl _) h0 h1 h2
    refine ⟨.string ((ByteArray.mk s.toArray).extract (lo.getD 0).toNat (hi.getD s.length).toNat), by simp [Instr.sliceAt, Instr.slice, run_underlying ht, str_size, hb], Gives.same hok ?_⟩
    rw [ByteArray.extract_mk]
    have : (s.drop (lo.getD 0).toNat).take ((hi.getD s.length).toNat - (lo.getD 0).toNat) = cutI s (lo.getD 0) (hi.getD s.length) := by
      unfold cutI
      rw [List.drop_take]
    rw [this]
    exact .str _
  · rename_i e sz es ht
    split at h
    · rename_i hcond
      simp only [Bool.and_eq_true] at hcond
      obtain ⟨hc, h⟩ := ctl_some h
      obtain ⟨rfl, rfl⟩ := two_inj h
      simp only [Bool.and_eq_true, decide_eq_true_eq] at hc
      obtain ⟨u, h1, h2⟩ := main C rfl ht (Nat.eq_of_beq_eq_true hcond.1) hcond.2 hx hc.1 hc.2.1 hc.2.2
      exact ⟨u, h1, Gives.same hok h2⟩
    · cases h
  · rename_i e id ht
    split at h
    · rename_i sz es hb
      split at h
      · rename_i hcond
        simp only [Bool.and_eq_true] at hcond
        obtain ⟨hc, h⟩ := ctl_some h
        obtain ⟨rfl, rfl⟩ := two_inj h
        simp only [Bool.and_eq_true, decide_eq_true_eq] at hc
        have hlv := hl _ _ hb
        obtain ⟨hk, _, hv⟩ := hx
        have hdd : allDead [(id, Ent.dead)] := fun y hy => by simp at hy; rw [hy]
        have hp := frozen_sound hok hlv (hv _ _ hlv) hdd (by simp)
        obtain ⟨u, h1, h2⟩ := main (C.kill [(id, .dead)]) rfl ht (Nat.eq_of_beq_eq_true hcond.1) hcond.2 hp hc.1 hc.2.1 hc.2.2
        exact ⟨u, h1, C.kill [(id, .dead)], rfl, rfl, ext_kill C hdd, ok_kill hok hdd, h2⟩
      · cases h
    · cases h
  · cases h

theorem tvsOf_sound {C : Ctx} : ∀ {l : List AV} {r : List TV} {us : List Value}, tvsOf l = some r → All2 (VA C) l us → All2 (VT C) r us
  | [], _, [], h, _ => by simp only [tvsOf] at h; cases h; trivial
  | [], _, _ :: _, _, h => h.elim
  | _ :: _, _, [], _, h => h.elim
  | a :: l, r, u :: us, h, ha => by
    unfold tvsOf at h
    split at h
    · rename_i he; cases he
    · rename_i v l' he
      cases he
      split at h
      · rename_i r' hr
        cases h
        exact ⟨ha.1, tvsOf_sound hr ha.2⟩
      · cases h
    · cases h

theorem all2_map_ev {C : Ctx} {ev : Operand → AV} {ρ : Operand → Value} (hρ : ∀ x, VA C (ev x) (ρ x)) : ∀ l : List Operand, All2 (VA C) (l.map ev) (l.map ρ)
  | [] => trivial
  | x :: l => ⟨hρ x, all2_map_ev hρ l⟩

theorem mapM_some_all {α β : Type} {f : α → Option β} {g : α → β} : ∀ (l : List α), (∀ x ∈ l, f x = some (g x)) → l.mapM f = some (l.map g)
  | [], _ => rfl
  | x :: l, h => by
    have h1 := h x (by simp)
    have h2 := mapM_some_all l fun y hy => h y (by simp [hy])
    simp [List.mapM_cons, h1, h2]

theorem cellsOf_info {P : Program} {t : TypeId} {i : TypeInfo} (h : P.info? t = some i) : P.cellsOf t = i.size := by simp [Program.cellsOf, h]

theorem build_run {P : Program} {t : TypeId} {z : List PV} (hz : zeroCells P t = some z) (hp : partsOk P t = true) {zv : Value} (hzv : ∀ w : World, (zeroValue t).run P w = .ok zv w) {parts : Array (Nat × Value)} {ov : Array Value}
    (h : Instr.fill (place P t) zv.cells parts.toList = some ov) (w : World) : (Instr.build t parts).run P w = .ok (.agg ov) w := by
  refine run_build w t parts ov ?_
  obtain ⟨it, hit, _, _⟩ := run_bytes_z hz
  have hzz : it.zero = some zv := by
    have := hzv w
    cases hq : it.zero with
    | none => simp [zeroValue, typeInfo, hit, hq] at this
    | some y => simp [zeroValue, typeInfo, hit, hq] at this; rw [this]
  unfold partsOk at hp
  unfold Program.built
  split at hp
  · rename_i fs hfs
    have hm : fs.toList.mapM (fun f => (P.info? f.type).map fun i => (f.offset, i.size)) = some (fs.toList.map fun f => (f.offset, P.cellsOf f.type)) := by
      refine mapM_some_all fs.toList fun f hf => ?_
      obtain ⟨i, hi⟩ := tyOk_info (List.all_eq_true.1 hp f hf)
      simp [hi, cellsOf_info hi]
    simp only [hit, hfs, hzz, hm]
    rw [← h]
    congr 1
    funext i
    simp only [place, hfs, List.getElem?_toArray, List.getElem?_map, Array.getElem?_toList]
    cases fs[i]? <;> rfl
  · rename_i n e hfs
    obtain ⟨ie, hie⟩ := tyOk_info hp
    simp only [hit, hfs, hzz, hie]
    rw [← h]
    congr 1
    funext i
    simp only [place, hfs, cellsOf_info hie]
  · cases hp

theorem nilK_sound {C : Ctx} {P : Program} {op : BinOp} {xt : TypeId} {x : AV} {ux : Value} {v : AV} {us : Ups} {y : Operand} (hx : VA C x ux) (hy : isNilI y = true) (h : nilK P op xt x (fun p => two (.t (.p p)) []) = some (v, us)) :
    ∃ p b, p = PV.bool b ∧ (∀ X, (do eqGuard op xt X y ux .nilIface; binOp op xt ux .nilIface : Sem Value).run P C.w = .ok (.bool b) C.w) ∧ v = .t (.p (.bool b)) ∧ us = [] := by
  have hyc : ∃ c, y = .const c := by
    unfold isNilI at hy
    split at hy
    · exact ⟨_, rfl⟩
    · cases hy
  obtain ⟨c, rfl⟩ := hyc
  unfold nilK at h
  split at h
  · rename_i a ms hu
    have heq : ∀ d : Nat, (Op.equalIn (d + 1) xt ux .nilIface).run P C.w = .ok a C.w := fun d => by
      cases hx <;> simp [Op.equalIn, run_underlying hu]
    have key : ∀ X, eqGuard .eql xt X (.const c) ux .nilIface = pure () ∧ eqGuard .neq xt X (.const c) ux .nilIface = pure () ∧ (Op.equal xt ux .nilIface).run P C.w = .ok a C.w := by
      intro X
      refine ⟨?_, ?_, heq 9999⟩
      · cases hx
        · cases X <;> rfl
        · rfl
      · cases hx
        · cases X <;> rfl
        · rfl
    have hb : ∀ op, binOp op xt ux .nilIface = (match op with | .eql => (do pure (.bool (← Op.equal xt ux .nilIface)) : Sem Value) | .neq => (do pure (.bool (!(← Op.equal xt ux .nilIface)))) | o => binOp o xt ux .nilIface) := by
      intro op
      cases hx <;> cases op <;> rfl
    split at h
    · obtain ⟨rfl, rfl⟩ := two_inj h
      refine ⟨_, _, rfl, fun X => ?_, rfl, rfl⟩
      rw [hb]
      simp only [(key X).1, Sem.run_bind, Sem.run_pure, Result.andThen_ok, (key X).2.2]
    · obtain ⟨rfl, rfl⟩ := two_inj h
      refine ⟨_, _, rfl, fun X => ?_, rfl, rfl⟩
      rw [hb]
      simp only [(key X).2.1, Sem.run_bind, Sem.run_pure, Result.andThen_ok, (key X).2.2]
    · cases h
  · cases h

theorem execK_sound {C : Ctx} (hok : Ok C) {P : Program} {look : Look} (hl : LookOk C look) {nid : Nat} {o : Oper} (hn : brings o.op = true → nth Ent.fresh C.h nid = .fresh ∧ nid < C.h.length) {ev : Operand → AV} {ρ : Operand → Value}
    (hρ : ∀ x, VA C (ev x) (ρ x)) (hlit : ∀ y, isNilI y = true → ρ y = .nilIface) {v : AV} {us : Ups} (h : execK P look nid o.op ev two = some (v, us)) : ∃ u w', Runs P C.w o ρ u w' ∧ Gives C us v u w' := by
  have val : ∀ {s : Sem Value} {u : Value} {w' : World}, execOp ρ o = (do pure (Next.value (← s)) : Sem Next) → s.run P C.w = .ok u w' → Runs P C.w o ρ u w' := fun he hs => .inl (by rw [he]; exact run_val hs)
  obtain ⟨dst, op, ty, pos, after, guard⟩ := o
  simp only at h hn
  unfold execK at h
  split at h
  · obtain ⟨rfl, rfl⟩ := two_inj h
    exact ⟨_, C.w, .inl rfl, Gives.same hok (hρ _)⟩
  · obtain ⟨rfl, rfl⟩ := two_inj h
    exact ⟨_, C.w, .inl rfl, Gives.same hok (hρ _)⟩
  · rename_i c a b
    split at h
    · rename_i t hc
      have h2 := hρ c
      rw [hc] at h2
      have h3 : ρ c = .bool t := by cases hr : ρ c with
        | bool b' => rw [hr] at h2; cases h2; rfl
        | _ => rw [hr] at h2; cases h2
      cases t with
      | true =>
        obtain ⟨rfl, rfl⟩ := two_inj h
        exact ⟨ρ a, C.w, .inl (by simp [execOp, h3, asBool]), Gives.same hok (hρ a)⟩
      | false =>
        obtain ⟨rfl, rfl⟩ := two_inj h
        exact ⟨ρ b, C.w, .inl (by simp [execOp, h3, asBool]), Gives.same hok (hρ b)⟩
    · cases h
  · split at h
    · rename_i t cs hz
      split at h
      · obtain ⟨rfl, rfl⟩ := two_inj h
        obtain ⟨hf, hlt⟩ := hn rfl
        obtain ⟨u, w', h1, h2⟩ := alloc_sound hok hf hlt hz
        exact ⟨u, w', val rfl h1, h2⟩
      · cases h
    · cases h
  · rename_i t x
    split at h
    · rename_i hagg
      obtain ⟨rfl, rfl⟩ := two_inj h
      obtain ⟨hf, hlt⟩ := hn rfl
      obtain ⟨u, w', h1, h2⟩ := box_sound (P := P) (t := t) hok hf hlt (hρ x) hagg
      exact ⟨u, w', val rfl h1, h2⟩
    · cases h
  · rename_i t parts
    split at h
    · rename_i z hz
      split at h
      · rename_i hpo
        split at h
        · split at h
          · rename_i cs hfl
            split at h
            · obtain ⟨rfl, rfl⟩ := two_inj h
              have hd : allDead ([] : Ups) := fun _ h => by cases h
              obtain ⟨zv, hzv, hza⟩ := zeroCells_sound hz C.w C.O
              have key : ∀ (cs : List PV) (xs : List Value), All2 C.P cs xs → All2 (VT C) (cs.map TV.p) xs := by
                intro cs
                induction cs with
                | nil => intro xs h; cases xs with
                  | nil => trivial
                  | cons => exact h.elim
                | cons c cs ih => intro xs h; cases xs with
                  | nil => exact h.elim
                  | cons x xs => exact ⟨h.1, ih xs h.2⟩
              obtain ⟨ov, ho1, ho2⟩ := fillO_sound hρ hfl zv.cells (key _ _ hza)
              have ho1' : Instr.fill (place P t) zv.cells (parts.map fun (i, x) => (i, ρ x)).toList = some ov := by rw [← ho1]; congr 1; simp
              exact ⟨.agg ov, C.w, val rfl (build_run hz hpo hzv ho1' C.w), C.kill [], rfl, rfl, ext_kill C hd, ok_kill hok hd, _, rfl, ho2.mono fun _ _ => (ext_kill C hd).vt⟩
            · cases h
          · cases h
        split at h
        · rename_i cs us' hfl
          obtain ⟨rfl, rfl⟩ := two_inj h
          obtain ⟨hd, _, hr⟩ := fillA_sound hok hl hρ (fillX_eq hfl)
          obtain ⟨zv, hzv, hza⟩ := zeroCells_sound hz (C.kill us').w (C.kill us').O
          obtain ⟨ov, ho1, ho2⟩ := hr us' hd (fun x hx => hx) zv.cells hza
          have ho1' : Instr.fill (place P t) zv.cells (parts.map fun (i, x) => (i, ρ x)).toList = some ov := by rw [← ho1]; congr 1; simp
          exact ⟨.agg ov, C.w, val rfl (build_run hz hpo hzv ho1' C.w), C.kill us', rfl, rfl, ext_kill C hd, ok_kill hok hd, _, rfl, ho2⟩
        · cases h
      · cases h
    · cases h
  · rename_i t n parts
    split at h
    · rename_i e ht
      split at h
      · rename_i z hz
        split at h
        · rename_i hc
          simp only [Bool.and_eq_true] at hc
          split at h
          · rename_i cs us' hfl
            obtain ⟨rfl, rfl⟩ := two_inj h
            obtain ⟨hf, hlt⟩ := hn rfl
            obtain ⟨u, w', h1, h2⟩ := buildSlice_sound hok hl hf hlt hρ ht hz (Nat.eq_of_beq_eq_true hc.1.1) (Nat.le_of_ble_eq_true hc.1.2) (Nat.le_of_ble_eq_true hc.2) (fillX_eq hfl)
            exact ⟨u, w', val rfl h1, h2⟩
          · cases h
        · cases h
      · cases h
    · cases h
  · rename_i t a
    obtain ⟨u, h1, h2⟩ := loadK_sound hok hl (hρ a) h
    exact ⟨u, C.w, val rfl h1, h2⟩
  · rename_i t a x
    obtain ⟨w', h1, ⟨C', e1, e2, e3, e4⟩, rfl⟩ := storeK_sound hok hl (hρ a) (hρ x) h
    exact ⟨Go.undef, w', .inr ⟨run_unit h1, rfl⟩, C', e1, e2, e3, e4, rfl⟩
  · rename_i x
    have hx := hρ x
    split at h
    · rename_i id off he
      obtain ⟨rfl, rfl⟩ := two_inj h
      rw [he] at hx
      obtain ⟨hk, b, hb, hp⟩ := hx
      exact ⟨_, C.w, .inl (by simp [execOp, hb]), Gives.same hok ⟨hk, b, rfl, hp⟩⟩
    · rename_i cs he
      obtain ⟨rfl, rfl⟩ := two_inj h
      rw [he] at hx
      obtain ⟨b, off, hb, hp⟩ := hx
      exact ⟨_, C.w, .inl (by simp [execOp, hb]), Gives.same hok ⟨b, off, rfl, hp⟩⟩
    · rename_i id i off he
      obtain ⟨rfl, rfl⟩ := two_inj h
      rw [he] at hx
      obtain ⟨hk, b, k, hb, hp⟩ := hx
      exact ⟨_, C.w, .inl (by simp [execOp, hb]), Gives.same hok ⟨hk, b, k, rfl, hp⟩⟩
    · cases h
  · rename_i bop xt x y yt
    cases hni : isNilI y with
    | true =>
      rw [hni, cond_true] at h
      obtain ⟨p, b, hp, hu, rfl, rfl⟩ := nilK_sound (hρ x) hni h
      have hy : ρ y = .nilIface := hlit y hni
      refine ⟨.bool b, C.w, val rfl ?_, Gives.same hok (.bool b)⟩
      rw [hy]
      exact hu x
    | false =>
    rw [hni, cond_false] at h
    have hb : ∃ p, binK P bop xt (ev x) (ev y) some = some p ∧ v = .t (.p p) ∧ us = [] := by
      have hnat := binK_nat P bop xt (ev x) (ev y) some fun p => two (.t (.p p)) []
      simp only [Option.bind_some] at hnat
      rw [← hnat] at h
      cases hq : binK P bop xt (ev x) (ev y) some with
      | none => rw [hq] at h; cases h
      | some p =>
        rw [hq] at h
        obtain ⟨rfl, rfl⟩ := two_inj h
        exact ⟨p, rfl, rfl, rfl⟩
    obtain ⟨p, hp, rfl, rfl⟩ := hb
    obtain ⟨u, h1, h2⟩ := binK_sound (hρ x) (hρ y) hp x y
    exact ⟨u, C.w, val rfl h1, Gives.same hok h2⟩
  · rename_i uop xt x
    have hx := hρ x
    unfold unK at h
    split at h
    · rename_i k n he
      obtain ⟨rfl, rfl⟩ := two_inj h
      rw [he] at hx
      cases hr : ρ x with
      | int k' n' => rw [hr] at hx; cases hx; exact ⟨_, C.w, val rfl (by rw [hr]; rfl), Gives.same hok (VP.int _ _)⟩
      | _ => rw [hr] at hx; cases hx
    · rename_i b he
      obtain ⟨rfl, rfl⟩ := two_inj h
      rw [he] at hx
      cases hr : ρ x with
      | bool b' => rw [hr] at hx; cases hx; exact ⟨_, C.w, val rfl (by rw [hr]; rfl), Gives.same hok (VP.bool _)⟩
      | _ => rw [hr] at hx; cases hx
    · cases h
  · rename_i src dst' x
    obtain ⟨hf, hlt⟩ := hn rfl
    obtain ⟨u, w', h1, h2⟩ := convertK_sound hok hl hf hlt (hρ x) h
    exact ⟨u, w', val rfl h1, h2⟩
  · rename_i f first caps
    split at h
    · rename_i l hfi htv
      obtain ⟨rfl, rfl⟩ := two_inj h
      have hfe : first = #[] := by simpa using hfi
      have := tvsOf_sound htv (all2_map_ev hρ caps.toList)
      refine ⟨.func (.func f) #[] (caps.map ρ), C.w, val rfl (by simp [Instr.makeFunc, hfe]), Gives.same hok ⟨_, rfl, by simpa using this⟩⟩
    · cases h
  · rename_i t l c
    obtain ⟨hf, hlt⟩ := hn rfl
    obtain ⟨u, w', h1, h2⟩ := makeSliceK_sound hok hf hlt (hρ l) (hρ c) h
    exact ⟨u, w', val rfl h1, h2⟩
  · rename_i t x lo hi mx
    split at h
    · rename_i l r hlo hhi
      obtain ⟨u, h1, h2⟩ := sliceK_sound hok hl (hρ x) (intOpt_sound hρ hlo) (intOpt_sound hρ hhi) h
      exact ⟨u, C.w, val rfl h1, h2⟩
    · cases h
  · rename_i t x f
    split at h
    · rename_i fs hfs
      split at h
      · rename_i fd hfd
        split at h
        · rename_i hsz
          split at h
          · rename_i v' hv'
            obtain ⟨rfl, rfl⟩ := two_inj h
            obtain ⟨b, off, hu, hv2⟩ := addrOff_sound (hρ x) hv'
            simp only [Bool.and_eq_true] at hsz
            have hty : tyOk P fd.type = true := hsz.2
            have h0 : ¬ P.cellsOf fd.type = 0 := by have := Nat.le_of_ble_eq_true hsz.1; omega
            refine ⟨_, C.w, val rfl (by simp [Instr.fieldAt, run_underlying hfs, hfd, hu, sure_ptr, fieldPlace, run_sizeOf hty, h0, addr_add]), Gives.same hok hv2⟩
          · cases h
        · cases h
      · cases h
    · cases h
  · rename_i t x f
    split at h
    · rename_i fs cs hfs he
      have hx := hρ x
      rw [he] at hx
      obtain ⟨uus, hu, ha⟩ := hx
      split at h
      · rename_i fd hfd
        split at h
        · rename_i hlen
          split at h
          · rename_i v' hv'
            obtain ⟨rfl, rfl⟩ := two_inj h
            obtain ⟨u, h1, h2⟩ := part_sound ha (Nat.eq_of_beq_eq_true hlen) hv'
            exact ⟨u, C.w, val rfl (by simp [Instr.field, run_underlying hfs, hfd, hu, asAgg, h1]), Gives.same hok h2⟩
          · cases h
        · cases h
      · cases h
    · cases h
  · rename_i t x i
    obtain ⟨u, h1, rfl, h2⟩ := indexAddrK_sound hok hl (hρ x) (hρ i) h
    exact ⟨u, C.w, val rfl h1, Gives.same hok h2⟩
  · rename_i t x i
    obtain ⟨u, h1, rfl, h2⟩ := indexK_sound hok (hρ x) (hρ i) h
    exact ⟨u, C.w, val rfl h1, Gives.same hok h2⟩
  · rename_i x i
    split at h
    · rename_i vs he
      have hx := hρ x
      rw [he] at hx
      obtain ⟨uus, hu, ha⟩ := hx
      split at h
      · rename_i v' l hd
        obtain ⟨rfl, rfl⟩ := two_inj h
        have hg : vs[i]? = some v' := by
          have := congrArg List.head? hd
          simpa [List.head?_drop] using this
        obtain ⟨u, h1, h2⟩ := ha.get _ _ hg
        have h1' : uus[i]? = some u := by simpa using h1
        exact ⟨u, C.w, val rfl (by simp [Instr.extract, hu, h1']), Gives.same hok h2⟩
      · cases h
    · cases h
  · rename_i b args ats
    obtain ⟨u, w', h1, h2⟩ := builtinK_sound (ty := ty) (cts := (args.map fun | .const _ => true | _ => false)) hok hl (fun hb => hn (by rw [hb]; rfl)) (all2_map_ev hρ args.toList) h
    refine ⟨u, w', .inl ?_, h2⟩
    have e1 : (List.map ρ args.toList).toArray = args.map ρ := by rw [← Array.toList_map, Array.toArray_toList]
    rw [e1, Array.toArray_toList] at h1
    simp only [execOp, resolve, invoke, Sem.run_bind, Sem.run_pure, Result.andThen_ok]
    exact h1
  · cases h

end Go.Proofs.YtpnpdkgdgfkpfaaGreatDoor.Vm
