/- The abstract machine, part 30: code. -/
import Derived.Test.YtpnpdkgdgfkpfaaGreatDoorVm29
namespace Go.Proofs.YtpnpdkgdgfkpfaaGreatDoor.Vm
set_option linter.unusedVariables false
set_option linter.unusedSimpArgs false

theorem Ex.eqb_iff : ∀ {a b : Ex}, Ex.eqb a b = true ↔ a = b
  | .nrm, .nrm => by simp [Ex.eqb]
  | .exit i, .exit j => by simp [Ex.eqb]
  | .ret, .ret => by simp [Ex.eqb]
  | .nrm, .exit _ => by simp [Ex.eqb]
  | .nrm, .ret => by simp [Ex.eqb]
  | .exit _, .nrm => by simp [Ex.eqb]
  | .exit _, .ret => by simp [Ex.eqb]
  | .ret, .nrm => by simp [Ex.eqb]
  | .ret, .exit _ => by simp [Ex.eqb]

def exOf : Ex → Exit
  | .nrm => .normal
  | .exit i => .exit i
  | .ret => .ret

theorem packEx_some {m : Nat} {p : Ex × Pack} : ∀ {exs : List (Ex × Ann)} {e : Ex} {st : St}, packEx m exs some e st = some p → p.1 = e ∧ ∃ an, packK m an st some = some p.2 ∧
    ∀ {α : Type} {nt : Nat} {K : Ex → St → Option α} {r : α}, unpackEx nt exs p K = some r → unpackK nt an p.2 (K e) = some r
  | [], _, _, h => by cases h
  | (x, an) :: l, e, st, h => by
    simp only [packEx] at h
    rcases ctl_or h with ⟨hb, h⟩ | ⟨hb, h⟩
    · have hex := Ex.eqb_iff.1 hb
      subst hex
      have hn := (packK_nat m an st some fun pk => some (e, pk)).trans h
      obtain ⟨pk, h1, h2⟩ := Option.bind_eq_some_iff.1 hn
      cases h2
      refine ⟨rfl, an, h1, fun hu => ?_⟩
      simp only [unpackEx] at hu
      have : Ex.eqb e e = true := Ex.eqb_iff.2 rfl
      rw [this] at hu
      exact hu
    · obtain ⟨h1, an', h2, h3⟩ := packEx_some h
      refine ⟨h1, an', h2, fun hu => h3 ?_⟩
      simp only [unpackEx, h1, hb] at hu
      exact hu

theorem least {p : Nat → Prop} (h : ∃ n, p n) : ∃ n, p n ∧ ∀ k, p k → n ≤ k := by
  obtain ⟨n, hn⟩ := h
  induction n using Nat.strongRecOn with
  | _ n ih =>
    rcases Classical.em (∃ k, k < n ∧ p k) with ⟨k, h1, h2⟩ | h
    · exact ih k h1 h2
    · exact ⟨n, hn, fun k hk => Nat.not_lt.1 fun hlt => h ⟨k, hlt, hk⟩⟩

theorem wp_loop_n {P : Program} {Q : Exit → Act → World → Prop} {c : Code} (I : Nat → Act → World → Prop) {a : Act} {w : World} (n : Nat) (h : I n a w)
    (round : ∀ n a w, I n a w → c.wp P (Exit.then (fun a' w' => ∃ k, k < n ∧ I k a' w') Q) a w) : (Code.loop c).wp P Q a w := by
  classical
  refine wp_loop (fun a w => ∃ n, I n a w) (fun a w => if h : ∃ n, I n a w then Classical.choose (least h) else 0) ⟨n, h⟩ fun a w hI => ?_
  have hsp := Classical.choose_spec (least hI)
  refine wp_mono (round _ a w hsp.1) fun e a' w' hq => ?_
  cases e with
  | normal =>
    obtain ⟨k, hk, hIk⟩ := hq
    refine ⟨⟨k, hIk⟩, ?_⟩
    show (if h : ∃ n, I n a' w' then Classical.choose (least h) else 0) < (if h : ∃ n, I n a w then Classical.choose (least h) else 0)
    rw [dif_pos ⟨k, hIk⟩, dif_pos hI]
    exact Nat.lt_of_le_of_lt ((Classical.choose_spec (least (p := fun n => I n a' w') ⟨k, hIk⟩)).2 k hIk) hk
  | exit id => exact hq
  | goto l => exact hq
  | ret => exact hq
  | panic ch => exact hq
  | outgrown => exact hq

def ISound (E : Env) (I : Inl) : Prop := ∀ (g : Nat) (α : Type) (args : List AV) (h : List Ent) (K : AV → List Ent → Option α) (r : α) (C : Ctx) (us : Array Value),
  I g α args h K = some r → hasN g E.okf = true → Ok C → C.h = h → All2 (VA C) args us.toList →
    Calls E.P g us C.w fun e w' => match e with
      | .returned u => ∃ (C' : Ctx) (v : AV), C'.w = w' ∧ Ok C' ∧ Ext C C' ∧ VA C' v u ∧ K v C'.h = some r
      | _ => False

theorem lastO_spec : ∀ {l : List Oper} {o : Oper}, lastO l = some o → l.dropLast.length + 1 = l.length ∧ l[l.dropLast.length]? = some o
  | [], _, h => by cases h
  | [x], _, h => by cases h; exact ⟨rfl, rfl⟩
  | x :: y :: l, o, h => by
    obtain ⟨h1, h2⟩ := lastO_spec (l := y :: l) h
    exact ⟨by simp, by simpa using h2⟩

theorem allBits_at {x : Nat} : ∀ {n : Nat}, allBits x n = true → ∀ m, m < n → x.testBit m = true
  | 0, _, m, hm => by omega
  | n + 1, h, m, hm => by
    simp only [allBits, Bool.and_eq_true] at h
    by_cases he : m = n
    · subst he; exact h.1
    · exact allBits_at h.2 m (by omega)

theorem SR.putH {C C' : Ctx} {st : St} {a : Act} (hs : SR C st a) (hx : Ext C C') (d : Option Nat) {v : AV} {u : Value} (hv : VA C' v u) : SR C' ⟨setDst d v st.slots, C'.h⟩ (a.put d u) := by
  refine ⟨rfl, fun t => ?_, by rw [put_size]; exact Nat.le_trans (Nat.le_of_eq (length_setDst ..)) hs.n⟩
  have h0 := hx.va (hs.s t)
  show VA C' (nth .undef (setDst d v st.slots) t) _
  rw [nth_setDst]
  cases d with
  | none => rw [if_neg (by simp)]; exact h0
  | some d =>
    simp only [Act.put, Array.getD_eq_getD_getElem?] at h0 ⊢
    by_cases hdt : d = t
    · subst hdt
      by_cases hlt : d < st.slots.length
      · rw [if_pos ⟨rfl, hlt⟩, Array.getElem?_setIfInBounds_self_of_lt (Nat.lt_of_lt_of_le hlt hs.n)]
        exact hv
      · rw [if_neg fun h => hlt h.2, nth_out (Nat.not_lt.1 hlt)]
        trivial
    · rw [if_neg fun h => hdt (Option.some.inj h.1), Array.getElem?_setIfInBounds_ne hdt]
      exact h0

def Ctx.relab (C : Ctx) (id : Nat) (B : Blk) : Ctx := ⟨C.w, C.ι, upd (.blk B) C.h id, C.X⟩
theorem ext_relab {C : Ctx} {id : Nat} {B B' : Blk} (hl : live C.h id B) (hlk : like B B') : Ext C (C.relab id B') where
  tape := rfl
  os := rfl
  out := rfl
  size := Nat.le_refl _
  X := rfl
  keep _ _ _ := rfl
  own b _ h := by
    obtain ⟨id', blk, hl', hi'⟩ := h
    rcases live_upd.1 hl' with ⟨rfl, _, _⟩ | ⟨_, h1⟩
    · exact ⟨_, B, hl, hi'⟩
    · exact ⟨id', blk, h1, hi'⟩
  ent id' hk := by
    refine ⟨known_upd (by simp) hk, fun b hb => ?_⟩
    rcases live_upd.1 hb with ⟨rfl, _, h2⟩ | ⟨_, h1⟩
    · cases h2; exact ⟨B, hl, rfl, hlk⟩
    · exact ⟨b, h1, rfl, like_refl _⟩
  row b carr e fr _ h := ⟨carr, fr, h, rfl⟩
theorem ok_relab {C : Ctx} (hok : Ok C) {id : Nat} {B B' : Blk} (hl : live C.h id B) (hlk : like B B') (hB : BlkR (C.relab id B') id B') : Ok (C.relab id B') := by
  have hback : ∀ {id' b'}, live (C.relab id B').h id' b' → ∃ b, live C.h id' b := by
    intro id' b' h
    rcases live_upd.1 h with ⟨rfl, _, _⟩ | ⟨_, h1⟩
    · exact ⟨B, hl⟩
    · exact ⟨b', h1⟩
  refine hok.step (ext_relab hl hlk) (fun id' b hl' => ?_) (fun id1 id2 m b b' h1 h2 e1 e2 => ?_)
  · rcases live_upd.1 hl' with ⟨rfl, _, h2⟩ | ⟨_, h1⟩
    · cases h2; exact .inl hB
    · exact .inr ⟨h1, rfl, fun _ _ => rfl⟩
  · obtain ⟨c1, k1⟩ := hback h1
    obtain ⟨c2, k2⟩ := hback h2
    exact hok.inj id1 id2 m c1 c2 k1 k2 e1 e2

theorem SR.upd1 {C C' : Ctx} {st : St} {a : Act} (hs : SR C st a) (hx : Ext C C') {s : Nat} {v : AV} (hv : VA C' v (a.tmps.getD s Go.undef)) : SR C' ⟨upd v st.slots s, C'.h⟩ a := by
  refine ⟨rfl, fun t => ?_, by show (upd v st.slots s).length ≤ _; rw [length_upd]; exact hs.n⟩
  show VA C' (nth .undef (upd v st.slots s) t) _
  rw [nth_upd]
  split
  · rename_i h; rw [← h.1]; exact hv
  · exact hx.va (hs.s t)

theorem frzAt_sound {C : Ctx} (hok : Ok C) {st : St} {a : Act} (hs : SR C st a) (s : Nat) (c : Option Nat) : ∃ C' : Ctx, C'.w = C.w ∧ Ok C' ∧ Ext C C' ∧ SR C' (frzAt s c st) a := by
  have same : ∃ C' : Ctx, C'.w = C.w ∧ Ok C' ∧ Ext C C' ∧ SR C' st a := ⟨C, rfl, hok, Ext.refl C, hs⟩
  have hl : ∀ id b, lookH st.heap id = some b → live C.h id b := fun id b hb => by rw [hs.h]; exact lookH_live.1 hb
  have hd : ∀ id, allDead [(id, Ent.dead)] := fun id u hu => by simp only [List.mem_singleton] at hu; subst hu; rfl
  unfold frzAt
  split
  · rename_i id hsl
    split
    · rename_i sz es hb
      have h0 := hs.s s
      rw [hsl] at h0
      obtain ⟨_, _, h3⟩ := h0
      have hf := frozen_sound hok (hl _ _ hb) (h3 _ _ (hl _ _ hb)) (hd id) (by simp)
      refine ⟨C.kill [(id, .dead)], rfl, ok_kill hok (hd id), ext_kill C (hd id), ?_⟩
      have := hs.upd1 (ext_kill C (hd id)) (s := s) (v := .t (.p (.sl sz es))) hf
      rw [show (C.kill [(id, Ent.dead)]).h = upd .dead st.heap id by show upd .dead C.h id = _; rw [hs.h]] at this
      exact this
    · exact same
  · rename_i vs hsl
    split
    · rename_i cs us hp
      have h0 := hs.s s
      rw [hsl] at h0
      obtain ⟨uus, hu, ha⟩ := h0
      have hK := pureTs_dead hp
      have hv := pureTs_sound hok hl ha hp hK fun y hy => hy
      refine ⟨C.kill us, rfl, ok_kill hok hK, ext_kill C hK, ?_⟩
      have := hs.upd1 (ext_kill C hK) (s := s) (v := .t (.agg cs)) ⟨uus, hu, hv⟩
      rw [show (C.kill us).h = putUps us st.heap by show putUps us C.h = _; rw [hs.h]] at this
      exact this
    · exact same
  · rename_i k b hsl
    split
    · rename_i cs hb
      split
      · rename_i id hc
        split
        · rename_i sz es hbi
          have hlb := hl _ _ hb
          have hli := hl _ _ hbi
          have hne : b ≠ id := fun he => by subst he; have := live_inj hlb hli; cases this
          have hxk := ext_kill C (hd id)
          have hlb1 : live (C.kill [(id, .dead)]).h b (.box cs) := live_put_ne (fun e he => by simp only [List.mem_singleton, Prod.mk.injEq] at he; exact hne he.1) hlb
          have hlk : like (.box cs) (.box (upd (.t (.p (.sl sz es))) cs k)) := (length_upd ..).symm
          have hxr := ext_relab hlb1 hlk
          have hx := hxk.trans hxr
          refine ⟨(C.kill [(id, .dead)]).relab b (.box (upd (.t (.p (.sl sz es))) cs k)), rfl, ok_relab (ok_kill hok (hd id)) hlb1 hlk ?_, hx, ?_⟩
          · obtain ⟨n, carr, e, fr, hi, hr, hsz, hf, hcc⟩ := hok.blk b _ hlb
            refine ⟨n, carr, e, fr, hi, hr, by rw [length_upd]; exact hsz, hf, fun j c hj => ?_⟩
            rw [upd_eq, List.getElem?_set] at hj
            split at hj
            · rename_i hkj
              subst hkj
              split at hj
              · rename_i hlt
                cases hj
                obtain ⟨u, h1, h2, h3⟩ := hcc k _ (List.getElem?_eq_getElem hlt)
                rw [nth_some _ (List.getElem?_eq_getElem hlt)] at hc
                rw [hc] at h2
                obtain ⟨_, _, h4⟩ := h2
                exact ⟨u, h1, hxr.vp (frozen_sound hok hli (h4 _ _ hli) (hd id) (by simp)), h3⟩
              · cases hj
            · obtain ⟨u, h1, h2, h3⟩ := hcc j c hj
              exact ⟨u, h1, hx.va h2, h3⟩
          · exact ⟨by show upd _ (upd .dead C.h id) b = _; rw [hs.h], hs.s.ext hx, hs.n⟩
        · exact same
      · exact same
    · exact same
  · exact same

theorem frzAll_sound : ∀ (l : List (Nat × Option Nat)) {C : Ctx} (_ : Ok C) {st : St} {a : Act} (_ : SR C st a), ∃ C' : Ctx, C'.w = C.w ∧ Ok C' ∧ Ext C C' ∧ SR C' (frzAll l st) a
  | [], C, hok, st, a, hs => ⟨C, rfl, hok, Ext.refl C, hs⟩
  | (s, c) :: l, C, hok, st, a, hs => by
    obtain ⟨C1, h1, h2, h3, h4⟩ := frzAt_sound hok hs s c
    obtain ⟨C2, k1, k2, k3, k4⟩ := frzAll_sound l h2 h4
    exact ⟨C2, k1.trans h1, k2, h3.trans k3, k4⟩

theorem preSt_sound {C : Ctx} (hok : Ok C) {st : St} {a : Act} (hs : SR C st a) (E : Env) (f id : Nat) : ∃ C' : Ctx, C'.w = C.w ∧ Ok C' ∧ Ext C C' ∧ SR C' (preSt E f id st) a := by
  unfold preSt
  split
  · exact frzAll_sound _ hok hs
  · exact ⟨C, rfl, hok, Ext.refl C, hs⟩

theorem denK_sound {fx : Fx} (hE : okFns fx.E = true) (hF : FSound fx.E fx.F) (hm : fx.E.P.follows .mixedOrders = true) (hI : ISound fx.E fx.I) {C0 : Ctx} (hm0 : C0.h.length = fx.m) :
    ∀ (c : Code) (blk : Nat) (α : Type) (st : St) (K : Ex → St → Option α) (r : α) (C : Ctx) (a : Act) (Q : Exit → Act → World → Prop), denK fx c blk α st K = some r → Ok C → Ext C0 C → SR C st a → a.defers = [] → fx.nt ≤ a.tmps.size →
      (∀ e st' C' a', K e st' = some r → Ok C' → Ext C0 C' → SR C' st' a' → a'.defers = [] → fx.nt ≤ a'.tmps.size → Q (exOf e) a' C'.w) → c.wp fx.E.P Q a C.w := by
  intro c
  induction c with
  | skip => intro blk α st K r C a Q h hok hx hs hd hn hQ; exact wp_skip (hQ .nrm st C a h hok hx hs hd hn)
  | exit id => intro blk α st K r C a Q h hok hx hs hd hn hQ; exact wp_exit (hQ (.exit id) st C a h hok hx hs hd hn)
  | ret => intro blk α st K r C a Q h hok hx hs hd hn hQ; exact wp_ret (hQ .ret st C a h hok hx hs hd hn)
  | goto l => intro blk α st K r C a Q h; cases h
  | label l => intro blk α st K r C a Q h; cases h
  | scope c => intro blk α st K r C a Q h; cases h
  | rangeFunc f ps x y => intro blk α st K r C a Q h; cases h
  | refuse => intro blk α st K r C a Q h; cases h
  | region id ops draw =>
    intro blk α st K r C a Q h hok hx hs hd hn hQ
    simp only [denK] at h
    obtain ⟨C1, hw1, hok1, hx1, hs1⟩ := preSt_sound hok hs fx.E fx.f id
    have hx2 := hx.trans hx1
    rw [← hw1]
    split at h
    · exact regK_sound hE hF hm hok1 hs1 (K := K .nrm) h fun C' st' a' hok' hx' hs' hsame hK => hQ .nrm st' C' a' hK hok' (hx2.trans hx') hs' (hsame.1.trans hd) (by rw [hsame.2]; exact hn)
    rename_i d g args hi
    obtain ⟨o, as, ats, hlo, hgd, hop, hdst, hargs, _, hokf, _, hbits⟩ := inlOf_some hi
    obtain ⟨hsz, hlast⟩ := lastO_spec hlo
    have hsz' : ops.toList.dropLast.length + 1 = ops.size := by simpa using hsz
    have hlast' : ops[ops.toList.dropLast.length]? = some o := by simpa using hlast
    have step : ∀ C' st' a', Ok C' → Ext C1 C' → SR C' st' a' → Same a a' → fx.I g α (args.map (evalA st'.slots)) st'.heap (fun v h => K .nrm ⟨setDst d v st'.slots, h⟩) = some r →
        ∀ next : Act → World → Prop, (∀ a2 w2, Q .normal a2 w2 → next a2 w2) → wpOp fx.E.P ops Q ops.toList.dropLast.length next a' C'.w := by
      intro C' st' a' hok' hx' hs' hsame hK next hnext
      unfold wpOp
      rw [hlast']
      have hw : Region.wanted o (yielded ops a'.tmps) = true := by unfold Region.wanted; rw [hgd]
      simp only [hw, if_true]
      refine .inl ?_
      obtain ⟨caps, hu, hc⟩ : VA C' (.fn g []) (a'.eval (.func g)) := evalA_sound hs'.s (.func g)
      unfold Oper.wp
      rw [run_call hE hop rfl hu hokf]
      have hall : All2 (VA C') (args.map (evalA st'.slots)) (as.map a'.eval ++ caps).toList := by
        have h1 := all2_map_ev (C := C') (ev := evalA st'.slots) (ρ := a'.eval) (fun x => evalA_sound hs'.s x) as.toList
        have h2 : caps.toList = [] := by
          have := hc.length
          exact List.length_eq_zero_iff.1 this.symm
        rw [Array.toList_append, h2, List.append_nil, Array.toList_map, hargs]
        exact h1
      refine Calls.mono (hI g α _ _ _ r C' _ hK hokf hok' hs'.h hall) fun e w' he => ?_
      cases e with
      | returned u =>
        obtain ⟨C2, v, rfl, hok2, hx3, hv, hK2⟩ := he
        refine hnext _ _ ?_
        rw [hdst]
        exact hQ .nrm _ C2 _ hK2 hok2 (hx2.trans (hx'.trans hx3)) (hs'.putH hx3 d hv) (by rw [put_defers]; exact hsame.1.trans hd) (by rw [put_size, hsame.2]; exact hn)
      | panicked _ => exact he.elim
      | outgrown => exact he.elim
    refine regL_sound hE hF hm hok1 hs1 (k := 1) hsz' (fun m o' hm' => ?_) h (.inr ⟨rfl, fun hdr m hm' => ?_⟩) (fun _ C' st' a' h1 h2 h3 h4 h5 => ?_) (fun hdr hdo C' st' a' l' hz hl h1 h2 h3 h4 h5 => ?_)
    · rw [List.dropLast_eq_take, List.getElem?_take] at hm'
      split at hm'
      · simpa using hm'
      · cases hm'
    · have := hbits hdr
      rw [show ops.size - 1 = ops.toList.dropLast.length by omega] at this
      exact allBits_at this m hm'
    · show wpOps fx.E.P ops Q [_] a' C'.w
      rw [wpOps_cons]
      exact step C' st' a' h1 h2 h3 h4 h5 _ fun _ _ hq => hq
    · refine ⟨fun hnil => ?_, fun i hi => ?_⟩
      · exfalso
        have : ops.toList.dropLast.length ∈ Region.ready .any ops l' := by
          refine mem_ready.2 ⟨(hl _).2 ⟨rfl, rfl⟩, o, hlast', fun e he hb => ?_⟩
          have hed := (drawOk_at hdo ops.toList.dropLast.length o hlast).1
          unfold edgesOk at hed
          have h7 := Array.all_eq_true_iff_forall_mem.1 hed e he
          simp only [hb, Bool.not_true, Bool.false_or, Nat.zero_add] at h7
          have h7 : e.on < ops.toList.dropLast.length := by simpa [Nat.blt_eq] using h7
          have h8 : l'.getD e.on true = true := by
            cases hc : l'.getD e.on true with
            | true => rfl
            | false => have := ((hl e.on).1 hc).2; omega
          have hlt : e.on < l'.size := by rw [hz]; omega
          simpa [Array.getD, hlt] using h8
        rw [hnil] at this
        cases this
      · have hii := (hl i).1 (mem_ready.1 hi).1
        obtain ⟨_, rfl⟩ := hii
        refine step C' st' a' h1 h2 h3 h4 h5 _ fun a2 w2 hq => ⟨ready_nil fun j => ?_, hq⟩
        by_cases hj : ops.toList.dropLast.length = j
        · subst hj
          have hlt : ops.toList.dropLast.length < l'.size := by rw [hz]; omega
          simp [Array.getD, hlt]
        · rw [getD_set_ne true hj]
          cases hc : l'.getD j true with
          | true => rfl
          | false => exact absurd ((hl j).1 hc).2.symm hj
  | seq x y ihx ihy =>
    intro blk α st K r C a Q h hok hx hs hd hn hQ
    refine wp_seq (ihx blk α st _ r C a _ h hok hx hs hd hn fun e st' C' a' hK hok' hx' hs' hd' hn' => ?_)
    cases e with
    | nrm => exact ihy blk α st' K r C' a' Q hK hok' hx' hs' hd' hn' hQ
    | exit i => exact hQ (.exit i) st' C' a' hK hok' hx' hs' hd' hn'
    | ret => exact hQ .ret st' C' a' hK hok' hx' hs' hd' hn'
  | cond c x y ihx ihy =>
    intro blk α st K r C a Q h hok hx hs hd hn hQ
    simp only [denK] at h
    split at h
    · rename_i t hc
      have hcv := evalA_sound hs.s c
      rw [hc] at hcv
      have hcv : a.eval c = .bool t := (fun u (h : C.P (.bool t) u) => show u = .bool t by cases h; rfl) _ hcv
      split at h
      · refine wp_cond hcv ?_
        cases t with
        | true => exact ihx blk α st K r C a Q h hok hx hs hd hn hQ
        | false => exact ihy blk α st K r C a Q h hok hx hs hd hn hQ
      · rename_i exs _
        unfold bnd at h
        obtain ⟨p, hp, h⟩ := Option.bind_eq_some_iff.1 h
        have key : ∀ e st' C' a', packEx fx.m (resX fx.fa exs) some e st' = some p → Ok C' → Ext C0 C' → SR C' st' a' → a'.defers = [] → fx.nt ≤ a'.tmps.size → Q (exOf e) a' C'.w := by
          intro e st' C' a' hK hok' hx' hs' hd' hn'
          obtain ⟨he, an, h1, h2⟩ := packEx_some hK
          obtain ⟨pk, hpk, hPK⟩ := packK_sound hx' hok' hs' hm0 hn' h1
          cases hpk
          obtain ⟨ho, h3⟩ := unpackK_some (h2 h)
          obtain ⟨C2, hw, hok2, hx2, hs2⟩ := hPK ho
          rw [← hw]
          exact hQ e _ C2 a' h3 hok2 hx2 hs2 hd' hn'
        refine wp_cond hcv ?_
        cases t with
        | true => exact ihx blk (Ex × Pack) st _ p C a Q hp hok hx hs hd hn key
        | false => exact ihy blk (Ex × Pack) st _ p C a Q hp hok hx hs hd hn key
    · rename_i hc
      have hcv := evalA_sound hs.s c
      rw [hc] at hcv
      obtain ⟨t, hcv⟩ : ∃ t, a.eval c = .bool t := (fun u (h : C.P .anyb u) => show ∃ t, u = .bool t by cases h; exact ⟨_, rfl⟩) _ hcv
      cases hnf : hasN fx.f fx.E.nilf with
      | false => rw [hnf] at h; cases h
      | true =>
        rw [hnf] at h
        obtain ⟨h1, h2⟩ := both_some h
        refine wp_cond hcv ?_
        cases t with
        | true => exact ihx blk α st K r C a Q h1 hok hx hs hd hn hQ
        | false => exact ihy blk α st K r C a Q h2 hok hx hs hd hn hQ
    · cases h
  | block id b ih =>
    intro blk α st K r C a Q h hok hx hs hd hn hQ
    refine wp_block (ih id α st _ r C a _ h hok hx hs hd hn fun e st' C' a' hK hok' hx' hs' hd' hn' => ?_)
    cases e with
    | nrm => exact hQ .nrm st' C' a' hK hok' hx' hs' hd' hn'
    | exit i =>
      simp only at hK
      show if i = id then Q .normal a' C'.w else Q (.exit i) a' C'.w
      rcases ctl_or hK with ⟨hb, hK⟩ | ⟨hb, hK⟩
      · rw [if_pos (Nat.eq_of_beq_eq_true hb)]
        exact hQ .nrm st' C' a' hK hok' hx' hs' hd' hn'
      · rw [if_neg fun he => by subst he; simp at hb]
        exact hQ (.exit i) st' C' a' hK hok' hx' hs' hd' hn'
    | ret => exact hQ .ret st' C' a' hK hok' hx' hs' hd' hn'
  | loop b ih =>
    intro blk α st K r C a Q h hok hx hs hd hn hQ
    simp only [denK] at h
    split at h
    · cases h
    rename_i la _
    obtain ⟨C1, hw1, hok1, hx1, hs1⟩ := preSt_sound hok hs fx.E fx.f (1000000 + blk)
    rw [← hw1]
    obtain ⟨pk, h, hPK⟩ := packK_sound (hx.trans hx1) hok1 hs1 hm0 hn h
    unfold bnd lpC at h
    obtain ⟨p, hp, h⟩ := Option.bind_eq_some_iff.1 h
    obtain ⟨n, hn'⟩ := loopC_some _ hp
    refine wp_loop_n (fun n a w => ∃ pk, loopN _ n pk = some p ∧ PK C0 fx.nt (resA fx.fa la.head) pk a w ∧ a.defers = [] ∧ fx.nt ≤ a.tmps.size) n ⟨pk, hn', hPK, hd, hn⟩ fun n a w hI => ?_
    obtain ⟨pk, hl, hPK, hd, hn⟩ := hI
    cases n with
    | zero => cases hl
    | succ n =>
      simp only [loopN] at hl
      obtain ⟨p1, hB, hl⟩ := Option.bind_eq_some_iff.1 hl
      obtain ⟨ho, hB⟩ := unpackK_some hB
      obtain ⟨C2, rfl, hok2, hx2, hs2⟩ := hPK ho
      refine ih blk (Ex × Pack) _ _ p1 C2 a _ hB hok2 hx2 hs2 hd hn fun e st' C' a' hK hok' hx' hs' hd' hn' => ?_
      cases e with
      | nrm =>
        simp only [packEx] at hK
        have : Ex.eqb .nrm .nrm = true := rfl
        rw [this] at hK
        obtain ⟨pk', h1, hPK'⟩ := packK_sound hx' hok' hs' hm0 hn' (show packK fx.m (resA fx.fa la.head) st' (fun pk => some (Ex.nrm, pk)) = some p1 from hK)
        cases h1
        exact ⟨n, Nat.lt_succ_self n, pk', hl, hPK', hd', hn'⟩
      | exit i =>
        have hne : Ex.eqb (.exit i) .nrm = false := rfl
        simp only [packEx, hne] at hK
        obtain ⟨he, an, h1, h2⟩ := packEx_some (show packEx fx.m (resX fx.fa la.exits) some (.exit i) st' = some p1 from hK)
        rw [he, hne] at hl
        cases hl
        obtain ⟨pk', h3, hPK'⟩ := packK_sound hx' hok' hs' hm0 hn' h1
        cases h3
        obtain ⟨ho', h4⟩ := unpackK_some (h2 h)
        obtain ⟨C3, hw, hok3, hx3, hs3⟩ := hPK' ho'
        show Q (.exit i) a' C'.w
        rw [← hw]
        exact hQ (.exit i) _ C3 a' h4 hok3 hx3 hs3 hd' hn'
      | ret =>
        have hne : Ex.eqb .ret .nrm = false := rfl
        simp only [packEx, hne] at hK
        obtain ⟨he, an, h1, h2⟩ := packEx_some (show packEx fx.m (resX fx.fa la.exits) some .ret st' = some p1 from hK)
        rw [he, hne] at hl
        cases hl
        obtain ⟨pk', h3, hPK'⟩ := packK_sound hx' hok' hs' hm0 hn' h1
        cases h3
        obtain ⟨ho', h4⟩ := unpackK_some (h2 h)
        obtain ⟨C3, hw, hok3, hx3, hs3⟩ := hPK' ho'
        show Q .ret a' C'.w
        rw [← hw]
        exact hQ .ret _ C3 a' h4 hok3 hx3 hs3 hd' hn'

end Go.Proofs.YtpnpdkgdgfkpfaaGreatDoor.Vm
