/- The abstract machine, part 29: the reduced state stands to the memory as the state did. -/
import Derived.Test.YtpnpdkgdgfkpfaaGreatDoorVm28
namespace Go.Proofs.YtpnpdkgdgfkpfaaGreatDoor.Vm
set_option linter.unusedVariables false
set_option linter.unusedSimpArgs false

section
variable {C : Ctx} {mp : Mp} {hD : List Ent} (R : RenOk C (sig mp) hD) {look : Look} (hl : LookOk C look)
include R hl

theorem val_p {s : Sh} {a : AV} (h : okVal look (.inl s) a = true) : ∃ p, canVal look (.inl s) a = [.t (.p p)] ∧ ∀ u, VA C a u → (∀ id ∈ frz (.inl s) a, ∀ j, sig mp j ≠ some id) → (C.ren (sig mp) hD).P p u := by
  unfold okVal at h
  split at h
  · rename_i s' v he
    cases he
    exact ⟨canP s v, rfl, fun u hu _ => canP_sound h (R.vp hu)⟩
  · rename_i sz id he
    cases he
    split at h
    · rename_i sz' es hb
      have := Nat.eq_of_beq_eq_true h
      subst this
      refine ⟨.sl sz es, by simp only [canVal, hb], fun u hu hf => ?_⟩
      obtain ⟨_, _, h3⟩ := hu
      exact R.frozen (hl _ _ hb) (h3 _ _ (hl _ _ hb)) fun j _ _ => hf id (by simp [frz]) j
    · cases h
  · rename_i he; cases he
  · rename_i he; cases he
  · cases h

theorem put_slots {slots : List AV} {tmps : Array Value} (hs : SlotsR C slots tmps) : ∀ (l : List (Nat × SSh)) (k : Nat) (vs s : List AV), (∀ m, nth .undef vs (k + m) = nth .undef (canSlots look slots l) m) → okSlots look slots l = true → okPut l k vs = true →
    (∀ i w, (i, Sum.inr (Sum.inr w)) ∈ l → ∀ u, VA C (nth .undef slots i) u → VA (C.ren (sig mp) hD) w u) → (∀ id ∈ frzSlots slots l, ∀ j, sig mp j ≠ some id) → SlotsR (C.ren (sig mp) hD) s tmps →
    SlotsR (C.ren (sig mp) hD) (putSlots l k vs s) tmps
  | [], k, vs, s, _, _, _, _, _, h => h
  | (i, .inl sh) :: l, k, vs, s, hvs, hok, hput, hlink, hfrz, h => by
    simp only [okSlots, Bool.and_eq_true] at hok
    simp only [okPut, Bool.and_eq_true] at hput
    obtain ⟨p, hp1, hp2⟩ := val_p R hl hok.1
    have h0 := hvs 0
    simp only [canSlots, hp1, Nat.add_zero] at h0
    have h0 : nth .undef vs k = .t (.p p) := h0
    have hp := hp2 _ (hs i) fun id hid => hfrz id (by simp only [frzSlots]; exact List.mem_append.2 (.inl hid))
    rw [h0] at hput
    simp only [putSlots]
    refine put_slots hs l (k + 1) vs _ (fun m => ?_) hok.2 hput.2 (fun i' w hw => hlink i' w (by simp [hw])) (fun id hid => hfrz id (by simp only [frzSlots]; exact List.mem_append.2 (.inr hid))) fun t => ?_
    · have := hvs (m + 1)
      simp only [canSlots, hp1] at this
      rw [show k + 1 + m = k + (m + 1) by omega, this]
      rfl
    · rw [nth_upd]
      split
      · rename_i hc
        obtain ⟨rfl, _⟩ := hc
        rw [h0]
        exact canP_sound hput.1.2 hp
      · exact h t
  | (i, .inr (.inl ss)) :: l, k, vs, s, hvs, hok, hput, hlink, hfrz, h => by
    simp only [okSlots, Bool.and_eq_true] at hok
    simp only [okPut, Bool.and_eq_true] at hput
    obtain ⟨cs, hcs, hokc⟩ : ∃ cs, nth .undef slots i = .t (.agg cs) ∧ okCs ss cs = true := by
      have := hok.1
      generalize nth AV.undef slots i = x at this
      unfold okVal at this
      split at this
      · rename_i he; cases he
      · rename_i he; cases he
      · rename_i ss' cs he
        cases he
        exact ⟨cs, rfl, this⟩
      · rename_i he; cases he
      · cases this
    have h0 := hvs 0
    have hcan : canVal look (.inr (.inl ss)) (nth .undef slots i) = [.t (.agg (canCs ss cs 0))] := by rw [hcs]; rfl
    simp only [canSlots, hcan, Nat.add_zero] at h0
    have h0 : nth .undef vs k = .t (.agg (canCs ss cs 0)) := h0
    have hv := hs i
    rw [hcs] at hv
    obtain ⟨us, hus, hall⟩ := hv
    have hall2 := canCs_sound (i := 0) hokc (fun j _ => by rw [Nat.zero_add]) (R.vps hall)
    rw [h0] at hput
    simp only [putSlots]
    refine put_slots hs l (k + 1) vs _ (fun m => ?_) hok.2 hput.2 (fun i' w hw => hlink i' w (by simp [hw])) (fun id hid => hfrz id (by simp only [frzSlots]; exact List.mem_append.2 (.inr hid))) fun t => ?_
    · have := hvs (m + 1)
      simp only [canSlots, hcan] at this
      rw [show k + 1 + m = k + (m + 1) by omega, this]
      rfl
    · rw [nth_upd]
      split
      · rename_i hc
        obtain ⟨rfl, _⟩ := hc
        rw [h0]
        exact ⟨us, hus, canCs_sound (i := 0) hput.1.2 (fun j _ => by rw [Nat.zero_add]) hall2⟩
      · exact h t
  | (i, .inr (.inr w)) :: l, k, vs, s, hvs, hok, hput, hlink, hfrz, h => by
    simp only [okSlots, Bool.and_eq_true] at hok
    simp only [putSlots]
    refine put_slots hs l k vs _ (fun m => ?_) hok.2 hput (fun i' w' hw => hlink i' w' (by simp [hw])) (fun id hid => hfrz id (by simp only [frzSlots]; exact List.mem_append.2 (.inr hid))) fun t => ?_
    · have := hvs m
      simpa only [canSlots, canVal, List.nil_append] using this
    · rw [nth_upd]
      split
      · rename_i hc
        obtain ⟨rfl, _⟩ := hc
        exact hlink i w (by simp) _ (hs i)
      · exact h t
end

theorem putSlots_length : ∀ (l : List (Nat × SSh)) (k : Nat) (vs s : List AV), (putSlots l k vs s).length = s.length
  | [], _, _, _ => rfl
  | (i, .inl sh) :: l, k, vs, s => by simp only [putSlots]; rw [putSlots_length l, length_upd]
  | (i, .inr (.inl ss)) :: l, k, vs, s => by simp only [putSlots]; rw [putSlots_length l, length_upd]
  | (i, .inr (.inr w)) :: l, k, vs, s => by simp only [putSlots]; rw [putSlots_length l, length_upd]

def unp (nt : Nat) (an : Ann) (pk : Pack) : St := ⟨putSlots an.slots 0 pk.vals (reps .undef nt), putBlks an.blks 0 pk.blks⟩

def PK (C0 : Ctx) (nt : Nat) (an : Ann) (pk : Pack) (a : Act) (w : World) : Prop :=
  okPack an pk = true → ∃ C2 : Ctx, C2.w = w ∧ Ok C2 ∧ Ext C0 C2 ∧ SR C2 (unp nt an pk) a

theorem unpackK_some {α : Type} {nt : Nat} {an : Ann} {pk : Pack} {K : St → Option α} {r : α} (h : unpackK nt an pk K = some r) : okPack an pk = true ∧ K (unp nt an pk) = some r := ctl_some h

theorem known_of_lt {h : List Ent} {l : List BSh} {bs : List Blk} {j : Nat} (hj : j < l.length) : known (putBlks l 0 bs) j := by
  unfold known
  rw [nth_some _ (putBlks_get (j := 0) (bs := bs) (List.getElem?_eq_getElem hj))]
  simp

theorem packK_sound {C0 C : Ctx} (hx : Ext C0 C) (hok : Ok C) {st : St} {a : Act} (hs : SR C st a) {m : Nat} (hm : C0.h.length = m) {nt : Nat} (hnt : nt ≤ a.tmps.size) {an : Ann} {α : Type} {K : Pack → Option α} {r : α}
    (h : packK m an st K = some r) : ∃ pk, K pk = some r ∧ PK C0 nt an pk a C.w := by
  unfold packK at h
  split at h
  · cases h
  rename_i mp0 hl0
  split at h
  · cases h
  rename_i mp hl1
  split at h
  case isFalse => cases h
  rename_i hc
  simp only [Bool.and_eq_true] at hc
  obtain ⟨hfrz, hrange⟩ := hc
  obtain ⟨hokv, h⟩ := ctl_some h
  simp only [Bool.and_eq_true] at hokv
  obtain ⟨hoks, hokb⟩ := hokv
  obtain ⟨l1, l2, l3⟩ := linkSlots_spec hl0
  obtain ⟨k1, k2, k3⟩ := linkBlks_spec hl1
  refine ⟨_, h, fun hpk => ?_⟩
  simp only [okPack, Bool.and_eq_true] at hpk
  obtain ⟨hput, hputb⟩ := hpk
  have hLook : LookOk C (lookH st.heap) := fun id b hb => by rw [hs.h]; exact lookH_live.1 hb
  have hinj : MInj mp := k2 (l2 (idMp_inj 0 m))
  have hkn : ∀ j y, mpGet j mp = some y → known (putBlks an.blks 0 (canBlks (lookH st.heap) mp 0 an.blks)) j := fun j y hj => by
    obtain ⟨x, h1, h2⟩ := mpGet_mem hj
    have := List.all_eq_true.1 hrange x h1
    rw [h2] at this
    exact known_of_lt (h := []) (by simpa [Nat.blt_eq] using this)
  have hno : ∀ id, id ∈ frzSlots st.slots an.slots ++ frzBlks (lookH st.heap) mp 0 an.blks → ∀ j, sig mp j ≠ some id := fun id hid j => by
    have := List.all_eq_true.1 hfrz id hid
    exact not_sig (by simpa using this) j
  have hlt : ∀ j b, live (putBlks an.blks 0 (canBlks (lookH st.heap) mp 0 an.blks)) j b → ∃ B, an.blks[j]? = some B ∧ b = putBlk (canBlk (lookH st.heap) (mpGet j mp) B) B := fun j b hb => by
    have hj : j < an.blks.length := by have := live_lt hb; rwa [putBlks_length] at this
    refine ⟨an.blks[j], List.getElem?_eq_getElem hj, ?_⟩
    have := blk_at (look := lookH st.heap) (mp := mp) (List.getElem?_eq_getElem hj)
    unfold live at hb
    rw [this] at hb
    simpa using hb.symm
  have R : RenOk C (sig mp) (putBlks an.blks 0 (canBlks (lookH st.heap) mp 0 an.blks)) := by
    refine ⟨hok, fun j j' id h1 h2 => ?_, fun j b hb => ?_⟩
    · unfold sig at h1 h2
      split at h1
      · rename_i x hx1
        split at h2
        · rename_i y hy1
          subst h1; subst h2
          exact hinj j j' id hx1 hy1
        · cases h2
      · cases h1
    · obtain ⟨B, hB, rfl⟩ := hlt j b hb
      have hbl := k3 j B hB
      rw [Nat.zero_add] at hbl
      cases B with
      | inr sz =>
        rcases hbl with ⟨id, es, g1, g2⟩ | g1
        · refine .inl ⟨id, _, sig_some g1, hLook _ _ g2, ?_⟩
          simp only [g1, canBlk, g2, putBlk, Blk.toEs]
          exact ⟨rfl, rfl⟩
        · refine .inr ⟨sig_some g1, sz, ?_⟩
          simp only [g1, canBlk, putBlk, Blk.toEs]
      | inl cs =>
        obtain ⟨id, ds, g1, g2, g3⟩ := hbl
        refine .inl ⟨id, _, sig_some g1, hLook _ _ g2, ?_⟩
        simp only [g1, canBlk, g2, putBlk, Blk.toCs]
        show ds.length = (putCells cs 0 (canCells (lookH st.heap) cs ds)).length
        rw [putCells_length, g3.length]
  refine ⟨C.ren (sig mp) (putBlks an.blks 0 (canBlks (lookH st.heap) mp 0 an.blks)), rfl, R.okD fun j b hb => ?_, R.ext hx fun id hid => ?_, rfl, ?_, ?_⟩
  · obtain ⟨B, hB, rfl⟩ := hlt j b hb
    have hbl := k3 j B hB
    rw [Nat.zero_add] at hbl
    cases B with
    | inr sz =>
      rcases hbl with ⟨id, es, g1, g2⟩ | g1
      · simp only [g1, canBlk, g2, putBlk, Blk.toEs]
        exact R.arr (sig_some g1) (hLook _ _ g2)
      · simp only [g1, canBlk, putBlk, Blk.toEs]
        exact ren_arr0 (sig_some g1)
    | inl cs =>
      obtain ⟨id, ds, g1, g2, g3⟩ := hbl
      obtain ⟨id', ds', e1, e2, hokc⟩ := okBlks_at hokb hB
      rw [Nat.zero_add, g1] at e1
      cases e1
      rw [g2] at e2
      cases e2
      have hpc := okPutBlks_at hputb hB
      rw [Nat.zero_add, nth_some _ (canBlks_get hB), Nat.zero_add] at hpc
      simp only [g1, canBlk, g2, Blk.toCs] at hpc
      simp only [g1, canBlk, g2, putBlk, Blk.toCs]
      have hlen : cs.length = ds.length := g3.length
      refine R.box (sig_some g1) (hLook _ _ g2) (by rw [putCells_length, hlen]) fun k c d u hc hd hv => ?_
      have hkl : k < cs.length := by rw [hlen]; exact (List.getElem?_eq_some_iff.1 hd).1
      have hck := List.getElem?_eq_getElem hkl
      rw [putCells_get hck] at hc
      cases hs' : cs[k] with
      | inl s =>
        rw [hs'] at hc hck
        simp only [Nat.zero_add, Option.some.injEq] at hc
        subst hc
        obtain ⟨p, p1, p2⟩ := val_p R hLook (okCells_at hokc hck hd)
        have p3 := canCells_at (look := lookH st.heap) hlen hck hd
        rw [p1] at p3
        have p4 : nth .undef (canCells (lookH st.heap) cs ds) k = .t (.p p) := by simpa using p3.symm
        have p5 := okPutCells_at hpc hck
        rw [Nat.zero_add] at p5
        rw [p4] at p5 ⊢
        refine canP_sound p5 (p2 u hv fun x hx => hno x (List.mem_append.2 (.inr ?_)))
        exact frzBlks_at hB (by rw [Nat.zero_add]; exact g1) g2 x (frzCells_at hck hd x hx)
      | inr w =>
        rw [hs'] at hc hck
        simp only [Option.some.injEq] at hc
        subst hc
        obtain ⟨c', h5, h6⟩ := g3.get k _ hck
        rw [hd] at h5
        cases h5
        exact linked_va R hkn h6 hv
  · have hlt' : id < m := by
      rcases Nat.lt_or_ge id C0.h.length with h' | h'
      · omega
      · exfalso; unfold known at hid; rw [nth_out h'] at hid; exact hid rfl
    have hg : mpGet id mp = some (some id) := k1 _ _ (l1 _ _ (by rw [idMp_get, if_pos (by omega)]))
    exact ⟨hkn _ _ hg, sig_some hg⟩
  · show SlotsR _ (putSlots an.slots 0 (canSlots (lookH st.heap) st.slots an.slots) (reps .undef nt)) a.tmps
    refine put_slots R hLook hs.s an.slots 0 _ _ (fun m => by rw [Nat.zero_add]) hoks hput (fun i w hw u hu => ?_) (fun id hid => hno id (List.mem_append.2 (.inl hid))) fun t => ?_
    · exact linked_va R hkn ((l3 i w hw).mono k1) hu
    · have : nth AV.undef (reps .undef nt) t = .undef := by
        rw [nth_eq, reps_eq, List.getD_eq_getElem?_getD, List.getElem?_replicate]
        split <;> rfl
      rw [this]
      trivial
  · show (putSlots an.slots 0 _ (reps .undef nt)).length ≤ _
    rw [putSlots_length, reps_length]
    exact hnt

end Go.Proofs.YtpnpdkgdgfkpfaaGreatDoor.Vm
