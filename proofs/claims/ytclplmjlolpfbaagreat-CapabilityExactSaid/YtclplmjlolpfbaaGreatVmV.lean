/- The abstract machine, part V: maps against the model's. -/
import Derived.Test.YtclplmjlolpfbaaGreatVmU
namespace Go.Proofs.YtclplmjlolpfbaaGreat.Vm
open Go.MapKept
set_option linter.unusedVariables false
set_option linter.unusedSectionVars false
set_option linter.unusedSimpArgs false

def kvIdx (n : Int) : List (Int × MV) → Option Nat
  | [] => none
  | (x, _) :: l => if x = n then some 0 else (kvIdx n l).map (· + 1)

theorem kvIdx_some {n : Int} : ∀ {kvs : List (Int × MV)} {i : Nat}, kvIdx n kvs = some i → ∃ mv, kvs[i]? = some (n, mv) ∧ (∀ d, kvGet d n kvs = mv) ∧ kvHas n kvs = true ∧
      (∀ v, (kvPut n v kvs).length = kvs.length ∧ (kvPut n v kvs).map Prod.fst = kvs.map Prod.fst ∧ ∀ j : Nat, (kvPut n v kvs)[j]? = if j = i then some (n, v) else kvs[j]?) ∧
      ((kvGone n kvs).length = kvs.length ∧ (kvGone n kvs).map Prod.fst = kvs.map Prod.fst ∧ ∀ j : Nat, (kvGone n kvs)[j]? = if j = i then some (n, .gone) else kvs[j]?)
  | [], i, h => by cases h
  | (x, u) :: l, i, h => by
    unfold kvIdx at h
    by_cases hx : x = n
    · rw [if_pos hx] at h
      cases h
      subst hx
      have hb : (x == x) = true := by simp
      refine ⟨u, rfl, fun d => by simp [kvGet, hb], by simp [kvHas, hb], fun v => ?_, ?_⟩
      · simp only [kvPut, hb, cond_true]
        refine ⟨rfl, rfl, fun j => ?_⟩
        cases j <;> simp
      · simp only [kvGone, hb, cond_true]
        refine ⟨rfl, rfl, fun j => ?_⟩
        cases j <;> simp
    · rw [if_neg hx] at h
      have hb : (x == n) = false := by simpa using hx
      cases hi : kvIdx n l with
      | none => rw [hi] at h; cases h
      | some i0 =>
        rw [hi] at h
        simp only [Option.map_some, Option.some.injEq] at h
        subst h
        obtain ⟨mv, h1, h2, h3, h4, h5, h6, h7⟩ := kvIdx_some hi
        refine ⟨mv, by simpa using h1, fun d => by simp [kvGet, hb, h2 d], by simp [kvHas, hb, h3], fun v => ?_, ?_⟩
        · obtain ⟨g1, g2, g3⟩ := h4 v
          simp only [kvPut, hb, cond_false, List.length_cons, g1, List.map_cons, g2, true_and]
          intro j
          cases j with
          | zero => simp
          | succ j => simp [g3 j]
        · simp only [kvGone, hb, cond_false, List.length_cons, h5, List.map_cons, h6, true_and]
          intro j
          cases j with
          | zero => simp
          | succ j => simp [h7 j]
theorem kvIdx_none {n : Int} : ∀ {kvs : List (Int × MV)}, kvIdx n kvs = none → (∀ d, kvGet d n kvs = d) ∧ kvHas n kvs = false ∧ (∀ v, kvPut n v kvs = kvs ++ [(n, v)]) ∧ kvGone n kvs = kvs
  | [], _ => ⟨fun _ => rfl, rfl, fun _ => rfl, rfl⟩
  | (x, u) :: l, h => by
    unfold kvIdx at h
    by_cases hx : x = n
    · rw [if_pos hx] at h; cases h
    · rw [if_neg hx] at h
      have hb : (x == n) = false := by simpa using hx
      have hi : kvIdx n l = none := by
        cases hi : kvIdx n l with
        | none => rfl
        | some i => rw [hi] at h; cases h
      obtain ⟨h1, h2, h3, h4⟩ := kvIdx_none hi
      exact ⟨fun d => by simp [kvGet, hb, h1 d], by simp [kvHas, hb, h2], fun v => by simp [kvPut, hb, h3 v], by simp [kvGone, hb, h4]⟩

theorem findNow_kv {n : Int} : ∀ {kvs : List (Int × MV)} {l : List MapEntry} (off : Nat), l.map (fun x => x.key) = kvs.map (fun x => Value.int .i64 x.1) →
    Instr.findNow (.int .i64) (.int .i64 n) l off = some ((kvIdx n kvs).bind fun i => (l[i]?).map fun e => (off + i, e.val))
  | [], [], off, _ => rfl
  | [], _ :: _, _, h => by cases h
  | _ :: _, [], _, h => by cases h
  | (x, u) :: kvs, e :: l, off, h => by
    simp only [List.map_cons, List.cons.injEq] at h
    have ih := findNow_kv (n := n) (off + 1) h.2
    unfold Instr.findNow kvIdx
    rw [h.1]
    simp only [Instr.sameNow, if_true]
    by_cases hx : x = n
    · subst hx
      simp
    · have hb : (n == x) = false := by simpa using fun e => hx e.symm
      rw [if_neg hx, hb]
      simp only [ih]
      cases hi : kvIdx n kvs with
      | none => rfl
      | some i =>
        simp only [Option.bind_some, Option.map_some, List.getElem?_cons_succ]
        rw [show off + 1 + i = off + (i + 1) by omega]

theorem isKey_int (n : Int) : IsKey (.int .i64) (.int .i64 n) := by simp [IsKey]

theorem zeroOne_sound {P : Program} {e : TypeId} {z : PV} (h : zeroOne P e = some z) : ∃ u : Value, (∀ w', (zeroValue e).run P w' = .ok u w') ∧ ∀ (w : World) (O : Nat → Prop), VP w O z u := by
  unfold zeroOne at h
  split at h
  · rename_i i hi
    split at h
    · cases h
    · rename_i v hna hz
      exact ⟨v, fun w' => by simp [zeroValue, typeInfo, hi, hz], fun w O => constP_sound h⟩
    · cases h
  · cases h

theorem run_lookup_kv {P : Program} {w : World} {t kt e : TypeId} {b : Nat} {es : Array MapEntry} {clock : Nat} {kvs : List (Int × MV)} {n : Int} {ok : Bool} {z : Value} (ht : P.underlying t = some (.map kt e)) (hk : P.underlying kt = some (.int .i64))
    (hb : w.heap[b]? = some (.map es clock)) (hkeys : es.toList.map (fun x => x.key) = kvs.map (fun x => Value.int .i64 x.1)) (hz : ∀ w', (zeroValue e).run P w' = .ok z w') :
    (∀ i e0, kvIdx n kvs = some i → es.toList[i]? = some e0 → (Instr.lookup t (.map (some b)) (.int .i64 n) ok).run P w = .ok (if ok then .tuple #[e0.val, .bool true] else e0.val) w) ∧
    (kvIdx n kvs = none → (Instr.lookup t (.map (some b)) (.int .i64 n) ok).run P w = .ok (if ok then .tuple #[z, .bool false] else z) w) := by
  have hfind := findNow_kv (n := n) (off := 0) hkeys
  refine ⟨fun i e0 hi he => ?_, fun hi => ?_⟩
  · rw [hi] at hfind
    simp only [Option.bind_some, he, Option.map_some] at hfind
    simp [Instr.lookup, run_underlying ht, MapKept.run_getObj_map hb, run_checkKey hk (isKey_int n), run_findKey hk hfind, Result.andThen]
  · rw [hi] at hfind
    simp only [Option.bind_none] at hfind
    simp [Instr.lookup, run_underlying ht, MapKept.run_getObj_map hb, run_checkKey hk (isKey_int n), run_findKey hk hfind, Result.andThen, hz]

theorem mapLookK_sound {C : Ctx} (hok : Ok C) {P : Program} {look : Look} (hl : LookOk C look) {nid : Nat} (hf : nth Ent.fresh C.h nid = .fresh) (hn : nid < C.h.length) {t : TypeId} {m k v : AV} {ok : Bool} {us : Ups} {um uk : Value}
    (hm : VA C m um) (hk : VA C k uk) (h : mapLookK P look nid t m k ok two = some (v, us)) : ∃ u, (Instr.lookup t um uk ok).run P C.w = .ok u C.w ∧ Gives C us v u C.w := by
  unfold mapLookK at h
  split at h
  · rename_i kt e id n ht
    cases hk
    split at h
    · rename_i hi64
      have hkt := isI64_under hi64
      obtain ⟨hkn, b, rfl, hp⟩ := hm
      split at h
      · rename_i kvs hb
        have hlv := hl _ _ hb
        have hι := hp _ _ hlv
        obtain ⟨b', vals, hi', hnk, ⟨es, clock, hr, hkeys, hvals⟩, hT⟩ := hok.blk id _ hlv
        rw [hι] at hi'; cases hi'
        split at h
        · rename_i s z hs hz
          obtain ⟨hpv, h⟩ := ctl_some h
          obtain ⟨rfl, rfl⟩ := two_inj h
          obtain ⟨zv, hzv, hzp⟩ := zeroOne_sound hz
          obtain ⟨r1, r2⟩ := run_lookup_kv (n := n) (ok := ok) ht hkt hr hkeys hzv
          have fin : ∀ (p : PV) (u : Value) (bb : Bool), okP s p = true → C.P p u → ∃ w : Value, (if ok then .tuple #[u, .bool bb] else u) = w ∧ Gives C [] (lookV ok (canP s p) bb) w C.w := by
            intro p u bb hp hu
            have hc := canP_sound hp hu
            refine ⟨_, rfl, Gives.same hok ?_⟩
            cases ok with
            | true => exact ⟨_, rfl, hc, .bool bb, trivial⟩
            | false => exact hc
          cases hi : kvIdx n kvs with
          | some i =>
            obtain ⟨mv, h1, h2, h3, _⟩ := kvIdx_some hi
            rw [h2] at hpv ⊢
            rw [h3]
            have hlt : i < vals.length := by rw [hT.len]; exact (List.getElem?_eq_some_iff.1 h1).1
            have hvi : vals[i]? = some vals[i] := List.getElem?_eq_getElem hlt
            generalize vals[i] = u at hvi
            obtain ⟨e0, he0, hev⟩ : ∃ e0, es.toList[i]? = some e0 ∧ e0.val = u := by
              rw [← hvals, List.getElem?_map] at hvi
              cases he : es.toList[i]? with
              | none => rw [he] at hvi; cases hvi
              | some e0 => rw [he] at hvi; exact ⟨e0, rfl, by simpa using hvi⟩
            have hmv := hT.val i _ u h1 hvi
            cases mv with
            | pv p =>
              obtain ⟨w, hw, hg⟩ := fin p u true hpv hmv
              refine ⟨w, ?_, hg⟩
              rw [r1 i e0 hi he0, hev, hw]
            | row es => cases hpv
            | gone => cases hpv
          | none =>
            obtain ⟨h2, h3, _⟩ := kvIdx_none hi
            rw [h2] at hpv ⊢
            rw [h3]
            obtain ⟨w, hw, hg⟩ := fin z zv false hpv (hzp _ _)
            refine ⟨w, ?_, hg⟩
            rw [r2 hi, hw]
        · cases h
      · rename_i sz kvs hb
        have hlv := hl _ _ hb
        have hι := hp _ _ hlv
        obtain ⟨b', vals, hi', hnk, ⟨es, clock, hr, hkeys, hvals⟩, hT⟩ := hok.blk id _ hlv
        rw [hι] at hi'; cases hi'
        split at h
        · rename_i hz
          obtain ⟨hrow, h⟩ := ctl_some h
          obtain ⟨rfl, rfl⟩ := two_inj h
          obtain ⟨zv, hzv, hzp⟩ := zeroOne_sound hz
          have hz0 : zv = .slice none 0 0 := by have := hzp default (fun _ => False); cases this; rfl
          subst hz0
          obtain ⟨r1, r2⟩ := run_lookup_kv (n := n) (ok := false) ht hkt hr hkeys hzv
          obtain ⟨B', hB'⟩ : ∃ B', Blk.tab true (sz + 1) (kvGone n kvs) = B' := ⟨_, rfl⟩
          have hlk : like (.tab true (sz + 1) kvs) B' := by rw [← hB']; exact ⟨rfl, fun e => by cases e⟩
          cases hi : kvIdx n kvs with
          | some i =>
            obtain ⟨mv, h1, h2, h3, _, h5, h6, h7⟩ := kvIdx_some hi
            rw [h2] at hrow ⊢
            have hlt : i < vals.length := by rw [hT.len]; exact (List.getElem?_eq_some_iff.1 h1).1
            have hvi : vals[i]? = some vals[i] := List.getElem?_eq_getElem hlt
            generalize vals[i] = u at hvi
            obtain ⟨e0, he0, hev⟩ : ∃ e0, es.toList[i]? = some e0 ∧ e0.val = u := by
              rw [← hvals, List.getElem?_map] at hvi
              cases he : es.toList[i]? with
              | none => rw [he] at hvi; cases hvi
              | some e0 => rw [he] at hvi; exact ⟨e0, rfl, by simpa using hvi⟩
            rw [isRow_row hrow] at h1
            have hru := hT.val i _ u h1 hvi
            have T : Det C nid id b u.ownBlock (.arr (sz + 1) mv.toEs) (.tab true (sz + 1) kvs) B' := ⟨hlv, hι, hnk, hf, hn, fun g hg => rowR_block hru hg, hlk⟩
            obtain ⟨d1, d2⟩ := det_row hru T
            refine ⟨u, by rw [r1 i e0 hi he0, hev]; rfl, ?_⟩
            rw [hB']
            refine ⟨C.detach nid id u.ownBlock (.arr (sz + 1) mv.toEs) B', rfl, rfl, T.ext, T.ok hok d1 ?_, d2⟩
            have hι' : (C.detach nid id u.ownBlock (.arr (sz + 1) mv.toEs) B').ι id = some b := (ιset_other T.ne).trans hι
            rw [← hB'] at hι' T ⊢
            refine ⟨b, vals, hι', fun hq => hnk hq.1.2, ⟨es, clock, hr, ?_, hvals⟩, det_tabV hT T h1 hvi h5 (fun j hj => by rw [h7 j, if_neg hj]) ⟨n, by rw [h7 i, if_pos rfl]⟩⟩
            rw [hkeys]
            have : kvs.map (fun x => Value.int .i64 x.1) = (kvs.map Prod.fst).map (Value.int .i64) := by simp
            rw [this, ← h6]
            simp
          | none =>
            obtain ⟨h2, h3, _, h5⟩ := kvIdx_none hi
            rw [h2]
            have hru : RowR C id (sz + 1) [] (.slice none 0 0) := .inl ⟨rfl, rfl⟩
            have T : Det C nid id b (Value.slice none 0 0).ownBlock (.arr (sz + 1) []) (.tab true (sz + 1) kvs) B' := ⟨hlv, hι, hnk, hf, hn, (fun g hg => by cases hg), hlk⟩
            obtain ⟨d1, d2⟩ := det_row hru T
            refine ⟨.slice none 0 0, by rw [r2 hi]; rfl, ?_⟩
            rw [hB']
            refine ⟨C.detach nid id (Value.slice none 0 0).ownBlock (.arr (sz + 1) []) B', rfl, rfl, T.ext, T.ok hok d1 ?_, d2⟩
            have hι' : (C.detach nid id (Value.slice none 0 0).ownBlock (.arr (sz + 1) []) B').ι id = some b := (ιset_other T.ne).trans hι
            have hx := T.ext
            have hne := T.ne
            rw [← hB'] at hι' hx ⊢
            rw [h5] at hι' hx ⊢
            exact ⟨b, vals, hι', fun hq => hnk hq.1.2, ⟨es, clock, hr, hkeys, hvals⟩, hx.tabV hT (fun k hk => ⟨⟨hne, hk⟩, fun e => by cases e.2⟩) (fun _ _ => rfl)⟩
        · cases h
      · cases h
    · cases h
  · cases h

theorem run_update_kv {P : Program} {w : World} {t kt e : TypeId} {b : Nat} {es : Array MapEntry} {clock : Nat} {kvs : List (Int × MV)} {n : Int} {x : Value} (ht : P.underlying t = some (.map kt e)) (hk : P.underlying kt = some (.int .i64))
    (hb : w.heap[b]? = some (.map es clock)) (hkeys : es.toList.map (fun x => x.key) = kvs.map (fun x => Value.int .i64 x.1)) (mv : MV) :
    ∃ es' clock', (Instr.mapUpdate t (.map (some b)) (.int .i64 n) x).run P w = .ok () { w with heap := w.heap.setIfInBounds b (.map es' clock') } ∧
      es'.toList.map (fun x => x.key) = (kvPut n mv kvs).map (fun x => Value.int .i64 x.1) ∧ (kvPut n mv kvs).length = es'.toList.length ∧
      ∃ i0, ∀ (i : Nat) y u, (kvPut n mv kvs)[i]? = some y → (es'.toList.map (fun x => x.val))[i]? = some u → (i ≠ i0 ∧ kvs[i]? = some y ∧ (es.toList.map (fun x => x.val))[i]? = some u) ∨ (i = i0 ∧ y.2 = mv ∧ u = x) := by
  have hfind := findNow_kv (n := n) (off := 0) hkeys
  have hlen : es.toList.length = kvs.length := by have := congrArg List.length hkeys; simpa using this
  cases hi : kvIdx n kvs with
  | some i =>
    obtain ⟨mv0, h1, h2, h3, h4, _⟩ := kvIdx_some hi
    obtain ⟨g1, g2, g3⟩ := h4 mv
    have hlt : i < es.toList.length := by rw [hlen]; exact (List.getElem?_eq_some_iff.1 h1).1
    have he0 : es.toList[i]? = some es.toList[i] := List.getElem?_eq_getElem hlt
    generalize es.toList[i] = e0 at he0
    have hek : e0.key = .int .i64 n := by
      have := congrArg (fun l => l[i]?) hkeys
      simp only [List.getElem?_map, he0, h1, Option.map_some, Option.some.injEq] at this
      exact this
    have hea : es[i]? = some e0 := by simpa using he0
    rw [hi] at hfind
    simp only [Option.bind_some, he0, Option.map_some, Nat.zero_add] at hfind
    have hget : ∀ j : Nat, (es.modify i fun e => { e with key := Value.int .i64 n, val := x }).toList[j]? = if j = i then some { e0 with key := Value.int .i64 n, val := x } else es.toList[j]? := fun j => by
      rw [Array.getElem?_toList, Array.getElem?_modify, Array.getElem?_toList]
      by_cases hj : j = i
      · subst hj
        rw [if_pos rfl, if_pos rfl, hea]
        rfl
      · rw [if_neg (fun e => hj e.symm), if_neg hj]
    have hl2 : (es.modify i fun e => { e with key := Value.int .i64 n, val := x }).toList.length = es.toList.length := by simp
    refine ⟨_, clock, by simp [Instr.mapUpdate, run_underlying ht, MapKept.run_getObj_map hb, run_checkKey hk (isKey_int n), run_findKey hk hfind, hea, hek, run_keyThatStays (isKey_int n), MapKept.run_setObj_map _ hb, Result.andThen]; rfl, ?_, by rw [g1, hl2, hlen], i, fun j y u hy hu => ?_⟩
    · have : (kvPut n mv kvs).map (fun x => Value.int .i64 x.1) = kvs.map (fun x => Value.int .i64 x.1) := by
        have e1 : ∀ l : List (Int × MV), l.map (fun x => Value.int .i64 x.1) = (l.map Prod.fst).map (Value.int .i64) := fun l => by simp
        rw [e1, e1, g2]
      rw [this, ← hkeys]
      apply List.ext_getElem?
      intro j
      rw [List.getElem?_map, List.getElem?_map, hget j]
      by_cases hj : j = i
      · subst hj
        rw [if_pos rfl, he0]
        simp [hek]
      · rw [if_neg hj]
    · rw [g3 j] at hy
      rw [List.getElem?_map, hget j] at hu
      by_cases hj : j = i
      · rw [if_pos hj] at hy hu
        cases hy
        simp at hu
        exact .inr ⟨hj, rfl, hu.symm⟩
      · rw [if_neg hj] at hy hu
        exact .inl ⟨hj, hy, by rw [List.getElem?_map]; exact hu⟩
  | none =>
    obtain ⟨_, _, h4, _⟩ := kvIdx_none hi
    rw [hi] at hfind
    simp only [Option.bind_none] at hfind
    refine ⟨es.push ⟨.int .i64 n, x, clock⟩, clock + 1, by simp [Instr.mapUpdate, run_underlying ht, MapKept.run_getObj_map hb, run_checkKey hk (isKey_int n), run_findKey hk hfind, MapKept.run_setObj_map _ hb, Result.andThen], ?_, ?_, kvs.length, fun j y u hy hu => ?_⟩
    · rw [h4, Array.toList_push, List.map_append, List.map_append, hkeys]
      rfl
    · rw [h4, Array.toList_push, List.length_append, List.length_append, hlen]
      rfl
    · rw [h4] at hy
      rw [Array.toList_push, List.map_append] at hu
      have hl3 : (es.toList.map (fun x => x.val)).length = kvs.length := by rw [List.length_map]; exact hlen
      rcases Nat.lt_trichotomy j kvs.length with hj | hj | hj
      · rw [List.getElem?_append_left hj] at hy
        rw [List.getElem?_append_left (by omega)] at hu
        exact .inl ⟨by omega, hy, hu⟩
      · subst hj
        rw [List.getElem?_append_right (Nat.le_refl _), Nat.sub_self] at hy
        rw [List.getElem?_append_right (by omega), hl3, Nat.sub_self] at hu
        simp at hy hu
        exact .inr ⟨rfl, by rw [← hy], hu.symm⟩
      · rw [List.getElem?_append_right (by omega)] at hy
        have : ([(n, mv)] : List (Int × MV))[j - kvs.length]? = none := by
          rw [List.getElem?_eq_none]
          simp; omega
        rw [this] at hy; cases hy

theorem tabW_map {C : Ctx} {J : List Nat} {id b : Nat} {B B' : Blk} {es es' : Array MapEntry} {clock clock' : Nat} (hl : live C.h id B) (hi : C.ι id = some b) (hJ : ∀ j ∈ J, j ≠ id ∧ ∃ b, live C.h j b) (hb : C.w.heap[b]? = some (.map es clock)) (hlk : like B B') :
    TabW C { C.w with heap := C.w.heap.setIfInBounds b (.map es' clock') } J id b B B' ∧ (C.w.heap.setIfInBounds b (.map es' clock'))[b]? = some (.map es' clock') := by
  obtain ⟨h1, h2⟩ := heap_set (o' := Obj.map es' clock') hb
  exact ⟨⟨hl, hi, hJ, rfl, rfl, rfl, by simp, fun k hk => h2 k hk, (fun carr e fr h => by rw [hb] at h; cases h), hlk⟩, h1⟩

theorem mapPutK_sound {C : Ctx} (hok : Ok C) {P : Program} {look : Look} (hl : LookOk C look) {t : TypeId} {m k x v : AV} {us : Ups} {um uk ux : Value}
    (hm : VA C m um) (hk : VA C k uk) (hx : VA C x ux) (h : mapPutK P look t m k x two = some (v, us)) : ∃ w', (Instr.mapUpdate t um uk ux).run P C.w = .ok () w' ∧ Puts C us w' ∧ v = .no := by
  unfold mapPutK at h
  split at h
  · rename_i kt e id n ht
    cases hk
    split at h
    · rename_i hi64
      have hkt := isI64_under hi64
      obtain ⟨hkn, b, rfl, hp⟩ := hm
      split at h
      · rename_i kvs hb
        have hlv := hl _ _ hb
        have hι := hp _ _ hlv
        obtain ⟨b', vals, hi', hnk, ⟨es, clock, hr, hkeys, hvals⟩, hT⟩ := hok.blk id _ hlv
        rw [hι] at hi'; cases hi'
        split at h
        · rename_i p
          obtain ⟨rfl, rfl⟩ := two_inj h
          obtain ⟨es', clock', hrun, hk', hlen, i0, hc⟩ := run_update_kv (n := n) (x := ux) ht hkt hr hkeys (.pv p)
          obtain ⟨B', hB'⟩ : ∃ B', Blk.tab true 0 (kvPut n (.pv p) kvs) = B' := ⟨_, rfl⟩
          obtain ⟨T, hnew⟩ := tabW_map (J := []) (es' := es') (clock' := clock') (B' := B') hlv hι (fun j hj => by cases hj) hr (by rw [← hB']; exact ⟨rfl, fun e => by cases e⟩)
          refine ⟨_, hrun, ?_, rfl⟩
          rw [hB']
          refine ⟨C.tabw _ [] id B', rfl, rfl, T.ext, T.ok hok ?_⟩
          rw [← hB'] at T ⊢
          rw [hvals] at hc
          exact ⟨b, es'.toList.map (fun x => x.val), hι, fun hq => hq.elim hnk (fun hq => by obtain ⟨_, j, hj, _⟩ := hq; cases hj), ⟨es', clock', hnew, hk', rfl⟩,
            tabw_tabV (i0 := i0) (u' := ux) (mv := .pv p) hT T hnk (by rw [List.length_map]; exact hlen.symm) hc (VP.oneCell hx) (T.ext.vp hx) (fun es g e => by cases e)⟩
        · cases h
      · rename_i sz kvs hb
        have hlv := hl _ _ hb
        have hι := hp _ _ hlv
        obtain ⟨b', vals, hi', hnk, ⟨es, clock, hr, hkeys, hvals⟩, hT⟩ := hok.blk id _ hlv
        rw [hι] at hi'; cases hi'
        split at h
        · rename_i j
          split at h
          · rename_i sz' rs hj
            split at h
            · rename_i hsz
              have hszz : sz + 1 = sz' := Nat.eq_of_beq_eq_true hsz
              subst hszz
              obtain ⟨rfl, rfl⟩ := two_inj h
              have hlj := hl _ _ hj
              have hne : j ≠ id := fun e => by subst e; have := live_inj hlv hlj; cases this
              obtain ⟨es', clock', hrun, hk', hlen, i0, hc⟩ := run_update_kv (n := n) (x := ux) ht hkt hr hkeys (.row rs)
              obtain ⟨B', hB'⟩ : ∃ B', Blk.tab true (sz + 1) (kvPut n (.row rs) kvs) = B' := ⟨_, rfl⟩
              obtain ⟨T, hnew⟩ := tabW_map (J := [j]) (es' := es') (clock' := clock') (B' := B') hlv hι (fun j' hj' => by (have e : j' = j := (by simpa using hj')); rw [e]; exact ⟨hne, _, hlj⟩) hr (by rw [← hB']; exact ⟨rfl, fun e => by cases e⟩)
              obtain ⟨r1, r2⟩ := tabw_row hok T hlj hx
              refine ⟨_, hrun, ?_, rfl⟩
              rw [hB']
              refine ⟨C.tabw _ [j] id B', rfl, rfl, T.ext, T.ok hok ?_⟩
              rw [← hB'] at T r1 ⊢
              rw [hvals] at hc
              refine ⟨b, es'.toList.map (fun x => x.val), hι, fun hq => ?_, ⟨es', clock', hnew, hk', rfl⟩,
                tabw_tabV (i0 := i0) (u' := ux) (mv := .row rs) hT T hnk (by rw [List.length_map]; exact hlen.symm) hc (rowR_form r1).2 r1 (fun es g _ hg hκ => ?_)⟩
              · rcases hq with hq | ⟨_, j', hj', hq⟩
                · exact hnk hq
                · obtain rfl : j' = j := by simpa using hj'
                  exact hne (hok.inj j' id b _ _ hlj hlv hq (.inl hι))
              · exact hne (hok.inj j id g _ _ hlj hlv (.inl (r2 g hg)) (.inr hκ))
            · cases h
          · cases h
        · cases h
      · cases h
    · cases h
  · cases h

theorem tabK_sound {C : Ctx} (hok : Ok C) {P : Program} {look : Look} (hl : LookOk C look) {nid : Nat} {o : Oper} (hn : brings o.op = true → nth Ent.fresh C.h nid = .fresh ∧ nid < C.h.length) {ev : Operand → AV} {ρ : Operand → Value}
    (hρ : ∀ x, VA C (ev x) (ρ x)) {v : AV} {us : Ups} (ht : isTab P o.op ev = true) (h : tabK P look nid o.op ev two = some (v, us)) : ∃ u w', Runs P C.w o ρ u w' ∧ Gives C us v u w' := by
  have val : ∀ {s : Sem Value} {u : Value} {w' : World}, execOp ρ o = (do pure (Next.value (← s)) : Sem Next) → s.run P C.w = .ok u w' → Runs P C.w o ρ u w' := fun he hs => .inl (by rw [he]; exact run_val hs)
  obtain ⟨dst, op, ty, pos, after, guard⟩ := o
  simp only at h hn ht
  unfold tabK at h
  split at h
  · rename_i t l c
    obtain ⟨hf, hlt⟩ := hn rfl
    obtain ⟨u, w', h1, h2⟩ := tabMakeK_sound hok hf hlt (hρ l) (hρ c) h
    exact ⟨u, w', val rfl h1, h2⟩
  · obtain ⟨hf, hlt⟩ := hn rfl
    obtain ⟨u, w', h1, h2⟩ := mapMakeK_sound hok hf hlt h
    exact ⟨u, w', val rfl h1, h2⟩
  · rename_i t a
    simp only [isTab, Bool.and_eq_true] at ht
    obtain ⟨hf, hlt⟩ := hn ht.1
    obtain ⟨u, h1, h2⟩ := tabLoadK_sound hok hl hf hlt (hρ a) h
    exact ⟨u, C.w, val rfl h1, h2⟩
  · rename_i t a x
    obtain ⟨w', h1, ⟨C', e1, e2, e3, e4⟩, rfl⟩ := tabStoreK_sound hok hl (hρ a) (hρ x) h
    exact ⟨Go.undef, w', .inr ⟨run_unit h1, rfl⟩, C', e1, e2, e3, e4, rfl⟩
  · rename_i t x i
    obtain ⟨u, h1, rfl, h2⟩ := tabAddrK_sound hl (hρ x) (hρ i) h
    exact ⟨u, C.w, val rfl h1, Gives.same hok h2⟩
  · rename_i args ats
    split at h
    · rename_i x hx
      cases hal : args.toList with
      | nil => rw [hal] at hx; cases hx
      | cons y l => cases l with
        | cons => rw [hal] at hx; cases hx
        | nil =>
          rw [hal] at hx
          simp only [List.map_cons, List.map_nil, List.cons.injEq, and_true] at hx
          have hy := hρ y
          rw [hx] at hy
          obtain ⟨n, cap, a, hu, rfl, rfl, t, e, ts', hts, hte⟩ := tabLenK_sound hl hy h
          have hat : ats = (t :: ts').toArray := by rw [← hts, Array.toArray_toList]
          have haa : args = #[y] := by rw [← Array.toArray_toList (xs := args), hal]
          subst hat haa
          refine ⟨.int .i64 n, C.w, .inl ?_, Gives.same hok (.int _ _)⟩
          simp only [execOp, resolve, invoke, Sem.run_bind, Sem.run_pure, Result.andThen_ok]
          simp [builtin, Builtin.len_, run_underlying hte, goInt, hu]
    · cases h
  · rename_i t m k ok
    obtain ⟨hf, hlt⟩ := hn rfl
    obtain ⟨u, h1, h2⟩ := mapLookK_sound hok hl hf hlt (hρ m) (hρ k) h
    exact ⟨u, C.w, val rfl h1, h2⟩
  · rename_i t m k x
    obtain ⟨w', h1, ⟨C', e1, e2, e3, e4⟩, rfl⟩ := mapPutK_sound hok hl (hρ m) (hρ k) (hρ x) h
    exact ⟨Go.undef, w', .inr ⟨run_unit h1, rfl⟩, C', e1, e2, e3, e4, rfl⟩
  · cases h

theorem plainK_sound {C : Ctx} (hok : Ok C) {P : Program} {look : Look} (hl : LookOk C look) {nid : Nat} {o : Oper} (hn : brings o.op = true → nth Ent.fresh C.h nid = .fresh ∧ nid < C.h.length) {ev : Operand → AV} {ρ : Operand → Value}
    (hρ : ∀ x, VA C (ev x) (ρ x)) (hlit : ∀ y, isNilI y = true → ρ y = .nilIface) {v : AV} {us : Ups} (h : plainK P look nid o.op ev two = some (v, us)) : ∃ u w', Runs P C.w o ρ u w' ∧ Gives C us v u w' := by
  unfold plainK at h
  cases ht : isTab P o.op ev with
  | true => rw [ht] at h; exact tabK_sound hok hl hn hρ ht h
  | false => rw [ht] at h; exact execK_sound hok hl hn hρ hlit h

end Go.Proofs.YtclplmjlolpfbaaGreat.Vm
