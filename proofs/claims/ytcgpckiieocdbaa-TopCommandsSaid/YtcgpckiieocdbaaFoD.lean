import Derived.Test.YtcgpckiieocdbaaVm34
import Derived.Test.YtcgpckiieocdbaaMkC
/- Chapter 33: controllers, plain: what the rounds compute. -/
namespace Go.Proofs.Ytcgpckiieocdbaa.Vm
set_option linter.unusedVariables false
set_option linter.unusedSimpArgs false

structure Ct where
  st : Int
  ep : Int
  hd : Int
  deriving DecidableEq, Inhabited

abbrev gt (l : List Ct) (i : Nat) : Ct := l.getD i default
abbrev rb (R : List (List Bool)) (i k : Nat) : Bool := (R.getD i []).getD k false
def upB (l : List Ct) (i : Nat) : Bool := (gt l i).st != 2
def actB (l : List Ct) (i : Nat) : Bool := (gt l i).st == 1
def hr (l : List Ct) (R : List (List Bool)) (i k : Nat) : Bool := (upB l i && upB l k) && (((i : Int) == k) || (rb R i k || rb R k i))
def hearsL (l : List Ct) (R : List (List Bool)) (i : Nat) : List Nat := (List.range' 0 l.length).filter (hr l R i)
def maj (l : List Ct) (n : Nat) : Bool := decide ((l.length : Int) < 2 * n)
def leadsB (l : List Ct) (R : List (List Bool)) (i : Nat) : Bool := (hearsL l R i).any (actB l)
def great (l : List Ct) (o : Int) (xs : List Nat) : Int := xs.foldl (fun o k => maxI (gt l k).ep o) o
def learnC (l : List Ct) (R : List (List Bool)) (i : Nat) (c : Ct) : Ct := ⟨c.st, great l 0 (hearsL l R i), c.hd⟩
def rival (l : List Ct) (i : Nat) (c : Ct) (k : Nat) : Bool := (decide ((k : Int) < i) && actB l k) && ((gt l k).ep == c.ep)
def yieldB (l : List Ct) (R : List (List Bool)) (b : List Ct) (i : Nat) (c : Ct) : Bool :=
  actB l i && (!maj l (hearsL l R i).length || (decide ((gt b i).ep < c.ep) || (hearsL l R i).any (rival l i c)))
def yieldC (l : List Ct) (R : List (List Bool)) (b : List Ct) (i : Nat) (c : Ct) : Ct := if yieldB l R b i c = true then ⟨0, c.ep, c.hd⟩ else c
def listenC (l : List Ct) (R : List (List Bool)) (t : Int) (i : Nat) (c : Ct) : Ct := if leadsB l R i = true then ⟨c.st, c.ep, t⟩ else c
def eachC (l : List Ct) (f : Nat → Ct → Ct) (i : Nat) : Ct := if upB l i = true then f i (gt l i) else gt l i
def eachL (l : List Ct) (f : Nat → Ct → Ct) : List Ct := (List.range' 0 l.length).map (eachC l f)
def candB (l : List Ct) (R : List (List Bool)) (t d : Int) (i : Nat) : Bool :=
  (((gt l i).st == 0 && maj l (hearsL l R i).length) && !leadsB l R i) && decide (d ≤ t - (gt l i).hd)
def candL (l : List Ct) (R : List (List Bool)) (t d : Int) : List Nat := (List.range' 0 l.length).filter (candB l R t d)
def votes (l : List Ct) (R : List (List Bool)) (all : List Nat) (i : Nat) : Option Nat :=
  if leadsB l R i = true then none else all.find? fun c => (hearsL l R i).contains c
def votesL (l : List Ct) (R : List (List Bool)) (all : List Nat) (m : Nat) (c : Nat) : List Nat := (List.range' 0 m).filter fun i => votes l R all i == some c
def setEp (e : Int) (o : List Ct) (i : Nat) : List Ct := o.set i ⟨(gt o i).st, e, (gt o i).hd⟩
def crown (t : Int) (o : List Ct) (c : Nat) : List Ct := o.set c ⟨1, (gt o c).ep, t⟩
def elect (l : List Ct) (t : Int) (V : Nat → List Nat) : List Nat → List Ct → Option (List Ct)
  | [], out => some out
  | c :: cs, out =>
    if maj l (V c).length = true then
      if 2147483648 < 1 + great l 0 (V c ++ [c]) then none
      else elect l t V cs (crown t ((V c ++ [c]).foldl (setEp (1 + great l 0 (V c ++ [c]))) out) c)
    else elect l t V cs out

def t1 (l : List Ct) (R : List (List Bool)) : List Ct := eachL l (learnC l R)
def t2 (l : List Ct) (R : List (List Bool)) : List Ct := eachL (t1 l R) (yieldC (t1 l R) R l)
def t3 (l : List Ct) (R : List (List Bool)) (t : Int) : List Ct := eachL (t2 l R) (listenC (t2 l R) R t)
def tickM (l : List Ct) (R : List (List Bool)) (t d : Int) : Option (List Ct) :=
  elect (t3 l R t) t (votesL (t3 l R t) R (candL (t3 l R t) R t d) l.length) (candL (t3 l R t) R t d) (t3 l R t)

/-- What the rounds ask for. -/
structure Sq (l : List Ct) (R : List (List Bool)) : Prop where
  n1 : 1 ≤ l.length
  n5 : l.length ≤ 5
  r : R.length = l.length
  c : ∀ i, i < l.length → (R.getD i []).length = l.length

theorem eachL_length (l : List Ct) (f) : (eachL l f).length = l.length := by simp [eachL]
theorem gt_each {l : List Ct} {f} {i : Nat} (h : i < l.length) : gt (eachL l f) i = eachC l f i := by
  simp [gt, eachL, List.getD, h]
theorem Sq.each {l : List Ct} {R} (h : Sq l R) (f) : Sq (eachL l f) R := ⟨by rw [eachL_length]; exact h.n1, by rw [eachL_length]; exact h.n5, by rw [eachL_length]; exact h.r, by rw [eachL_length]; exact h.c⟩

end Go.Proofs.Ytcgpckiieocdbaa.Vm

/- Chapter 33: contracts of the parts of a round. -/
namespace Go.Proofs.Ytcgpckiieocdbaa.Vm
set_option linter.unusedVariables false
set_option linter.unusedSimpArgs false

abbrev ctr (c : Ct) : List PV := [PV.int .i64 c.st, PV.int .i64 c.ep, PV.int .i64 c.hd]
def ctrs (l : List Ct) : List (List PV) := l.map ctr
abbrev brow (r : List Bool) : List (List PV) := r.map fun b => [PV.bool b]
def rch (R : List (List Bool)) : List (List PV) := R.map fun r => [PV.sl 1 (brow r)]
def ns (l : List Nat) : List (List PV) := l.map fun (k : Nat) => [PV.int .i64 (k : Int)]
theorem ctrs_length (l : List Ct) : (ctrs l).length = l.length := by simp [ctrs]
theorem rch_length (l : List (List Bool)) : (rch l).length = l.length := by simp [rch]
theorem ns_length (l : List Nat) : (ns l).length = l.length := by simp [ns]
theorem ns_app (a b : List Nat) : ns a ++ ns b = ns (a ++ b) := by simp [ns]

theorem getE_map {α β : Type} (f : β → List PV) (d : β) {L : List β} {i : Nat} (hi : i < L.length) (K : List PV → Option α) : getE (L.map f) (i : Int) K = K (f (L.getD i d)) := by
  unfold getE
  have h1 : leB 0 (i : Int) = true := by simp
  have h2 : ltB (i : Int) ((L.map f).length : Int) = true := by simp; omega
  rw [h1, h2, nth_eq, Bool.and_self, ctl_true]
  simp [List.getD, hi]
theorem getE_ctrs {α : Type} {L : List Ct} {i : Nat} (hi : i < L.length) (K : List PV → Option α) : getE (ctrs L) (i : Int) K = K (ctr (gt L i)) := getE_map ctr default hi K
theorem getE_rch {α : Type} {L : List (List Bool)} {i : Nat} (hi : i < L.length) (K : List PV → Option α) : getE (rch L) (i : Int) K = K [PV.sl 1 (brow (L.getD i []))] := getE_map (fun r => [PV.sl 1 (brow r)]) [] hi K
theorem getE_brow {α : Type} {L : List Bool} {i : Nat} (hi : i < L.length) (K : List PV → Option α) : getE (brow L) (i : Int) K = K [PV.bool (L.getD i false)] := getE_map (fun b => [PV.bool b]) false hi K
theorem getE_ns {α : Type} {L : List Nat} {i : Nat} (hi : i < L.length) (K : List PV → Option α) : getE (ns L) (i : Int) K = K [PV.int .i64 (L.getD i 0 : Nat)] := getE_map (fun (k : Nat) => [PV.int .i64 (k : Int)]) 0 hi K
theorem in_len {n i : Nat} (h : i < n) : (leB 0 (i : Int) && ltB (i : Int) (n : Int)) = true := by simp; omega
theorem eqAV_self (w : AV) : eqAV w w = true := by simp [eqAV]
theorem nc0 : ((0 : Nat) : Int) = 0 := rfl
theorem succ_cast (i : Nat) : (i : Int) + 1 = ((i + 1 : Nat) : Int) := by omega

theorem setEs_0 {L : List Ct} {i : Nat} (h : i < L.length) (a b c : Int) : setEs (ctrs L) i 0 [PV.int .i64 a, PV.int .i64 b, PV.int .i64 c] = ctrs (L.set i ⟨a, b, c⟩) := by
  unfold setEs
  rw [upd_eq]
  have h1 : lay (nth [] (ctrs L) i) 0 [PV.int .i64 a, PV.int .i64 b, PV.int .i64 c] = ctr ⟨a, b, c⟩ := by
    rw [nth_eq]
    simp [ctrs, List.getD, h, lay, lay.go, ctr]
  rw [h1]
  simp [ctrs, List.map_set]
theorem setEs_st {L : List Ct} {i : Nat} (h : i < L.length) (a : Int) : setEs (ctrs L) i 0 [PV.int .i64 a] = ctrs (L.set i ⟨a, (gt L i).ep, (gt L i).hd⟩) := by
  unfold setEs
  rw [upd_eq]
  have h1 : lay (nth [] (ctrs L) i) 0 [PV.int .i64 a] = ctr ⟨a, (gt L i).ep, (gt L i).hd⟩ := by
    rw [nth_eq]
    simp [ctrs, List.getD, h, lay, lay.go, ctr, gt]
  rw [h1]
  simp [ctrs, List.map_set]
theorem setEs_ep {L : List Ct} {i : Nat} (h : i < L.length) (a : Int) : setEs (ctrs L) i 1 [PV.int .i64 a] = ctrs (L.set i ⟨(gt L i).st, a, (gt L i).hd⟩) := by
  unfold setEs
  rw [upd_eq]
  have h1 : lay (nth [] (ctrs L) i) 1 [PV.int .i64 a] = ctr ⟨(gt L i).st, a, (gt L i).hd⟩ := by
    rw [nth_eq]
    simp [ctrs, List.getD, h, lay, lay.go, ctr, gt]
  rw [h1]
  simp [ctrs, List.map_set]
theorem setEs_hd {L : List Ct} {i : Nat} (h : i < L.length) (a : Int) : setEs (ctrs L) i 2 [PV.int .i64 a] = ctrs (L.set i ⟨(gt L i).st, (gt L i).ep, a⟩) := by
  unfold setEs
  rw [upd_eq]
  have h1 : lay (nth [] (ctrs L) i) 2 [PV.int .i64 a] = ctr ⟨(gt L i).st, (gt L i).ep, a⟩ := by
    rw [nth_eq]
    simp [ctrs, List.getD, h, lay, lay.go, ctr, gt]
  rw [h1]
  simp [ctrs, List.map_set]

/-! ### Parties -/
abbrev pty (l : List Ct) (R : List (List Bool)) : AV := AV.agg [PV.sl 3 (ctrs l), PV.sl 1 (rch R)]
abbrev bpt (l : List Ct) (R : List (List Bool)) : Blk := Blk.box [AV.sl 3 (ctrs l), AV.sl 1 (rch R)]
abbrev ctA (c : Ct) : AV := AV.agg [PV.int .i64 c.st, PV.int .i64 c.ep, PV.int .i64 c.hd]

theorem c_up {l : List Ct} {R : List (List Bool)} {i : Nat} (hi : i < l.length) : denC E 31 [pty l R, AV.int .i64 (i : Int)] [] = some ([RV.p (PV.bool (upB l i))], []) := by
  rw [denC_eq, r31, getE_ctrs hi]
  simp only [bnd_some, ctl_true, ctl_false, ctl_and, ctl_or', ctl_or2, x_toPV, x_toCs, x_toCs2, x_toEs, x_bEs, x_bCs, x_aPV, x_aCs, x_int, x_bool, x_str, x_es, x_esn, nth_0, nth_1, nth_2, nth_3, nth_4, nth_5, nth_6, nth_7, nth_8, nth_9, y_nil, y_int, y_bool, y_str, y_sl, y_nils, y_agg, y_ownp, y_own, z_nil, z_int, z_bool, z_str, z_sl, z_nils, b_nil, b_arr, b_box1, b_box2, b_box3, b_box4, List.map_cons, List.map_nil, Bool.and_self, Bool.and_true, Bool.true_and, Bool.not_true, Bool.not_false, Bool.or_false, Bool.false_or, cond_true, cond_false, okPack, okPut, okPutBlks, okPutCells, q_isP, q_isAg, q_isBox, q_isArr, q_int, q_bool, q_str, q_sl, q_nils, e_exit, e_ret, e_nrm, e_ret_exit, e_exit_ret, e_nrm_exit, e_nrm_ret, e_exit_nrm, e_ret_nrm, Nat.zero_add, Nat.reduceAdd, noslR, noslP, noslB, noslA, List.all_cons, List.all_nil]
  rfl
theorem c_act {l : List Ct} {R : List (List Bool)} {i : Nat} (hi : i < l.length) : denC E 36 [pty l R, AV.int .i64 (i : Int)] [] = some ([RV.p (PV.bool (actB l i))], []) := by
  rw [denC_eq, r36, getE_ctrs hi]
  simp only [bnd_some, ctl_true, ctl_false, ctl_and, ctl_or', ctl_or2, x_toPV, x_toCs, x_toCs2, x_toEs, x_bEs, x_bCs, x_aPV, x_aCs, x_int, x_bool, x_str, x_es, x_esn, nth_0, nth_1, nth_2, nth_3, nth_4, nth_5, nth_6, nth_7, nth_8, nth_9, y_nil, y_int, y_bool, y_str, y_sl, y_nils, y_agg, y_ownp, y_own, z_nil, z_int, z_bool, z_str, z_sl, z_nils, b_nil, b_arr, b_box1, b_box2, b_box3, b_box4, List.map_cons, List.map_nil, Bool.and_self, Bool.and_true, Bool.true_and, Bool.not_true, Bool.not_false, Bool.or_false, Bool.false_or, cond_true, cond_false, okPack, okPut, okPutBlks, okPutCells, q_isP, q_isAg, q_isBox, q_isArr, q_int, q_bool, q_str, q_sl, q_nils, e_exit, e_ret, e_nrm, e_ret_exit, e_exit_ret, e_nrm_exit, e_nrm_ret, e_exit_nrm, e_ret_nrm, Nat.zero_add, Nat.reduceAdd, noslR, noslP, noslB, noslA, List.all_cons, List.all_nil]
  rfl
theorem c_maj {l : List Ct} {R : List (List Bool)} {n : Nat} (hn : n ≤ 1000) : denC E 37 [pty l R, AV.int .i64 (n : Int)] [] = some ([RV.p (PV.bool (maj l n))], []) := by
  rw [denC_eq, r37, w64 (by omega), ctrs_length]
  rfl

theorem hears_loop {l : List Ct} {R : List (List Bool)} (hS : Sq l R) {i : Nat} (hi : i < l.length) : ∀ (m k : Nat) (acc : List Nat), k + m = l.length → acc.length ≤ k →
    lp E (denC E) 33 0 [] 0 { vals := [AV.int .i64 i, AV.int .i64 l.length, AV.int .i64 k], blks := [bpt l R, Blk.arr 1 (ns acc)] } =
      some (Ex.exit 0, { vals := [], blks := [Blk.arr 1 (ns (acc ++ (List.range' k m).filter (hr l R i)))] }) := by
  have h5 := hS.n5
  intro m
  induction m with
  | zero =>
    intro k acc hk ha
    rw [r33_0, ctl_dec, if_neg (by omega)]
    simp
  | succ m ih =>
    intro k acc hk ha
    have hkl : k < l.length := by omega
    have hl : leN (((ns acc).length + 1) * 8) 140737488355328 = true := by rw [ns_length]; simp only [decide_eq_true_eq]; omega
    rw [r33_0, ctl_dec, if_pos (by omega), c_up hi, w64 (n := (k : Int) + 1) (by omega), succ_cast]
    rw [getE_rch (by rw [hS.r]; exact hi), getE_rch (by rw [hS.r]; exact hkl)]
    simp only [c_up hkl, bnd_some, ctl_true, ctl_false, ctl_and, ctl_or', ctl_or2, x_toPV, x_toCs, x_toCs2, x_toEs, x_bEs, x_bCs, x_aPV, x_aCs, x_int, x_bool, x_str, x_es, x_esn, nth_0, nth_1, nth_2, nth_3, nth_4, nth_5, nth_6, nth_7, nth_8, nth_9, y_nil, y_int, y_bool, y_str, y_sl, y_nils, y_agg, y_ownp, y_own, z_nil, z_int, z_bool, z_str, z_sl, z_nils, b_nil, b_arr, b_box1, b_box2, b_box3, b_box4, List.map_cons, List.map_nil, Bool.and_self, Bool.and_true, Bool.true_and, Bool.not_true, Bool.not_false, Bool.or_false, Bool.false_or, cond_true, cond_false, okPack, okPut, okPutBlks, okPutCells, q_isP, q_isAg, q_isBox, q_isArr, q_int, q_bool, q_str, q_sl, q_nils, e_exit, e_ret, e_nrm, e_ret_exit, e_exit_ret, e_nrm_exit, e_nrm_ret, e_exit_nrm, e_ret_nrm, Nat.zero_add, Nat.reduceAdd, noslR, noslP, noslB, noslA, List.all_cons, List.all_nil, getE_brow (L := R.getD i []) (i := k) (by rw [hS.c i hi]; exact hkl), getE_brow (L := R.getD k []) (i := i) (by rw [hS.c k hkl]; exact hi), ctl_and, ctl_or', hl]
    have e : (((upB l i && upB l k) && (((i : Int) == k) || (rb R i k || rb R k i)))) = hr l R i k := rfl
    rw [e, List.range'_succ, List.filter_cons]
    cases hh : hr l R i k with
    | true =>
      have en : ns acc ++ [[PV.int IntKind.i64 (k : Int)]] = ns (acc ++ [k]) := by simp [ns]
      rw [ctl_true, en, ih (k + 1) (acc ++ [k]) (by omega) (by simp; omega)]
      simp
    | false =>
      rw [ctl_false, ih (k + 1) acc (by omega) (by omega)]
      simp

theorem c_hears {l : List Ct} {R : List (List Bool)} (hS : Sq l R) {i : Nat} (hi : i < l.length) : denC E 33 [pty l R, AV.int .i64 (i : Int)] [] = some ([RV.p (PV.sl 1 (ns (hearsL l R i)))], []) := by
  have h := hears_loop hS hi l.length 0 [] (by omega) (by simp)
  rw [denC_eq, r33, ctrs_length]
  have e0 : ns [] = [] := rfl
  rw [e0, nc0] at h
  rw [h]
  simp only [bnd_some, ctl_true, ctl_false, ctl_and, ctl_or', ctl_or2, x_toPV, x_toCs, x_toCs2, x_toEs, x_bEs, x_bCs, x_aPV, x_aCs, x_int, x_bool, x_str, x_es, x_esn, nth_0, nth_1, nth_2, nth_3, nth_4, nth_5, nth_6, nth_7, nth_8, nth_9, y_nil, y_int, y_bool, y_str, y_sl, y_nils, y_agg, y_ownp, y_own, z_nil, z_int, z_bool, z_str, z_sl, z_nils, b_nil, b_arr, b_box1, b_box2, b_box3, b_box4, List.map_cons, List.map_nil, Bool.and_self, Bool.and_true, Bool.true_and, Bool.not_true, Bool.not_false, Bool.or_false, Bool.false_or, cond_true, cond_false, okPack, okPut, okPutBlks, okPutCells, q_isP, q_isAg, q_isBox, q_isArr, q_int, q_bool, q_str, q_sl, q_nils, e_exit, e_ret, e_nrm, e_ret_exit, e_exit_ret, e_nrm_exit, e_nrm_ret, e_exit_nrm, e_ret_nrm, Nat.zero_add, Nat.reduceAdd, noslR, noslP, noslB, noslA, List.all_cons, List.all_nil, List.nil_append]
  rfl

theorem hears_lt {l : List Ct} {R : List (List Bool)} {i k : Nat} (h : k ∈ hearsL l R i) : k < l.length := by
  have := (List.mem_filter.1 h).1
  simp at this
  exact this
theorem hears_len {l : List Ct} {R : List (List Bool)} (i : Nat) : (hearsL l R i).length ≤ l.length := by
  have := List.length_filter_le (hr l R i) (List.range' 0 l.length)
  simpa [hearsL] using this

end Go.Proofs.Ytcgpckiieocdbaa.Vm

/- Chapter 33: contracts: who hears whom, who leads, who yields. -/
namespace Go.Proofs.Ytcgpckiieocdbaa.Vm
set_option linter.unusedVariables false
set_option linter.unusedSimpArgs false

theorem great_loop {l : List Ct} {R : List (List Bool)} (h5 : l.length ≤ 5) : ∀ (xs pre : List Nat) (o : Int), pre.length + xs.length ≤ 1000 → (∀ x ∈ xs, x < l.length) →
    lp E (denC E) 32 0 [] 0 { vals := [AV.int .i64 o, AV.sl 1 (ns (pre ++ xs)), AV.int .i64 (pre ++ xs).length, AV.int .i64 pre.length], blks := [bpt l R] } =
      some (Ex.exit 0, { vals := [AV.int .i64 (great l o xs)], blks := [] }) := by
  intro xs
  induction xs with
  | nil =>
    intro pre o hp hx
    rw [r32_0, ctl_dec, if_neg (by simp)]
    rfl
  | cons x xs ih =>
    intro pre o hp hx
    have hxl := hx x (by simp)
    have hg : (pre ++ x :: xs).getD pre.length 0 = x := by simp [List.getD]
    simp only [List.length_cons] at hp
    rw [r32_0, ctl_dec, if_pos (by simp; omega), getE_ns (by simp), hg]
    simp only [bnd_some, ctl_true, ctl_false, ctl_and, ctl_or', ctl_or2, x_toPV, x_toCs, x_toCs2, x_toEs, x_bEs, x_bCs, x_aPV, x_aCs, x_int, x_bool, x_str, x_es, x_esn, nth_0, nth_1, nth_2, nth_3, nth_4, nth_5, nth_6, nth_7, nth_8, nth_9, y_nil, y_int, y_bool, y_str, y_sl, y_nils, y_agg, y_ownp, y_own, z_nil, z_int, z_bool, z_str, z_sl, z_nils, b_nil, b_arr, b_box1, b_box2, b_box3, b_box4, List.map_cons, List.map_nil, Bool.and_self, Bool.and_true, Bool.true_and, Bool.not_true, Bool.not_false, Bool.or_false, Bool.false_or, cond_true, cond_false, okPack, okPut, okPutBlks, okPutCells, q_isP, q_isAg, q_isBox, q_isArr, q_int, q_bool, q_str, q_sl, q_nils, e_exit, e_ret, e_nrm, e_ret_exit, e_exit_ret, e_nrm_exit, e_nrm_ret, e_exit_nrm, e_ret_nrm, Nat.zero_add, Nat.reduceAdd, noslR, noslP, noslB, noslA, List.all_cons, List.all_nil]
    rw [getE_ctrs hxl, w64 (n := (pre.length : Int) + 1) (by omega)]
    simp only [bnd_some, ctl_true, ctl_false, ctl_and, ctl_or', ctl_or2, x_toPV, x_toCs, x_toCs2, x_toEs, x_bEs, x_bCs, x_aPV, x_aCs, x_int, x_bool, x_str, x_es, x_esn, nth_0, nth_1, nth_2, nth_3, nth_4, nth_5, nth_6, nth_7, nth_8, nth_9, y_nil, y_int, y_bool, y_str, y_sl, y_nils, y_agg, y_ownp, y_own, z_nil, z_int, z_bool, z_str, z_sl, z_nils, b_nil, b_arr, b_box1, b_box2, b_box3, b_box4, List.map_cons, List.map_nil, Bool.and_self, Bool.and_true, Bool.true_and, Bool.not_true, Bool.not_false, Bool.or_false, Bool.false_or, cond_true, cond_false, okPack, okPut, okPutBlks, okPutCells, q_isP, q_isAg, q_isBox, q_isArr, q_int, q_bool, q_str, q_sl, q_nils, e_exit, e_ret, e_nrm, e_ret_exit, e_exit_ret, e_nrm_exit, e_nrm_ret, e_exit_nrm, e_ret_nrm, Nat.zero_add, Nat.reduceAdd, noslR, noslP, noslB, noslA, List.all_cons, List.all_nil]
    have e1 : (pre.length : Int) + 1 = ((pre ++ [x]).length : Int) := by simp
    have e2 : pre ++ x :: xs = (pre ++ [x]) ++ xs := by simp
    rw [e1, e2, ih (pre ++ [x]) _ (by simp; omega) fun y hy => hx y (by simp [hy])]
    rfl

theorem c_great {l : List Ct} {R : List (List Bool)} (h5 : l.length ≤ 5) (xs : List Nat) (hn : xs.length ≤ 1000) (hx : ∀ x ∈ xs, x < l.length) : denC E 32 [pty l R, AV.sl 1 (ns xs)] [] = some ([RV.p (PV.int .i64 (great l 0 xs))], []) := by
  have h := great_loop (R := R) h5 xs [] 0 (by simpa using hn) hx
  rw [List.nil_append, List.length_nil, nc0] at h
  rw [denC_eq, r32, ns_length, h]
  simp only [bnd_some, ctl_true, ctl_false, ctl_and, ctl_or', ctl_or2, x_toPV, x_toCs, x_toCs2, x_toEs, x_bEs, x_bCs, x_aPV, x_aCs, x_int, x_bool, x_str, x_es, x_esn, nth_0, nth_1, nth_2, nth_3, nth_4, nth_5, nth_6, nth_7, nth_8, nth_9, y_nil, y_int, y_bool, y_str, y_sl, y_nils, y_agg, y_ownp, y_own, z_nil, z_int, z_bool, z_str, z_sl, z_nils, b_nil, b_arr, b_box1, b_box2, b_box3, b_box4, List.map_cons, List.map_nil, Bool.and_self, Bool.and_true, Bool.true_and, Bool.not_true, Bool.not_false, Bool.or_false, Bool.false_or, cond_true, cond_false, okPack, okPut, okPutBlks, okPutCells, q_isP, q_isAg, q_isBox, q_isArr, q_int, q_bool, q_str, q_sl, q_nils, e_exit, e_ret, e_nrm, e_ret_exit, e_exit_ret, e_nrm_exit, e_nrm_ret, e_exit_nrm, e_ret_nrm, Nat.zero_add, Nat.reduceAdd, noslR, noslP, noslB, noslA, List.all_cons, List.all_nil]

/-- The first place, from k on, of an element with p; -1 if there is none. -/
def fidx (p : Nat → Bool) : List Nat → Nat → Int
  | [], _ => -1
  | x :: l, k => if p x = true then (k : Int) else fidx p l (k + 1)
theorem fidx_any (p : Nat → Bool) : ∀ (l : List Nat) (k : Nat), leB 0 (fidx p l k) = l.any p
  | [], k => rfl
  | x :: l, k => by
    unfold fidx
    cases h : p x with
    | true => rw [if_pos rfl, List.any_cons, h]; simp
    | false => rw [if_neg (by simp), fidx_any p l (k + 1), List.any_cons, h, Bool.false_or]

theorem any_loop {l : List Ct} {R : List (List Bool)} : ∀ (xs pre : List Nat), pre.length + xs.length ≤ 1000 → (∀ x ∈ xs, x < l.length) →
    lp E (denC E) 42 0 [AV.undef, AV.bnd 36 [PV.sl 3 (ctrs l), PV.sl 1 (rch R)]] 0 { vals := [AV.sl 1 (ns (pre ++ xs)), AV.int .i64 (pre ++ xs).length, AV.int .i64 pre.length], blks := [] } =
      some (if xs.any (actB l) = true then (Ex.ret, { vals := [AV.int .i64 (fidx (actB l) xs pre.length)], blks := [] }) else (Ex.exit 0, { vals := [], blks := [] })) := by
  intro xs
  induction xs with
  | nil =>
    intro pre hp hx
    rw [r42_0a, ctl_dec, if_neg (by simp)]
    rfl
  | cons x xs ih =>
    intro pre hp hx
    have hxl := hx x (by simp)
    have hg : (pre ++ x :: xs).getD pre.length 0 = x := by simp [List.getD]
    simp only [List.length_cons] at hp
    rw [r42_0a, ctl_dec, if_pos (by simp; omega), getE_ns (by simp), hg]
    simp only [bnd_some, ctl_true, ctl_false, ctl_and, ctl_or', ctl_or2, x_toPV, x_toCs, x_toCs2, x_toEs, x_bEs, x_bCs, x_aPV, x_aCs, x_int, x_bool, x_str, x_es, x_esn, nth_0, nth_1, nth_2, nth_3, nth_4, nth_5, nth_6, nth_7, nth_8, nth_9, y_nil, y_int, y_bool, y_str, y_sl, y_nils, y_agg, y_ownp, y_own, z_nil, z_int, z_bool, z_str, z_sl, z_nils, b_nil, b_arr, b_box1, b_box2, b_box3, b_box4, List.map_cons, List.map_nil, Bool.and_self, Bool.and_true, Bool.true_and, Bool.not_true, Bool.not_false, Bool.or_false, Bool.false_or, cond_true, cond_false, okPack, okPut, okPutBlks, okPutCells, q_isP, q_isAg, q_isBox, q_isArr, q_int, q_bool, q_str, q_sl, q_nils, e_exit, e_ret, e_nrm, e_ret_exit, e_exit_ret, e_nrm_exit, e_nrm_ret, e_exit_nrm, e_ret_nrm, Nat.zero_add, Nat.reduceAdd, noslR, noslP, noslB, noslA, List.all_cons, List.all_nil]
    rw [c_act hxl, w64 (n := (pre.length : Int) + 1) (by omega), eqAV_self]
    simp only [bnd_some, ctl_true, ctl_false, ctl_and, ctl_or', ctl_or2, x_toPV, x_toCs, x_toCs2, x_toEs, x_bEs, x_bCs, x_aPV, x_aCs, x_int, x_bool, x_str, x_es, x_esn, nth_0, nth_1, nth_2, nth_3, nth_4, nth_5, nth_6, nth_7, nth_8, nth_9, y_nil, y_int, y_bool, y_str, y_sl, y_nils, y_agg, y_ownp, y_own, z_nil, z_int, z_bool, z_str, z_sl, z_nils, b_nil, b_arr, b_box1, b_box2, b_box3, b_box4, List.map_cons, List.map_nil, Bool.and_self, Bool.and_true, Bool.true_and, Bool.not_true, Bool.not_false, Bool.or_false, Bool.false_or, cond_true, cond_false, okPack, okPut, okPutBlks, okPutCells, q_isP, q_isAg, q_isBox, q_isArr, q_int, q_bool, q_str, q_sl, q_nils, e_exit, e_ret, e_nrm, e_ret_exit, e_exit_ret, e_nrm_exit, e_nrm_ret, e_exit_nrm, e_ret_nrm, Nat.zero_add, Nat.reduceAdd, noslR, noslP, noslB, noslA, List.all_cons, List.all_nil]
    rw [List.any_cons]
    unfold fidx
    cases hb : actB l x with
    | true => rfl
    | false =>
      have e1 : (pre.length : Int) + 1 = ((pre ++ [x]).length : Int) := by simp
      have e2 : pre ++ x :: xs = (pre ++ [x]) ++ xs := by simp
      have e3 : pre.length + 1 = (pre ++ [x]).length := by simp
      rw [ctl_false, e1, e2, ih (pre ++ [x]) (by simp; omega) fun y hy => hx y (by simp [hy])]
      simp

theorem c_any {l : List Ct} {R : List (List Bool)} (xs : List Nat) (hn : xs.length ≤ 1000) (hx : ∀ x ∈ xs, x < l.length) :
    denC E 38 [AV.sl 1 (ns xs), AV.bnd 36 [PV.sl 3 (ctrs l), PV.sl 1 (rch R)]] [] = some ([RV.p (PV.bool (xs.any (actB l)))], []) := by
  have h := any_loop (R := R) xs [] (by simpa using hn) hx
  rw [List.nil_append, List.length_nil, nc0] at h
  have h2 : denC E 42 [AV.sl 1 (ns xs), AV.bnd 36 [PV.sl 3 (ctrs l), PV.sl 1 (rch R)]] [] = some ([RV.p (PV.int .i64 (fidx (actB l) xs 0))], []) := by
    rw [denC_eq, r42a, ns_length, h, eqAV_self]
    simp only [bnd_some, ctl_true, ctl_false, ctl_and, ctl_or', ctl_or2, x_toPV, x_toCs, x_toCs2, x_toEs, x_bEs, x_bCs, x_aPV, x_aCs, x_int, x_bool, x_str, x_es, x_esn, nth_0, nth_1, nth_2, nth_3, nth_4, nth_5, nth_6, nth_7, nth_8, nth_9, y_nil, y_int, y_bool, y_str, y_sl, y_nils, y_agg, y_ownp, y_own, z_nil, z_int, z_bool, z_str, z_sl, z_nils, b_nil, b_arr, b_box1, b_box2, b_box3, b_box4, List.map_cons, List.map_nil, Bool.and_self, Bool.and_true, Bool.true_and, Bool.not_true, Bool.not_false, Bool.or_false, Bool.false_or, cond_true, cond_false, okPack, okPut, okPutBlks, okPutCells, q_isP, q_isAg, q_isBox, q_isArr, q_int, q_bool, q_str, q_sl, q_nils, e_exit, e_ret, e_nrm, e_ret_exit, e_exit_ret, e_nrm_exit, e_nrm_ret, e_exit_nrm, e_ret_nrm, Nat.zero_add, Nat.reduceAdd, noslR, noslP, noslB, noslA, List.all_cons, List.all_nil]
    have hf := fidx_any (actB l) xs 0
    by_cases ha : xs.any (actB l) = true
    · rw [if_pos ha]
      simp only [bnd_some, ctl_true, ctl_false, ctl_and, ctl_or', ctl_or2, x_toPV, x_toCs, x_toCs2, x_toEs, x_bEs, x_bCs, x_aPV, x_aCs, x_int, x_bool, x_str, x_es, x_esn, nth_0, nth_1, nth_2, nth_3, nth_4, nth_5, nth_6, nth_7, nth_8, nth_9, y_nil, y_int, y_bool, y_str, y_sl, y_nils, y_agg, y_ownp, y_own, z_nil, z_int, z_bool, z_str, z_sl, z_nils, b_nil, b_arr, b_box1, b_box2, b_box3, b_box4, List.map_cons, List.map_nil, Bool.and_self, Bool.and_true, Bool.true_and, Bool.not_true, Bool.not_false, Bool.or_false, Bool.false_or, cond_true, cond_false, okPack, okPut, okPutBlks, okPutCells, q_isP, q_isAg, q_isBox, q_isArr, q_int, q_bool, q_str, q_sl, q_nils, e_exit, e_ret, e_nrm, e_ret_exit, e_exit_ret, e_nrm_exit, e_nrm_ret, e_exit_nrm, e_ret_nrm, Nat.zero_add, Nat.reduceAdd, noslR, noslP, noslB, noslA, List.all_cons, List.all_nil]
    · rw [if_neg ha]
      simp only [bnd_some, ctl_true, ctl_false, ctl_and, ctl_or', ctl_or2, x_toPV, x_toCs, x_toCs2, x_toEs, x_bEs, x_bCs, x_aPV, x_aCs, x_int, x_bool, x_str, x_es, x_esn, nth_0, nth_1, nth_2, nth_3, nth_4, nth_5, nth_6, nth_7, nth_8, nth_9, y_nil, y_int, y_bool, y_str, y_sl, y_nils, y_agg, y_ownp, y_own, z_nil, z_int, z_bool, z_str, z_sl, z_nils, b_nil, b_arr, b_box1, b_box2, b_box3, b_box4, List.map_cons, List.map_nil, Bool.and_self, Bool.and_true, Bool.true_and, Bool.not_true, Bool.not_false, Bool.or_false, Bool.false_or, cond_true, cond_false, okPack, okPut, okPutBlks, okPutCells, q_isP, q_isAg, q_isBox, q_isArr, q_int, q_bool, q_str, q_sl, q_nils, e_exit, e_ret, e_nrm, e_ret_exit, e_exit_ret, e_nrm_exit, e_nrm_ret, e_exit_nrm, e_ret_nrm, Nat.zero_add, Nat.reduceAdd, noslR, noslP, noslB, noslA, List.all_cons, List.all_nil]
      have : fidx (actB l) xs 0 = -1 := by
        have hn : ∀ (xs : List Nat) (k : Nat), ¬ xs.any (actB l) = true → fidx (actB l) xs k = -1 := by
          intro xs
          induction xs with
          | nil => intro k _; rfl
          | cons x xs ih =>
            intro k hk
            rw [List.any_cons, Bool.or_eq_true, not_or] at hk
            unfold fidx
            rw [if_neg hk.1, ih _ hk.2]
        exact hn xs 0 ha
      rw [this]
  rw [denC_eq, r38a, h2]
  simp only [bnd_some, ctl_true, ctl_false, ctl_and, ctl_or', ctl_or2, x_toPV, x_toCs, x_toCs2, x_toEs, x_bEs, x_bCs, x_aPV, x_aCs, x_int, x_bool, x_str, x_es, x_esn, nth_0, nth_1, nth_2, nth_3, nth_4, nth_5, nth_6, nth_7, nth_8, nth_9, y_nil, y_int, y_bool, y_str, y_sl, y_nils, y_agg, y_ownp, y_own, z_nil, z_int, z_bool, z_str, z_sl, z_nils, b_nil, b_arr, b_box1, b_box2, b_box3, b_box4, List.map_cons, List.map_nil, Bool.and_self, Bool.and_true, Bool.true_and, Bool.not_true, Bool.not_false, Bool.or_false, Bool.false_or, cond_true, cond_false, okPack, okPut, okPutBlks, okPutCells, q_isP, q_isAg, q_isBox, q_isArr, q_int, q_bool, q_str, q_sl, q_nils, e_exit, e_ret, e_nrm, e_ret_exit, e_exit_ret, e_nrm_exit, e_nrm_ret, e_exit_nrm, e_ret_nrm, Nat.zero_add, Nat.reduceAdd, noslR, noslP, noslB, noslA, List.all_cons, List.all_nil]
  rw [fidx_any]

theorem c_leads {l : List Ct} {R : List (List Bool)} (hS : Sq l R) {i : Nat} (hi : i < l.length) : denC E 40 [pty l R, AV.int .i64 (i : Int)] [] = some ([RV.p (PV.bool (leadsB l R i))], []) := by
  have h5 := hS.n5
  have hl := hears_len (l := l) (R := R) i
  rw [denC_eq, r40, c_hears hS hi]
  simp only [bnd_some, ctl_true, ctl_false, ctl_and, ctl_or', ctl_or2, x_toPV, x_toCs, x_toCs2, x_toEs, x_bEs, x_bCs, x_aPV, x_aCs, x_int, x_bool, x_str, x_es, x_esn, nth_0, nth_1, nth_2, nth_3, nth_4, nth_5, nth_6, nth_7, nth_8, nth_9, y_nil, y_int, y_bool, y_str, y_sl, y_nils, y_agg, y_ownp, y_own, z_nil, z_int, z_bool, z_str, z_sl, z_nils, b_nil, b_arr, b_box1, b_box2, b_box3, b_box4, List.map_cons, List.map_nil, Bool.and_self, Bool.and_true, Bool.true_and, Bool.not_true, Bool.not_false, Bool.or_false, Bool.false_or, cond_true, cond_false, okPack, okPut, okPutBlks, okPutCells, q_isP, q_isAg, q_isBox, q_isArr, q_int, q_bool, q_str, q_sl, q_nils, e_exit, e_ret, e_nrm, e_ret_exit, e_exit_ret, e_nrm_exit, e_nrm_ret, e_exit_nrm, e_ret_nrm, Nat.zero_add, Nat.reduceAdd, noslR, noslP, noslB, noslA, List.all_cons, List.all_nil]
  rw [c_any _ (by omega) fun x hx => hears_lt hx]
  simp only [bnd_some, ctl_true, ctl_false, ctl_and, ctl_or', ctl_or2, x_toPV, x_toCs, x_toCs2, x_toEs, x_bEs, x_bCs, x_aPV, x_aCs, x_int, x_bool, x_str, x_es, x_esn, nth_0, nth_1, nth_2, nth_3, nth_4, nth_5, nth_6, nth_7, nth_8, nth_9, y_nil, y_int, y_bool, y_str, y_sl, y_nils, y_agg, y_ownp, y_own, z_nil, z_int, z_bool, z_str, z_sl, z_nils, b_nil, b_arr, b_box1, b_box2, b_box3, b_box4, List.map_cons, List.map_nil, Bool.and_self, Bool.and_true, Bool.true_and, Bool.not_true, Bool.not_false, Bool.or_false, Bool.false_or, cond_true, cond_false, okPack, okPut, okPutBlks, okPutCells, q_isP, q_isAg, q_isBox, q_isArr, q_int, q_bool, q_str, q_sl, q_nils, e_exit, e_ret, e_nrm, e_ret_exit, e_exit_ret, e_nrm_exit, e_nrm_ret, e_exit_nrm, e_ret_nrm, Nat.zero_add, Nat.reduceAdd, noslR, noslP, noslB, noslA, List.all_cons, List.all_nil]
  rfl

theorem c_learn {l : List Ct} {R : List (List Bool)} (hS : Sq l R) {i : Nat} (hi : i < l.length) (c : Ct) : denC E 22 [pty l R, AV.int .i64 (i : Int), ctA c] [] = some ([RV.agg (ctr (learnC l R i c))], []) := by
  have h5 := hS.n5
  have hl := hears_len (l := l) (R := R) i
  rw [denC_eq, r22, c_hears hS hi]
  simp only [bnd_some, ctl_true, ctl_false, ctl_and, ctl_or', ctl_or2, x_toPV, x_toCs, x_toCs2, x_toEs, x_bEs, x_bCs, x_aPV, x_aCs, x_int, x_bool, x_str, x_es, x_esn, nth_0, nth_1, nth_2, nth_3, nth_4, nth_5, nth_6, nth_7, nth_8, nth_9, y_nil, y_int, y_bool, y_str, y_sl, y_nils, y_agg, y_ownp, y_own, z_nil, z_int, z_bool, z_str, z_sl, z_nils, b_nil, b_arr, b_box1, b_box2, b_box3, b_box4, List.map_cons, List.map_nil, Bool.and_self, Bool.and_true, Bool.true_and, Bool.not_true, Bool.not_false, Bool.or_false, Bool.false_or, cond_true, cond_false, okPack, okPut, okPutBlks, okPutCells, q_isP, q_isAg, q_isBox, q_isArr, q_int, q_bool, q_str, q_sl, q_nils, e_exit, e_ret, e_nrm, e_ret_exit, e_exit_ret, e_nrm_exit, e_nrm_ret, e_exit_nrm, e_ret_nrm, Nat.zero_add, Nat.reduceAdd, noslR, noslP, noslB, noslA, List.all_cons, List.all_nil]
  rw [c_great h5 _ (by omega) fun x hx => hears_lt hx]
  simp only [bnd_some, ctl_true, ctl_false, ctl_and, ctl_or', ctl_or2, x_toPV, x_toCs, x_toCs2, x_toEs, x_bEs, x_bCs, x_aPV, x_aCs, x_int, x_bool, x_str, x_es, x_esn, nth_0, nth_1, nth_2, nth_3, nth_4, nth_5, nth_6, nth_7, nth_8, nth_9, y_nil, y_int, y_bool, y_str, y_sl, y_nils, y_agg, y_ownp, y_own, z_nil, z_int, z_bool, z_str, z_sl, z_nils, b_nil, b_arr, b_box1, b_box2, b_box3, b_box4, List.map_cons, List.map_nil, Bool.and_self, Bool.and_true, Bool.true_and, Bool.not_true, Bool.not_false, Bool.or_false, Bool.false_or, cond_true, cond_false, okPack, okPut, okPutBlks, okPutCells, q_isP, q_isAg, q_isBox, q_isArr, q_int, q_bool, q_str, q_sl, q_nils, e_exit, e_ret, e_nrm, e_ret_exit, e_exit_ret, e_nrm_exit, e_nrm_ret, e_exit_nrm, e_ret_nrm, Nat.zero_add, Nat.reduceAdd, noslR, noslP, noslB, noslA, List.all_cons, List.all_nil]
  rfl

theorem c_listen {l : List Ct} {R : List (List Bool)} (hS : Sq l R) {i : Nat} (hi : i < l.length) (c : Ct) (t : Int) : denC E 39 [AV.int .i64 (i : Int), ctA c, AV.t (.ptr 0 0), AV.t (.ptr 1 0)] [bpt l R, Blk.box [AV.int .i64 t]] = some ([RV.agg (ctr (listenC l R t i c))], [bpt l R, Blk.box [AV.int .i64 t]]) := by
  rw [denC_eq, r39, c_leads hS hi]
  simp only [bnd_some, ctl_true, ctl_false, ctl_and, ctl_or', ctl_or2, x_toPV, x_toCs, x_toCs2, x_toEs, x_bEs, x_bCs, x_aPV, x_aCs, x_int, x_bool, x_str, x_es, x_esn, nth_0, nth_1, nth_2, nth_3, nth_4, nth_5, nth_6, nth_7, nth_8, nth_9, y_nil, y_int, y_bool, y_str, y_sl, y_nils, y_agg, y_ownp, y_own, z_nil, z_int, z_bool, z_str, z_sl, z_nils, b_nil, b_arr, b_box1, b_box2, b_box3, b_box4, List.map_cons, List.map_nil, Bool.and_self, Bool.and_true, Bool.true_and, Bool.not_true, Bool.not_false, Bool.or_false, Bool.false_or, cond_true, cond_false, okPack, okPut, okPutBlks, okPutCells, q_isP, q_isAg, q_isBox, q_isArr, q_int, q_bool, q_str, q_sl, q_nils, e_exit, e_ret, e_nrm, e_ret_exit, e_exit_ret, e_nrm_exit, e_nrm_ret, e_exit_nrm, e_ret_nrm, Nat.zero_add, Nat.reduceAdd, noslR, noslP, noslB, noslA, List.all_cons, List.all_nil]
  unfold listenC
  cases leadsB l R i <;> rfl

theorem c_rival {l : List Ct} {R : List (List Bool)} {i k : Nat} (hk : k < l.length) (c : Ct) : denC E 35 [AV.int .i64 (k : Int), AV.t (.ptr 0 0), AV.t (.ptr 1 0), AV.t (.ptr 2 0)] [Blk.box [AV.int .i64 (i : Int)], bpt l R, Blk.box [AV.int .i64 c.st, AV.int .i64 c.ep, AV.int .i64 c.hd]] =
    some ([RV.p (PV.bool (rival l i c k))], [Blk.box [AV.int .i64 (i : Int)], bpt l R, Blk.box [AV.int .i64 c.st, AV.int .i64 c.ep, AV.int .i64 c.hd]]) := by
  rw [denC_eq, r35, c_act hk, getE_ctrs hk]
  simp only [bnd_some, ctl_true, ctl_false, ctl_and, ctl_or', ctl_or2, x_toPV, x_toCs, x_toCs2, x_toEs, x_bEs, x_bCs, x_aPV, x_aCs, x_int, x_bool, x_str, x_es, x_esn, nth_0, nth_1, nth_2, nth_3, nth_4, nth_5, nth_6, nth_7, nth_8, nth_9, y_nil, y_int, y_bool, y_str, y_sl, y_nils, y_agg, y_ownp, y_own, z_nil, z_int, z_bool, z_str, z_sl, z_nils, b_nil, b_arr, b_box1, b_box2, b_box3, b_box4, List.map_cons, List.map_nil, Bool.and_self, Bool.and_true, Bool.true_and, Bool.not_true, Bool.not_false, Bool.or_false, Bool.false_or, cond_true, cond_false, okPack, okPut, okPutBlks, okPutCells, q_isP, q_isAg, q_isBox, q_isArr, q_int, q_bool, q_str, q_sl, q_nils, e_exit, e_ret, e_nrm, e_ret_exit, e_exit_ret, e_nrm_exit, e_nrm_ret, e_exit_nrm, e_ret_nrm, Nat.zero_add, Nat.reduceAdd, noslR, noslP, noslB, noslA, List.all_cons, List.all_nil, ctl_and]
  rfl

theorem riv_loop {l : List Ct} {R : List (List Bool)} {i : Nat} {c : Ct} : ∀ (xs pre : List Nat), pre.length + xs.length ≤ 1000 → (∀ x ∈ xs, x < l.length) →
    lp E (denC E) 42 3 [AV.undef, AV.fn 35 [.ptr 0 0, .ptr 1 0, .ptr 2 0]] 0 { vals := [AV.sl 1 (ns (pre ++ xs)), AV.int .i64 (pre ++ xs).length, AV.int .i64 pre.length], blks := [Blk.box [AV.int .i64 (i : Int)], bpt l R, Blk.box [AV.int .i64 c.st, AV.int .i64 c.ep, AV.int .i64 c.hd]] } =
      some (if xs.any (rival l i c) = true then (Ex.ret, { vals := [AV.int .i64 (fidx (rival l i c) xs pre.length)], blks := [Blk.box [AV.int .i64 (i : Int)], bpt l R, Blk.box [AV.int .i64 c.st, AV.int .i64 c.ep, AV.int .i64 c.hd]] }) else (Ex.exit 0, { vals := [], blks := [Blk.box [AV.int .i64 (i : Int)], bpt l R, Blk.box [AV.int .i64 c.st, AV.int .i64 c.ep, AV.int .i64 c.hd]] })) := by
  intro xs
  induction xs with
  | nil =>
    intro pre hp hx
    rw [r42_0b, ctl_dec, if_neg (by simp)]
    rfl
  | cons x xs ih =>
    intro pre hp hx
    have hxl := hx x (by simp)
    have hg : (pre ++ x :: xs).getD pre.length 0 = x := by simp [List.getD]
    simp only [List.length_cons] at hp
    rw [r42_0b, ctl_dec, if_pos (by simp; omega), getE_ns (by simp), hg]
    simp only [bnd_some, ctl_true, ctl_false, ctl_and, ctl_or', ctl_or2, x_toPV, x_toCs, x_toCs2, x_toEs, x_bEs, x_bCs, x_aPV, x_aCs, x_int, x_bool, x_str, x_es, x_esn, nth_0, nth_1, nth_2, nth_3, nth_4, nth_5, nth_6, nth_7, nth_8, nth_9, y_nil, y_int, y_bool, y_str, y_sl, y_nils, y_agg, y_ownp, y_own, z_nil, z_int, z_bool, z_str, z_sl, z_nils, b_nil, b_arr, b_box1, b_box2, b_box3, b_box4, List.map_cons, List.map_nil, Bool.and_self, Bool.and_true, Bool.true_and, Bool.not_true, Bool.not_false, Bool.or_false, Bool.false_or, cond_true, cond_false, okPack, okPut, okPutBlks, okPutCells, q_isP, q_isAg, q_isBox, q_isArr, q_int, q_bool, q_str, q_sl, q_nils, e_exit, e_ret, e_nrm, e_ret_exit, e_exit_ret, e_nrm_exit, e_nrm_ret, e_exit_nrm, e_ret_nrm, Nat.zero_add, Nat.reduceAdd, noslR, noslP, noslB, noslA, List.all_cons, List.all_nil]
    rw [c_rival hxl, w64 (n := (pre.length : Int) + 1) (by omega)]
    simp only [bnd_some, ctl_true, ctl_false, ctl_and, ctl_or', ctl_or2, x_toPV, x_toCs, x_toCs2, x_toEs, x_bEs, x_bCs, x_aPV, x_aCs, x_int, x_bool, x_str, x_es, x_esn, nth_0, nth_1, nth_2, nth_3, nth_4, nth_5, nth_6, nth_7, nth_8, nth_9, y_nil, y_int, y_bool, y_str, y_sl, y_nils, y_agg, y_ownp, y_own, z_nil, z_int, z_bool, z_str, z_sl, z_nils, b_nil, b_arr, b_box1, b_box2, b_box3, b_box4, List.map_cons, List.map_nil, Bool.and_self, Bool.and_true, Bool.true_and, Bool.not_true, Bool.not_false, Bool.or_false, Bool.false_or, cond_true, cond_false, okPack, okPut, okPutBlks, okPutCells, q_isP, q_isAg, q_isBox, q_isArr, q_int, q_bool, q_str, q_sl, q_nils, e_exit, e_ret, e_nrm, e_ret_exit, e_exit_ret, e_nrm_exit, e_nrm_ret, e_exit_nrm, e_ret_nrm, Nat.zero_add, Nat.reduceAdd, noslR, noslP, noslB, noslA, List.all_cons, List.all_nil]
    rw [List.any_cons]
    unfold fidx
    cases hb : rival l i c x with
    | true => rfl
    | false =>
      have e1 : (pre.length : Int) + 1 = ((pre ++ [x]).length : Int) := by simp
      have e2 : pre ++ x :: xs = (pre ++ [x]) ++ xs := by simp
      have e3 : pre.length + 1 = (pre ++ [x]).length := by simp
      rw [ctl_false, e1, e2, ih (pre ++ [x]) (by simp; omega) fun y hy => hx y (by simp [hy])]
      simp

theorem fidx_none (p : Nat → Bool) : ∀ (xs : List Nat) (k : Nat), ¬ xs.any p = true → fidx p xs k = -1
  | [], _, _ => rfl
  | x :: xs, k, hk => by
    rw [List.any_cons, Bool.or_eq_true, not_or] at hk
    unfold fidx
    rw [if_neg hk.1, fidx_none p xs _ hk.2]

theorem c_riv {l : List Ct} {R : List (List Bool)} {i : Nat} {c : Ct} (xs : List Nat) (hn : xs.length ≤ 1000) (hx : ∀ x ∈ xs, x < l.length) :
    denC E 38 [AV.sl 1 (ns xs), AV.fn 35 [.ptr 0 0, .ptr 1 0, .ptr 2 0]] [Blk.box [AV.int .i64 (i : Int)], bpt l R, Blk.box [AV.int .i64 c.st, AV.int .i64 c.ep, AV.int .i64 c.hd]] =
      some ([RV.p (PV.bool (xs.any (rival l i c)))], [Blk.box [AV.int .i64 (i : Int)], bpt l R, Blk.box [AV.int .i64 c.st, AV.int .i64 c.ep, AV.int .i64 c.hd]]) := by
  have h := riv_loop (R := R) (i := i) (c := c) xs [] (by simpa using hn) hx
  rw [List.nil_append, List.length_nil, nc0] at h
  have h2 : denC E 42 [AV.sl 1 (ns xs), AV.fn 35 [.ptr 0 0, .ptr 1 0, .ptr 2 0]] [Blk.box [AV.int .i64 (i : Int)], bpt l R, Blk.box [AV.int .i64 c.st, AV.int .i64 c.ep, AV.int .i64 c.hd]] =
      some ([RV.p (PV.int .i64 (fidx (rival l i c) xs 0))], [Blk.box [AV.int .i64 (i : Int)], bpt l R, Blk.box [AV.int .i64 c.st, AV.int .i64 c.ep, AV.int .i64 c.hd]]) := by
    rw [denC_eq, r42b, ns_length, h]
    by_cases ha : xs.any (rival l i c) = true
    · rw [if_pos ha]
      simp only [bnd_some, ctl_true, ctl_false, ctl_and, ctl_or', ctl_or2, x_toPV, x_toCs, x_toCs2, x_toEs, x_bEs, x_bCs, x_aPV, x_aCs, x_int, x_bool, x_str, x_es, x_esn, nth_0, nth_1, nth_2, nth_3, nth_4, nth_5, nth_6, nth_7, nth_8, nth_9, y_nil, y_int, y_bool, y_str, y_sl, y_nils, y_agg, y_ownp, y_own, z_nil, z_int, z_bool, z_str, z_sl, z_nils, b_nil, b_arr, b_box1, b_box2, b_box3, b_box4, List.map_cons, List.map_nil, Bool.and_self, Bool.and_true, Bool.true_and, Bool.not_true, Bool.not_false, Bool.or_false, Bool.false_or, cond_true, cond_false, okPack, okPut, okPutBlks, okPutCells, q_isP, q_isAg, q_isBox, q_isArr, q_int, q_bool, q_str, q_sl, q_nils, e_exit, e_ret, e_nrm, e_ret_exit, e_exit_ret, e_nrm_exit, e_nrm_ret, e_exit_nrm, e_ret_nrm, Nat.zero_add, Nat.reduceAdd, noslR, noslP, noslB, noslA, List.all_cons, List.all_nil]
    · rw [if_neg ha, fidx_none _ _ _ ha]
      simp only [bnd_some, ctl_true, ctl_false, ctl_and, ctl_or', ctl_or2, x_toPV, x_toCs, x_toCs2, x_toEs, x_bEs, x_bCs, x_aPV, x_aCs, x_int, x_bool, x_str, x_es, x_esn, nth_0, nth_1, nth_2, nth_3, nth_4, nth_5, nth_6, nth_7, nth_8, nth_9, y_nil, y_int, y_bool, y_str, y_sl, y_nils, y_agg, y_ownp, y_own, z_nil, z_int, z_bool, z_str, z_sl, z_nils, b_nil, b_arr, b_box1, b_box2, b_box3, b_box4, List.map_cons, List.map_nil, Bool.and_self, Bool.and_true, Bool.true_and, Bool.not_true, Bool.not_false, Bool.or_false, Bool.false_or, cond_true, cond_false, okPack, okPut, okPutBlks, okPutCells, q_isP, q_isAg, q_isBox, q_isArr, q_int, q_bool, q_str, q_sl, q_nils, e_exit, e_ret, e_nrm, e_ret_exit, e_exit_ret, e_nrm_exit, e_nrm_ret, e_exit_nrm, e_ret_nrm, Nat.zero_add, Nat.reduceAdd, noslR, noslP, noslB, noslA, List.all_cons, List.all_nil]
  rw [denC_eq, r38b, h2]
  simp only [bnd_some, ctl_true, ctl_false, ctl_and, ctl_or', ctl_or2, x_toPV, x_toCs, x_toCs2, x_toEs, x_bEs, x_bCs, x_aPV, x_aCs, x_int, x_bool, x_str, x_es, x_esn, nth_0, nth_1, nth_2, nth_3, nth_4, nth_5, nth_6, nth_7, nth_8, nth_9, y_nil, y_int, y_bool, y_str, y_sl, y_nils, y_agg, y_ownp, y_own, z_nil, z_int, z_bool, z_str, z_sl, z_nils, b_nil, b_arr, b_box1, b_box2, b_box3, b_box4, List.map_cons, List.map_nil, Bool.and_self, Bool.and_true, Bool.true_and, Bool.not_true, Bool.not_false, Bool.or_false, Bool.false_or, cond_true, cond_false, okPack, okPut, okPutBlks, okPutCells, q_isP, q_isAg, q_isBox, q_isArr, q_int, q_bool, q_str, q_sl, q_nils, e_exit, e_ret, e_nrm, e_ret_exit, e_exit_ret, e_nrm_exit, e_nrm_ret, e_exit_nrm, e_ret_nrm, Nat.zero_add, Nat.reduceAdd, noslR, noslP, noslB, noslA, List.all_cons, List.all_nil]
  rw [fidx_any]

theorem c_yield {l b : List Ct} {R : List (List Bool)} (hS : Sq l R) {i : Nat} (hi : i < l.length) (hb : b.length = l.length) (c : Ct) : denC E 34 [AV.int .i64 (i : Int), ctA c, AV.t (.ptr 0 0), AV.t (.ptr 1 0)] [bpt l R, bpt b R] =
    some ([RV.agg (ctr (yieldC l R b i c))], [bpt l R, bpt b R]) := by
  have h5 := hS.n5
  have hl := hears_len (l := l) (R := R) i
  rw [denC_eq, r34, c_act hi, c_hears hS hi]
  simp only [bnd_some, ctl_true, ctl_false, ctl_and, ctl_or', ctl_or2, x_toPV, x_toCs, x_toCs2, x_toEs, x_bEs, x_bCs, x_aPV, x_aCs, x_int, x_bool, x_str, x_es, x_esn, nth_0, nth_1, nth_2, nth_3, nth_4, nth_5, nth_6, nth_7, nth_8, nth_9, y_nil, y_int, y_bool, y_str, y_sl, y_nils, y_agg, y_ownp, y_own, z_nil, z_int, z_bool, z_str, z_sl, z_nils, b_nil, b_arr, b_box1, b_box2, b_box3, b_box4, List.map_cons, List.map_nil, Bool.and_self, Bool.and_true, Bool.true_and, Bool.not_true, Bool.not_false, Bool.or_false, Bool.false_or, cond_true, cond_false, okPack, okPut, okPutBlks, okPutCells, q_isP, q_isAg, q_isBox, q_isArr, q_int, q_bool, q_str, q_sl, q_nils, e_exit, e_ret, e_nrm, e_ret_exit, e_exit_ret, e_nrm_exit, e_nrm_ret, e_exit_nrm, e_ret_nrm, Nat.zero_add, Nat.reduceAdd, noslR, noslP, noslB, noslA, List.all_cons, List.all_nil]
  rw [ns_length, c_maj (by omega), getE_ctrs (by omega), c_riv _ (by omega) fun x hx => hears_lt hx]
  simp only [bnd_some, ctl_true, ctl_false, ctl_and, ctl_or', ctl_or2, x_toPV, x_toCs, x_toCs2, x_toEs, x_bEs, x_bCs, x_aPV, x_aCs, x_int, x_bool, x_str, x_es, x_esn, nth_0, nth_1, nth_2, nth_3, nth_4, nth_5, nth_6, nth_7, nth_8, nth_9, y_nil, y_int, y_bool, y_str, y_sl, y_nils, y_agg, y_ownp, y_own, z_nil, z_int, z_bool, z_str, z_sl, z_nils, b_nil, b_arr, b_box1, b_box2, b_box3, b_box4, List.map_cons, List.map_nil, Bool.and_self, Bool.and_true, Bool.true_and, Bool.not_true, Bool.not_false, Bool.or_false, Bool.false_or, cond_true, cond_false, okPack, okPut, okPutBlks, okPutCells, q_isP, q_isAg, q_isBox, q_isArr, q_int, q_bool, q_str, q_sl, q_nils, e_exit, e_ret, e_nrm, e_ret_exit, e_exit_ret, e_nrm_exit, e_nrm_ret, e_exit_nrm, e_ret_nrm, Nat.zero_add, Nat.reduceAdd, noslR, noslP, noslB, noslA, List.all_cons, List.all_nil, Bool.not_not]
  unfold yieldC yieldB
  cases actB l i with
  | false => rfl
  | true =>
    cases maj l (hearsL l R i).length with
    | false => rfl
    | true =>
      rw [show ltB (gt b i).ep c.ep = decide ((gt b i).ep < c.ep) from rfl]
      generalize decide ((gt b i).ep < c.ep) = d
      generalize (hearsL l R i).any (rival l i c) = a
      cases d <;> cases a <;> rfl

end Go.Proofs.Ytcgpckiieocdbaa.Vm
