import Derived.Test.YtpnpdkgdgfkpfaaGreatDoorSentG
import Derived.Test.YtpnpdkgdgfkpfaaGreatDoorSigG
import Derived.Test.YtpnpdkgdgfkpfaaGreatDoorStrmC
/- Contracts of the monitors and of small functions of places. -/
namespace Go.Proofs.YtpnpdkgdgfkpfaaGreatDoor.Vm
set_option linter.unusedVariables false
set_option linter.unusedSimpArgs false

abbrev Fq := Int × Int × Int × Int
abbrev Fq.pv (f : Fq) : List PV := [PV.int .i64 f.1, PV.int .i64 f.2.1, PV.int .i64 f.2.2.1, PV.int .i64 f.2.2.2]
structure Tk where
  l : Fq
  g : Fq
  seen : Bool
  same : Int
  st : Int
abbrev Tk.pv (t : Tk) : List PV := [PV.int .i64 t.l.1, PV.int .i64 t.l.2.1, PV.int .i64 t.l.2.2.1, PV.int .i64 t.l.2.2.2, PV.int .i64 t.g.1, PV.int .i64 t.g.2.1, PV.int .i64 t.g.2.2.1, PV.int .i64 t.g.2.2.2, PV.bool t.seen, PV.int .i64 t.same, PV.int .i64 t.st]
abbrev Rf := Int × Int × Int × Int
def Near (x y : Int) : Prop := -1000 ≤ x ∧ x ≤ 1000 ∧ -1000 ≤ y ∧ y ≤ 1000
def FxOk (tm : Int) (f : Fq) : Prop := 1 ≤ f.1 ∧ f.1 ≤ tm ∧ Near f.2.1 f.2.2.1 ∧ 1 ≤ f.2.2.2 ∧ f.2.2.2 ≤ 200
def TkOk (tm : Int) (t : Tk) : Prop := (t.seen = false ∧ t.st = 0) ∨ (t.seen = true ∧ FxOk tm t.l ∧ FxOk tm t.g ∧ 1 ≤ t.same ∧ t.same ≤ t.l.1)
def RfOk (r : Rf) : Prop := 0 ≤ r.1 ∧ r.1 ≤ 7 ∧ 0 ≤ r.2.1 ∧ r.2.1 ≤ 1000 ∧ 1 ≤ r.2.2.1 ∧ r.2.2.1 ≤ 600 ∧ 0 ≤ r.2.2.2 ∧ r.2.2.2 ≤ 600
theorem FxOk.mono {a b : Int} {f : Fq} (h : FxOk a f) (hab : a ≤ b) : FxOk b f := ⟨h.1, Int.le_trans h.2.1 hab, h.2.2⟩
theorem TkOk.mono {a b : Int} {t : Tk} (h : TkOk a t) (hab : a ≤ b) : TkOk b t := h.imp id fun ⟨h1, h2, h3, h4⟩ => ⟨h1, h2.mono hab, h3.mono hab, h4⟩

theorem leT {a b : Int} (h : a ≤ b) : leB a b = true := by simpa using h
theorem leF {a b : Int} (h : b < a) : leB a b = false := by simpa using h
theorem ltT {a b : Int} (h : a < b) : ltB a b = true := by simpa using h
theorem ltF {a b : Int} (h : b ≤ a) : ltB a b = false := by simpa using h

theorem c_in (n lo hi : Int) : denC E 77 [AV.int .i64 n, AV.int .i64 lo, AV.int .i64 hi] [] = some ([RV.p (PV.bool (leB lo n && leB n hi))], []) := by
  rw [denC_eq, r77]
  simp only [SB, Nat.reduceAdd]

theorem c_MValid {r : Rf} (h : RfOk r) : denC E 44 [AV.agg [PV.int .i64 r.1, PV.int .i64 r.2.1, PV.int .i64 r.2.2.1, PV.int .i64 r.2.2.2]] [] = some ([RV.p (PV.bool true)], []) := by
  obtain ⟨h1, h2, h3, h4, h5, h6, h7, h8⟩ := h
  rw [denC_eq, r44, c_in, c_in, c_in, c_in, leT h1, leT h2, leT h3, leT h4, leT h5, leT h6, leT h7, leT h8]
  rfl

theorem c_FValid {x y : Int} (h : Near x y) : denC E 61 [AV.agg [PV.int .i64 x, PV.int .i64 y]] [] = some ([RV.p (PV.bool true)], []) := by
  obtain ⟨h1, h2, h3, h4⟩ := h
  rw [denC_eq, r61, leT (by unfold maxI; split <;> omega), leT (by unfold minI; split <;> omega)]
  rfl

theorem c_place (f : Fq) : denC E 93 [AV.agg f.pv] [] = some ([RV.agg [PV.int .i64 f.2.1, PV.int .i64 f.2.2.1]], []) := by
  rw [denC_eq, r93]

theorem c_MFix {tm : Int} (ht : tm ≤ 2147483648) {f : Fq} (h : FxOk tm f) : denC E 91 [AV.agg f.pv] [] = some ([RV.p (PV.bool true)], []) := by
  obtain ⟨h1, h2, h3, h4, h5⟩ := h
  rw [denC_eq, r91, c_in, c_in, c_place, leT (by omega : (0 : Int) ≤ f.1), leT (by omega : f.1 ≤ 2147483648), leT h4, leT (by omega : f.2.2.2 ≤ 100000)]
  simp only [SB, Nat.reduceAdd]
  rw [c_FValid h3]
  rfl

theorem c_track {tm : Int} (ht : tm ≤ 2147483648) {t : Tk} (h : TkOk tm t) : denC E 92 [AV.agg t.pv] [] = some ([RV.p (PV.bool true)], []) := by
  rw [denC_eq, r92]
  rcases h with ⟨h1, _⟩ | ⟨h1, h2, h3, h4, h5⟩
  · rw [h1]
    rfl
  · have e1 := c_MFix ht h2
    have e2 := c_MFix ht h3
    rw [h1, e1, e2, c_in, leT h4, leT (by have := h2.2.1; omega : t.same ≤ 2147483648)]
    rfl

theorem c_usable (t : Tk) : denC E 95 [AV.agg t.pv] [] = some ([RV.p (PV.bool (t.st == 1))], []) := by
  rw [denC_eq, r95]

theorem get2_0 {α : Type} (x y : List PV) (K : List PV → Option α) : getE [x, y] 0 K = K x := rfl
theorem get2_1 {α : Type} (x y : List PV) (K : List PV → Option α) : getE [x, y] 1 K = K y := rfl
theorem c_valid2 {a0 a1 b0 b1 : Int} (ha : Near a0 a1) (hb : Near b0 b1) : denC E 126 [AV.sl 2 [[PV.int .i64 a0, PV.int .i64 a1], [PV.int .i64 b0, PV.int .i64 b1]]] [] = some ([RV.p (PV.int .i64 0)], []) := by
  have e0 := c_FValid ha
  have e1 := c_FValid hb
  rw [denC_eq, r126]
  simp only [SB, Nat.reduceAdd, List.length_cons, List.length_nil]
  rw [r126_0, show ltB 0 ((2 : Nat) : Int) = true from rfl, get2_0]
  simp only [SB, Nat.reduceAdd]
  rw [e0]
  simp only [SB, Nat.reduceAdd]
  rw [show IntKind.i64.wrap (0 + 1) = 1 from rfl, r126_0, show ltB 1 ((2 : Nat) : Int) = true from rfl, get2_1]
  simp only [SB, Nat.reduceAdd]
  rw [e1]
  simp only [SB, Nat.reduceAdd]
  rw [show IntKind.i64.wrap (1 + 1) = 2 from rfl, r126_0, show ltB 2 ((2 : Nat) : Int) = false from rfl]
  rfl

def boxV (a0 a1 b0 b1 : Int) : Int := maxI (maxI (b1 - a1) (a1 - b1)) (maxI (b0 - a0) (a0 - b0))
theorem boxV_bounds {a0 a1 b0 b1 : Int} (ha : Near a0 a1) (hb : Near b0 b1) : 0 ≤ boxV a0 a1 b0 b1 ∧ boxV a0 a1 b0 b1 ≤ 2000 := by
  obtain ⟨h1, h2, h3, h4⟩ := ha
  obtain ⟨h5, h6, h7, h8⟩ := hb
  unfold boxV maxI
  repeat' split
  all_goals omega
theorem boxV_self (a0 a1 : Int) : boxV a0 a1 a0 a1 = 0 := by
  unfold boxV maxI
  simp
theorem c_way {a0 a1 b0 b1 : Int} (ha : Near a0 a1) (hb : Near b0 b1) : denC E 105 [AV.agg [PV.int .i64 a0, PV.int .i64 a1], AV.agg [PV.int .i64 b0, PV.int .i64 b1]] [] = some ([RV.p (PV.int .i64 (maxI (b0 - a0) (a0 - b0))), RV.p (PV.int .i64 (maxI (b1 - a1) (a1 - b1))), RV.p (PV.int .i64 0)], []) := by
  have e := c_valid2 ha hb
  obtain ⟨h1, h2, h3, h4⟩ := ha
  obtain ⟨h5, h6, h7, h8⟩ := hb
  rw [denC_eq, r105, e, w64 (n := b0 - a0) (by omega), w64 (n := a0 - b0) (by omega), w64 (n := b1 - a1) (by omega), w64 (n := a1 - b1) (by omega)]
  simp only [SB, Nat.reduceAdd]
  rfl
theorem c_Box {a0 a1 b0 b1 : Int} (ha : Near a0 a1) (hb : Near b0 b1) : denC E 74 [AV.agg [PV.int .i64 a0, PV.int .i64 a1], AV.agg [PV.int .i64 b0, PV.int .i64 b1]] [] = some ([RV.p (PV.int .i64 (boxV a0 a1 b0 b1)), RV.p (PV.int .i64 0)], []) := by
  rw [denC_eq, r74, c_way ha hb]
  simp only [SB, Nat.reduceAdd]
  rfl
theorem c_jumped {tm : Int} (r : Rf) {g f : Fq} (hg : FxOk tm g) (hf : FxOk tm f) : ∃ b, denC E 94 [AV.agg [PV.int .i64 r.1, PV.int .i64 r.2.1, PV.int .i64 r.2.2.1, PV.int .i64 r.2.2.2], AV.agg g.pv, AV.agg f.pv] [] = some ([RV.p (PV.bool b)], []) := by
  rw [denC_eq, r94, c_place, c_place]
  simp only [SB, Nat.reduceAdd]
  rw [c_Box hg.2.2.1 hf.2.2.1]
  exact ⟨_, rfl⟩

def NwOk (f : Fq) : Prop := Near f.2.1 f.2.2.1 ∧ 1 ≤ f.2.2.2 ∧ f.2.2.2 ≤ 100000
theorem c_Agree {f g : Fq} (hf : NwOk f) (hg : NwOk g) : denC E 96 [AV.agg f.pv, AV.agg g.pv] [] = some ([RV.p (PV.bool (leB (boxV f.2.1 f.2.2.1 g.2.1 g.2.2.1) (f.2.2.2 + g.2.2.2)))], []) := by
  obtain ⟨h1, h2, h3⟩ := hf
  obtain ⟨h4, h5, h6⟩ := hg
  rw [denC_eq, r96, c_Box h1 h4, leT (a := 0) (by unfold minI; split <;> omega), leT (a := maxI _ _) (by unfold maxI; split <;> omega), w64 (n := f.2.2.2 + g.2.2.2) (by omega)]
  simp only [SB, Nat.reduceAdd]
  rfl
theorem c_Self {f : Fq} (hf : NwOk f) : denC E 96 [AV.agg f.pv, AV.agg f.pv] [] = some ([RV.p (PV.bool true)], []) := by
  rw [c_Agree hf hf, boxV_self, leT (by have := hf.2.1; omega)]

theorem c_MStep {tm : Int} (ht : tm ≤ 2147483647) {r : Rf} (hr : RfOk r) {t : Tk} (h : TkOk tm t) {f : Fq} (hf : FxOk tm f) :
    ∃ (t' : Tk) (e : Int), denC E 65 [AV.agg [PV.int .i64 r.1, PV.int .i64 r.2.1, PV.int .i64 r.2.2.1, PV.int .i64 r.2.2.2], AV.agg t.pv, AV.agg f.pv] [] = some ([RV.agg t'.pv, RV.p (PV.int .i64 e)], []) ∧ (e = 0 → TkOk tm t') := by
  have q1 := c_MValid hr
  have q2 := c_MFix (by omega) hf
  have q3 := c_track (by omega) h
  rw [denC_eq, r65, q1]
  simp only [SB, Nat.reduceAdd]
  rw [q2]
  simp only [SB, Nat.reduceAdd]
  rw [q3]
  simp only [SB, Nat.reduceAdd]
  rcases h with ⟨h1, h2⟩ | ⟨h1, h2, h3, h4, h5⟩
  · rw [h1]
    simp only [SB, Nat.reduceAdd]
    exact ⟨⟨f, f, true, 1, 1⟩, 0, rfl, fun _ => .inr ⟨rfl, hf, hf, by show (1 : Int) ≤ 1; omega, hf.1⟩⟩
  · rw [h1]
    simp only [SB, Nat.reduceAdd]
    cases hle : leB f.1 t.l.1 with
    | true => exact ⟨⟨(0, 0, 0, 0), (0, 0, 0, 0), false, 0, 0⟩, 16, rfl, fun e => absurd e (by decide)⟩
    | false =>
      have hlt : t.l.1 < f.1 := by simpa using hle
      obtain ⟨b, hb⟩ := c_jumped r h3 hf
      simp only [SB, Nat.reduceAdd]
      rw [c_place, c_place]
      simp only [SB, Nat.reduceAdd]
      have hf1 := hf.2.1
      rw [w64 (n := t.same + 1) (by omega)]
      generalize (t.l.2.1 == f.2.1 && t.l.2.2.1 == f.2.2.1) = pl
      rw [hb]
      simp only [SB, Nat.reduceAdd]
      generalize (r.2.2.2 != 0 && leB r.2.2.2 (t.same + 1)) = u1
      generalize (r.2.2.2 != 0 && leB r.2.2.2 1) = u2
      have k1 : ∀ st, TkOk tm ⟨f, t.g, true, t.same + 1, st⟩ := fun st => .inr ⟨rfl, hf, h3, by show 1 ≤ t.same + 1; omega, by show t.same + 1 ≤ f.1; omega⟩
      have k2 : ∀ st, TkOk tm ⟨f, f, true, t.same + 1, st⟩ := fun st => .inr ⟨rfl, hf, hf, by show 1 ≤ t.same + 1; omega, by show t.same + 1 ≤ f.1; omega⟩
      have k3 : ∀ st, TkOk tm ⟨f, t.g, true, 1, st⟩ := fun st => .inr ⟨rfl, hf, h3, by show (1 : Int) ≤ 1; omega, hf.1⟩
      have k4 : ∀ st, TkOk tm ⟨f, f, true, 1, st⟩ := fun st => .inr ⟨rfl, hf, hf, by show (1 : Int) ≤ 1; omega, hf.1⟩
      cases pl <;> cases b
      · cases u2
        · exact ⟨⟨f, f, true, 1, 1⟩, 0, rfl, fun _ => k4 1⟩
        · exact ⟨⟨f, t.g, true, 1, 3⟩, 0, rfl, fun _ => k3 3⟩
      · exact ⟨⟨f, t.g, true, 1, 4⟩, 0, rfl, fun _ => k3 4⟩
      · cases u1
        · exact ⟨⟨f, f, true, t.same + 1, 1⟩, 0, rfl, fun _ => k2 1⟩
        · exact ⟨⟨f, t.g, true, t.same + 1, 3⟩, 0, rfl, fun _ => k1 3⟩
      · exact ⟨⟨f, t.g, true, t.same + 1, 4⟩, 0, rfl, fun _ => k1 4⟩

theorem c_MTick {tm : Int} (ht : 0 ≤ tm ∧ tm ≤ 2147483647) {r : Rf} (hr : RfOk r) {t : Tk} (h : TkOk tm t) :
    ∃ (t' : Tk) (e : Int), denC E 66 [AV.agg [PV.int .i64 r.1, PV.int .i64 r.2.1, PV.int .i64 r.2.2.1, PV.int .i64 r.2.2.2], AV.agg t.pv, AV.int .i64 tm] [] = some ([RV.agg t'.pv, RV.p (PV.int .i64 e)], []) ∧ (e = 0 → TkOk tm t') := by
  have q1 := c_MValid hr
  have q3 := c_track (by omega) h
  rw [denC_eq, r66, q1]
  simp only [SB, Nat.reduceAdd]
  rw [c_in, leT ht.1, leT (by omega : tm ≤ 2147483648)]
  simp only [SB, Nat.reduceAdd]
  rw [q3]
  simp only [SB, Nat.reduceAdd]
  obtain ⟨l, g, seen, same, st⟩ := t
  rcases h with ⟨h1, h2⟩ | ⟨h1, h2, h3, h4, h5⟩
  · dsimp only at h1 h2
    subst h1 h2
    exact ⟨⟨l, g, false, same, 0⟩, 0, rfl, fun _ => .inl ⟨rfl, rfl⟩⟩
  · dsimp only at h1 h2 h3 h4 h5
    subst h1
    simp only [SB, Nat.reduceAdd]
    rw [ltF h2.2.1]
    simp only [SB, Nat.reduceAdd]
    generalize leB r.2.2.1 (IntKind.i64.wrap (tm - l.1)) = u
    cases u
    · exact ⟨⟨l, g, true, same, st⟩, 0, rfl, fun _ => .inr ⟨rfl, h2, h3, h4, h5⟩⟩
    · exact ⟨⟨l, g, true, same, 2⟩, 0, rfl, fun _ => .inr ⟨rfl, h2, h3, h4, h5⟩⟩

theorem c_Grow {b s n : Int} (hb : 0 ≤ b ∧ b ≤ 200000000) (hs : 0 ≤ s ∧ s ≤ 1000) (hn : 0 ≤ n ∧ n ≤ 2147483648) : denC E 39 [AV.int .i64 b, AV.int .i64 s, AV.int .i64 n] [] = some ([RV.p (PV.int .i64 (minI 200000000 (b + s * n))), RV.p (PV.int .i64 0)], []) := by
  have h1 : 0 ≤ s * n := Int.mul_nonneg hs.1 hn.1
  have h2 : s * n ≤ 1000 * 2147483648 := Int.mul_le_mul hs.2 hn.2 hn.1 (by omega)
  rw [denC_eq, r39, ltF hb.1, ltF hb.2, ltF hs.1, ltF hs.2, ltF hn.1, ltF hn.2, w64 (n := s * n) (by omega), w64 (n := b + s * n) (by omega)]
  rfl

theorem c_now {tm : Int} (ht : 0 ≤ tm ∧ tm ≤ 1000) {t : Tk} (h : TkOk tm t) : ∃ (f : Fq) (ok : Bool), denC E 67 [AV.agg t.pv, AV.int .i64 tm, AV.int .i64 10] [] = some ([RV.agg f.pv, RV.p (PV.bool ok)], []) ∧ (ok = true → NwOk f) := by
  rw [denC_eq, r67, c_usable]
  simp only [SB, Nat.reduceAdd]
  rcases h with ⟨h1, h2⟩ | ⟨h1, h2, h3, h4, h5⟩
  · rw [h2]
    exact ⟨(0, 0, 0, 0), false, rfl, fun e => by cases e⟩
  · cases t.st == 1 with
    | false => exact ⟨(0, 0, 0, 0), false, rfl, fun e => by cases e⟩
    | true =>
      simp only [SB, Nat.reduceAdd]
      rw [c_MFix (by omega) h2]
      simp only [SB, Nat.reduceAdd]
      obtain ⟨g1, g2, g3, g4, g5⟩ := h2
      rw [ltF g2, w64 (n := tm - t.l.1) (by omega)]
      simp only [SB, Nat.reduceAdd]
      rw [c_Grow (by omega) (by omega) (by omega)]
      simp only [SB, Nat.reduceAdd]
      have hm : minI 200000000 (t.l.2.2.2 + 10 * (tm - t.l.1)) = t.l.2.2.2 + 10 * (tm - t.l.1) := by unfold minI; split <;> omega
      rw [hm]
      refine ⟨(t.l.1, t.l.2.1, t.l.2.2.1, t.l.2.2.2 + 10 * (tm - t.l.1)), leB (t.l.2.2.2 + 10 * (tm - t.l.1)) 100000, rfl, fun _ => ⟨g3, ?_, ?_⟩⟩
      · show 1 ≤ t.l.2.2.2 + 10 * (tm - t.l.1)
        omega
      · show t.l.2.2.2 + 10 * (tm - t.l.1) ≤ 100000
        omega

theorem c_times {t s : Int} (ht : 0 ≤ t ∧ t ≤ 2147483648) (hs : 0 ≤ s ∧ s ≤ 1000) : denC E 60 [AV.int .i64 t, AV.int .i64 s] [] = some ([RV.p (PV.bool true)], []) := by
  rw [denC_eq, r60, leT ht.1, leT ht.2, leT hs.1, leT hs.2]
  rfl

end Go.Proofs.YtpnpdkgdgfkpfaaGreatDoor.Vm

/- Contracts of the checks of a step, and of vote.Clique. -/
namespace Go.Proofs.YtpnpdkgdgfkpfaaGreatDoor.Vm
set_option linter.unusedVariables false
set_option linter.unusedSimpArgs false

theorem getE_at {α : Type} {es : List (List PV)} {i : Nat} {e : List PV} (h : es[i]? = some e) (K : List PV → Option α) : getE es (i : Int) K = K e := by
  have hi := (List.getElem?_eq_some_iff.1 h).1
  unfold getE
  have h1 : leB 0 (i : Int) = true := by simp
  have h2 : ltB (i : Int) es.length = true := by simpa using hi
  rw [h1, h2]
  simp only [Bool.and_self, ctl_true, Int.toNat_natCast]
  rw [nth_eq, List.getD, h]
  rfl

abbrev Rf.pv (r : Rf) : List PV := [PV.int .i64 r.1, PV.int .i64 r.2.1, PV.int .i64 r.2.2.1, PV.int .i64 r.2.2.2]
theorem getE_map {α β : Type} {f : β → List PV} {l : List β} {i : Nat} {x : β} (h : l[i]? = some x) (K : List PV → Option α) : getE (l.map f) (i : Int) K = K (f x) :=
  getE_at (by rw [List.getElem?_map, h]; rfl) K

theorem nth_10 {α : Type} (d a0 a1 a2 a3 a4 a5 a6 a7 a8 a9 a10 : α) (l : List α) : nth d (a0 :: a1 :: a2 :: a3 :: a4 :: a5 :: a6 :: a7 :: a8 :: a9 :: a10 :: l) 10 = a10 := rfl
theorem tk10 (t : Tk) : nth PV.nilp t.pv 10 = PV.int .i64 t.st := rfl
theorem c_43 {r : Rf} (h : RfOk r) : denC E 43 [AV.agg r.pv] [] = some ([RV.p (PV.bool false)], []) := by
  rw [denC_eq, r43, c_MValid h]
  rfl
theorem l_Config (rs : List Rf) (h : ∀ r, r ∈ rs → RfOk r) : ∀ m k : Nat, k + m = rs.length → rs.length ≤ 1000 → lp E (denC E) 76 0 [AV.undef, AV.fn 43 []] 0 { vals := [AV.sl 4 (rs.map Rf.pv), AV.int .i64 (rs.length : Nat), AV.int .i64 (k : Nat)], blks := [] } = some (Ex.exit 0, { vals := [], blks := [] }) := by
  intro m
  induction m with
  | zero =>
    intro k hk _
    rw [r76_0a, ltF (by omega)]
    rfl
  | succ m ih =>
    intro k hk h6
    obtain ⟨r, hr⟩ : ∃ r, rs[k]? = some r := ⟨_, List.getElem?_eq_getElem (by omega)⟩
    rw [r76_0a, ltT (by omega), getE_map hr]
    simp only [SB, Nat.reduceAdd]
    rw [c_43 (h r (List.mem_of_getElem? hr))]
    simp only [SB, Nat.reduceAdd]
    rw [w64 (n := (k : Int) + 1) (by omega)]
    rw [show ((k : Int) + 1) = ((k + 1 : Nat) : Int) by omega]
    exact ih (k + 1) (by omega) (by omega)
theorem c_Config {rs : List Rf} (hl : rs.length ≤ 8) (h : ∀ r, r ∈ rs → RfOk r) : denC E 19 [AV.sl 4 (rs.map Rf.pv)] [] = some ([RV.p (PV.int .i64 0)], []) := by
  have e := l_Config rs h rs.length 0 (by omega) (by omega)
  have e76 : denC E 76 [AV.sl 4 (rs.map Rf.pv), AV.fn 43 []] [] = some ([RV.p (PV.int .i64 (-1))], []) := by
    rw [denC_eq, r76a, List.length_map]
    exact (congrArg (fun x => bnd x _) e).trans rfl
  have e42 : denC E 42 [AV.sl 4 (rs.map Rf.pv), AV.fn 43 []] [] = some ([RV.p (PV.bool false)], []) := by
    rw [denC_eq, r42a, e76]
    rfl
  rw [denC_eq, r19, List.length_map, ltF (by omega), e42]
  rfl

theorem c_63 {tm : Int} {t : Tk} (h : TkOk tm t) : denC E 63 [AV.agg t.pv, AV.t (.ptr 0 0)] [Blk.box [AV.int .i64 tm]] = some ([RV.p (PV.bool false)], [Blk.box [AV.int .i64 tm]]) := by
  rw [denC_eq, r63]
  rcases h with ⟨h1, _⟩ | ⟨h1, h2, _⟩
  · rw [h1]
    rfl
  · rw [h1, ltF h2.2.1]
    rfl
theorem l_Times {tm : Int} (ts : List Tk) (h : ∀ t, t ∈ ts → TkOk tm t) : ∀ m k : Nat, k + m = ts.length → ts.length ≤ 1000 → lp E (denC E) 90 1 [AV.undef, AV.fn 63 [.ptr 0 0]] 0 { vals := [AV.sl 11 (ts.map Tk.pv), AV.int .i64 (ts.length : Nat), AV.int .i64 (k : Nat)], blks := [Blk.box [AV.int .i64 tm]] } = some (Ex.exit 0, { vals := [], blks := [Blk.box [AV.int .i64 tm]] }) := by
  intro m
  induction m with
  | zero =>
    intro k hk _
    rw [r90_0a, ltF (by omega)]
    rfl
  | succ m ih =>
    intro k hk h6
    obtain ⟨t, ht⟩ : ∃ t, ts[k]? = some t := ⟨_, List.getElem?_eq_getElem (by omega)⟩
    rw [r90_0a, ltT (by omega), getE_map ht]
    simp only [SB, Nat.reduceAdd, tk10, nth_10]
    rw [c_63 (h t (List.mem_of_getElem? ht))]
    simp only [SB, Nat.reduceAdd]
    rw [w64 (n := (k : Int) + 1) (by omega)]
    rw [show ((k : Int) + 1) = ((k + 1 : Nat) : Int) by omega]
    exact ih (k + 1) (by omega) (by omega)
theorem c_Times {tm : Int} {ts : List Tk} (hl : ts.length ≤ 8) (h : ∀ t, t ∈ ts → TkOk tm t) : denC E 62 [AV.sl 11 (ts.map Tk.pv), AV.fn 63 [.ptr 0 0]] [Blk.box [AV.int .i64 tm]] = some ([RV.p (PV.bool false)], [Blk.box [AV.int .i64 tm]]) := by
  have e := l_Times ts h ts.length 0 (by omega) (by omega)
  have e90 : denC E 90 [AV.sl 11 (ts.map Tk.pv), AV.fn 63 [.ptr 0 0]] [Blk.box [AV.int .i64 tm]] = some ([RV.p (PV.int .i64 (-1))], [Blk.box [AV.int .i64 tm]]) := by
    rw [denC_eq, r90a, List.length_map]
    exact (congrArg (fun x => bnd x _) e).trans rfl
  rw [denC_eq, r62a, e90]
  rfl

abbrev Es := Int × Int × Int × Int × Int
abbrev Es.pv (e : Es) : List PV := [PV.int .i64 e.1, PV.int .i64 e.2.1, PV.int .i64 e.2.2.1, PV.int .i64 e.2.2.2.1, PV.int .i64 e.2.2.2.2]
def EsOk (tm : Int) (e : Es) : Prop := Near e.1 e.2.1 ∧ 0 ≤ e.2.2.1 ∧ e.2.2.1 ≤ 200000000 ∧ 0 ≤ e.2.2.2.1 ∧ e.2.2.2.1 ≤ tm

theorem c_check {tm : Int} (ht : 0 ≤ tm ∧ tm ≤ 1000) {rs : List Rf} {ts : List Tk} {e : Es} (hl : rs.length ≤ 8) (hr : ∀ r, r ∈ rs → RfOk r) (hts : ts.length = rs.length) (h : ∀ t, t ∈ ts → TkOk tm t) (he : EsOk tm e) :
    denC E 34 [AV.sl 4 (rs.map Rf.pv), AV.int .i64 10, AV.sl 11 (ts.map Tk.pv), AV.agg e.pv, AV.int .i64 tm] [] = some ([RV.p (PV.int .i64 0)], []) := by
  obtain ⟨h1, h2, h3, h4, h5⟩ := he
  rw [denC_eq, r34, c_Config hl hr]
  simp only [SB, Nat.reduceAdd, List.length_map]
  rw [hts, c_times (by omega) (by omega)]
  simp only [SB, Nat.reduceAdd]
  rw [show (((rs.length : Nat) : Int) != ((rs.length : Nat) : Int)) = false by simp, ltF h2, ltF h3, c_times (by omega) (by omega), c_FValid h1, ltF h5, c_Times (by omega) h]
  rfl

end Go.Proofs.YtpnpdkgdgfkpfaaGreatDoor.Vm

/- Contracts of vote.Clique and estimate.Votes. -/
namespace Go.Proofs.YtpnpdkgdgfkpfaaGreatDoor.Vm
set_option linter.unusedVariables false
set_option linter.unusedSimpArgs false

theorem natsK_get {ms : List Nat} {i k : Nat} (h : ms[i]? = some k) : (natsK ms)[i]? = some [PV.int .i64 (k : Int)] := by
  unfold natsK
  rw [List.getElem?_map, h]
  rfl

theorem l_Cl2 (fs : List Fq) (hf : ∀ f, f ∈ fs → NwOk f) (M Y : List (List PV)) (X : List (List PV)) (hX : ∀ (j : Nat) e, X[j]? = some e → ∃ k : Nat, k < fs.length ∧ e = [PV.int .i64 (k : Int)]) (a : Nat) (ha : a < fs.length) (x10 x11 : Int) (hl : X.length ≤ 1000) :
    ∀ m j : Nat, j + m = X.length → lp E (denC E) 119 0 [] 2 { vals := [AV.sl 4 (fs.map Fq.pv), AV.sl 1 M, AV.int .i64 (a : Nat), AV.sl 1 Y, AV.int .i64 x10, AV.int .i64 x11, AV.sl 1 X, AV.int .i64 (X.length : Nat), AV.int .i64 (j : Nat)], blks := [] } = some (Ex.exit 2, { vals := [AV.sl 4 (fs.map Fq.pv), AV.sl 1 M, AV.sl 1 Y, AV.int .i64 x10, AV.int .i64 x11], blks := [] }) ∨
      lp E (denC E) 119 0 [] 2 { vals := [AV.sl 4 (fs.map Fq.pv), AV.sl 1 M, AV.int .i64 (a : Nat), AV.sl 1 Y, AV.int .i64 x10, AV.int .i64 x11, AV.sl 1 X, AV.int .i64 (X.length : Nat), AV.int .i64 (j : Nat)], blks := [] } = some (Ex.ret, { vals := [AV.bool false], blks := [] }) := by
  intro m
  induction m with
  | zero =>
    intro j hj
    rw [r119_2, ltF (by omega)]
    exact .inl rfl
  | succ m ih =>
    intro j hj
    obtain ⟨e, he⟩ : ∃ e, X[j]? = some e := ⟨_, List.getElem?_eq_getElem (by omega)⟩
    obtain ⟨k, hk, rfl⟩ := hX j e he
    obtain ⟨f, hfa⟩ : ∃ f, fs[a]? = some f := ⟨_, List.getElem?_eq_getElem ha⟩
    obtain ⟨g, hga⟩ : ∃ g, fs[k]? = some g := ⟨_, List.getElem?_eq_getElem hk⟩
    rw [r119_2, ltT (by omega), getE_at he]
    simp only [SB, Nat.reduceAdd]
    rw [getE_map hfa]
    simp only [SB, Nat.reduceAdd]
    rw [getE_map hga]
    simp only [SB, Nat.reduceAdd]
    rw [c_Agree (hf f (List.mem_of_getElem? hfa)) (hf g (List.mem_of_getElem? hga))]
    simp only [SB, Nat.reduceAdd]
    cases leB (boxV f.2.1 f.2.2.1 g.2.1 g.2.2.1) (f.2.2.2 + g.2.2.2) with
    | false => exact .inr rfl
    | true =>
      rw [w64 (n := (j : Int) + 1) (by omega), show ((j : Int) + 1) = ((j + 1 : Nat) : Int) by omega]
      exact ih (j + 1) (by omega)

theorem l_Cl0 (fs : List Fq) (hf : ∀ f, f ∈ fs → NwOk f) (ms : List Nat) (hm : ∀ k, k ∈ ms → k < fs.length) (hl : ms.length ≤ 1000) :
    ∀ m i : Nat, i + m = ms.length → lp E (denC E) 119 0 [] 0 { vals := [AV.sl 4 (fs.map Fq.pv), AV.sl 1 (natsK ms), AV.sl 1 (natsK ms), AV.int .i64 (ms.length : Nat), AV.int .i64 (i : Nat)], blks := [] } = some (Ex.exit 0, { vals := [], blks := [] }) ∨
      lp E (denC E) 119 0 [] 0 { vals := [AV.sl 4 (fs.map Fq.pv), AV.sl 1 (natsK ms), AV.sl 1 (natsK ms), AV.int .i64 (ms.length : Nat), AV.int .i64 (i : Nat)], blks := [] } = some (Ex.ret, { vals := [AV.bool false], blks := [] }) := by
  have hlen : (natsK ms).length = ms.length := by simp [natsK]
  intro m
  induction m with
  | zero =>
    intro i hi
    rw [r119_0, ltF (by omega)]
    exact .inl rfl
  | succ m ih =>
    intro i hi
    obtain ⟨a, ha⟩ : ∃ a, ms[i]? = some a := ⟨_, List.getElem?_eq_getElem (by omega)⟩
    have haL := hm a (List.mem_of_getElem? ha)
    rw [r119_0, ltT (by omega), getE_at (natsK_get ha)]
    simp only [SB, Nat.reduceAdd, List.length_map]
    rw [ltF (by omega : (0 : Int) ≤ (a : Int)), leF (by omega : (a : Int) < (fs.length : Nat))]
    simp only [SB, Nat.reduceAdd]
    -- the test on the member ahead
    obtain ⟨u, hu⟩ : ∃ u : Bool, (ctl (ltB 0 (i : Int)) (getE (natsK ms) (IntKind.i64.wrap ((i : Int) - 1)) fun c_1 => ctl (okCs [Sh.int .i64] c_1) (some (leB (a : Int) (nth PV.nilp c_1 0).toInt)) none) (some false)) = some u := by
      cases i with
      | zero => exact ⟨false, rfl⟩
      | succ i =>
        obtain ⟨b, hb⟩ : ∃ b, ms[i]? = some b := ⟨_, List.getElem?_eq_getElem (by omega)⟩
        rw [ltT (by omega), w64 (by omega), show (((i + 1 : Nat) : Int) - 1) = (i : Int) by omega, getE_at (natsK_get hb)]
        exact ⟨_, rfl⟩
    rw [hu]
    simp only [SB, Nat.reduceAdd]
    cases u with
    | true => exact .inr rfl
    | false =>
      simp only [SB, Nat.reduceAdd]
      rw [w64 (n := (i : Int) + 1) (by omega), leT (by omega : (0 : Int) ≤ (i : Int) + 1), leT (by rw [hlen]; omega : (i : Int) + 1 ≤ ((natsK ms).length : Int))]
      simp only [SB, Nat.reduceAdd]
      have hX : ∀ (j : Nat) e, (cutI (natsK ms) 0 ((i : Int) + 1))[j]? = some e → ∃ k : Nat, k < fs.length ∧ e = [PV.int .i64 (k : Int)] := fun j e he => by
        have he2 : e ∈ natsK ms := List.mem_of_mem_take (List.mem_of_mem_drop (List.mem_of_getElem? he))
        unfold natsK at he2
        obtain ⟨k, hk, rfl⟩ := List.mem_map.1 he2
        exact ⟨k, hm k hk, rfl⟩
      have hXl : (cutI (natsK ms) 0 ((i : Int) + 1)).length ≤ 1000 := by
        unfold cutI
        simp [hlen]
        omega
      rcases l_Cl2 fs hf (natsK ms) (natsK ms) _ hX a haL (ms.length : Nat) (i : Nat) hXl _ 0 (Nat.zero_add _) with h2 | h2
      · have h2 := h2
        rw [show (((0 : Nat) : Int)) = 0 from rfl] at h2
        rw [h2]
        simp only [SB, Nat.reduceAdd]
        rw [w64 (n := (i : Int) + 1) (by omega), show ((i : Int) + 1) = ((i + 1 : Nat) : Int) by omega]
        exact ih (i + 1) (by omega)
      · rw [show (((0 : Nat) : Int)) = 0 from rfl] at h2
        rw [h2]
        exact .inr rfl

theorem c_Clique {fs : List Fq} (hf : ∀ f, f ∈ fs → NwOk f) {ms : List Nat} (hm : ∀ k, k ∈ ms → k < fs.length) (hl : ms.length ≤ 1000) : ∃ b, denC E 119 [AV.sl 4 (fs.map Fq.pv), AV.sl 1 (natsK ms)] [] = some ([RV.p (PV.bool b)], []) ∧ (ms = [] → b = true) := by
  have hlen : (natsK ms).length = ms.length := by simp [natsK]
  rw [denC_eq, r119, hlen]
  have e := l_Cl0 fs hf ms hm hl ms.length 0 (by omega)
  rw [show (((0 : Nat) : Int)) = 0 from rfl] at e
  cases ms with
  | nil =>
    rcases e with e | e
    · exact ⟨true, (congrArg (fun x => bnd x _) e).trans rfl, fun _ => rfl⟩
    · rw [r119_0, ltF (by simp)] at e
      cases e
  | cons x ms =>
    rcases e with e | e
    · exact ⟨true, (congrArg (fun x => bnd x _) e).trans rfl, fun _ => rfl⟩
    · exact ⟨false, (congrArg (fun x => bnd x _) e).trans rfl, fun h => by cases h⟩

theorem run_askB {F : Fun} {f : Nat} {a : List AV} {v : Bool} (h : F f a [] = some ([RV.p (PV.bool v)], [])) (K : Bool → Ask) : (Ask.bool f a K).run F = (K v).run F := by
  unfold Ask.bool
  simp only [Ask.run]
  rw [h]
theorem run_askI {F : Fun} {f : Nat} {a : List AV} {v : Int} (h : F f a [] = some ([RV.p (PV.int .i64 v)], [])) (K : Int → Ask) : (Ask.int f a K).run F = (K v).run F := by
  unfold Ask.int
  simp only [Ask.run]
  rw [h]
theorem isTrk_pv (t : Tk) : isTrk t.pv = true := rfl

theorem q_nows {tm : Int} (ht : 0 ≤ tm ∧ tm ≤ 1000) {K : List Int → List Int → List (List PV) → Ask} : ∀ (rs : List Rf) (ts : List Tk), (∀ r, r ∈ rs → RfOk r) → (∀ t, t ∈ ts → TkOk tm t) → ∀ (i : Int) (is0 cs0 : List Int) (fs0 : List (List PV)),
    ∃ (is cs : List Int) (fs : List Fq), (nowsA 67 tm 10 (rs.map Rf.pv) (ts.map Tk.pv) i is0 cs0 fs0 K).run (denC E) = (K (is0 ++ is) (cs0 ++ cs) (fs0 ++ fs.map Fq.pv)).run (denC E) ∧ is.length = fs.length ∧ cs.length = fs.length ∧ fs.length ≤ rs.length ∧ (∀ f, f ∈ fs → NwOk f) ∧ ∀ c, c ∈ cs → 0 ≤ c ∧ c < 8
  | [], ts, _, _, i, is0, cs0, fs0 => ⟨[], [], [], by cases ts <;> simp [nowsA], rfl, rfl, Nat.le_refl _, (fun f hf => by cases hf), (fun c hc => by cases hc)⟩
  | r :: rs, [], _, _, i, is0, cs0, fs0 => ⟨[], [], [], by simp [nowsA], rfl, rfl, Nat.zero_le _, (fun f hf => by cases hf), (fun c hc => by cases hc)⟩
  | r :: rs, t :: ts, hr, h, i, is0, cs0, fs0 => by
    obtain ⟨f, ok, e, hok⟩ := c_now ht (h t (List.mem_cons_self ..))
    simp only [List.map_cons, nowsA]
    rw [isTrk_pv]
    simp only [cond_true, Ask.run]
    rw [e]
    cases ok with
    | true =>
      obtain ⟨is, cs, fs, h1, h2, h3, h4, h5, h6⟩ := q_nows ht rs ts (fun x hx => hr x (List.mem_cons_of_mem _ hx)) (fun x hx => h x (List.mem_cons_of_mem _ hx)) (i + 1) (is0 ++ [i]) (cs0 ++ [r.1]) (fs0 ++ [f.pv])
      refine ⟨i :: is, r.1 :: cs, f :: fs, ?_, by simp [h2], by simp [h3], by simp [h4], fun x hx => ?_, fun c hc => ?_⟩
      · simpa [List.append_assoc] using h1
      · rcases List.mem_cons.1 hx with rfl | hx
        · exact hok rfl
        · exact h5 x hx
      · rcases List.mem_cons.1 hc with rfl | hc
        · have := hr r (List.mem_cons_self ..)
          exact ⟨this.1, by have := this.2.1; omega⟩
        · exact h6 c hc
    | false =>
      obtain ⟨is, cs, fs, h1, h2, h3, h4, h5, h6⟩ := q_nows ht rs ts (fun x hx => hr x (List.mem_cons_of_mem _ hx)) (fun x hx => h x (List.mem_cons_of_mem _ hx)) (i + 1) is0 cs0 fs0
      exact ⟨is, cs, fs, h1, h2, h3, Nat.le_trans h4 (by simp), h5, h6⟩

theorem q_self {K : Ask} : ∀ (cs : List Int) (fs : List Fq), cs.length = fs.length → (∀ f, f ∈ fs → NwOk f) → (∀ c, c ∈ cs → 0 ≤ c ∧ c < 8) → (selfA 96 cs (fs.map Fq.pv) K).run (denC E) = K.run (denC E)
  | [], [], _, _, _ => rfl
  | [], _ :: _, h, _, _ => by simp at h
  | _ :: _, [], h, _, _ => by simp at h
  | c :: cs, f :: fs, hl, hf, hc => by
    have h1 := hc c (List.mem_cons_self ..)
    simp only [List.map_cons, selfA]
    rw [decide_eq_true h1.1, decide_eq_true h1.2]
    simp only [Bool.and_true, cond_true]
    rw [run_askB (c_Self (hf f (List.mem_cons_self ..)))]
    exact q_self cs fs (by simpa using hl) (fun x hx => hf x (List.mem_cons_of_mem _ hx)) fun x hx => hc x (List.mem_cons_of_mem _ hx)

theorem cmp_le (zs : List Int) : (Lib.compact zs).length ≤ zs.length := by
  unfold Lib.compact Lib.compactUpTo
  rw [List.length_map]
  exact Nat.le_trans (List.length_filter_le _ _) (by simp)
theorem setP_len (n : Nat) (hn : n ≤ 8) (cs : List Int) (m : Nat) : (setP n cs m).1.length ≤ 8 ∧ (setP n cs m).2.length ≤ 8 := by
  have h1 : (maskL n m).length ≤ n := by
    have := List.length_filter_le (fun k => m.testBit k) (List.range n)
    simpa [maskL] using this
  refine ⟨Nat.le_trans h1 hn, ?_⟩
  have h2 := cmp_le (((maskL n m).map fun k => cs.getD k 0).mergeSort fun x y => decide (x ≤ y))
  rw [List.length_mergeSort, List.length_map] at h2
  exact Nat.le_trans h2 (Nat.le_trans h1 hn)
theorem voteP_lens {ss : List (List Nat × List Int)} (h : ∀ s, s ∈ ss → s.1.length ≤ 8 ∧ s.2.length ≤ 8) : (voteP ss).1.length ≤ 8 ∧ (voteP ss).2.1.length ≤ 8 := by
  unfold voteP
  dsimp only
  split
  · exact ⟨Nat.zero_le _, Nat.zero_le _⟩
  · dsimp only
    generalize (orderV ss)[0]! = i
    rw [List.getD]
    cases hi : ss[i]? with
    | none => exact ⟨Nat.zero_le _, Nat.zero_le _⟩
    | some s => exact h s (List.mem_of_getElem? hi)

theorem q_sets {fs : List Fq} (hf : ∀ f, f ∈ fs → NwOk f) (h8 : fs.length ≤ 8) (cs : List Int) {K : List (List Nat × List Int) → Ask} : ∀ (k m : Nat) (acc : List (List Nat × List Int)),
    ∃ ss, (setsA 119 fs.length cs (fs.map Fq.pv) k m acc K).run (denC E) = (K (acc ++ ss)).run (denC E) ∧ (m = 0 → 0 < k → ss ≠ []) ∧ ∀ s, s ∈ ss → s.1.length ≤ 8 ∧ s.2.length ≤ 8
  | 0, m, acc => ⟨[], by simp [setsA], (fun _ h => by omega), (fun s hs => by cases hs)⟩
  | k + 1, m, acc => by
    have hlen : (maskL fs.length m).length ≤ fs.length := by
      have := List.length_filter_le (fun k => m.testBit k) (List.range fs.length)
      simpa [maskL] using this
    obtain ⟨b, hb, hb0⟩ := c_Clique hf (ms := maskL fs.length m) (fun x hx => List.mem_range.1 (List.mem_filter.1 hx).1) (by omega)
    unfold setsA
    rw [run_askB hb]
    cases b with
    | true =>
      obtain ⟨ss, h1, _, h3⟩ := q_sets hf h8 cs (K := K) k (m + 1) (acc ++ [setP fs.length cs m])
      refine ⟨setP fs.length cs m :: ss, by simpa [List.append_assoc] using h1, (fun _ _ => by simp), fun s hs => ?_⟩
      rcases List.mem_cons.1 hs with rfl | hs
      · exact setP_len _ h8 _ _
      · exact h3 s hs
    | false =>
      obtain ⟨ss, h1, _, h3⟩ := q_sets hf h8 cs (K := K) k (m + 1) acc
      refine ⟨ss, h1, fun hm => ?_, h3⟩
      subst hm
      have := hb0 (by simp [maskL])
      cases this

theorem c_Votes {tm : Int} (ht : 0 ≤ tm ∧ tm ≤ 1000) {rs : List Rf} {ts : List Tk} (hl : rs.length ≤ 8) (hr : ∀ r, r ∈ rs → RfOk r) (hts : ts.length = rs.length) (h : ∀ t, t ∈ ts → TkOk tm t) :
    ∃ (ms cs : List Int) (tie : Bool) (is : List Int) (fs : List Fq), denC E 36 [AV.sl 4 (rs.map Rf.pv), AV.sl 11 (ts.map Tk.pv), AV.int .i64 tm, AV.int .i64 10] [] = some ([RV.agg [PV.sl 1 (intV ms), PV.sl 1 (intV cs), PV.bool tie], RV.p (PV.sl 1 (intV is)), RV.p (PV.sl 4 (fs.map Fq.pv))], []) ∧ is.length = fs.length ∧ fs.length ≤ 8 ∧ (∀ f, f ∈ fs → NwOk f) ∧ ms.length ≤ 8 ∧ cs.length ≤ 8 := by
  have key : ∃ (ms cs : List Int) (tie : Bool) (is : List Int) (fs : List Fq), (votesT 19 60 67 96 119 [AV.sl 4 (rs.map Rf.pv), AV.sl 11 (ts.map Tk.pv), AV.int .i64 tm, AV.int .i64 10]).run (denC E) = some [RV.agg [PV.sl 1 (intV ms), PV.sl 1 (intV cs), PV.bool tie], RV.p (PV.sl 1 (intV is)), RV.p (PV.sl 4 (fs.map Fq.pv))] ∧ is.length = fs.length ∧ fs.length ≤ 8 ∧ (∀ f, f ∈ fs → NwOk f) ∧ ms.length ≤ 8 ∧ cs.length ≤ 8 := by
    simp only [votesT]
    rw [run_askI (c_Config hl hr)]
    have hb : Nat.beq (rs.map Rf.pv).length (ts.map Tk.pv).length = true := by simp [hts]
    have hle : Nat.ble (rs.map Rf.pv).length 8 = true := by simpa using hl
    rw [hb, hle]
    simp only [beq_self_eq_true, Bool.and_self, cond_true]
    rw [run_askB (c_times (by omega) (by omega))]
    simp only [cond_true]
    obtain ⟨is, cs, fs, h1, h2, h3, h4, h5, h6⟩ := q_nows ht (K := fun is cs fs => selfA 96 cs fs (setsA 119 fs.length cs fs (2 ^ fs.length) 0 [] fun ss => cond ss.isEmpty .none <| .ret (some [.agg [.sl 1 (intV ((voteP ss).1.map fun k => is.getD k 0)), .sl 1 (intV (voteP ss).2.1), .bool (voteP ss).2.2], .p (.sl 1 (intV is)), .p (.sl 4 fs)]))) rs ts hr h 0 [] [] []
    rw [h1]
    simp only [List.nil_append]
    rw [q_self cs fs h3 h5 h6, List.length_map]
    obtain ⟨ss, g1, g2, g3⟩ := q_sets h5 (by omega) cs (K := fun ss => cond ss.isEmpty .none <| .ret (some [.agg [.sl 1 (intV ((voteP ss).1.map fun k => is.getD k 0)), .sl 1 (intV (voteP ss).2.1), .bool (voteP ss).2.2], .p (.sl 1 (intV is)), .p (.sl 4 (fs.map Fq.pv))])) (2 ^ fs.length) 0 []
    rw [g1]
    have hne := g2 rfl (Nat.two_pow_pos _)
    simp only [List.nil_append]
    have hem : ss.isEmpty = false := by
      cases ss with
      | nil => exact absurd rfl hne
      | cons => rfl
    rw [hem]
    have hv := voteP_lens g3
    exact ⟨_, _, _, is, fs, rfl, h2, by omega, h5, by rw [List.length_map]; exact hv.1, hv.2⟩
  obtain ⟨ms, cs, tie, is, fs, k1, k2⟩ := key
  refine ⟨ms, cs, tie, is, fs, ?_, k2⟩
  rw [denC_eq]
  have : funK E (denC E) 36 [AV.sl 4 (rs.map Rf.pv), AV.sl 11 (ts.map Tk.pv), AV.int .i64 tm, AV.int .i64 10] [] = match (votesT 19 60 67 96 119 [AV.sl 4 (rs.map Rf.pv), AV.sl 11 (ts.map Tk.pv), AV.int .i64 tm, AV.int .i64 10]).run (denC E) with | some rs => some (rs, []) | none => none := by kernel_rfl
  rw [this, k1]

end Go.Proofs.YtpnpdkgdgfkpfaaGreatDoor.Vm

/- Contracts of estimate.take. -/
namespace Go.Proofs.YtpnpdkgdgfkpfaaGreatDoor.Vm
set_option linter.unusedVariables false
set_option linter.unusedSimpArgs false

theorem r64nil (F : Fun) : funK E F 64 [AV.sl 11 []] [] = both (some ([RV.own 11 []], [])) (some ([RV.own 11 []], [])) := by kernel_rfl
theorem c_TClone {ts : List Tk} (h : ts.length ≤ 1000) : denC E 64 [AV.sl 11 (ts.map Tk.pv)] [] = some ([RV.own 11 (ts.map Tk.pv)], []) := by
  rw [denC_eq]
  cases ts with
  | nil =>
    rw [List.map_nil, r64nil, both_same]
  | cons t ts =>
    rw [List.map_cons, r64c, List.nil_append]
    have e : leN ((0 + (t.pv :: ts.map Tk.pv).length) * 88) 140737488355328 = true := by
      simp only [List.length_cons, List.length_map, decide_eq_true_eq] at h ⊢
      omega
    rw [e]
    rfl

theorem nth_tk {ts : List Tk} {n : Nat} {t : Tk} (h : ts[n]? = some t) : nth [] (ts.map Tk.pv) n = t.pv := by
  rw [nth_eq, List.getD, List.getElem?_map, h]
  rfl
theorem setEs_tk {ts : List Tk} {n : Nat} (h : n < ts.length) (t' : Tk) : setEs (ts.map Tk.pv) n 0 t'.pv = (ts.set n t').map Tk.pv := by
  obtain ⟨t, ht⟩ : ∃ t, ts[n]? = some t := ⟨_, List.getElem?_eq_getElem h⟩
  unfold setEs
  rw [nth_tk ht]
  have e : lay t.pv 0 t'.pv = t'.pv := rfl
  rw [e, upd_eq]
  rw [List.map_set]

def SgOk (tm : Int) (n : Nat) (x : Sig) : Prop := x.k = 1 ∧ x.t = tm ∧ 0 ≤ x.s ∧ x.s < n ∧ Near x.a x.b ∧ 1 ≤ x.c ∧ x.c ≤ 200

theorem set_ok {tm : Int} {ts : List Tk} (h : ∀ t, t ∈ ts → TkOk tm t) (n : Nat) {t' : Tk} (ht : TkOk tm t') : ∀ t, t ∈ ts.set n t' → TkOk tm t := fun t hm => by
  rcases List.mem_or_eq_of_mem_set hm with hm | rfl
  · exact h t hm
  · exact ht

theorem l_take0 {tm : Int} (htm : 1 ≤ tm ∧ tm ≤ 1000) {rs : List Rf} (hr : ∀ r, r ∈ rs → RfOk r) (hl : rs.length ≤ 8) (xs : List Sig) (hx : ∀ x, x ∈ xs → SgOk tm rs.length x) (hxl : xs.length ≤ 1000) :
    ∀ m j : Nat, j + m = xs.length → ∀ ts : List Tk, ts.length = rs.length → (∀ t, t ∈ ts → TkOk tm t) → ∃ ts' : List Tk, ts'.length = rs.length ∧ (∀ t, t ∈ ts' → TkOk tm t) ∧
      lp E (denC E) 35 0 [] 0 { vals := [AV.sl 4 (rs.map Rf.pv), AV.int .i64 tm, AV.sl 6 (xs.map sgC), AV.int .i64 (xs.length : Nat), AV.int .i64 (j : Nat)], blks := [Blk.arr 11 (ts.map Tk.pv)] } = some (Ex.exit 0, { vals := [AV.sl 4 (rs.map Rf.pv), AV.int .i64 tm], blks := [Blk.arr 11 (ts'.map Tk.pv)] }) := by
  intro m
  induction m with
  | zero =>
    intro j hj ts h1 h2
    refine ⟨ts, h1, h2, ?_⟩
    rw [r35_0, ltF (by omega)]
    rfl
  | succ m ih =>
    intro j hj ts h1 h2
    obtain ⟨x, hxj⟩ : ∃ x, xs[j]? = some x := ⟨_, List.getElem?_eq_getElem (by omega)⟩
    obtain ⟨g1, g2, g3, g4, g5, g6, g7⟩ := hx x (List.mem_of_getElem? hxj)
    obtain ⟨n, hn⟩ : ∃ n : Nat, x.s = (n : Int) := ⟨x.s.toNat, by omega⟩
    rw [hn] at g4
    obtain ⟨r, hrn⟩ : ∃ r, rs[n]? = some r := ⟨_, List.getElem?_eq_getElem (by omega)⟩
    obtain ⟨t, htn⟩ : ∃ t, ts[n]? = some t := ⟨_, List.getElem?_eq_getElem (by omega)⟩
    obtain ⟨t', e, hst, hok⟩ := c_MStep (by omega) (hr r (List.mem_of_getElem? hrn)) (h2 t (List.mem_of_getElem? htn)) (f := (x.t, x.a, x.b, x.c)) ⟨by show 1 ≤ x.t; omega, by show x.t ≤ tm; omega, g5, g6, g7⟩
    rw [r35_0, ltT (by omega), getE_map hxj]
    simp only [SB, Nat.reduceAdd]
    have hc : (x.k != 1 || x.t != tm || ltB x.s 0 || leB ((rs.map Rf.pv).length : Int) x.s) = false := by
      rw [hn, ltF (by omega : (0 : Int) ≤ (n : Int)), List.length_map, leF (by omega : (n : Int) < (rs.length : Nat))]
      simp [g1, g2]
    rw [hc, hn]
    simp only [SB, Nat.reduceAdd]
    rw [getE_map hrn]
    simp only [SB, Nat.reduceAdd]
    rw [List.length_map, leT (by omega : (0 : Int) ≤ (n : Int)), ltT (by omega : (n : Int) < (ts.length : Nat)), Int.toNat_natCast, nth_tk htn]
    simp only [SB, Nat.reduceAdd, nth_10, tk10]
    have hok1 : okCs [Sh.int .i64, Sh.int .i64, Sh.int .i64, Sh.int .i64, Sh.int .i64, Sh.int .i64, Sh.int .i64, Sh.int .i64, Sh.bool, Sh.int .i64, Sh.int .i64] (List.take 11 (List.drop 0 t.pv)) = true := rfl
    rw [hok1, ctl_true]
    rw [hst]
    simp only [SB, Nat.reduceAdd, nth_10, tk10]
    have hs : setEs (ts.map Tk.pv) n 0 [PV.int .i64 t'.l.1, PV.int .i64 t'.l.2.1, PV.int .i64 t'.l.2.2.1, PV.int .i64 t'.l.2.2.2, PV.int .i64 t'.g.1, PV.int .i64 t'.g.2.1, PV.int .i64 t'.g.2.2.1, PV.int .i64 t'.g.2.2.2, PV.bool t'.seen, PV.int .i64 t'.same, PV.int .i64 t'.st] = (ts.set n t').map Tk.pv := setEs_tk (by omega) t'
    rw [hs, w64 (n := (j : Int) + 1) (by omega), show ((j : Int) + 1) = ((j + 1 : Nat) : Int) by omega]
    cases he : e == 0 with
    | true => exact ih (j + 1) (by omega) (ts.set n t') (by rw [List.length_set]; exact h1) (set_ok h2 n (hok (by simpa using he)))
    | false => exact ih (j + 1) (by omega) ts h1 h2

theorem l_take2 {tm : Int} (htm : 1 ≤ tm ∧ tm ≤ 1000) {rs : List Rf} (hr : ∀ r, r ∈ rs → RfOk r) (hl : rs.length ≤ 8) :
    ∀ m j : Nat, j + m = rs.length → ∀ ts : List Tk, ts.length = rs.length → (∀ t, t ∈ ts → TkOk tm t) → ∃ ts' : List Tk, ts'.length = rs.length ∧ (∀ t, t ∈ ts' → TkOk tm t) ∧
      lp E (denC E) 35 0 [] 2 { vals := [AV.sl 4 (rs.map Rf.pv), AV.int .i64 tm, AV.int .i64 (rs.length : Nat), AV.int .i64 (j : Nat)], blks := [Blk.arr 11 (ts.map Tk.pv)] } = some (Ex.exit 2, { vals := [], blks := [Blk.arr 11 (ts'.map Tk.pv)] }) := by
  intro m
  induction m with
  | zero =>
    intro j hj ts h1 h2
    refine ⟨ts, h1, h2, ?_⟩
    rw [r35_2, ltF (by omega)]
    rfl
  | succ m ih =>
    intro j hj ts h1 h2
    obtain ⟨r, hrn⟩ : ∃ r, rs[j]? = some r := ⟨_, List.getElem?_eq_getElem (by omega)⟩
    obtain ⟨t, htn⟩ : ∃ t, ts[j]? = some t := ⟨_, List.getElem?_eq_getElem (by omega)⟩
    obtain ⟨t', e, hst, hok⟩ := c_MTick (by omega) (hr r (List.mem_of_getElem? hrn)) (h2 t (List.mem_of_getElem? htn))
    rw [r35_2, ltT (by omega), getE_map hrn]
    simp only [SB, Nat.reduceAdd]
    rw [List.length_map, leT (by omega : (0 : Int) ≤ (j : Int)), ltT (by omega : (j : Int) < (ts.length : Nat)), Int.toNat_natCast, nth_tk htn]
    simp only [SB, Nat.reduceAdd, nth_10, tk10]
    have hok1 : okCs [Sh.int .i64, Sh.int .i64, Sh.int .i64, Sh.int .i64, Sh.int .i64, Sh.int .i64, Sh.int .i64, Sh.int .i64, Sh.bool, Sh.int .i64, Sh.int .i64] (List.take 11 (List.drop 0 t.pv)) = true := rfl
    rw [hok1, ctl_true]
    rw [hst]
    simp only [SB, Nat.reduceAdd, nth_10, tk10]
    have hs : setEs (ts.map Tk.pv) j 0 [PV.int .i64 t'.l.1, PV.int .i64 t'.l.2.1, PV.int .i64 t'.l.2.2.1, PV.int .i64 t'.l.2.2.2, PV.int .i64 t'.g.1, PV.int .i64 t'.g.2.1, PV.int .i64 t'.g.2.2.1, PV.int .i64 t'.g.2.2.2, PV.bool t'.seen, PV.int .i64 t'.same, PV.int .i64 t'.st] = (ts.set j t').map Tk.pv := setEs_tk (by omega) t'
    rw [hs, w64 (n := (j : Int) + 1) (by omega), show ((j : Int) + 1) = ((j + 1 : Nat) : Int) by omega]
    cases he : e == 0 with
    | true => exact ih (j + 1) (by omega) (ts.set j t') (by rw [List.length_set]; exact h1) (set_ok h2 j (hok (by simpa using he)))
    | false => exact ih (j + 1) (by omega) ts h1 h2

theorem c_take {tm : Int} (htm : 1 ≤ tm ∧ tm ≤ 1000) {rs : List Rf} (hr : ∀ r, r ∈ rs → RfOk r) (hl : rs.length ≤ 8) {ts : List Tk} (hts : ts.length = rs.length) (h : ∀ t, t ∈ ts → TkOk tm t) {xs : List Sig} (hx : ∀ x, x ∈ xs → SgOk tm rs.length x) (hxl : xs.length ≤ 1000) :
    ∃ ts' : List Tk, ts'.length = rs.length ∧ (∀ t, t ∈ ts' → TkOk tm t) ∧ denC E 35 [AV.sl 4 (rs.map Rf.pv), AV.sl 11 (ts.map Tk.pv), AV.int .i64 tm, AV.sl 6 (xs.map sgC)] [] = some ([RV.p (PV.sl 11 (ts'.map Tk.pv))], []) := by
  obtain ⟨t1, g1, g2, g3⟩ := l_take0 htm hr hl xs hx hxl xs.length 0 (by omega) ts hts h
  obtain ⟨t2, k1, k2, k3⟩ := l_take2 htm hr hl rs.length 0 (by omega) t1 g1 g2
  refine ⟨t2, k1, k2, ?_⟩
  rw [show (((0 : Nat) : Int)) = 0 from rfl] at g3 k3
  rw [denC_eq, r35, c_TClone (by omega)]
  simp only [SB, Nat.reduceAdd, List.length_map]
  rw [g3]
  simp only [SB, Nat.reduceAdd, List.length_map]
  rw [g1, k3]
  rfl

end Go.Proofs.YtpnpdkgdgfkpfaaGreatDoor.Vm

/- Contracts of fuse.Fuse and slices.Contains. -/
namespace Go.Proofs.YtpnpdkgdgfkpfaaGreatDoor.Vm
set_option linter.unusedVariables false
set_option linter.unusedSimpArgs false

theorem l_Cont (l : List Int) (v : Int) (hl : l.length ≤ 1000) : ∀ m j : Nat, j + m = l.length → lp E (denC E) 69 0 [] 0 { vals := [AV.sl 1 (intV l), AV.int .i64 v, AV.int .i64 (l.length : Nat), AV.int .i64 (j : Nat)], blks := [] } = some (Ex.exit 0, { vals := [], blks := [] }) ∨ ∃ k : Int, lp E (denC E) 69 0 [] 0 { vals := [AV.sl 1 (intV l), AV.int .i64 v, AV.int .i64 (l.length : Nat), AV.int .i64 (j : Nat)], blks := [] } = some (Ex.ret, { vals := [AV.int .i64 k], blks := [] }) := by
  intro m
  induction m with
  | zero =>
    intro j hj
    rw [r69_0, ltF (by omega)]
    exact .inl rfl
  | succ m ih =>
    intro j hj
    obtain ⟨x, hx⟩ : ∃ x, l[j]? = some x := ⟨_, List.getElem?_eq_getElem (by omega)⟩
    have hg : (intV l)[j]? = some [PV.int .i64 x] := by
      unfold intV
      rw [List.getElem?_map, hx]
      rfl
    rw [r69_0, ltT (by omega), getE_at hg]
    simp only [SB, Nat.reduceAdd]
    cases v == x with
    | true => exact .inr ⟨_, rfl⟩
    | false =>
      rw [w64 (n := (j : Int) + 1) (by omega), show ((j : Int) + 1) = ((j + 1 : Nat) : Int) by omega]
      exact ih (j + 1) (by omega)
theorem c_Contains {l : List Int} (hl : l.length ≤ 1000) (v : Int) : ∃ b, denC E 37 [AV.sl 1 (intV l), AV.int .i64 v] [] = some ([RV.p (PV.bool b)], []) := by
  have hlen : (intV l).length = l.length := by simp [intV]
  have e := l_Cont l v hl l.length 0 (by omega)
  rw [show (((0 : Nat) : Int)) = 0 from rfl] at e
  have e69 : ∃ k : Int, denC E 69 [AV.sl 1 (intV l), AV.int .i64 v] [] = some ([RV.p (PV.int .i64 k)], []) := by
    rw [denC_eq, r69, hlen]
    rcases e with e | ⟨k, e⟩
    · exact ⟨-1, (congrArg (fun x => bnd x _) e).trans rfl⟩
    · exact ⟨k, (congrArg (fun x => bnd x _) e).trans rfl⟩
  obtain ⟨k, e69⟩ := e69
  rw [denC_eq, r37, e69]
  exact ⟨_, rfl⟩

theorem c_floor {n d : Int} (hd : 0 < d) (hn : -9000000000000000000 ≤ n ∧ n ≤ 9000000000000000000) : denC E 103 [AV.int .i64 n, AV.int .i64 d] [] = some ([RV.p (PV.int .i64 (n / d))], []) := by
  rw [denC_eq, r103]
  have hb : -9000000000000000001 ≤ n / d ∧ n / d ≤ 9000000000000000000 := by
    have h1 := Int.mul_ediv_add_emod n d
    have h3 := Int.emod_nonneg n (Int.ne_of_gt hd)
    have h4 := Int.emod_lt_of_pos n hd
    constructor
    · rcases Int.lt_or_le (n / d) (-9000000000000000000) with h | h
      · have h5 : d * (n / d) ≤ d * (-9000000000000000001) := Int.mul_le_mul_of_nonneg_left (by omega) (by omega)
        omega
      · omega
    · rcases Int.lt_or_le 9000000000000000000 (n / d) with h | h
      · have h5 : d * 9000000000000000001 ≤ d * (n / d) := Int.mul_le_mul_of_nonneg_left (by omega) (by omega)
        omega
      · exact h
  have hf := floor_div (n := n) hd
  have hq : n.tdiv d = n / d ∨ n.tdiv d = n / d + 1 := by
    split at hf <;> omega
  have hne : neB d 0 = true := by simp; omega
  simp only [hne, Bool.and_self, ctl_true]
  rw [ctl_dec, w64 (n := n.tdiv d) (by omega), w64 (by omega), ← hf]
  split <;> rfl

theorem c_Half1 {n d : Int} (hd : 1 ≤ d ∧ d ≤ 1000000000) (hn : -1000000000000000000 ≤ n ∧ n ≤ 1000000000000000000) :
    denC E 104 [AV.int .i64 n, AV.int .i64 d] [] = some ([RV.p (PV.int .i64 ((2 * n + d) / (2 * d)))], []) := by
  rw [denC_eq, r104]
  rw [w64 (n := 2 * n) (by omega), w64 (n := 2 * n + d) (by omega), w64 (n := 2 * d) (by omega), c_floor (by omega) (by omega)]
  simp only [SB, Nat.reduceAdd]

theorem c_HalfB {x d : Int} (hd : 0 ≤ d ∧ d ≤ 100000000000000) (hx : -1000 * d ≤ x ∧ x ≤ 1000 * d) : ∃ q e : Int, denC E 73 [AV.int .i64 x, AV.int .i64 d] [] = some ([RV.p (PV.int .i64 q), RV.p (PV.int .i64 e)], []) ∧ -1000 ≤ q ∧ q ≤ 1000 := by
  have hdiv : ∃ q e : Int, denC E 101 [AV.int .i64 x, AV.int .i64 d, AV.fn 104 []] [] = some ([RV.p (PV.int .i64 q), RV.p (PV.int .i64 e)], []) ∧ -1000 ≤ q ∧ q ≤ 1000 := by
    rw [denC_eq, r101b, ltF (by omega : (-1000000000000000000 : Int) ≤ x), ltF (by omega : x ≤ 1000000000000000000)]
    by_cases h1 : d < 1
    · rw [ltT h1]
      exact ⟨0, 1, rfl, by omega, by omega⟩
    · rw [ltF (by omega : (1 : Int) ≤ d)]
      by_cases h2 : 1000000000 < d
      · rw [ltT h2]
        exact ⟨0, 1, rfl, by omega, by omega⟩
      · rw [ltF (by omega : d ≤ 1000000000)]
        simp only [SB, Nat.reduceAdd]
        rw [c_Half1 (by omega) (by omega)]
        refine ⟨(2 * x + d) / (2 * d), 0, rfl, ?_, ?_⟩
        · exact Int.le_ediv_of_mul_le (by omega) (by omega)
        · exact Int.le_of_lt_add_one (Int.ediv_lt_of_lt_mul (by omega) (by omega))
  obtain ⟨q, e, h1, h2⟩ := hdiv
  rw [denC_eq, r73, h1]
  exact ⟨q, e, rfl, h2⟩

theorem c_UpB {n : Int} (hn : 0 ≤ n ∧ n ≤ 1000000000000) (d : Int) : ∃ q e : Int, denC E 72 [AV.int .i64 n, AV.int .i64 d] [] = some ([RV.p (PV.int .i64 q), RV.p (PV.int .i64 e)], []) ∧ 0 ≤ q ∧ q ≤ 1000000000000 := by
  have hdiv : ∃ q e : Int, denC E 101 [AV.int .i64 n, AV.int .i64 d, AV.fn 102 []] [] = some ([RV.p (PV.int .i64 q), RV.p (PV.int .i64 e)], []) ∧ 0 ≤ q ∧ q ≤ 1000000000000 := by
    rw [denC_eq, r101a, ltF (by omega : (-1000000000000000000 : Int) ≤ n), ltF (by omega : n ≤ 1000000000000000000)]
    by_cases h1 : d < 1
    · rw [ltT h1]
      exact ⟨0, 1, rfl, by omega, by omega⟩
    · rw [ltF (by omega : (1 : Int) ≤ d)]
      by_cases h2 : 1000000000 < d
      · rw [ltT h2]
        exact ⟨0, 1, rfl, by omega, by omega⟩
      · rw [ltF (by omega : d ≤ 1000000000)]
        simp only [SB, Nat.reduceAdd]
        have hq1 : -1000000000000 ≤ (0 - n) / d := by
          refine Int.le_ediv_of_mul_le (by omega) ?_
          have : (1000000000000 : Int) * 1 ≤ 1000000000000 * d := Int.mul_le_mul_of_nonneg_left (by omega) (by omega)
          omega
        have hq2 : (0 - n) / d ≤ 0 := Int.le_of_lt_add_one (Int.ediv_lt_of_lt_mul (by omega) (by omega))
        have h102 : denC E 102 [AV.int .i64 n, AV.int .i64 d] [] = some ([RV.p (PV.int .i64 (0 - (0 - n) / d))], []) := by
          rw [denC_eq, r102, w64 (n := 0 - n) (by omega), c_floor (by omega) (by omega)]
          simp only [SB, Nat.reduceAdd]
          rw [w64 (by omega)]
        rw [h102]
        exact ⟨0 - (0 - n) / d, 0, rfl, by omega, by omega⟩
  obtain ⟨q, e, h1, h2⟩ := hdiv
  rw [denC_eq, r72, h1]
  exact ⟨q, e, rfl, h2⟩

theorem c_Weight {e : Int} (he : 1 ≤ e ∧ e ≤ 100000) : ∃ w : Int, denC E 71 [AV.int .i64 e] [] = some ([RV.p (PV.int .i64 w)], []) ∧ 1 ≤ w ∧ w ≤ 1000000000 := by
  have h1 : 1 * 1 ≤ e * e := Int.mul_le_mul he.1 he.1 (by omega) (by omega)
  have h2 : e * e ≤ 100000 * 100000 := Int.mul_le_mul he.2 he.2 (by omega) (by omega)
  rw [denC_eq, r71, ltF he.1, ltF he.2, w64 (n := e * e) (by omega)]
  have hne : neB (e * e) 0 = true := by simp; omega
  have h3 : 0 ≤ Int.tdiv 1000000000 (e * e) := Int.tdiv_nonneg (by omega) (by omega)
  have h4 : Int.tdiv 1000000000 (e * e) ≤ 1000000000 := Int.tdiv_le_self _ (by omega)
  rw [hne, w64 (n := Int.tdiv 1000000000 (e * e)) (by omega)]
  refine ⟨_, rfl, ?_, ?_⟩ <;> unfold maxI <;> split <;> omega
theorem c_fplace (f : Fq) : denC E 75 [AV.agg f.pv] [] = some ([RV.agg [PV.int .i64 f.2.1, PV.int .i64 f.2.2.1]], []) := by
  rw [denC_eq, r75]

theorem l_fcheck (fs : List Fq) (hf : ∀ f, f ∈ fs → NwOk f) (hl : fs.length ≤ 1000) : ∀ m j : Nat, j + m = fs.length → lp E (denC E) 70 0 [] 1 { vals := [AV.sl 4 (fs.map Fq.pv), AV.int .i64 (fs.length : Nat), AV.int .i64 (j : Nat)], blks := [] } = some (Ex.exit 1, { vals := [], blks := [] }) := by
  intro m
  induction m with
  | zero =>
    intro j hj
    rw [r70_1, ltF (by omega)]
    rfl
  | succ m ih =>
    intro j hj
    obtain ⟨f, hfj⟩ : ∃ f, fs[j]? = some f := ⟨_, List.getElem?_eq_getElem (by omega)⟩
    obtain ⟨h1, h2⟩ := hf f (List.mem_of_getElem? hfj)
    obtain ⟨w, hw, hw1, hw2⟩ := c_Weight h2
    rw [r70_1, ltT (by omega), getE_map hfj]
    simp only [SB, Nat.reduceAdd]
    rw [c_fplace]
    simp only [SB, Nat.reduceAdd]
    rw [c_FValid h1, hw]
    simp only [SB, Nat.reduceAdd]
    have hz : (w == 0) = false := by simp; omega
    rw [hz, w64 (n := (j : Int) + 1) (by omega), show ((j : Int) + 1) = ((j + 1 : Nat) : Int) by omega]
    exact ih (j + 1) (by omega)
theorem c_fcheck {fs : List Fq} (hf : ∀ f, f ∈ fs → NwOk f) (hl : fs.length ≤ 8) : denC E 70 [AV.sl 4 (fs.map Fq.pv)] [] = some ([RV.p (PV.int .i64 (if fs.length = 0 then 9 else 0))], []) := by
  have e := l_fcheck fs hf (by omega) fs.length 0 (by omega)
  rw [show (((0 : Nat) : Int)) = 0 from rfl] at e
  rw [denC_eq, r70, List.length_map]
  by_cases h0 : fs.length = 0
  · rw [if_pos h0, h0]
    rfl
  · rw [if_neg h0, show (((fs.length : Nat) : Int) == 0) = false from beq_eq_false_iff_ne.2 (by omega), ltF (by omega : ((fs.length : Nat) : Int) ≤ 8)]
    exact (congrArg (fun x => ctl false _ (ctl false _ (bnd x _))) e).trans rfl

theorem l_F0 (fs : List Fq) (hf : ∀ f, f ∈ fs → NwOk f) (hl : fs.length ≤ 1000) : ∀ m j : Nat, j + m = fs.length → ∀ M : Int, ∃ M' : Int, lp E (denC E) 38 0 [] 0 { vals := [AV.sl 4 (fs.map Fq.pv), AV.int .i64 M, AV.sl 4 (fs.map Fq.pv), AV.int .i64 (fs.length : Nat), AV.int .i64 (j : Nat)], blks := [Blk.box [AV.int .i64 0, AV.int .i64 0]] } = some (Ex.exit 0, { vals := [AV.sl 4 (fs.map Fq.pv), AV.int .i64 M'], blks := [Blk.box [AV.int .i64 0, AV.int .i64 0]] }) := by
  intro m
  induction m with
  | zero =>
    intro j hj M
    refine ⟨M, ?_⟩
    rw [r38_0, ltF (by omega)]
    rfl
  | succ m ih =>
    intro j hj M
    obtain ⟨f, hfj⟩ : ∃ f, fs[j]? = some f := ⟨_, List.getElem?_eq_getElem (by omega)⟩
    obtain ⟨w, hw, _⟩ := c_Weight (hf f (List.mem_of_getElem? hfj)).2
    rw [r38_0, ltT (by omega), getE_map hfj]
    simp only [SB, Nat.reduceAdd]
    rw [hw]
    simp only [SB, Nat.reduceAdd]
    rw [w64 (n := (j : Int) + 1) (by omega), show ((j : Int) + 1) = ((j + 1 : Nat) : Int) by omega]
    exact ih (j + 1) (by omega) _

theorem l_F2 (fs : List Fq) (hf : ∀ f, f ∈ fs → NwOk f) (hl : fs.length ≤ 8) (M : Int) : ∀ m j : Nat, j + m = fs.length → ∀ x y a : Int, 0 ≤ a → a ≤ 1000000000000 * (j : Int) → -1000 * a ≤ x → x ≤ 1000 * a → -1000 * a ≤ y → y ≤ 1000 * a → ∃ x' y' a' : Int, (0 ≤ a' ∧ a' ≤ 100000000000000) ∧ (-1000 * a' ≤ x' ∧ x' ≤ 1000 * a') ∧ (-1000 * a' ≤ y' ∧ y' ≤ 1000 * a') ∧
    lp E (denC E) 38 0 [] 2 { vals := [AV.sl 4 (fs.map Fq.pv), AV.int .i64 M, AV.int .i64 x, AV.int .i64 y, AV.int .i64 a, AV.sl 4 (fs.map Fq.pv), AV.int .i64 (fs.length : Nat), AV.int .i64 (j : Nat)], blks := [Blk.box [AV.int .i64 0, AV.int .i64 0]] } = some (Ex.exit 2, { vals := [AV.sl 4 (fs.map Fq.pv), AV.int .i64 x', AV.int .i64 y', AV.int .i64 a'], blks := [Blk.box [AV.int .i64 0, AV.int .i64 0]] }) := by
  intro m
  induction m with
  | zero =>
    intro j hj x y a h1 h2 h3 h4 h5 h6
    refine ⟨x, y, a, ⟨h1, by omega⟩, ⟨h3, h4⟩, ⟨h5, h6⟩, ?_⟩
    rw [r38_2, ltF (by omega)]
    rfl
  | succ m ih =>
    intro j hj x y a h1 h2 h3 h4 h5 h6
    obtain ⟨f, hfj⟩ : ∃ f, fs[j]? = some f := ⟨_, List.getElem?_eq_getElem (by omega)⟩
    obtain ⟨⟨n1, n2, n3, n4⟩, he⟩ := hf f (List.mem_of_getElem? hfj)
    obtain ⟨w, hw, hw1, hw2⟩ := c_Weight he
    obtain ⟨q, e, hq, hq1, hq2⟩ := c_UpB (n := 1000 * w) (by omega) M
    have hx1 : q * f.2.1 ≤ q * 1000 := Int.mul_le_mul_of_nonneg_left n2 hq1
    have hx2 : q * (-1000) ≤ q * f.2.1 := Int.mul_le_mul_of_nonneg_left n1 hq1
    have hy1 : q * f.2.2.1 ≤ q * 1000 := Int.mul_le_mul_of_nonneg_left n4 hq1
    have hy2 : q * (-1000) ≤ q * f.2.2.1 := Int.mul_le_mul_of_nonneg_left n3 hq1
    rw [r38_2, ltT (by omega), getE_map hfj]
    simp only [SB, Nat.reduceAdd]
    rw [hw]
    simp only [SB, Nat.reduceAdd]
    rw [w64 (n := 1000 * w) (by omega), hq]
    simp only [SB, Nat.reduceAdd]
    rw [w64 (n := q * f.2.1) (by omega), w64 (n := q * f.2.2.1) (by omega), w64 (n := x + q * f.2.1) (by omega), w64 (n := y + q * f.2.2.1) (by omega), w64 (n := a + q) (by omega), w64 (n := (j : Int) + 1) (by omega), show ((j : Int) + 1) = ((j + 1 : Nat) : Int) by omega]
    exact ih (j + 1) (by omega) _ _ _ (by omega) (by omega) (by omega) (by omega) (by omega) (by omega)

theorem l_F4 (fs : List Fq) (hf : ∀ f, f ∈ fs → NwOk f) (hl : fs.length ≤ 8) {mx my : Int} (hm : Near mx my) : ∀ m j : Nat, j + m = fs.length → ∀ b : Int, 0 ≤ b → b ≤ 200000000 → ∃ b' : Int, 0 ≤ b' ∧ b' ≤ 200000000 ∧
    lp E (denC E) 38 0 [] 4 { vals := [AV.int .i64 b, AV.sl 4 (fs.map Fq.pv), AV.int .i64 (fs.length : Nat), AV.int .i64 (j : Nat)], blks := [Blk.box [AV.int .i64 0, AV.int .i64 0], Blk.box [AV.int .i64 mx, AV.int .i64 my]] } = some (Ex.exit 4, { vals := [AV.int .i64 b'], blks := [Blk.box [AV.int .i64 0, AV.int .i64 0], Blk.box [AV.int .i64 mx, AV.int .i64 my]] }) := by
  intro m
  induction m with
  | zero =>
    intro j hj b h1 h2
    refine ⟨b, h1, h2, ?_⟩
    rw [r38_4, ltF (by omega)]
    rfl
  | succ m ih =>
    intro j hj b h1 h2
    obtain ⟨f, hfj⟩ : ∃ f, fs[j]? = some f := ⟨_, List.getElem?_eq_getElem (by omega)⟩
    obtain ⟨hn, he1, he2⟩ := hf f (List.mem_of_getElem? hfj)
    have hb := boxV_bounds hm hn
    rw [r38_4, ltT (by omega), getE_map hfj]
    simp only [SB, Nat.reduceAdd]
    rw [c_fplace]
    simp only [SB, Nat.reduceAdd]
    rw [c_Box hm hn]
    simp only [SB, Nat.reduceAdd]
    rw [w64 (n := boxV mx my f.2.1 f.2.2.1 + f.2.2.2) (by omega), w64 (n := (j : Int) + 1) (by omega), show ((j : Int) + 1) = ((j + 1 : Nat) : Int) by omega]
    exact ih (j + 1) (by omega) _ (by unfold maxI; split <;> omega) (by unfold maxI; split <;> omega)

theorem c_Fuse {fs : List Fq} (hf : ∀ f, f ∈ fs → NwOk f) (hl : fs.length ≤ 8) : ∃ px py b e : Int, Near px py ∧ (0 ≤ b ∧ b ≤ 200000000) ∧ denC E 38 [AV.sl 4 (fs.map Fq.pv)] [] = some ([RV.agg [PV.int .i64 px, PV.int .i64 py], RV.p (PV.int .i64 b), RV.p (PV.int .i64 e)], []) := by
  rw [denC_eq, r38, c_fcheck hf hl]
  simp only [SB, Nat.reduceAdd, List.length_map]
  by_cases h0 : fs.length = 0
  · rw [if_pos h0]
    exact ⟨0, 0, 0, 9, ⟨by omega, by omega, by omega, by omega⟩, ⟨by omega, by omega⟩, rfl⟩
  · rw [if_neg h0]
    obtain ⟨M, hM⟩ := l_F0 fs hf (by omega) fs.length 0 (by omega) 0
    obtain ⟨x, y, a, ha, hx, hy, h2⟩ := l_F2 fs hf hl M fs.length 0 (by omega) 0 0 0 (by omega) (by omega) (by omega) (by omega) (by omega) (by omega)
    obtain ⟨mx, e1, q1, q2⟩ := c_HalfB ha hx
    obtain ⟨my, e2, q3, q4⟩ := c_HalfB ha hy
    have hm : Near mx my := ⟨q2.1, q2.2, q4.1, q4.2⟩
    obtain ⟨b, b1, b2, h4⟩ := l_F4 fs hf hl hm fs.length 0 (by omega) 0 (by omega) (by omega)
    rw [show (((0 : Nat) : Int)) = 0 from rfl] at hM h2 h4
    refine ⟨mx, my, b, 0, hm, ⟨b1, b2⟩, ?_⟩
    rw [show ((0 : Int) != 0) = false from rfl, hM]
    simp only [SB, Nat.reduceAdd, List.length_map]
    rw [h2]
    simp only [SB, Nat.reduceAdd, List.length_map]
    rw [q1, q3]
    simp only [SB, Nat.reduceAdd]
    rw [h4]
    rfl

end Go.Proofs.YtpnpdkgdgfkpfaaGreatDoor.Vm

/- The contract of estimate.Step. -/
namespace Go.Proofs.YtpnpdkgdgfkpfaaGreatDoor.Vm
set_option linter.unusedVariables false
set_option linter.unusedSimpArgs false

theorem near0 : Near 0 0 := ⟨by omega, by omega, by omega, by omega⟩
theorem intV_get {l : List Int} {j : Nat} {x : Int} (h : l[j]? = some x) : (intV l)[j]? = some [PV.int .i64 x] := by
  unfold intV
  rw [List.getElem?_map, h]
  rfl

theorem l_Step {T : List (List PV)} {is ms cs : List Int} {tie : Bool} {fs : List Fq} {tm : Int} (hf : ∀ f, f ∈ fs → NwOk f) (hl : fs.length ≤ 8) (his : is.length = fs.length) (hms : ms.length ≤ 1000) :
    ∀ m j : Nat, j + m = fs.length → ∀ gs : List Fq, gs.length ≤ j → (∀ f, f ∈ gs → NwOk f) → ∃ gs' : List Fq, gs'.length ≤ 8 ∧ (∀ f, f ∈ gs' → NwOk f) ∧
      lp E (denC E) 14 0 [] 1 { vals := [AV.sl 11 T, AV.sl 1 (intV is), AV.sl 4 (fs.map Fq.pv), AV.int .i64 (fs.length : Nat), AV.int .i64 (j : Nat)], blks := [Blk.box [AV.int .i64 0, AV.int .i64 0, AV.int .i64 0, AV.int .i64 0, AV.int .i64 0], Blk.box [AV.sl 1 [], AV.sl 1 [], AV.bool false], Blk.box [AV.sl 1 (intV ms), AV.sl 1 (intV cs), AV.bool tie], Blk.box [AV.int .i64 0, AV.int .i64 0, AV.int .i64 0, AV.int .i64 tm, AV.int .i64 0], Blk.arr 4 (gs.map Fq.pv)] } =
        some (Ex.exit 1, { vals := [AV.sl 11 T], blks := [Blk.box [AV.int .i64 0, AV.int .i64 0, AV.int .i64 0, AV.int .i64 0, AV.int .i64 0], Blk.box [AV.sl 1 [], AV.sl 1 [], AV.bool false], Blk.box [AV.sl 1 (intV ms), AV.sl 1 (intV cs), AV.bool tie], Blk.box [AV.int .i64 0, AV.int .i64 0, AV.int .i64 0, AV.int .i64 tm, AV.int .i64 0], Blk.arr 4 (gs'.map Fq.pv)] }) := by
  intro m
  induction m with
  | zero =>
    intro j hj gs h1 h2
    refine ⟨gs, by omega, h2, ?_⟩
    rw [r14_1, ltF (by omega)]
    rfl
  | succ m ih =>
    intro j hj gs h1 h2
    obtain ⟨f, hfj⟩ : ∃ f, fs[j]? = some f := ⟨_, List.getElem?_eq_getElem (by omega)⟩
    obtain ⟨x, hxj⟩ : ∃ x, is[j]? = some x := ⟨_, List.getElem?_eq_getElem (by omega)⟩
    obtain ⟨b, hb⟩ := c_Contains hms x
    rw [r14_1, ltT (by omega), getE_map hfj]
    simp only [SB, Nat.reduceAdd]
    rw [getE_at (intV_get hxj)]
    simp only [SB, Nat.reduceAdd]
    rw [hb]
    simp only [SB, Nat.reduceAdd]
    rw [w64 (n := (j : Int) + 1) (by omega), show ((j : Int) + 1) = ((j + 1 : Nat) : Int) by omega]
    cases b with
    | true =>
      have hle : leN (((gs.map Fq.pv).length + 1) * 32) 140737488355328 = true := by
        simp only [List.length_map, decide_eq_true_eq]
        omega
      rw [hle]
      have happ : gs.map Fq.pv ++ [[PV.int .i64 f.1, PV.int .i64 f.2.1, PV.int .i64 f.2.2.1, PV.int .i64 f.2.2.2]] = (gs ++ [f]).map Fq.pv := by rw [List.map_append]; rfl
      rw [happ]
      exact ih (j + 1) (by omega) (gs ++ [f]) (by simp; omega) fun g hg => by
        rcases List.mem_append.1 hg with hg | hg
        · exact h2 g hg
        · rw [List.mem_singleton.1 hg]
          exact hf f (List.mem_of_getElem? hfj)
    | false => exact ih (j + 1) (by omega) gs (by omega) h2

theorem c_Step {tm : Int} (htm : 1 ≤ tm ∧ tm ≤ 1000) {rs : List Rf} (hr : ∀ r, r ∈ rs → RfOk r) (hl : rs.length ≤ 8) {ts : List Tk} (hts : ts.length = rs.length) (h : ∀ t, t ∈ ts → TkOk tm t) {e : Es} (he : EsOk tm e) {xs : List Sig} (hx : ∀ x, x ∈ xs → SgOk tm rs.length x) (hxl : xs.length ≤ 1000) :
    ∃ (ts' : List Tk) (e' : Es) (ms cs : List Int) (tie : Bool), ts'.length = rs.length ∧ (∀ t, t ∈ ts' → TkOk tm t) ∧ EsOk tm e' ∧ ms.length ≤ 1000 ∧ cs.length ≤ 1000 ∧ denC E 14 [AV.sl 4 (rs.map Rf.pv), AV.int .i64 10, AV.sl 11 (ts.map Tk.pv), AV.agg e.pv, AV.int .i64 tm, AV.sl 6 (xs.map sgC)] [] =
      some ([RV.p (PV.sl 11 (ts'.map Tk.pv)), RV.agg e'.pv, RV.agg [PV.sl 1 (intV ms), PV.sl 1 (intV cs), PV.bool tie], RV.p (PV.int .i64 0)], []) := by
  obtain ⟨t', h1, h2, h3⟩ := c_take htm hr hl hts h hx hxl
  obtain ⟨ms, cs, tie, is, fs, v1, v2, v3, v4, v5, v6⟩ := c_Votes (by omega) hl hr h1 h2
  rw [denC_eq, r14, c_check (by omega) hl hr hts h he]
  simp only [SB, Nat.reduceAdd]
  rw [show ((0 : Int) != 0) = false from rfl, h3]
  simp only [SB, Nat.reduceAdd]
  rw [v1]
  simp only [SB, Nat.reduceAdd]
  have hml : (intV ms).length = ms.length := by simp [intV]
  obtain ⟨e1, e2, e3, e4, e5⟩ := e
  obtain ⟨k1, k2, k3, k4, k5⟩ := he
  dsimp only at k1 k2 k3 k4 k5
  by_cases h0 : 0 < ms.length
  · obtain ⟨gs, g1, g2, g3⟩ := l_Step (T := t'.map Tk.pv) (cs := cs) (tie := tie) (tm := tm) v4 v3 v2 (ms := ms) (by omega) fs.length 0 (by omega) [] (Nat.le_refl _) (fun f hf => by cases hf)
    obtain ⟨px, py, b, er, q1, q2, q3⟩ := c_Fuse g2 g1
    rw [show (((0 : Nat) : Int)) = 0 from rfl, List.map_nil] at g3
    refine ⟨t', (px, py, b, tm, 1), ms, cs, tie, h1, h2, ⟨q1, q2.1, q2.2, by show 0 ≤ tm; omega, by show tm ≤ tm; omega⟩, by omega, by omega, ?_⟩
    rw [hml, ltT (by omega), List.length_map, g3]
    simp only [SB, Nat.reduceAdd]
    rw [q3]
    rfl
  · rw [hml, ltF (by omega)]
    simp only [SB, Nat.reduceAdd]
    by_cases h4 : e5 = 0
    · refine ⟨t', (0, 0, 0, tm, 0), ms, cs, tie, h1, h2, ⟨near0, by show (0 : Int) ≤ 0; omega, by show (0 : Int) ≤ 200000000; omega, by show 0 ≤ tm; omega, by show tm ≤ tm; omega⟩, by omega, by omega, ?_⟩
      rw [h4]
      rfl
    · have hb : (e5 != 0) = true := by simpa using h4
      have hG := c_Grow (b := e3) (s := 10) (n := tm - e4) (by omega) (by omega) (by omega)
      refine ⟨t', (e1, e2, minI 200000000 (e3 + 10 * (tm - e4)), tm, 2), ms, cs, tie, h1, h2, ⟨k1, ?_, ?_, by show 0 ≤ tm; omega, by show tm ≤ tm; omega⟩, by omega, by omega, ?_⟩
      · show 0 ≤ minI _ _
        unfold minI
        split <;> omega
      · show minI _ _ ≤ 200000000
        unfold minI
        split <;> omega
      · rw [hb, w64 (n := tm - e4) (by omega), hG]
        rfl

end Go.Proofs.YtpnpdkgdgfkpfaaGreatDoor.Vm

/- Contracts of what is made for the law, and of the comparisons. -/
namespace Go.Proofs.YtpnpdkgdgfkpfaaGreatDoor.Vm
set_option linter.unusedVariables false
set_option linter.unusedSimpArgs false

theorem pk_speed : ([[PV.int IntKind.i64 0], [PV.int IntKind.i64 10], [PV.int IntKind.i64 100]] : List (List PV)) = intsK .i64 [0, 10, 100] := rfl
theorem pk_stale : ([[PV.int IntKind.i64 1], [PV.int IntKind.i64 3], [PV.int IntKind.i64 10]] : List (List PV)) = intsK .i64 [1, 3, 10] := rfl
theorem pk_freeze : ([[PV.int IntKind.i64 0], [PV.int IntKind.i64 0], [PV.int IntKind.i64 2], [PV.int IntKind.i64 4]] : List (List PV)) = intsK .i64 [0, 0, 2, 4] := rfl
theorem pk_x : ([[PV.int IntKind.i64 0], [PV.int IntKind.i64 0], [PV.int IntKind.i64 1], [PV.int IntKind.i64 20], [PV.int IntKind.i64 (-30)], [PV.int IntKind.i64 1000]] : List (List PV)) = intsK .i64 [0, 0, 1, 20, -30, 1000] := rfl
theorem pk_y : ([[PV.int IntKind.i64 0], [PV.int IntKind.i64 0], [PV.int IntKind.i64 5], [PV.int IntKind.i64 (-20)]] : List (List PV)) = intsK .i64 [0, 0, 5, -20] := rfl
theorem pk_e : ([[PV.int IntKind.i64 1], [PV.int IntKind.i64 10], [PV.int IntKind.i64 50], [PV.int IntKind.i64 200]] : List (List PV)) = intsK .i64 [1, 10, 50, 200] := rfl

theorem c_Reference {L : List Int} {k : Nat} (hL : L.length ≤ 600) (hk : k ≤ 600) : ∃ (r : Rf) (k' : Nat), k' ≤ 600 ∧ RfOk r ∧ denC E 18 [AV.t (.ptr 0 0)] [src L k] = some ([RV.agg r.pv], [src L k']) := by
  have k1 := at'_le hL hk
  have k2 := at'_le hL k1
  have k3 := at'_le hL k2
  have k4 := at'_le hL k3
  have b1 := vN_bounds (L := L) (k := k) (n := 4) (by omega)
  have m1 := vPick_mem L (at' L k) (l := [0, 10, 100]) (by decide)
  have m2 := vPick_mem L (at' L (at' L k)) (l := [1, 3, 10]) (by decide)
  have m3 := vPick_mem L (at' L (at' L (at' L k))) (l := [0, 0, 2, 4]) (by decide)
  have g1 : 0 ≤ vPick L (at' L k) [0, 10, 100] ∧ vPick L (at' L k) [0, 10, 100] ≤ 1000 := by
    generalize vPick L (at' L k) [0, 10, 100] = x at m1
    simp at m1
    omega
  have g2 : 1 ≤ vPick L (at' L (at' L k)) [1, 3, 10] ∧ vPick L (at' L (at' L k)) [1, 3, 10] ≤ 600 := by
    generalize vPick L (at' L (at' L k)) [1, 3, 10] = x at m2
    simp at m2
    omega
  have g3 : 0 ≤ vPick L (at' L (at' L (at' L k))) [0, 0, 2, 4] ∧ vPick L (at' L (at' L (at' L k))) [0, 0, 2, 4] ≤ 600 := by
    generalize vPick L (at' L (at' L (at' L k))) [0, 0, 2, 4] = x at m3
    simp at m3
    omega
  refine ⟨(vN L k 4, vPick L (at' L k) [0, 10, 100], vPick L (at' L (at' L k)) [1, 3, 10], vPick L (at' L (at' L (at' L k))) [0, 0, 2, 4]), at' L (at' L (at' L (at' L k))), k4, ⟨b1.1, by show vN L k 4 ≤ 7; omega, g1.1, g1.2, g2.1, g2.2, g3.1, g3.2⟩, ?_⟩
  rw [denC_eq, r18, c_N hL hk 4 (by omega)]
  simp only [SB, Nat.reduceAdd]
  rw [pk_speed, c_Pick hL k1 (by decide)]
  simp only [SB, Nat.reduceAdd]
  rw [pk_stale, c_Pick hL k2 (by decide)]
  simp only [SB, Nat.reduceAdd]
  rw [pk_freeze, c_Pick hL k3 (by decide)]
  simp only [SB, Nat.reduceAdd]

theorem l_Refs {L : List Int} (hL : L.length ≤ 600) : ∀ (n k : Nat) (rs : List Rf), k ≤ 600 → rs.length + n ≤ 100 → (∀ r, r ∈ rs → RfOk r) → ∃ (rs' : List Rf) (k' : Nat), k' ≤ 600 ∧ rs'.length = rs.length + n ∧ (∀ r, r ∈ rs' → RfOk r) ∧
    lp E (denC E) 5 1 [] 0 { vals := [AV.int .i64 (n : Nat)], blks := [src L k, Blk.arr 4 (rs.map Rf.pv)] } = some (Ex.exit 0, { vals := [], blks := [src L k', Blk.arr 4 (rs'.map Rf.pv)] })
  | 0, k, rs, hk, _, hr => by
    refine ⟨rs, k, hk, rfl, hr, ?_⟩
    rw [r5_0, ltF (by simp)]
    rfl
  | n + 1, k, rs, hk, hl, hr => by
    obtain ⟨r, k1, h1, h2, h3⟩ := c_Reference hL hk
    obtain ⟨rs', k', g1, g2, g3, g4⟩ := l_Refs hL n k1 (rs ++ [r]) h1 (by simp; omega) (fun x hx => by
      rcases List.mem_append.1 hx with hx | hx
      · exact hr x hx
      · rw [List.mem_singleton.1 hx]; exact h2)
    refine ⟨rs', k', g1, by rw [g2]; simp; omega, g3, ?_⟩
    rw [r5_0, ltT (by omega), h3]
    simp only [SB, Nat.reduceAdd]
    have hle : leN (((rs.map Rf.pv).length + 1) * 32) 140737488355328 = true := by
      simp only [List.length_map, decide_eq_true_eq]
      omega
    have happ : rs.map Rf.pv ++ [[PV.int .i64 r.1, PV.int .i64 r.2.1, PV.int .i64 r.2.2.1, PV.int .i64 r.2.2.2]] = (rs ++ [r]).map Rf.pv := by rw [List.map_append]; rfl
    rw [hle, happ, w64 (n := ((n + 1 : Nat) : Int) - 1) (by omega), show ((n + 1 : Nat) : Int) - 1 = (n : Int) by omega]
    exact g4
theorem c_Refs {L : List Int} {k : Nat} (hL : L.length ≤ 600) (hk : k ≤ 600) : ∃ (rs : List Rf) (k' : Nat), k' ≤ 600 ∧ rs.length ≤ 4 ∧ (∀ r, r ∈ rs → RfOk r) ∧ denC E 5 [AV.t (.ptr 0 0), AV.int .i64 4] [src L k] = some ([RV.p (PV.sl 4 (rs.map Rf.pv))], [src L k']) := by
  have b1 := vN_bounds (L := L) (k := k) (n := 5) (by omega)
  obtain ⟨m, hm⟩ : ∃ m : Nat, vN L k 5 = m := ⟨(vN L k 5).toNat, by omega⟩
  obtain ⟨rs, k', h1, h2, h3, h4⟩ := l_Refs hL m (at' L k) [] (at'_le hL hk) (by simp; omega) (fun r hr => by cases hr)
  refine ⟨rs, k', h1, by simp at h2; omega, h3, ?_⟩
  rw [denC_eq, r5, show IntKind.i64.wrap (4 + 1) = 5 from rfl, c_N hL hk 5 (by omega)]
  simp only [SB, Nat.reduceAdd]
  rw [List.map_nil] at h4
  rw [hm, h4]
  simp only [SB, Nat.reduceAdd]

theorem c_Fix {L : List Int} {k : Nat} (hL : L.length ≤ 600) (hk : k ≤ 600) {tm : Int} (htm : 1 ≤ tm) : ∃ (f : Fq) (k' : Nat), k' ≤ 600 ∧ f.1 = tm ∧ FxOk tm f ∧ denC E 8 [AV.t (.ptr 0 0), AV.int .i64 tm] [src L k] = some ([RV.agg f.pv], [src L k']) := by
  have k1 := at'_le hL hk
  have k2 := at'_le hL k1
  have k3 := at'_le hL k2
  have m1 := vPick_mem L k (l := [0, 0, 1, 20, -30, 1000]) (by decide)
  have m2 := vPick_mem L (at' L k) (l := [0, 0, 5, -20]) (by decide)
  have m3 := vPick_mem L (at' L (at' L k)) (l := [1, 10, 50, 200]) (by decide)
  have g1 : -1000 ≤ vPick L k [0, 0, 1, 20, -30, 1000] ∧ vPick L k [0, 0, 1, 20, -30, 1000] ≤ 1000 := by
    generalize vPick L k [0, 0, 1, 20, -30, 1000] = x at m1
    simp at m1
    omega
  have g2 : -1000 ≤ vPick L (at' L k) [0, 0, 5, -20] ∧ vPick L (at' L k) [0, 0, 5, -20] ≤ 1000 := by
    generalize vPick L (at' L k) [0, 0, 5, -20] = x at m2
    simp at m2
    omega
  have g3 : 1 ≤ vPick L (at' L (at' L k)) [1, 10, 50, 200] ∧ vPick L (at' L (at' L k)) [1, 10, 50, 200] ≤ 200 := by
    generalize vPick L (at' L (at' L k)) [1, 10, 50, 200] = x at m3
    simp at m3
    omega
  refine ⟨(tm, vPick L k [0, 0, 1, 20, -30, 1000], vPick L (at' L k) [0, 0, 5, -20], vPick L (at' L (at' L k)) [1, 10, 50, 200]), at' L (at' L (at' L k)), k3, rfl, ⟨htm, Int.le_refl _, ⟨g1.1, g1.2, g2.1, g2.2⟩, g3.1, g3.2⟩, ?_⟩
  rw [denC_eq, r8, pk_x, c_Pick hL hk (by decide)]
  simp only [SB, Nat.reduceAdd]
  rw [pk_y, c_Pick hL k1 (by decide)]
  simp only [SB, Nat.reduceAdd]
  rw [pk_e, c_Pick hL k2 (by decide)]
  simp only [SB, Nat.reduceAdd]

def tk0 : Tk := ⟨(0, 0, 0, 0), (0, 0, 0, 0), false, 0, 0⟩
theorem reps_tk (n : Nat) : reps tk0.pv n = (List.replicate n tk0).map Tk.pv := by rw [reps_eq, List.map_replicate]
theorem tk0_ok (tm : Int) (n : Nat) : ∀ t, t ∈ List.replicate n tk0 → TkOk tm t := fun t ht => by
  rw [(List.mem_replicate.1 ht).2]
  exact .inl ⟨rfl, rfl⟩
theorem c_ENew {rs : List Rf} (hl : rs.length ≤ 8) (hr : ∀ r, r ∈ rs → RfOk r) : denC E 6 [AV.sl 4 (rs.map Rf.pv)] [] = some ([RV.p (PV.sl 11 ((List.replicate rs.length tk0).map Tk.pv)), RV.agg [PV.int .i64 0, PV.int .i64 0, PV.int .i64 0, PV.int .i64 0, PV.int .i64 0], RV.p (PV.int .i64 0)], []) := by
  rw [denC_eq, r6, c_Config hl hr]
  simp only [SB, Nat.reduceAdd, List.length_map]
  rw [show ((0 : Int) != 0) = false from rfl, leT (Int.le_refl _), leT (by omega : ((rs.length : Nat) : Int) ≤ 9223372036854775807), leT (by omega : ((rs.length : Nat) : Int) * 88 ≤ 140737488355328), Int.toNat_natCast]
  have := reps_tk rs.length
  exact congrArg (fun z => some ([RV.p (PV.sl 11 z), RV.agg [PV.int .i64 0, PV.int .i64 0, PV.int .i64 0, PV.int .i64 0, PV.int .i64 0], RV.p (PV.int .i64 0)], ([] : List Blk))) this

theorem l_Ints (l : List Int) (hl : l.length ≤ 1000) : ∀ m j : Nat, j + m = l.length → lp E (denC E) 40 0 [] 0 { vals := [AV.sl 1 (intV l), AV.sl 1 (intV l), AV.int .i64 (l.length : Nat), AV.int .i64 (j : Nat)], blks := [] } = some (Ex.exit 0, { vals := [], blks := [] }) := by
  intro m
  induction m with
  | zero =>
    intro j hj
    rw [r40_0, ltF (by omega)]
    rfl
  | succ m ih =>
    intro j hj
    obtain ⟨x, hx⟩ : ∃ x, l[j]? = some x := ⟨_, List.getElem?_eq_getElem (by omega)⟩
    rw [r40_0, ltT (by omega), getE_at (intV_get hx)]
    simp only [SB, Nat.reduceAdd]
    rw [getE_at (intV_get hx)]
    simp only [SB, Nat.reduceAdd]
    rw [show (x != x) = false by simp, w64 (n := (j : Int) + 1) (by omega), show ((j : Int) + 1) = ((j + 1 : Nat) : Int) by omega]
    exact ih (j + 1) (by omega)
theorem c_Ints {l : List Int} (hl : l.length ≤ 1000) : denC E 40 [AV.sl 1 (intV l), AV.sl 1 (intV l)] [] = some ([RV.p (PV.bool true)], []) := by
  have hlen : (intV l).length = l.length := by simp [intV]
  have e := l_Ints l hl l.length 0 (by omega)
  rw [show (((0 : Nat) : Int)) = 0 from rfl] at e
  rw [denC_eq, r40, hlen, show (((l.length : Nat) : Int) != ((l.length : Nat) : Int)) = false by simp]
  exact (congrArg (fun x => ctl false _ (bnd x _)) e).trans rfl
theorem c_SameV {ms cs : List Int} (h1 : ms.length ≤ 1000) (h2 : cs.length ≤ 1000) (tie : Bool) : denC E 16 [AV.agg [PV.sl 1 (intV ms), PV.sl 1 (intV cs), PV.bool tie], AV.agg [PV.sl 1 (intV ms), PV.sl 1 (intV cs), PV.bool tie]] [] = some ([RV.p (PV.bool true)], []) := by
  rw [denC_eq, r16, c_Ints h1, c_Ints h2]
  cases tie <;> rfl

end Go.Proofs.YtpnpdkgdgfkpfaaGreatDoor.Vm

/- The contracts of Tracks and of the sanity check. -/
namespace Go.Proofs.YtpnpdkgdgfkpfaaGreatDoor.Vm
set_option linter.unusedVariables false
set_option linter.unusedSimpArgs false

theorem l_Tracks (ts : List Tk) (hl : ts.length ≤ 1000) : ∀ m j : Nat, j + m = ts.length → lp E (denC E) 15 0 [] 0 { vals := [AV.sl 11 (ts.map Tk.pv), AV.sl 11 (ts.map Tk.pv), AV.int .i64 (ts.length : Nat), AV.int .i64 (j : Nat)], blks := [] } = some (Ex.exit 0, { vals := [], blks := [] }) := by
  intro m
  induction m with
  | zero =>
    intro j hj
    rw [r15_0, ltF (by omega)]
    rfl
  | succ m ih =>
    intro j hj
    obtain ⟨t, ht⟩ : ∃ t, ts[j]? = some t := ⟨_, List.getElem?_eq_getElem (by omega)⟩
    rw [r15_0, ltT (by omega), getE_map ht]
    simp only [SB, Nat.reduceAdd, tk10, nth_10]
    rw [getE_map ht]
    simp only [SB, Nat.reduceAdd, tk10, nth_10, beq_self_eq_true]
    rw [w64 (n := (j : Int) + 1) (by omega), show ((j : Int) + 1) = ((j + 1 : Nat) : Int) by omega]
    exact ih (j + 1) (by omega)
theorem c_Tracks {ts : List Tk} (hl : ts.length ≤ 1000) : denC E 15 [AV.sl 11 (ts.map Tk.pv), AV.sl 11 (ts.map Tk.pv)] [] = some ([RV.p (PV.bool true)], []) := by
  have e := l_Tracks ts hl ts.length 0 (by omega)
  rw [show (((0 : Nat) : Int)) = 0 from rfl] at e
  rw [denC_eq, r15, List.length_map, show (((ts.length : Nat) : Int) != ((ts.length : Nat) : Int)) = false by simp]
  exact (congrArg (fun x => ctl false _ (bnd x _)) e).trans rfl

def rf0 : Rf := (0, 5, 3, 0)
def fq0 : Fq := (3, 5, 0, 20)
def tk1 : Tk := ⟨(3, 5, 0, 20), (3, 5, 0, 20), true, 1, 1⟩
def sg0 : Sig := ⟨1, 0, 3, 5, 0, 20⟩
theorem rf0_ok : RfOk rf0 := ⟨by decide, by decide, by decide, by decide, by decide, by decide, by decide, by decide⟩
theorem fq0_ok : FxOk 3 fq0 := ⟨by decide, by decide, ⟨by decide, by decide, by decide, by decide⟩, by decide, by decide⟩
theorem fq0_nw : NwOk fq0 := ⟨⟨by decide, by decide, by decide, by decide⟩, by decide, by decide⟩
theorem tk1_ok : TkOk 3 tk1 := .inr ⟨rfl, fq0_ok, fq0_ok, by decide, by decide⟩
theorem tk0_ok1 (tm : Int) : TkOk tm tk0 := .inl ⟨rfl, rfl⟩

theorem a_65 : denC E 65 [AV.agg rf0.pv, AV.agg tk0.pv, AV.agg fq0.pv] [] = some ([RV.agg tk1.pv, RV.p (PV.int .i64 0)], []) := by
  have q1 := c_MValid rf0_ok
  have q2 := c_MFix (by decide) fq0_ok
  have q3 := c_track (tm := 3) (by decide) (tk0_ok1 3)
  rw [denC_eq, r65, q1]
  simp only [SB, Nat.reduceAdd]
  rw [q2]
  simp only [SB, Nat.reduceAdd]
  rw [q3]
  rfl
theorem a_66 : denC E 66 [AV.agg rf0.pv, AV.agg tk1.pv, AV.int .i64 3] [] = some ([RV.agg tk1.pv, RV.p (PV.int .i64 0)], []) := by
  have q1 := c_MValid rf0_ok
  have q3 := c_track (tm := 3) (by decide) tk1_ok
  rw [denC_eq, r66, q1]
  simp only [SB, Nat.reduceAdd]
  rw [c_in]
  simp only [SB, Nat.reduceAdd]
  rw [show (leB 0 3 && leB 3 2147483648) = true from rfl]
  simp only [SB, Nat.reduceAdd]
  rw [q3]
  rfl
theorem a_67 : denC E 67 [AV.agg tk1.pv, AV.int .i64 3, AV.int .i64 5] [] = some ([RV.agg fq0.pv, RV.p (PV.bool true)], []) := by
  have q2 := c_MFix (by decide) fq0_ok
  have hG := c_Grow (b := 20) (s := 5) (n := 0) (by decide) (by decide) (by decide)
  rw [denC_eq, r67, c_usable]
  simp only [SB, Nat.reduceAdd]
  rw [show (tk1.st == 1) = true from rfl]
  simp only [SB, Nat.reduceAdd]
  rw [show denC E 91 [AV.agg [PV.int .i64 tk1.l.1, PV.int .i64 tk1.l.2.1, PV.int .i64 tk1.l.2.2.1, PV.int .i64 tk1.l.2.2.2]] [] = _ from q2]
  simp only [SB, Nat.reduceAdd]
  rw [show tk1.l.2.2.2 = 20 from rfl, show IntKind.i64.wrap (3 - tk1.l.1) = 0 from rfl, hG]
  rfl
theorem bnd_of {α β : Type} {x : Option α} {a : α} (h : x = some a) {K : α → Option β} {y : Option β} (h2 : K a = y) : bnd x K = y := by
  rw [h]
  exact h2
theorem a_35a : lp E (denC E) 35 0 [] 0 { vals := [AV.sl 4 [rf0.pv], AV.int .i64 3, AV.sl 6 [sgC sg0], AV.int .i64 1, AV.int .i64 1], blks := [Blk.arr 11 [tk1.pv]] } = some (Ex.exit 0, { vals := [AV.sl 4 [rf0.pv], AV.int .i64 3], blks := [Blk.arr 11 [tk1.pv]] }) := by
  rw [r35_0]
  rfl
theorem a_35b : lp E (denC E) 35 0 [] 0 { vals := [AV.sl 4 [rf0.pv], AV.int .i64 3, AV.sl 6 [sgC sg0], AV.int .i64 1, AV.int .i64 0], blks := [Blk.arr 11 [tk0.pv]] } = some (Ex.exit 0, { vals := [AV.sl 4 [rf0.pv], AV.int .i64 3], blks := [Blk.arr 11 [tk1.pv]] }) := by
  rw [r35_0]
  exact bnd_of a_65 a_35a
theorem a_35c : lp E (denC E) 35 0 [] 2 { vals := [AV.sl 4 [rf0.pv], AV.int .i64 3, AV.int .i64 1, AV.int .i64 0], blks := [Blk.arr 11 [tk1.pv]] } = some (Ex.exit 2, { vals := [], blks := [Blk.arr 11 [tk1.pv]] }) := by
  have e : lp E (denC E) 35 0 [] 2 { vals := [AV.sl 4 [rf0.pv], AV.int .i64 3, AV.int .i64 1, AV.int .i64 1], blks := [Blk.arr 11 [tk1.pv]] } = some (Ex.exit 2, { vals := [], blks := [Blk.arr 11 [tk1.pv]] }) := by
    rw [r35_2]
    rfl
  rw [r35_2]
  exact bnd_of a_66 e
theorem a_35 : denC E 35 [AV.sl 4 [rf0.pv], AV.sl 11 [tk0.pv], AV.int .i64 3, AV.sl 6 [sgC sg0]] [] = some ([RV.p (PV.sl 11 [tk1.pv])], []) := by
  have e := c_TClone (ts := [tk0]) (by decide)
  rw [denC_eq, r35]
  refine bnd_of e ?_
  refine bnd_of a_35b ?_
  exact bnd_of a_35c rfl

theorem a_Cl (ms : List Nat) (h : ms = [] ∨ ms = [0]) : denC E 119 [AV.sl 4 [fq0.pv], AV.sl 1 (natsK ms)] [] = some ([RV.p (PV.bool true)], []) := by
  rcases h with rfl | rfl
  · obtain ⟨b, h1, h2⟩ := c_Clique (fs := [fq0]) (fun f hf => by rw [List.mem_singleton.1 hf]; exact fq0_nw) (ms := []) (fun k hk => by cases hk) (by decide)
    rw [h2 rfl] at h1
    exact h1
  · have e2 : lp E (denC E) 119 0 [] 2 { vals := [AV.sl 4 [fq0.pv], AV.sl 1 (natsK [0]), AV.int .i64 0, AV.sl 1 (natsK [0]), AV.int .i64 1, AV.int .i64 0, AV.sl 1 (natsK [0]), AV.int .i64 1, AV.int .i64 1], blks := [] } = some (Ex.exit 2, { vals := [AV.sl 4 [fq0.pv], AV.sl 1 (natsK [0]), AV.sl 1 (natsK [0]), AV.int .i64 1, AV.int .i64 0], blks := [] }) := by
      rw [r119_2]
      rfl
    have e1 : lp E (denC E) 119 0 [] 2 { vals := [AV.sl 4 [fq0.pv], AV.sl 1 (natsK [0]), AV.int .i64 0, AV.sl 1 (natsK [0]), AV.int .i64 1, AV.int .i64 0, AV.sl 1 (natsK [0]), AV.int .i64 1, AV.int .i64 0], blks := [] } = some (Ex.exit 2, { vals := [AV.sl 4 [fq0.pv], AV.sl 1 (natsK [0]), AV.sl 1 (natsK [0]), AV.int .i64 1, AV.int .i64 0], blks := [] }) := by
      rw [r119_2]
      exact bnd_of (c_Self fq0_nw) e2
    have e3 : lp E (denC E) 119 0 [] 0 { vals := [AV.sl 4 [fq0.pv], AV.sl 1 (natsK [0]), AV.sl 1 (natsK [0]), AV.int .i64 1, AV.int .i64 1], blks := [] } = some (Ex.exit 0, { vals := [], blks := [] }) := by
      rw [r119_0]
      rfl
    have e4 : lp E (denC E) 119 0 [] 0 { vals := [AV.sl 4 [fq0.pv], AV.sl 1 (natsK [0]), AV.sl 1 (natsK [0]), AV.int .i64 1, AV.int .i64 0], blks := [] } = some (Ex.exit 0, { vals := [], blks := [] }) := by
      rw [r119_0]
      exact bnd_of e1 e3
    rw [denC_eq, r119]
    exact bnd_of e4 rfl

theorem a_vote : voteP [([], []), ([0], [0])] = ([0], [0], false) := by decide +kernel
theorem a_set0 : setP 1 [0] 0 = ([], []) := by decide +kernel
theorem a_set1 : setP 1 [0] 1 = ([0], [0]) := by
  have h : maskL 1 1 = [0] := by decide +kernel
  unfold setP
  rw [h]
  simp only [List.map_cons, List.map_nil, sortI, List.mergeSort_singleton]
  decide +kernel

theorem a_36 : denC E 36 [AV.sl 4 [rf0.pv], AV.sl 11 [tk1.pv], AV.int .i64 3, AV.int .i64 5] [] = some ([RV.agg [PV.sl 1 (intV [0]), PV.sl 1 (intV [0]), PV.bool false], RV.p (PV.sl 1 (intV [0])), RV.p (PV.sl 4 [fq0.pv])], []) := by
  have key : (votesT 19 60 67 96 119 [AV.sl 4 [rf0.pv], AV.sl 11 [tk1.pv], AV.int .i64 3, AV.int .i64 5]).run (denC E) = some [RV.agg [PV.sl 1 (intV [0]), PV.sl 1 (intV [0]), PV.bool false], RV.p (PV.sl 1 (intV [0])), RV.p (PV.sl 4 [fq0.pv])] := by
    simp only [votesT]
    have hc : denC E 19 [AV.sl 4 [rf0.pv]] [] = some ([RV.p (PV.int .i64 0)], []) := c_Config (rs := [rf0]) (by decide) (fun r hr => by rw [List.mem_singleton.1 hr]; exact rf0_ok)
    rw [run_askI hc]
    rw [show ((0 : Int) == 0 && Nat.beq [rf0.pv].length [tk1.pv].length && Nat.ble [rf0.pv].length 8) = true from rfl]
    simp only [cond_true]
    rw [run_askB (c_times (by decide) (by decide))]
    simp only [cond_true, nowsA]
    rw [isTrk_pv]
    simp only [cond_true, Ask.run]
    rw [a_67]
    simp only [cond_true, selfA, List.nil_append]
    rw [show (decide ((0 : Int) ≤ rf0.1) && decide (rf0.1 < 8)) = true from rfl]
    simp only [cond_true]
    rw [run_askB (c_Self fq0_nw)]
    simp only [cond_true]
    rw [show 2 ^ [fq0.pv].length = 2 from rfl, show [fq0.pv].length = 1 from rfl, show rf0.1 = 0 from rfl]
    simp only [setsA]
    rw [run_askB (a_Cl (maskL 1 0) (.inl (by decide +kernel)))]
    rw [run_askB (a_Cl (maskL 1 1) (.inr (by decide +kernel)))]
    rw [a_set0, a_set1]
    simp only [cond_true, List.nil_append, List.cons_append]
    rw [a_vote]
    rfl
  rw [denC_eq]
  have : funK E (denC E) 36 [AV.sl 4 [rf0.pv], AV.sl 11 [tk1.pv], AV.int .i64 3, AV.int .i64 5] [] = match (votesT 19 60 67 96 119 [AV.sl 4 [rf0.pv], AV.sl 11 [tk1.pv], AV.int .i64 3, AV.int .i64 5]).run (denC E) with | some rs => some (rs, []) | none => none := by kernel_rfl
  rw [this, key]

end Go.Proofs.YtpnpdkgdgfkpfaaGreatDoor.Vm

/- The contract of the sanity check. -/
namespace Go.Proofs.YtpnpdkgdgfkpfaaGreatDoor.Vm
set_option linter.unusedVariables false
set_option linter.unusedSimpArgs false

theorem a_71 : denC E 71 [AV.int .i64 20] [] = some ([RV.p (PV.int .i64 2500000)], []) := by
  rw [denC_eq, r71]
  rfl
theorem a_102 : denC E 102 [AV.int .i64 2500000000, AV.int .i64 2500000] [] = some ([RV.p (PV.int .i64 1000)], []) := by
  rw [denC_eq, r102]
  exact bnd_of (c_floor (n := -2500000000) (d := 2500000) (by decide) (by decide)) rfl
theorem a_72 : denC E 72 [AV.int .i64 2500000000, AV.int .i64 2500000] [] = some ([RV.p (PV.int .i64 1000), RV.p (PV.int .i64 0)], []) := by
  have e : denC E 101 [AV.int .i64 2500000000, AV.int .i64 2500000, AV.fn 102 []] [] = some ([RV.p (PV.int .i64 1000), RV.p (PV.int .i64 0)], []) := by
    rw [denC_eq, r101a]
    exact bnd_of a_102 rfl
  rw [denC_eq, r72]
  exact bnd_of e rfl
theorem a_73 (n q : Int) (hn : n = 5000 ∧ q = 5 ∨ n = 0 ∧ q = 0) : denC E 73 [AV.int .i64 n, AV.int .i64 1000] [] = some ([RV.p (PV.int .i64 q), RV.p (PV.int .i64 0)], []) := by
  have e : denC E 101 [AV.int .i64 n, AV.int .i64 1000, AV.fn 104 []] [] = some ([RV.p (PV.int .i64 q), RV.p (PV.int .i64 0)], []) := by
    rw [denC_eq, r101b]
    rcases hn with ⟨rfl, rfl⟩ | ⟨rfl, rfl⟩
    · exact bnd_of (c_Half1 (n := 5000) (d := 1000) (by decide) (by decide)) rfl
    · exact bnd_of (c_Half1 (n := 0) (d := 1000) (by decide) (by decide)) rfl
  rw [denC_eq, r73]
  exact bnd_of e rfl

theorem a_F0 : lp E (denC E) 38 0 [] 0 { vals := [AV.sl 4 [fq0.pv], AV.int .i64 0, AV.sl 4 [fq0.pv], AV.int .i64 1, AV.int .i64 0], blks := [Blk.box [AV.int .i64 0, AV.int .i64 0]] } = some (Ex.exit 0, { vals := [AV.sl 4 [fq0.pv], AV.int .i64 2500000], blks := [Blk.box [AV.int .i64 0, AV.int .i64 0]] }) := by
  have e : lp E (denC E) 38 0 [] 0 { vals := [AV.sl 4 [fq0.pv], AV.int .i64 2500000, AV.sl 4 [fq0.pv], AV.int .i64 1, AV.int .i64 1], blks := [Blk.box [AV.int .i64 0, AV.int .i64 0]] } = some (Ex.exit 0, { vals := [AV.sl 4 [fq0.pv], AV.int .i64 2500000], blks := [Blk.box [AV.int .i64 0, AV.int .i64 0]] }) := by
    rw [r38_0]
    rfl
  rw [r38_0]
  exact bnd_of a_71 e
theorem a_F2 : lp E (denC E) 38 0 [] 2 { vals := [AV.sl 4 [fq0.pv], AV.int .i64 2500000, AV.int .i64 0, AV.int .i64 0, AV.int .i64 0, AV.sl 4 [fq0.pv], AV.int .i64 1, AV.int .i64 0], blks := [Blk.box [AV.int .i64 0, AV.int .i64 0]] } = some (Ex.exit 2, { vals := [AV.sl 4 [fq0.pv], AV.int .i64 5000, AV.int .i64 0, AV.int .i64 1000], blks := [Blk.box [AV.int .i64 0, AV.int .i64 0]] }) := by
  have e : lp E (denC E) 38 0 [] 2 { vals := [AV.sl 4 [fq0.pv], AV.int .i64 2500000, AV.int .i64 5000, AV.int .i64 0, AV.int .i64 1000, AV.sl 4 [fq0.pv], AV.int .i64 1, AV.int .i64 1], blks := [Blk.box [AV.int .i64 0, AV.int .i64 0]] } = some (Ex.exit 2, { vals := [AV.sl 4 [fq0.pv], AV.int .i64 5000, AV.int .i64 0, AV.int .i64 1000], blks := [Blk.box [AV.int .i64 0, AV.int .i64 0]] }) := by
    rw [r38_2]
    rfl
  rw [r38_2]
  refine bnd_of a_71 ?_
  exact bnd_of a_72 e
theorem a_F4 : ∃ b : Int, lp E (denC E) 38 0 [] 4 { vals := [AV.int .i64 0, AV.sl 4 [fq0.pv], AV.int .i64 1, AV.int .i64 0], blks := [Blk.box [AV.int .i64 0, AV.int .i64 0], Blk.box [AV.int .i64 5, AV.int .i64 0]] } = some (Ex.exit 4, { vals := [AV.int .i64 b], blks := [Blk.box [AV.int .i64 0, AV.int .i64 0], Blk.box [AV.int .i64 5, AV.int .i64 0]] }) := by
  obtain ⟨b, _, _, h⟩ := l_F4 [fq0] (fun f hf => by rw [List.mem_singleton.1 hf]; exact fq0_nw) (by decide) (mx := 5) (my := 0) ⟨by decide, by decide, by decide, by decide⟩ 1 0 rfl 0 (by decide) (by decide)
  exact ⟨b, h⟩
theorem a_38 : ∃ b : Int, denC E 38 [AV.sl 4 [fq0.pv]] [] = some ([RV.agg [PV.int .i64 5, PV.int .i64 0], RV.p (PV.int .i64 b), RV.p (PV.int .i64 0)], []) := by
  obtain ⟨b, hb⟩ := a_F4
  refine ⟨b, ?_⟩
  have e := c_fcheck (fs := [fq0]) (fun f hf => by rw [List.mem_singleton.1 hf]; exact fq0_nw) (by decide)
  rw [denC_eq, r38]
  refine bnd_of e ?_
  refine bnd_of a_F0 ?_
  refine bnd_of a_F2 ?_
  refine bnd_of (a_73 5000 5 (.inl ⟨rfl, rfl⟩)) ?_
  refine bnd_of (a_73 0 0 (.inr ⟨rfl, rfl⟩)) ?_
  exact bnd_of hb rfl

theorem a_37 : denC E 37 [AV.sl 1 (intV [0]), AV.int .i64 0] [] = some ([RV.p (PV.bool true)], []) := by
  have e : lp E (denC E) 69 0 [] 0 { vals := [AV.sl 1 (intV [0]), AV.int .i64 0, AV.int .i64 1, AV.int .i64 0], blks := [] } = some (Ex.ret, { vals := [AV.int .i64 0], blks := [] }) := by
    rw [r69_0]
    rfl
  have e69 : denC E 69 [AV.sl 1 (intV [0]), AV.int .i64 0] [] = some ([RV.p (PV.int .i64 0)], []) := by
    rw [denC_eq, r69]
    exact bnd_of e rfl
  rw [denC_eq, r37]
  exact bnd_of e69 rfl
theorem a_14 : ∃ (b : Int), denC E 14 [AV.sl 4 [rf0.pv], AV.int .i64 5, AV.sl 11 [tk0.pv], AV.agg [PV.int .i64 0, PV.int .i64 0, PV.int .i64 0, PV.int .i64 0, PV.int .i64 0], AV.int .i64 3, AV.sl 6 [sgC sg0]] [] =
    some ([RV.p (PV.sl 11 [tk1.pv]), RV.agg [PV.int .i64 5, PV.int .i64 0, PV.int .i64 b, PV.int .i64 3, PV.int .i64 1], RV.agg [PV.sl 1 (intV [0]), PV.sl 1 (intV [0]), PV.bool false], RV.p (PV.int .i64 0)], []) := by
  obtain ⟨b, hb⟩ := a_38
  refine ⟨b, ?_⟩
  have e1 : lp E (denC E) 14 0 [] 1 { vals := [AV.sl 11 [tk1.pv], AV.sl 1 (intV [0]), AV.sl 4 [fq0.pv], AV.int .i64 1, AV.int .i64 1], blks := [Blk.box [AV.int .i64 0, AV.int .i64 0, AV.int .i64 0, AV.int .i64 0, AV.int .i64 0], Blk.box [AV.sl 1 [], AV.sl 1 [], AV.bool false], Blk.box [AV.sl 1 (intV [0]), AV.sl 1 (intV [0]), AV.bool false], Blk.box [AV.int .i64 0, AV.int .i64 0, AV.int .i64 0, AV.int .i64 3, AV.int .i64 0], Blk.arr 4 [fq0.pv]] } =
        some (Ex.exit 1, { vals := [AV.sl 11 [tk1.pv]], blks := [Blk.box [AV.int .i64 0, AV.int .i64 0, AV.int .i64 0, AV.int .i64 0, AV.int .i64 0], Blk.box [AV.sl 1 [], AV.sl 1 [], AV.bool false], Blk.box [AV.sl 1 (intV [0]), AV.sl 1 (intV [0]), AV.bool false], Blk.box [AV.int .i64 0, AV.int .i64 0, AV.int .i64 0, AV.int .i64 3, AV.int .i64 0], Blk.arr 4 [fq0.pv]] }) := by
    rw [r14_1]
    rfl
  have e0 : lp E (denC E) 14 0 [] 1 { vals := [AV.sl 11 [tk1.pv], AV.sl 1 (intV [0]), AV.sl 4 [fq0.pv], AV.int .i64 1, AV.int .i64 0], blks := [Blk.box [AV.int .i64 0, AV.int .i64 0, AV.int .i64 0, AV.int .i64 0, AV.int .i64 0], Blk.box [AV.sl 1 [], AV.sl 1 [], AV.bool false], Blk.box [AV.sl 1 (intV [0]), AV.sl 1 (intV [0]), AV.bool false], Blk.box [AV.int .i64 0, AV.int .i64 0, AV.int .i64 0, AV.int .i64 3, AV.int .i64 0], Blk.arr 4 []] } =
        some (Ex.exit 1, { vals := [AV.sl 11 [tk1.pv]], blks := [Blk.box [AV.int .i64 0, AV.int .i64 0, AV.int .i64 0, AV.int .i64 0, AV.int .i64 0], Blk.box [AV.sl 1 [], AV.sl 1 [], AV.bool false], Blk.box [AV.sl 1 (intV [0]), AV.sl 1 (intV [0]), AV.bool false], Blk.box [AV.int .i64 0, AV.int .i64 0, AV.int .i64 0, AV.int .i64 3, AV.int .i64 0], Blk.arr 4 [fq0.pv]] }) := by
    rw [r14_1]
    exact bnd_of a_37 e1
  have ec : denC E 19 [AV.sl 4 [rf0.pv]] [] = some ([RV.p (PV.int .i64 0)], []) := c_Config (rs := [rf0]) (by decide) (fun r hr => by rw [List.mem_singleton.1 hr]; exact rf0_ok)
  have et : denC E 62 [AV.sl 11 [tk0.pv], AV.fn 63 [.ptr 0 0]] [Blk.box [AV.int .i64 3]] = some ([RV.p (PV.bool false)], [Blk.box [AV.int .i64 3]]) := c_Times (ts := [tk0]) (by decide) (fun t ht => by rw [List.mem_singleton.1 ht]; exact tk0_ok1 3)
  have e34 : denC E 34 [AV.sl 4 [rf0.pv], AV.int .i64 5, AV.sl 11 [tk0.pv], AV.agg [PV.int .i64 0, PV.int .i64 0, PV.int .i64 0, PV.int .i64 0, PV.int .i64 0], AV.int .i64 3] [] = some ([RV.p (PV.int .i64 0)], []) := by
    rw [denC_eq, r34, ec]
    simp only [SB, Nat.reduceAdd, List.length_cons, List.length_nil]
    rw [c_times (by omega) (by omega)]
    simp only [SB, Nat.reduceAdd]
    rw [c_times (by omega) (by omega), c_FValid near0, et]
    rfl
  rw [denC_eq, r14]
  refine bnd_of e34 ?_
  refine bnd_of a_35 ?_
  refine bnd_of a_36 ?_
  refine bnd_of e0 ?_
  exact bnd_of hb rfl

def bts (x : Sig) : List UInt8 := txt (Lib.join (wr x) [44])
theorem wr_small {z : List (List UInt8)} : ∀ f ∈ z, f.length ≤ totB z := by
  induction z with
  | nil => intro f hf; cases hf
  | cons y z ih =>
    intro f hf
    have e : totB (y :: z) = y.length + totB z := by simp [totB]
    rcases List.mem_cons.1 hf with rfl | hf
    · omega
    · have := ih f hf
      omega
theorem bts_ok {x : Sig} (hv : valS x = true) : (bts x).length ≤ 72 ∧ (wr x).length ≤ 6 ∧ frm (wr x) = (bts x, 0) ∧ (∀ c, run c (bts x) = ⟨[], 0, c.ss ++ [wr x], c.lost + (c.rest.length - c.old)⟩) ∧ (∀ f ∈ wr x, f.length ≤ 1000000) ∧ rdA (wr x) = some x := by
  obtain ⟨h1, h2, h3, h4, _⟩ := rd_wr hv
  have hj := join_len (wr x)
  have hl : (bts x).length ≤ 72 := by
    have e : (bts x).length = (Lib.join (wr x) [44]).length + 6 := by simp [bts, txt]
    omega
  refine ⟨hl, h3, frm_ok h2 (by have := hl; unfold bts at this; omega), fun c => run_txt h2 (by have := hl; unfold bts at this; omega) c, fun f hf => ?_, h1⟩
  have := wr_small f hf
  omega

theorem c_awake : denC E 17 [] [] = some ([RV.p (PV.bool true)], []) := by
  have hv : valS sg0 = true := by decide +kernel
  obtain ⟨h1, h2, h3, h4, h5, h6⟩ := bts_ok hv
  have hc := c_Write sg0
  rw [wrP_ok hv] at hc
  have hF := c_Format (wr sg0) (by omega)
  rw [h3] at hF
  have hA := c_SAll ([103, 97, 114, 98, 97, 103, 101] ++ bts sg0) (by simp; omega)
  have hrun : run ⟨[], 0, [], 0⟩ ([103, 97, 114, 98, 97, 103, 101] ++ bts sg0) = ⟨[], 0, [wr sg0], 7⟩ := by
    rw [run_app, run_garb [103, 97, 114, 98, 97, 103, 101] ⟨[], 0, [], 0⟩ rfl (by decide), h4]
    rfl
  rw [hrun, byteEs_app] at hA
  have hN := c_ENew (rs := [rf0]) (by decide) (fun r hr => by rw [List.mem_singleton.1 hr]; exact rf0_ok)
  have hr := c_Read (wr sg0) (by omega) h5
  rw [h6] at hr
  obtain ⟨b, hb⟩ := a_14
  rw [denC_eq, r17]
  refine bnd_of hc ?_
  refine bnd_of hF ?_
  have hle : leN ((7 + (byteEs (bts sg0)).length) * 1) 140737488355328 = true := by
    rw [byteEs_length]
    exact decide_eq_true (by omega)
  refine (congrArg (fun z => ctl z _ none) hle).trans ?_
  refine bnd_of hA ?_
  refine bnd_of hN ?_
  refine bnd_of hr ?_
  exact bnd_of hb rfl

end Go.Proofs.YtpnpdkgdgfkpfaaGreatDoor.Vm
