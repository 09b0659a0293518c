/- Chapter 33: controllers, plain: what the rounds compute. -/
import Derived.Test.YthmhnnppikdafaaVm34
namespace Go.Proofs.Ythmhnnppikdafaa.Vm
set_option linter.unusedVariables false
set_option linter.unusedSimpArgs false

structure Ct where
  st : Int
  ep : Int
  hd : Int
  deriving DecidableEq, Inhabited

abbrev gt (l : List Ct) (i : Nat) : Ct := l.getD i default
abbrev rb (R : List (List Bool)) (i k : Nat) : Bool := (R.getD i []).getD k false
def upB (l : List Ct) (i : Nat) : Bool := (gt l i).st != 2
def actB (l : List Ct) (i : Nat) : Bool := (gt l i).st == 1
def hr (l : List Ct) (R : List (List Bool)) (i k : Nat) : Bool := (upB l i && upB l k) && (((i : Int) == k) || (rb R i k || rb R k i))
def hearsL (l : List Ct) (R : List (List Bool)) (i : Nat) : List Nat := (List.range' 0 l.length).filter (hr l R i)
def maj (l : List Ct) (n : Nat) : Bool := decide ((l.length : Int) < 2 * n)
def leadsB (l : List Ct) (R : List (List Bool)) (i : Nat) : Bool := (hearsL l R i).any (actB l)
def great (l : List Ct) (o : Int) (xs : List Nat) : Int := xs.foldl (fun o k => maxI (gt l k).ep o) o
def learnC (l : List Ct) (R : List (List Bool)) (i : Nat) (c : Ct) : Ct := ⟨c.st, great l 0 (hearsL l R i), c.hd⟩
def rival (l : List Ct) (i : Nat) (c : Ct) (k : Nat) : Bool := (decide ((k : Int) < i) && actB l k) && ((gt l k).ep == c.ep)
def yieldB (l : List Ct) (R : List (List Bool)) (b : List Ct) (i : Nat) (c : Ct) : Bool :=
  actB l i && (!maj l (hearsL l R i).length || (decide ((gt b i).ep < c.ep) || (hearsL l R i).any (rival l i c)))
def yieldC (l : List Ct) (R : List (List Bool)) (b : List Ct) (i : Nat) (c : Ct) : Ct := if yieldB l R b i c = true then ⟨0, c.ep, c.hd⟩ else c
def listenC (l : List Ct) (R : List (List Bool)) (t : Int) (i : Nat) (c : Ct) : Ct := if leadsB l R i = true then ⟨c.st, c.ep, t⟩ else c
def eachC (l : List Ct) (f : Nat → Ct → Ct) (i : Nat) : Ct := if upB l i = true then f i (gt l i) else gt l i
def eachL (l : List Ct) (f : Nat → Ct → Ct) : List Ct := (List.range' 0 l.length).map (eachC l f)
def candB (l : List Ct) (R : List (List Bool)) (t d : Int) (i : Nat) : Bool :=
  (((gt l i).st == 0 && maj l (hearsL l R i).length) && !leadsB l R i) && decide (d ≤ t - (gt l i).hd)
def candL (l : List Ct) (R : List (List Bool)) (t d : Int) : List Nat := (List.range' 0 l.length).filter (candB l R t d)
def votes (l : List Ct) (R : List (List Bool)) (all : List Nat) (i : Nat) : Option Nat :=
  if leadsB l R i = true then none else all.find? fun c => (hearsL l R i).contains c
def votesL (l : List Ct) (R : List (List Bool)) (all : List Nat) (m : Nat) (c : Nat) : List Nat := (List.range' 0 m).filter fun i => votes l R all i == some c
def setEp (e : Int) (o : List Ct) (i : Nat) : List Ct := o.set i ⟨(gt o i).st, e, (gt o i).hd⟩
def crown (t : Int) (o : List Ct) (c : Nat) : List Ct := o.set c ⟨1, (gt o c).ep, t⟩
def elect (l : List Ct) (t : Int) (V : Nat → List Nat) : List Nat → List Ct → Option (List Ct)
  | [], out => some out
  | c :: cs, out =>
    if maj l (V c).length = true then
      if 2147483648 < 1 + great l 0 (V c ++ [c]) then none
      else elect l t V cs (crown t ((V c ++ [c]).foldl (setEp (1 + great l 0 (V c ++ [c]))) out) c)
    else elect l t V cs out

def t1 (l : List Ct) (R : List (List Bool)) : List Ct := eachL l (learnC l R)
def t2 (l : List Ct) (R : List (List Bool)) : List Ct := eachL (t1 l R) (yieldC (t1 l R) R l)
def t3 (l : List Ct) (R : List (List Bool)) (t : Int) : List Ct := eachL (t2 l R) (listenC (t2 l R) R t)
def tickM (l : List Ct) (R : List (List Bool)) (t d : Int) : Option (List Ct) :=
  elect (t3 l R t) t (votesL (t3 l R t) R (candL (t3 l R t) R t d) l.length) (candL (t3 l R t) R t d) (t3 l R t)

/-- What the rounds ask for. -/
structure Sq (l : List Ct) (R : List (List Bool)) : Prop where
  n1 : 1 ≤ l.length
  n5 : l.length ≤ 5
  r : R.length = l.length
  c : ∀ i, i < l.length → (R.getD i []).length = l.length

theorem eachL_length (l : List Ct) (f) : (eachL l f).length = l.length := by simp [eachL]
theorem gt_each {l : List Ct} {f} {i : Nat} (h : i < l.length) : gt (eachL l f) i = eachC l f i := by
  simp [gt, eachL, List.getD, h]
theorem Sq.each {l : List Ct} {R} (h : Sq l R) (f) : Sq (eachL l f) R := ⟨by rw [eachL_length]; exact h.n1, by rw [eachL_length]; exact h.n5, by rw [eachL_length]; exact h.r, by rw [eachL_length]; exact h.c⟩

end Go.Proofs.Ythmhnnppikdafaa.Vm
