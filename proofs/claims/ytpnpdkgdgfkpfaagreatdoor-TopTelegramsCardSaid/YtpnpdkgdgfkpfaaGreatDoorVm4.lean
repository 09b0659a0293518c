/- The abstract machine, part 4: a step with what follows is the bare step, then what follows. -/
import Derived.Test.YtpnpdkgdgfkpfaaGreatDoorVm3
namespace Go.Proofs.YtpnpdkgdgfkpfaaGreatDoor.Vm

section nat
variable {α β γ : Type}

theorem ctl_bind (b : Bool) (x y : Option α) (f : α → Option β) : (ctl b x y).bind f = ctl b (x.bind f) (y.bind f) := by cases b <;> rfl
theorem ctl_true (x y : Option α) : ctl true x y = x := rfl
theorem ctl_false (x y : Option α) : ctl false x y = y := rfl
theorem bnd_bind (x : Option α) (g : α → Option β) (f : β → Option γ) : (bnd x g).bind f = bnd x (fun v => (g v).bind f) := by cases x <;> rfl
theorem bnd_some (v : α) (g : α → Option β) : bnd (some v) g = g v := rfl
theorem getE_bind (es : List (List PV)) (i : Int) (K : List PV → Option α) (f : α → Option β) : (getE es i K).bind f = getE es i fun e => (K e).bind f := by
  unfold getE
  rw [ctl_bind]
  rfl
abbrev P2 := AV × Ups
def two : Step P2 := fun v us => some (v, us)
theorem casesI_nat (i : Int) : ∀ (n j : Nat) (K : Nat → Option α) (f : α → Option β), (casesI i j n K).bind f = casesI i j n fun k => (K k).bind f
  | 0, _, _, _ => rfl
  | n + 1, j, K, f => by
    show (ctl _ _ _).bind f = ctl _ _ _
    rw [ctl_bind, casesI_nat i n]

theorem binK_nat (P : Program) (op : BinOp) (xt : TypeId) (x y : AV) (K : PV → Option α) (f : α → Option β) :
    (binK P op xt x y K).bind f = binK P op xt x y fun v => (K v).bind f := by
  unfold binK
  repeat' (first | rfl | (rw [ctl_bind]; rfl) | split)

theorem loadK_nat (P : Program) (look : Look) (t : TypeId) (a : AV) (K : Step α) (f : α → Option β) :
    (loadK P look t a K).bind f = loadK P look t a fun v us => (K v us).bind f := by
  unfold loadK
  repeat' (first | rfl | (rw [ctl_bind]; congr 1; split <;> rfl) | split)

theorem storeK_nat (P : Program) (look : Look) (t : TypeId) (a v : AV) (K : Step α) (f : α → Option β) :
    (storeK P look t a v K).bind f = storeK P look t a v fun v us => (K v us).bind f := by
  unfold storeK
  repeat' (first | rfl | split)

theorem indexAddrK_nat (P : Program) (look : Look) (t : TypeId) (x ix : AV) (K : Step α) (f : α → Option β) :
    (indexAddrK P look t x ix K).bind f = indexAddrK P look t x ix fun v us => (K v us).bind f := by
  unfold indexAddrK
  repeat' (first | rfl | (rw [getE_bind]; congr 1; funext e; rw [ctl_bind]; rfl) | (rw [ctl_bind]; rfl) | (rw [casesI_nat]) | split)

theorem indexK_nat (P : Program) (t : TypeId) (x ix : AV) (K : Step α) (f : α → Option β) :
    (indexK P t x ix K).bind f = indexK P t x ix fun v us => (K v us).bind f := by
  unfold indexK
  repeat' (first | rfl | (rw [getE_bind]; congr 1; funext e; rw [ctl_bind]; congr 1; split <;> rfl) | (rw [ctl_bind]; rfl) | split)

theorem sliceK_nat (P : Program) (look : Look) (t : TypeId) (x : AV) (lo hi : Option Int) (K : Step α) (f : α → Option β) :
    (sliceK P look t x lo hi K).bind f = sliceK P look t x lo hi fun v us => (K v us).bind f := by
  unfold sliceK
  repeat' (first | rfl | (rw [ctl_bind]; rfl) | split)

theorem appendK_nat (P : Program) (look : Look) (nid : Nat) (ts : List TypeId) (s x : AV) (K : Step α) (f : α → Option β) :
    (appendK P look nid ts s x K).bind f = appendK P look nid ts s x fun v us => (K v us).bind f := by
  unfold appendK
  repeat' (first | rfl | (rw [ctl_bind]; rfl) | split)

theorem makeSliceK_nat (P : Program) (nid : Nat) (t : TypeId) (l c : AV) (K : Step α) (f : α → Option β) :
    (makeSliceK P nid t l c K).bind f = makeSliceK P nid t l c fun v us => (K v us).bind f := by
  unfold makeSliceK
  repeat' (first | rfl | (rw [ctl_bind]; rfl) | split)

theorem convertK_nat (P : Program) (look : Look) (nid : Nat) (src dst : TypeId) (x : AV) (K : Step α) (f : α → Option β) :
    (convertK P look nid src dst x K).bind f = convertK P look nid src dst x fun v us => (K v us).bind f := by
  unfold convertK
  repeat' (first | rfl | (rw [ctl_bind]; rfl) | split)

theorem cond_nat (b : Bool) (x y : Option α) (x' y' : Option β) (f : α → Option β) (h1 : x.bind f = x') (h2 : y.bind f = y') : (cond b x y).bind f = cond b x' y' := by
  cases b
  · exact h2
  · exact h1

theorem nilK_nat (P : Program) (op : BinOp) (xt : TypeId) (x : AV) (K : PV → Option α) (f : α → Option β) :
    (nilK P op xt x K).bind f = nilK P op xt x fun v => (K v).bind f := by
  unfold nilK
  repeat' (first | rfl | split)

theorem builtinK_nat (P : Program) (look : Look) (nid : Nat) (b : Builtin) (ts : List TypeId) (args : List AV) (K : Step α) (f : α → Option β) :
    (builtinK P look nid b ts args K).bind f = builtinK P look nid b ts args fun v us => (K v us).bind f := by
  unfold builtinK
  repeat' (first | rfl | exact appendK_nat .. | (rw [ctl_bind]; rfl) | split)

theorem unK_nat (op : UnOp) (x : AV) (K : Step α) (f : α → Option β) : (unK op x K).bind f = unK op x fun v us => (K v us).bind f := by
  unfold unK
  repeat' (first | rfl | split)

theorem execK_nat (P : Program) (look : Look) (nid : Nat) (op : Op) (ev : Operand → AV) (K : Step α) (f : α → Option β) :
    (execK P look nid op ev K).bind f = execK P look nid op ev fun v us => (K v us).bind f := by
  unfold execK
  repeat' (first | rfl | exact loadK_nat .. | exact storeK_nat .. | exact binK_nat .. | exact cond_nat _ _ _ _ _ _ (nilK_nat ..) (binK_nat ..) | exact unK_nat .. | exact convertK_nat .. | exact makeSliceK_nat .. | exact sliceK_nat .. | exact indexAddrK_nat .. | exact indexK_nat .. | exact builtinK_nat .. | (rw [ctl_bind]; done) | (rw [ctl_bind]; rfl) | split)

theorem callK_nat (E : Env) (F : Fun) (look : Look) (nid : Nat) (g : Nat) (args : List AV) (K : Step α) (f : α → Option β) :
    (callK E F look nid g args K).bind f = callK E F look nid g args fun v us => (K v us).bind f := by
  unfold callK
  repeat' (first | rfl | (rw [bnd_bind]; congr 1; funext r; rw [ctl_bind]; rfl) | split | (dsimp only; split))

theorem callF_nat (E : Env) (F : Fun) (look : Look) (nid : Nat) (g : Nat) (args : List AV) (K : Step α) (f : α → Option β) :
    (callF E F look nid g args K).bind f = callF E F look nid g args fun v us => (K v us).bind f := callK_nat ..

theorem hprK_nat (k : HPrim) (look : Look) (nid : Nat) (args : List AV) (K : Step α) (f : α → Option β) :
    (hprK k look nid args K).bind f = hprK k look nid args fun v us => (K v us).bind f := by
  unfold hprK
  repeat' (first | rfl | (rw [ctl_bind]; done) | (rw [ctl_bind]; rfl) | split)

theorem opK_nat (E : Env) (F : Fun) (look : Look) (nid : Nat) (op : Op) (ev : Operand → AV) (K : Step α) (f : α → Option β) :
    (opK E F look nid op ev K).bind f = opK E F look nid op ev fun v us => (K v us).bind f := by
  unfold opK
  repeat' (first | rfl | exact callF_nat .. | exact execK_nat .. | exact hprK_nat .. | split)

theorem xopK_nat (E : Env) (F : Fun) (dr : Bool) (nid : Nat) (o : Oper) (st : St) (K : AV → Ups → List Nat → Bool → Option α) (f : α → Option β) :
    (xopK E F dr nid o st K).bind f = xopK E F dr nid o st fun v us fp w => (K v us fp w).bind f := by
  unfold xopK
  split
  · cases dr
    · exact opK_nat ..
    · dsimp only
      rw [opK_nat]; congr 1; funext v us; split <;> rfl
  · rfl

theorem stepK_nat (cx : Cx) (i nid : Nat) (o : Oper) (pu : Bool) (st : St) (lg : Log) (K : St → Log → Option α) (f : α → Option β) :
    (stepK cx i nid o pu st lg K).bind f = stepK cx i nid o pu st lg fun st' lg' => (K st' lg').bind f := by
  unfold stepK
  rw [xopK_nat]; congr 1; funext v us fp w; split <;> rfl

theorem seqK_nat (cx : Cx) (f : α → Option β) : ∀ (n : Nat) (pu : Bool) (i nid : Nat) (ops : List Oper) (st : St) (lg : Log) (K : St → Log → Option α),
    (seqK cx n α pu i nid ops st lg K).bind f = seqK cx n β pu i nid ops st lg fun st' lg' => (K st' lg').bind f
  | 0, _, _, _, [], _, _, _ => rfl
  | _ + 1, _, _, _, [], _, _, _ => rfl
  | 0, _, _, _, _ :: _, _, _, _ => rfl
  | n + 1, pu, i, nid, o :: rest, st, lg, K => by
    have ih := seqK_nat cx f n
    have ih1 : ∀ (i nid : Nat) (o : Oper) (st : St) (lg : Log) (pu : Bool) (j nid' : Nat) (l : List Oper), (stepK cx i nid o pu st lg fun st' lg' => seqK cx n α pu j nid' l st' lg' K).bind f
        = stepK cx i nid o pu st lg fun st' lg' => seqK cx n β pu j nid' l st' lg' fun st' lg' => (K st' lg').bind f := by
      intro i nid o st lg pu j nid' l
      rw [stepK_nat]; congr 1; funext st' lg'; exact ih _ _ _ _ _ _ _
    simp only [seqK]
    split
    · exact ih1 _ _ _ _ _ _ _ _ _
    · split
      · rfl
      · split
        · exact ih _ _ _ _ _ _ _
        · split
          · split
            · split
              · rw [bnd_bind]; congr 1; funext v; exact ih _ _ _ _ _ _ _
              · rfl
            · rw [ctl_bind, ih1, ih]
          · rw [ctl_bind, ih1, ih]
        · rfl

theorem regL_nat (E : Env) (F : Fun) (ops : Array Oper) (draw : Bool) (l : List Oper) (st : St) (K : St → Option α) (f : α → Option β) :
    (regL E F ops draw l st K).bind f = regL E F ops draw l st fun st' => (K st').bind f := by
  unfold regL
  dsimp only
  split
  · rw [seqK_nat]
  · rfl
theorem regK_nat (E : Env) (F : Fun) (ops : Array Oper) (draw : Bool) (st : St) (K : St → Option α) (f : α → Option β) :
    (regK E F ops draw st K).bind f = regK E F ops draw st fun st' => (K st').bind f := regL_nat ..

theorem inlOf_some {E : Env} {ops : Array Oper} {draw : Bool} {d : Option Nat} {g : Nat} {args : List Operand} (h : inlOf E ops draw = some (d, g, args)) :
    ∃ o as ats, lastO ops.toList = some o ∧ o.guard = none ∧ o.op = .call { callee := .value (.func g), args := as, argTypes := ats } ∧ o.dst = d ∧ args = as.toList ∧ hasN g E.inl = true ∧ hasN g E.okf = true ∧ hasN g E.nilf = false ∧
      (draw = true → allBits ((Region.before ops).getD (ops.size - 1) 0) (ops.size - 1) = true) := by
  unfold inlOf at h
  split at h
  · rename_i o ho
    split at h
    · rename_i g' as ats hg hop
      cases hc : hasN g' E.inl && (hasN g' E.okf && (!hasN g' E.nilf && (!draw || allBits ((Region.before ops).getD (ops.size - 1) 0) (ops.size - 1)))) with
      | false => rw [hc] at h; cases h
      | true =>
        rw [hc] at h
        cases h
        simp only [Bool.and_eq_true, Bool.not_eq_true', Bool.or_eq_true] at hc
        refine ⟨o, as, ats, ho, hg, hop, rfl, rfl, hc.1, hc.2.1, hc.2.2.1, fun hd => ?_⟩
        rcases hc.2.2.2 with h1 | h1
        · rw [hd] at h1; cases h1
        · exact h1
    · cases h
  · cases h

def INat (E : Env) (I : Inl) : Prop := ∀ (g : Nat) (α β : Type) (args : List AV) (h : List Ent) (K : AV → List Ent → Option α) (f : α → Option β), hasN g E.nilf = false →
  (I g α args h K).bind f = I g β args h fun v h => (K v h).bind f

theorem packK_nat (m : Nat) (an : Ann) (st : St) (K : Pack → Option α) (f : α → Option β) :
    (packK m an st K).bind f = packK m an st fun pk => (K pk).bind f := by
  unfold packK
  repeat' (first | rfl | (rw [ctl_bind]; done) | (rw [ctl_bind]; rfl) | split)

theorem unpackK_nat (nt : Nat) (an : Ann) (pk : Pack) (K : St → Option α) (f : α → Option β) :
    (unpackK nt an pk K).bind f = unpackK nt an pk fun st => (K st).bind f := by
  unfold unpackK
  rw [ctl_bind]; rfl

theorem packEx_nat (m : Nat) : ∀ (exs : List (Ex × Ann)) (K : Ex × Pack → Option α) (e : Ex) (st : St) (f : α → Option β),
    (packEx m exs K e st).bind f = packEx m exs (fun p => (K p).bind f) e st
  | [], _, _, _, _ => rfl
  | (x, an) :: l, K, e, st, f => by
    show (ctl _ _ _).bind f = ctl _ _ _
    rw [ctl_bind, packEx_nat m l, packK_nat]

theorem unpackEx_nat (nt : Nat) : ∀ (exs : List (Ex × Ann)) (p : Ex × Pack) (K : Ex → St → Option α) (f : α → Option β),
    (unpackEx nt exs p K).bind f = unpackEx nt exs p fun e st => (K e st).bind f
  | [], _, _, _ => rfl
  | (x, an) :: l, p, K, f => by
    show (ctl _ _ _).bind f = ctl _ _ _
    rw [ctl_bind, unpackEx_nat nt l, unpackK_nat]

theorem denK_nat (fx : Fx) (hnf : hasN fx.f fx.E.nilf = false) (hI : INat fx.E fx.I) (f : α → Option β) : ∀ (c : Code) (blk : Nat) (st : St) (K : Ex → St → Option α),
    (denK fx c blk α st K).bind f = denK fx c blk β st fun e st' => (K e st').bind f := by
  intro c
  induction c with
  | skip => intros; rfl
  | region id ops draw =>
    intro blk st K
    simp only [denK]
    split
    · exact regK_nat ..
    · rename_i d g args hi
      obtain ⟨_, _, _, _, _, _, _, _, _, _, hg, _⟩ := inlOf_some hi
      rw [regL_nat]
      congr 1; funext st'
      exact hI g _ _ _ _ _ _ hg
  | seq a b iha ihb =>
    intro blk st K
    simp only [denK]
    rw [iha]
    congr 1; funext e st'
    cases e <;> first | rfl | exact ihb ..
  | cond c a b iha ihb =>
    intro blk st K
    simp only [denK]
    split
    · split
      · rw [ctl_bind, iha, ihb]
      · rw [bnd_bind]; congr 1; funext p; exact unpackEx_nat ..
    · rw [hnf]; rfl
    · rfl
  | block id b ih =>
    intro blk st K
    simp only [denK]
    rw [ih]
    congr 1; funext e st'
    cases e <;> first | rfl | (dsimp only; rw [ctl_bind])
  | loop b ih =>
    intro blk st K
    simp only [denK]
    split
    · rfl
    · rw [packK_nat]; congr 1; funext pk
      rw [bnd_bind]; congr 1; funext p; exact unpackEx_nat ..
  | exit id => intros; rfl
  | ret => intros; rfl
  | rangeFunc f p a b => intros; rfl
  | scope b => intros; rfl
  | label l => intros; rfl
  | goto l => intros; rfl
  | refuse w => intros; rfl
end nat

theorem inlK_nat (E : Env) (F : Fun) : ∀ n, INat E (inlK E F n)
  | 0 => fun _ _ _ _ _ _ _ _ => rfl
  | n + 1 => fun g α β args h K f hnf => by
    simp only [inlK]
    split
    · rfl
    · split
      · rfl
      · rw [denK_nat _ hnf (inlK_nat E F n)]
        congr 1; funext e st'
        cases e <;> first | rfl | (dsimp only; repeat' (first | rfl | split))

theorem roundK_nat (E : Env) (F : Fun) (f m : Nat) (fa : List AV) (blk : Nat) {α β : Type} (pk : Pack) (K : Ex × Pack → Option α) (g : α → Option β) :
    (roundK E F f m fa blk pk K).bind g = roundK E F f m fa blk pk fun p => (K p).bind g := by
  unfold roundK
  split
  · rename_i b nt la hlo
    have hnf : hasN f E.nilf = false := by
      unfold loopOf at hlo
      split at hlo
      · rename_i h0 _ _; exact h0
      · cases hlo
    rw [unpackK_nat]; congr 1; funext st'
    rw [denK_nat _ hnf (inlK_nat E F 3)]; congr 1; funext e st''
    exact packEx_nat ..
  · rfl

theorem loopN_mono (B : Pack → Option (Ex × Pack)) : ∀ (n : Nat) (pk : Pack) (r : Ex × Pack), loopN B n pk = some r → ∀ k, n ≤ k → loopN B k pk = some r
  | 0, _, _, h, _, _ => by cases h
  | n + 1, pk, r, h, 0, hk => by omega
  | n + 1, pk, r, h, k + 1, hk => by
    simp only [loopN] at h ⊢
    cases hb : B pk with
    | none => rw [hb] at h; cases h
    | some p =>
      rw [hb] at h
      simp only [Option.bind_some] at h ⊢
      cases he : Ex.eqb p.1 .nrm with
      | true => rw [he] at h; exact loopN_mono B n _ r h k (by omega)
      | false => rw [he] at h; exact h

theorem loopC_of (B : Pack → Option (Ex × Pack)) {n : Nat} {pk : Pack} {r : Ex × Pack} (h : loopN B n pk = some r) : loopC B pk = some r := by
  have hx : ∃ n, (loopN B n pk).isSome := ⟨n, by rw [h]; rfl⟩
  unfold loopC
  rw [dif_pos hx]
  have h2 := Classical.choose_spec hx
  obtain ⟨r2, hr2⟩ := Option.isSome_iff_exists.1 h2
  rcases Nat.le_total n (Classical.choose hx) with hl | hl
  · exact loopN_mono B _ _ _ h _ hl
  · rw [hr2, ← loopN_mono B _ _ _ hr2 _ hl, h]

theorem loopC_some (B : Pack → Option (Ex × Pack)) {pk : Pack} {r : Ex × Pack} (h : loopC B pk = some r) : ∃ n, loopN B n pk = some r := by
  unfold loopC at h
  split at h
  · exact ⟨_, h⟩
  · cases h

theorem loopC_unfold (B : Pack → Option (Ex × Pack)) (pk : Pack) : loopC B pk = (B pk).bind fun p => ctl (Ex.eqb p.1 .nrm) (loopC B p.2) (some p) := by
  cases hb : B pk with
  | none =>
    simp only [Option.bind_none]
    cases hl : loopC B pk with
    | none => rfl
    | some r =>
      obtain ⟨n, hn⟩ := loopC_some B hl
      cases n with
      | zero => cases hn
      | succ n => simp [loopN, hb] at hn
  | some p =>
    simp only [Option.bind_some]
    cases he : Ex.eqb p.1 .nrm with
    | false =>
      refine loopC_of (n := 1) B ?_
      simp [loopN, hb, he]
    | true =>
      show loopC B pk = loopC B p.2
      cases hl : loopC B p.2 with
      | some r =>
        obtain ⟨n, hn⟩ := loopC_some B hl
        refine loopC_of (n := n + 1) B ?_
        simp [loopN, hb, he, hn]
      | none =>
        cases hl2 : loopC B pk with
        | none => rfl
        | some r =>
          obtain ⟨n, hn⟩ := loopC_some B hl2
          cases n with
          | zero => cases hn
          | succ n =>
            simp [loopN, hb, he] at hn
            rw [loopC_of B hn] at hl
            cases hl

theorem lp_unfold (E : Env) (F : Fun) (f m : Nat) (fa : List AV) (blk : Nat) (pk : Pack) :
    lp E F f m fa blk pk = roundK E F f m fa blk pk fun p => ctl (Ex.eqb p.1 .nrm) (lp E F f m fa blk p.2) (some p) := by
  show loopC _ pk = _
  rw [loopC_unfold, roundK_nat]
  rfl

def LeF (F G : Fun) : Prop := ∀ f args hs r, F f args hs = some r → G f args hs = some r

theorem ctl_le {α : Type} {b : Bool} {x y x' y' : Option α} {r : α} (h : ctl b x y = some r) (h1 : x = some r → x' = some r) (h2 : y = some r → y' = some r) : ctl b x' y' = some r := by
  cases b
  · exact h2 h
  · exact h1 h

theorem both_some {α : Type} {x y : Option α} {r : α} (h : both x y = some r) : x = some r ∧ y = some r := by
  unfold both at h
  split at h
  · rename_i he; exact ⟨h, he ▸ h⟩
  · cases h
theorem both_of {α : Type} {x y : Option α} {r : α} (h1 : x = some r) (h2 : y = some r) : both x y = some r := by
  unfold both
  rw [h1, h2, if_pos rfl]
theorem both_same {α : Type} (x : Option α) : both x x = x := by unfold both; rw [if_pos rfl]

section mono
variable {F G : Fun} (hFG : LeF F G)
include hFG

theorem callK_le {α : Type} (E : Env) (look : Look) (nid g : Nat) (args : List AV) (K K' : Step α) (r : α) (hK : ∀ v us, K v us = some r → K' v us = some r)
    (h : callK E F look nid g args K = some r) : callK E G look nid g args K' = some r := by
  unfold callK at h ⊢
  split at h
  · rename_i h0
    rw [if_pos h0]
    split at h
    · cases h
    · split at h
      · cases h
      · dsimp only at h ⊢
        split at h
        · split at h
          · rename_i h1
            rw [if_pos h1]
            unfold bnd at h ⊢
            obtain ⟨q, hq, hr⟩ := Option.bind_eq_some_iff.1 h
            rw [hFG _ _ _ _ hq]
            exact ctl_le hr (hK _ _) (fun h => h)
          · cases h
        · cases h
  · cases h
theorem callF_le {α : Type} (E : Env) (look : Look) (nid g : Nat) (args : List AV) (K K' : Step α) (r : α) (hK : ∀ v us, K v us = some r → K' v us = some r)
    (h : callF E F look nid g args K = some r) : callF E G look nid g args K' = some r := callK_le hFG _ _ _ _ _ _ _ _ (fun v _ => hK v _) h

theorem opK_le {α : Type} (E : Env) (look : Look) (nid : Nat) (op : Op) (ev : Operand → AV) (K K' : Step α) (r : α) (hK : ∀ v us, K v us = some r → K' v us = some r)
    (h : opK E F look nid op ev K = some r) : opK E G look nid op ev K' = some r := by
  unfold opK at h ⊢
  split at h
  · split at h
    · split at h
      · rename_i k _
        split at h
        · have e1 := hprK_nat k look nid (List.map ev (by assumption : Array Operand).toList) (fun v us => some (v, us)) (fun p : P2 => K p.1 p.2)
          have e2 := hprK_nat k look nid (List.map ev (by assumption : Array Operand).toList) (fun v us => some (v, us)) (fun p : P2 => K' p.1 p.2)
          simp only [Option.bind_some] at e1 e2
          rw [← e1] at h
          obtain ⟨q, hq, hr⟩ := Option.bind_eq_some_iff.1 h
          rw [← e2, hq]
          exact hK _ _ hr
        · cases h
      · exact callF_le hFG _ _ _ _ _ _ _ _ hK h
    · exact callF_le hFG _ _ _ _ _ _ _ _ hK h
    · cases h
  · have e1 := execK_nat E.P look nid op ev (fun v us => some (v, us)) (fun p : P2 => K p.1 p.2)
    have e2 := execK_nat E.P look nid op ev (fun v us => some (v, us)) (fun p : P2 => K' p.1 p.2)
    simp only [Option.bind_some] at e1 e2
    rw [← e1] at h
    obtain ⟨q, hq, hr⟩ := Option.bind_eq_some_iff.1 h
    rw [← e2, hq]
    exact hK _ _ hr

theorem xopK_le {α : Type} (E : Env) (dr : Bool) (nid : Nat) (o : Oper) (st : St) (K K' : AV → Ups → List Nat → Bool → Option α) (r : α)
    (hK : ∀ v us fp w, K v us fp w = some r → K' v us fp w = some r) (h : xopK E F dr nid o st K = some r) : xopK E G dr nid o st K' = some r := by
  unfold xopK at h ⊢
  split at h
  · rename_i h0
    rw [if_pos h0]
    cases dr
    · exact opK_le hFG _ _ _ _ _ _ _ _ (fun v us hv => hK _ _ _ _ hv) h
    · dsimp only at h ⊢
      refine opK_le hFG _ _ _ _ _ _ _ _ (fun v us hv => ?_) h
      split at hv
      · rename_i h1; rw [if_pos h1]; exact hK _ _ _ _ hv
      · cases hv
  · cases h

theorem stepK_le {α : Type} (E : Env) (ops : Array Oper) (bf : Array Nat) (md : Md) (i nid : Nat) (o : Oper) (pu : Bool) (st : St) (lg : Log) (K K' : St → Log → Option α) (r : α)
    (hK : ∀ v us, K v us = some r → K' v us = some r) (h : stepK ⟨E, F, ops, bf, md⟩ i nid o pu st lg K = some r) : stepK ⟨E, G, ops, bf, md⟩ i nid o pu st lg K' = some r := by
  unfold stepK at h ⊢
  refine xopK_le hFG _ _ _ _ _ _ _ _ (fun v us fp w hv => ?_) h
  have hso : stepOk ⟨E, F, ops, bf, md⟩ i o fp w lg = stepOk ⟨E, G, ops, bf, md⟩ i o fp w lg := rfl
  rw [hso] at hv
  split at hv
  · rename_i h0; rw [if_pos h0]; exact hK _ _ hv
  · cases hv

theorem seqK_le (E : Env) (ops : Array Oper) (bf : Array Nat) (md : Md) : ∀ (n : Nat) (α : Type) (pu : Bool) (i nid : Nat) (l : List Oper) (st : St) (lg : Log) (K K' : St → Log → Option α) (r : α),
    (∀ st lg, K st lg = some r → K' st lg = some r) → seqK ⟨E, F, ops, bf, md⟩ n α pu i nid l st lg K = some r → seqK ⟨E, G, ops, bf, md⟩ n α pu i nid l st lg K' = some r
  | 0, _, _, _, _, [], _, _, _, _, _, hK, h => hK _ _ h
  | _ + 1, _, _, _, _, [], _, _, _, _, _, hK, h => hK _ _ h
  | 0, _, _, _, _, _ :: _, _, _, _, _, _, _, h => by cases h
  | n + 1, α, pu, i, nid, o :: rest, st, lg, K, K', r, hK, h => by
    have ih := seqK_le E ops bf md n
    simp only [seqK] at h ⊢
    split at h
    · refine stepK_le hFG _ _ _ _ _ _ _ _ _ _ _ _ _ (fun st' lg' h' => ?_) h
      exact ih _ _ _ _ _ _ _ _ _ _ hK h'
    · rename_i j w _
      split at h
      · cases h
      · split at h
        · exact ih _ _ _ _ _ _ _ _ _ _ hK h
        · have hsplit : ∀ {b w d}, ctl (cond w b (!b))
                (stepK ⟨E, F, ops, bf, md⟩ i nid o pu ⟨upd (.bool w) st.slots d, st.heap⟩ lg fun st' lg' => seqK ⟨E, F, ops, bf, md⟩ n α pu (i + 1) (nid + resv o) rest st' lg' K)
                (seqK ⟨E, F, ops, bf, md⟩ n α pu (i + 1) (nid + resv o) rest ⟨setDst o.dst .no (upd (.bool (!w)) st.slots d), st.heap⟩ lg K) = some r →
              ctl (cond w b (!b))
                (stepK ⟨E, G, ops, bf, md⟩ i nid o pu ⟨upd (.bool w) st.slots d, st.heap⟩ lg fun st' lg' => seqK ⟨E, G, ops, bf, md⟩ n α pu (i + 1) (nid + resv o) rest st' lg' K')
                (seqK ⟨E, G, ops, bf, md⟩ n α pu (i + 1) (nid + resv o) rest ⟨setDst o.dst .no (upd (.bool (!w)) st.slots d), st.heap⟩ lg K') = some r := fun h =>
            ctl_le h (fun h => stepK_le hFG _ _ _ _ _ _ _ _ _ _ _ _ _ (fun st' lg' h' => ih _ _ _ _ _ _ _ _ _ _ hK h') h) (fun h => ih _ _ _ _ _ _ _ _ _ _ hK h)
          split at h
          · split at h
            · rename_i h1
              rw [if_pos h1]
              split at h
              · unfold bnd at h ⊢
                obtain ⟨q, hq, hr⟩ := Option.bind_eq_some_iff.1 h
                rw [ctl_le hq (fun h => ih _ _ _ _ _ _ _ _ _ _ (fun _ _ h => h) h) (fun h => h)]
                exact ih _ _ _ _ _ _ _ _ _ _ hK hr
              · cases h
            · rename_i h1
              rw [if_neg h1]
              exact hsplit h
          · exact hsplit h
        · cases h

theorem regL_le (E : Env) (ops : Array Oper) (draw : Bool) (l : List Oper) {α : Type} (st : St) (K K' : St → Option α) (r : α) (hK : ∀ st, K st = some r → K' st = some r)
    (h : regL E F ops draw l st K = some r) : regL E G ops draw l st K' = some r := by
  unfold regL at h ⊢
  dsimp only at h ⊢
  split at h
  · rename_i h0; rw [if_pos h0]; exact seqK_le hFG _ _ _ _ _ _ _ _ _ _ _ _ _ _ _ (fun st _ h => hK _ h) h
  · cases h

def ILe (I J : Inl) : Prop := ∀ (g : Nat) (α : Type) (args : List AV) (h : List Ent) (K K' : AV → List Ent → Option α) (r : α), (∀ v h, K v h = some r → K' v h = some r) → I g α args h K = some r → J g α args h K' = some r

theorem denK_le (E : Env) (f m nt : Nat) (fa : List AV) {I J : Inl} (hI : ILe I J) : ∀ (c : Code) (blk : Nat) (α : Type) (st : St) (K K' : Ex → St → Option α) (r : α),
    (∀ e st, K e st = some r → K' e st = some r) → denK ⟨E, F, f, m, nt, fa, I⟩ c blk α st K = some r → denK ⟨E, G, f, m, nt, fa, J⟩ c blk α st K' = some r := by
  intro c
  induction c with
  | skip => intro _ _ _ _ _ _ hK h; exact hK _ _ h
  | region id ops draw =>
    intro _ _ _ _ _ _ hK h
    simp only [denK] at h ⊢
    split at h
    · exact regL_le hFG E ops draw _ _ _ _ _ (fun st h => hK _ _ h) h
    · exact regL_le hFG E ops draw _ _ _ _ _ (fun st h => hI _ _ _ _ _ _ _ (fun v h' hh => hK _ _ hh) h) h
  | seq a b iha ihb =>
    intro blk α st K K' r hK h
    simp only [denK] at h ⊢
    refine iha _ _ _ _ _ _ (fun e st' he => ?_) h
    cases e <;> first | exact hK _ _ he | exact ihb _ _ _ _ _ _ hK he
  | cond c a b iha ihb =>
    intro blk α st K K' r hK h
    simp only [denK] at h ⊢
    split at h
    · split at h
      · exact ctl_le h (iha _ _ _ _ _ _ hK) (ihb _ _ _ _ _ _ hK)
      · unfold bnd at h ⊢
        obtain ⟨q, hq, hr⟩ := Option.bind_eq_some_iff.1 h
        rw [ctl_le hq (iha _ _ _ _ _ _ fun _ _ h => h) (ihb _ _ _ _ _ _ fun _ _ h => h)]
        simp only [Option.bind_some]
        have e1 := unpackEx_nat nt (resX fa (by assumption)) q (fun e st => some (e, st)) (fun p : Ex × St => K p.1 p.2)
        have e2 := unpackEx_nat nt (resX fa (by assumption)) q (fun e st => some (e, st)) (fun p : Ex × St => K' p.1 p.2)
        simp only [Option.bind_some] at e1 e2
        rw [← e1] at hr
        obtain ⟨q2, hq2, hr2⟩ := Option.bind_eq_some_iff.1 hr
        rw [← e2, hq2]
        exact hK _ _ hr2
    · cases hn : hasN f E.nilf with
      | true =>
        rw [hn] at h
        obtain ⟨h1, h2⟩ := both_some h
        exact both_of (iha _ _ _ _ _ _ hK h1) (ihb _ _ _ _ _ _ hK h2)
      | false => rw [hn] at h; cases h
    · cases h
  | block id b ih =>
    intro blk α st K K' r hK h
    simp only [denK] at h ⊢
    refine ih _ _ _ _ _ _ (fun e st' he => ?_) h
    cases e <;> first | exact hK _ _ he | exact ctl_le he (hK _ _) (hK _ _)
  | loop b ih =>
    intro blk α st K K' r hK h
    simp only [denK] at h ⊢
    split at h
    · cases h
    · rename_i la _
      have e1 := packK_nat m (resA fa la.head) (preSt E f (1000000 + blk) st) some (fun pk => bnd (lpC f m fa blk (fun pk => unpackK nt (resA fa la.head) pk fun st' => denK ⟨E, F, f, m, nt, fa, I⟩ b blk (Ex × Pack) st' (packEx m ((.nrm, resA fa la.head) :: resX fa la.exits) some)) pk) fun p => unpackEx nt (resX fa la.exits) p K)
      have e2 := packK_nat m (resA fa la.head) (preSt E f (1000000 + blk) st) some (fun pk => bnd (lpC f m fa blk (fun pk => unpackK nt (resA fa la.head) pk fun st' => denK ⟨E, G, f, m, nt, fa, J⟩ b blk (Ex × Pack) st' (packEx m ((.nrm, resA fa la.head) :: resX fa la.exits) some)) pk) fun p => unpackEx nt (resX fa la.exits) p K')
      simp only [Option.bind_some] at e1 e2
      rw [← e1] at h
      rw [← e2]
      obtain ⟨pk, hpk, h⟩ := Option.bind_eq_some_iff.1 h
      rw [hpk]
      simp only [Option.bind_some]
      unfold bnd lpC at h ⊢
      obtain ⟨q, hq, hr⟩ := Option.bind_eq_some_iff.1 h
      have hle : ∀ n pk q, loopN (fun pk => unpackK nt (resA fa la.head) pk fun st' => denK ⟨E, F, f, m, nt, fa, I⟩ b blk (Ex × Pack) st' (packEx m ((.nrm, resA fa la.head) :: resX fa la.exits) some)) n pk = some q →
          loopN (fun pk => unpackK nt (resA fa la.head) pk fun st' => denK ⟨E, G, f, m, nt, fa, J⟩ b blk (Ex × Pack) st' (packEx m ((.nrm, resA fa la.head) :: resX fa la.exits) some)) n pk = some q := by
        intro n
        induction n with
        | zero => intro _ _ h; cases h
        | succ n ihn =>
          intro pk q hn
          simp only [loopN] at hn ⊢
          obtain ⟨p, hp, hn⟩ := Option.bind_eq_some_iff.1 hn
          have hp' : (unpackK nt (resA fa la.head) pk fun st' => denK ⟨E, G, f, m, nt, fa, J⟩ b blk (Ex × Pack) st' (packEx m ((.nrm, resA fa la.head) :: resX fa la.exits) some)) = some p := by
            unfold unpackK at hp ⊢
            exact ctl_le hp (ih _ _ _ _ _ _ fun _ _ h => h) (fun h => h)
          rw [hp']
          simp only [Option.bind_some]
          cases he : Ex.eqb p.1 .nrm with
          | true => rw [he] at hn; exact ihn _ _ hn
          | false => rw [he] at hn; exact hn
      obtain ⟨n, hn⟩ := loopC_some _ hq
      rw [loopC_of _ (hle n pk q hn)]
      simp only [Option.bind_some]
      have e1 := unpackEx_nat nt (resX fa la.exits) q (fun e st => some (e, st)) (fun p : Ex × St => K p.1 p.2)
      have e2 := unpackEx_nat nt (resX fa la.exits) q (fun e st => some (e, st)) (fun p : Ex × St => K' p.1 p.2)
      simp only [Option.bind_some] at e1 e2
      rw [← e1] at hr
      obtain ⟨q2, hq2, hr2⟩ := Option.bind_eq_some_iff.1 hr
      rw [← e2, hq2]
      exact hK _ _ hr2
  | exit id => intro _ _ _ _ _ _ hK h; exact hK _ _ h
  | ret => intro _ _ _ _ _ _ hK h; exact hK _ _ h
  | rangeFunc f p a b => intro _ _ _ _ _ _ _ h; cases h
  | scope b => intro _ _ _ _ _ _ _ h; cases h
  | label l => intro _ _ _ _ _ _ _ h; cases h
  | goto l => intro _ _ _ _ _ _ _ h; cases h
  | refuse w => intro _ _ _ _ _ _ _ h; cases h

theorem inlK_le (E : Env) : ∀ n, ILe (inlK E F n) (inlK E G n)
  | 0 => fun _ _ _ _ _ _ _ _ h => by cases h
  | n + 1 => fun g α args h K K' r hK hh => by
    simp only [inlK] at hh ⊢
    split at hh
    · cases hh
    · split at hh
      · cases hh
      · refine denK_le hFG E _ _ _ _ (inlK_le E n) _ _ _ _ _ _ _ (fun e st he => ?_) hh
        cases e <;> first | (cases he; done) | skip
        all_goals
          dsimp only at he ⊢
          split at he
          · split at he
            · exact hK _ _ he
            · cases he
          · cases he

theorem funK_le (E : Env) : LeF (funK E F) (funK E G) := by
  intro f args hs r h
  unfold funK at h ⊢
  generalize findP f E.prims = q at h ⊢
  cases q with
  | some p =>
    cases hs with
    | cons => cases h
    | nil =>
      simp only at h ⊢
      cases hp : p.run F args with
      | none => rw [hp] at h; cases h
      | some rs => rw [hp] at h; rw [p.mono F G hFG _ _ hp]; exact h
  | none =>
  simp only at h ⊢
  split at h
  · cases h
  · split at h
    · cases h
    · exact denK_le hFG _ _ _ _ _ (inlK_le hFG E 3) _ _ _ _ _ _ _ (fun _ _ h => h) h
end mono

theorem RR_clo (E : Env) : Clo E (RR E) := by
  intro F hF f a h r hr S hS
  exact hS F (fun f a h r hr => hF f a h r hr S hS) f a h r hr

theorem RR_inv (E : Env) {f : Nat} {a : List AV} {h : List Blk} {r : Res} (hr : RR E f a h r) : ∃ F : Fun, (∀ f a h r, F f a h = some r → RR E f a h r) ∧ funK E F f a h = some r :=
  hr (fun f a h r => ∃ F : Fun, (∀ f a h r, F f a h = some r → RR E f a h r) ∧ funK E F f a h = some r) fun F hF f a h r hr => by
    refine ⟨F, fun f a h r h1 => ?_, hr⟩
    obtain ⟨G, hG, h2⟩ := hF f a h r h1
    exact RR_clo E G hG _ _ _ _ h2

theorem RR_fun (E : Env) {f : Nat} {a : List AV} {h : List Blk} {r r' : Res} (hr : RR E f a h r) (hr' : RR E f a h r') : r = r' := by
  have key : ∀ f a h r, RR E f a h r → RR E f a h r ∧ ∀ r', RR E f a h r' → r = r' := by
    intro f a h r hr
    refine hr (fun f a h r => RR E f a h r ∧ ∀ r', RR E f a h r' → r = r') ?_
    intro F hF f a h r hr
    refine ⟨RR_clo E F (fun f a h r h1 => (hF f a h r h1).1) f a h r hr, fun r' hr' => ?_⟩
    obtain ⟨G, hG, h2⟩ := RR_inv E hr'
    have h3 := funK_le (F := F) (G := fun f a h => match F f a h with | some x => some x | none => G f a h) (fun f a h r h1 => by simp [h1]) E _ _ _ _ hr
    have h4 := funK_le (F := G) (G := fun f a h => match F f a h with | some x => some x | none => G f a h) (fun f a h r h1 => by
      show (match F f a h with | some x => some x | none => G f a h) = some r
      cases h5 : F f a h with
      | none => exact h1
      | some x => exact congrArg some ((hF f a h x h5).2 r (hG f a h r h1))) E _ _ _ _ h2
    rw [h3] at h4
    exact Option.some.inj h4
  exact (key f a h r hr).2 r' hr'

theorem denC_iff (E : Env) {f : Nat} {a : List AV} {h : List Blk} {r : Res} : denC E f a h = some r ↔ RR E f a h r := by
  unfold denC
  constructor
  · intro hh
    split at hh
    · rename_i hx
      have := Classical.choose_spec hx
      rw [Option.some.inj hh] at this
      exact this
    · cases hh
  · intro hr
    rw [dif_pos ⟨r, hr⟩]
    exact congrArg some (RR_fun E (Classical.choose_spec (⟨r, hr⟩ : ∃ r, RR E f a h r)) hr)

theorem opt_ext {α : Type} {x y : Option α} (h1 : ∀ r, x = some r → y = some r) (h2 : ∀ r, y = some r → x = some r) : x = y := by
  cases x with
  | some v => exact (h1 v rfl).symm
  | none => cases y with
    | none => rfl
    | some v => cases h2 v rfl

theorem denC_eq (E : Env) (f : Nat) (args : List AV) (hs : List Blk) : denC E f args hs = funK E (denC E) f args hs := by
  refine opt_ext (fun r hr => ?_) (fun r hr => ?_)
  · obtain ⟨F, hF, h2⟩ := RR_inv E ((denC_iff E).1 hr)
    exact funK_le (fun f a h r h1 => (denC_iff E).2 (hF f a h r h1)) E _ _ _ _ h2
  · exact (denC_iff E).2 (RR_clo E (denC E) (fun f a h r h1 => (denC_iff E).1 h1) _ _ _ _ hr)

theorem denC_ind (E : Env) (S : Nat → List AV → List Blk → Res → Prop)
    (step : ∀ F : Fun, (∀ f a h r, F f a h = some r → S f a h r) → ∀ f a h r, funK E F f a h = some r → S f a h r) {f : Nat} {a : List AV} {h : List Blk} {r : Res}
    (hr : denC E f a h = some r) : S f a h r := (denC_iff E).1 hr S step

end Go.Proofs.YtpnpdkgdgfkpfaaGreatDoor.Vm
