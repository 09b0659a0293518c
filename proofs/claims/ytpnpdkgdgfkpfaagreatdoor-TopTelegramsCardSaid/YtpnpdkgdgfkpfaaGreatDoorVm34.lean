/- The abstract machine, part 34: small laws for contracts. -/
import Derived.Test.YtpnpdkgdgfkpfaaGreatDoorVm4
import Derived.IntWalk
namespace Go.Proofs.YtpnpdkgdgfkpfaaGreatDoor.Vm
set_option linter.unusedVariables false

theorem ctl_and (b x : Bool) : ctl b (some x) (some false) = some (b && x) := by cases b <;> rfl
theorem ctl_or' (b x : Bool) : ctl (!b) (some x) (some true) = some (b || x) := by cases b <;> rfl
theorem ctl_or2 (b x : Bool) : ctl b (some true) (some x) = some (b || x) := by cases b <;> rfl
theorem ctl_if {α : Type} (b : Bool) (x y : Option α) : ctl b x y = if b = true then x else y := by cases b <;> rfl
theorem ctl_dec {α : Type} {p : Prop} {i : Decidable p} (x y : Option α) : ctl (decide p) x y = if p then x else y := by
  by_cases h : p <;> simp [h, ctl]
theorem ctl_ndec {α : Type} {p : Prop} {i : Decidable p} (x y : Option α) : ctl (!decide p) x y = if p then y else x := by
  by_cases h : p <;> simp [h, ctl]
theorem kindEq_self (k : IntKind) : kindEq k k = true := by cases k <;> rfl
theorem w64 {n : Int} (h : -9223372036854775808 ≤ n ∧ n ≤ 9223372036854775807) : IntKind.i64.wrap n = n := IntWalk.i64_in n h

theorem x_toPV (v : PV) : (RV.p v).toPV = v := rfl
theorem x_toCs (v : List PV) : (RV.agg v).toCs = v := rfl
theorem x_toCs2 (v : List PV) : (RV.ownp v).toCs = v := rfl
theorem x_toEs (sz : Nat) (v : List (List PV)) : (RV.own sz v).toEs = v := rfl
theorem x_bEs (sz : Nat) (v : List (List PV)) : (Blk.arr sz v).toEs = v := rfl
theorem x_bCs (v : List AV) : (Blk.box v).toCs = v := rfl
theorem x_aPV (v : PV) : AV.toPV (.t (.p v)) = v := rfl
theorem x_aCs (v : List PV) : AV.toCs (.t (.agg v)) = v := rfl
theorem x_int (k : IntKind) (n : Int) : (PV.int k n).toInt = n := rfl
theorem x_bool (b : Bool) : (PV.bool b).toBool = b := rfl
theorem x_str (s : List UInt8) : (PV.str s).toStr = s := rfl
theorem x_es (sz : Nat) (v : List (List PV)) : (PV.sl sz v).toEs = v := rfl
theorem x_esn : PV.nils.toEs = [] := rfl
section
variable {α : Type} (d x0 x1 x2 x3 x4 x5 x6 x7 x8 x9 : α) (l : List α)
theorem nth_0 : nth d (x0 :: l) 0 = x0 := rfl
theorem nth_1 : nth d (x0 :: x1 :: l) 1 = x1 := rfl
theorem nth_2 : nth d (x0 :: x1 :: x2 :: l) 2 = x2 := rfl
theorem nth_3 : nth d (x0 :: x1 :: x2 :: x3 :: l) 3 = x3 := rfl
theorem nth_4 : nth d (x0 :: x1 :: x2 :: x3 :: x4 :: l) 4 = x4 := rfl
theorem nth_5 : nth d (x0 :: x1 :: x2 :: x3 :: x4 :: x5 :: l) 5 = x5 := rfl
theorem nth_6 : nth d (x0 :: x1 :: x2 :: x3 :: x4 :: x5 :: x6 :: l) 6 = x6 := rfl
theorem nth_7 : nth d (x0 :: x1 :: x2 :: x3 :: x4 :: x5 :: x6 :: x7 :: l) 7 = x7 := rfl
theorem nth_8 : nth d (x0 :: x1 :: x2 :: x3 :: x4 :: x5 :: x6 :: x7 :: x8 :: l) 8 = x8 := rfl
theorem nth_9 : nth d (x0 :: x1 :: x2 :: x3 :: x4 :: x5 :: x6 :: x7 :: x8 :: x9 :: l) 9 = x9 := rfl
end
theorem y_nil : okR [] [] = true := rfl
theorem y_int (k : IntKind) (n : Int) (l : List RSh) (r : List RV) : okR (.one (.int k) :: l) (.p (.int k n) :: r) = okR l r := by simp [okR, okP, kindEq_self]
theorem y_bool (b : Bool) (l : List RSh) (r : List RV) : okR (.one .bool :: l) (.p (.bool b) :: r) = okR l r := rfl
theorem y_str (b : List UInt8) (l : List RSh) (r : List RV) : okR (.one .str :: l) (.p (.str b) :: r) = okR l r := rfl
theorem y_sl (sz : Nat) (b : List (List PV)) (l : List RSh) (r : List RV) : okR (.one (.sl sz) :: l) (.p (.sl sz b) :: r) = okR l r := by simp [okR, okP]
theorem y_nils (sz : Nat) (l : List RSh) (r : List RV) : okR (.one (.sl sz) :: l) (.p .nils :: r) = okR l r := rfl
theorem y_agg (ss : List Sh) (cs : List PV) (l : List RSh) (r : List RV) : okR (.agg ss :: l) (.agg cs :: r) = (okCs ss cs && okR l r) := rfl
theorem y_ownp (ss : List Sh) (cs : List PV) (l : List RSh) (r : List RV) : okR (.ownp ss :: l) (.ownp cs :: r) = (okCs ss cs && okR l r) := rfl
theorem y_own (sz : Nat) (b : List (List PV)) (l : List RSh) (r : List RV) : okR (.own sz :: l) (.own sz b :: r) = okR l r := by simp [okR]
theorem z_nil : okCs [] [] = true := rfl
theorem z_int (k : IntKind) (n : Int) (l : List Sh) (r : List PV) : okCs (.int k :: l) (.int k n :: r) = okCs l r := by simp [okCs, okP, kindEq_self]
theorem z_bool (b : Bool) (l : List Sh) (r : List PV) : okCs (.bool :: l) (.bool b :: r) = okCs l r := rfl
theorem z_str (b : List UInt8) (l : List Sh) (r : List PV) : okCs (.str :: l) (.str b :: r) = okCs l r := rfl
theorem z_sl (sz : Nat) (b : List (List PV)) (l : List Sh) (r : List PV) : okCs (.sl sz :: l) (.sl sz b :: r) = okCs l r := by simp [okCs, okP]
theorem z_nils (sz : Nat) (l : List Sh) (r : List PV) : okCs (.sl sz :: l) (.nils :: r) = okCs l r := rfl
theorem b_nil : okB [] [] = true := rfl
theorem b_arr (sz : Nat) (b : List (List PV)) (l : List (List Sh ⊕ Nat)) (r : List Blk) : okB (.inr sz :: l) (.arr sz b :: r) = okB l r := by simp [okB]
theorem b_box1 (ss : List Sh) (a : PV) (l : List (List Sh ⊕ Nat)) (r : List Blk) : okB (.inl ss :: l) (.box [.t (.p a)] :: r) = (okCs ss [a] && okB l r) := rfl
theorem b_box2 (ss : List Sh) (a b : PV) (l : List (List Sh ⊕ Nat)) (r : List Blk) : okB (.inl ss :: l) (.box [.t (.p a), .t (.p b)] :: r) = (okCs ss [a, b] && okB l r) := rfl
theorem b_box3 (ss : List Sh) (a b c : PV) (l : List (List Sh ⊕ Nat)) (r : List Blk) : okB (.inl ss :: l) (.box [.t (.p a), .t (.p b), .t (.p c)] :: r) = (okCs ss [a, b, c] && okB l r) := rfl
theorem b_box4 (ss : List Sh) (a b c d : PV) (l : List (List Sh ⊕ Nat)) (r : List Blk) : okB (.inl ss :: l) (.box [.t (.p a), .t (.p b), .t (.p c), .t (.p d)] :: r) = (okCs ss [a, b, c, d] && okB l r) := rfl

theorem q_isP (v : PV) : isP (.t (.p v)) = true := rfl
theorem q_isAg (v : List PV) : isAg (.t (.agg v)) = true := rfl
theorem q_isBox (v : List AV) : isBox (.box v) = true := rfl
theorem q_isArr (sz : Nat) (v : List (List PV)) : isArr sz (.arr sz v) = true := by simp [isArr]
theorem q_int (k : IntKind) (n : Int) : okP (.int k) (.int k n) = true := by simp [okP, kindEq_self]
theorem q_bool (b : Bool) : okP .bool (.bool b) = true := rfl
theorem q_str (b : List UInt8) : okP .str (.str b) = true := rfl
theorem q_sl (sz : Nat) (v : List (List PV)) : okP (.sl sz) (.sl sz v) = true := by simp [okP]
theorem q_nils (sz : Nat) : okP (.sl sz) .nils = true := rfl
theorem e_exit (i : Nat) : (Ex.exit i).eqb (Ex.exit i) = true := by simp [Ex.eqb]
theorem e_ret : Ex.ret.eqb Ex.ret = true := rfl
theorem e_nrm : Ex.nrm.eqb Ex.nrm = true := rfl
theorem e_ret_exit (i : Nat) : Ex.ret.eqb (Ex.exit i) = false := rfl
theorem e_exit_ret (i : Nat) : (Ex.exit i).eqb Ex.ret = false := rfl
theorem e_nrm_exit (i : Nat) : Ex.nrm.eqb (Ex.exit i) = false := rfl
theorem e_nrm_ret : Ex.nrm.eqb Ex.ret = false := rfl
theorem e_exit_nrm (i : Nat) : (Ex.exit i).eqb Ex.nrm = false := rfl
theorem e_ret_nrm : Ex.ret.eqb Ex.nrm = false := rfl

theorem floor_div {n d : Int} (hd : 0 < d) : (if n.tmod d < 0 then n.tdiv d - 1 else n.tdiv d) = n / d := by
  have h1 := Int.mul_tdiv_add_tmod n d
  have h2 := Int.mul_ediv_add_emod n d
  have h3 := Int.emod_nonneg n (Int.ne_of_gt hd)
  have h4 := Int.emod_lt_of_pos n hd
  have h5 := Int.tmod_lt_of_pos n hd
  have h6 : -d < n.tmod d := Int.lt_tmod_of_pos n hd
  have key : ∀ q r q' r' : Int, d * q + r = n → d * q' + r' = n → 0 ≤ r → r < d → 0 ≤ r' → r' < d → q = q' := by
    intro q r q' r' e e' a b a' b'
    have : d * (q - q') = r' - r := by rw [Int.mul_sub]; omega
    rcases Int.lt_trichotomy q q' with h | h | h
    · have : d * (q - q') ≤ d * (-1) := Int.mul_le_mul_of_nonneg_left (by omega) (by omega)
      omega
    · exact h
    · have : d * 1 ≤ d * (q - q') := Int.mul_le_mul_of_nonneg_left (by omega) (by omega)
      omega
  split
  · exact key _ (n.tmod d + d) _ (n % d) (by rw [Int.mul_sub]; omega) h2 (by omega) (by omega) h3 h4
  · exact key _ (n.tmod d) _ (n % d) h1 h2 (by omega) h5 h3 h4

theorem tmod_fix {a d : Int} (hd : 0 < d) : (if a.tmod d < 0 then a.tmod d + d else a.tmod d) = a % d := by
  have h1 := Int.mul_tdiv_add_tmod a d
  have h2 := Int.mul_ediv_add_emod a d
  have h3 := floor_div (n := a) hd
  split at h3
  · rename_i h
    rw [if_pos h]
    have : d * (a.tdiv d - 1) = d * (a / d) := by rw [h3]
    rw [Int.mul_sub] at this
    omega
  · rename_i h
    rw [if_neg h]
    have : d * a.tdiv d = d * (a / d) := by rw [h3]
    omega

theorem tmod_bounds {a d : Int} (hd : 0 < d) : -d < a.tmod d ∧ a.tmod d < d := ⟨Int.lt_tmod_of_pos a hd, Int.tmod_lt_of_pos a hd⟩

/-- The base lemmas of simp, in one. -/
theorem SB : type_of% (And.intro @bnd_some <| And.intro @ctl_true <| And.intro @ctl_false <| And.intro @ctl_and <| And.intro @ctl_or' <| And.intro @ctl_or2 <| And.intro @x_toPV <| And.intro @x_toCs <| And.intro @x_toCs2 <| And.intro @x_toEs <| And.intro @x_bEs <| And.intro @x_bCs <| And.intro @x_aPV <| And.intro @x_aCs <| And.intro @x_int <| And.intro @x_bool <| And.intro @x_str <| And.intro @x_es <| And.intro @x_esn <| And.intro @nth_0 <| And.intro @nth_1 <| And.intro @nth_2 <| And.intro @nth_3 <| And.intro @nth_4 <| And.intro @nth_5 <| And.intro @nth_6 <| And.intro @nth_7 <| And.intro @nth_8 <| And.intro @nth_9 <| And.intro @y_nil <| And.intro @y_int <| And.intro @y_bool <| And.intro @y_str <| And.intro @y_sl <| And.intro @y_nils <| And.intro @y_agg <| And.intro @y_ownp <| And.intro @y_own <| And.intro @z_nil <| And.intro @z_int <| And.intro @z_bool <| And.intro @z_str <| And.intro @z_sl <| And.intro @z_nils <| And.intro @b_nil <| And.intro @b_arr <| And.intro @b_box1 <| And.intro @b_box2 <| And.intro @b_box3 <| And.intro @b_box4 <| And.intro @List.map_cons.{0,0} <| And.intro @List.map_nil.{0,0} <| And.intro @Bool.and_self <| And.intro @Bool.and_true <| And.intro @Bool.true_and <| And.intro @Bool.not_true <| And.intro @Bool.not_false <| And.intro @Bool.or_false <| And.intro @Bool.false_or <| And.intro @cond_true.{1} <| And.intro @cond_false.{1} <| And.intro @q_isP <| And.intro @q_isAg <| And.intro @q_isBox <| And.intro @q_isArr <| And.intro @q_int <| And.intro @q_bool <| And.intro @q_str <| And.intro @q_sl <| And.intro @q_nils <| And.intro @e_exit <| And.intro @e_ret <| And.intro @e_nrm <| And.intro @e_ret_exit <| And.intro @e_exit_ret <| And.intro @e_nrm_exit <| And.intro @e_nrm_ret <| And.intro @e_exit_nrm <| And.intro @e_ret_nrm <| And.intro @Nat.zero_add <| And.intro @List.all_cons.{0} <| And.intro @List.all_nil.{0} <| And.intro @okPack.eq_1 <| And.intro @okPut.eq_1 <| And.intro @okPut.eq_2 <| And.intro @okPut.eq_3 <| And.intro @okPut.eq_4 <| And.intro @okPutBlks.eq_1 <| And.intro @okPutBlks.eq_2 <| And.intro @okPutBlks.eq_3 <| And.intro @okPutCells.eq_1 <| And.intro @okPutCells.eq_2 <| And.intro @okPutCells.eq_3 <| And.intro @noslR.eq_1 <| And.intro @noslR.eq_2 <| And.intro @noslR.eq_3 <| And.intro @noslR.eq_4 <| And.intro @noslR.eq_5 <| And.intro @noslP.eq_1 <| And.intro @noslP.eq_2 <| And.intro @noslB.eq_1 <| And.intro @noslB.eq_2 <| And.intro @noslB.eq_3 <| And.intro @noslA.eq_1 <| @noslA.eq_2) := And.intro @bnd_some <| And.intro @ctl_true <| And.intro @ctl_false <| And.intro @ctl_and <| And.intro @ctl_or' <| And.intro @ctl_or2 <| And.intro @x_toPV <| And.intro @x_toCs <| And.intro @x_toCs2 <| And.intro @x_toEs <| And.intro @x_bEs <| And.intro @x_bCs <| And.intro @x_aPV <| And.intro @x_aCs <| And.intro @x_int <| And.intro @x_bool <| And.intro @x_str <| And.intro @x_es <| And.intro @x_esn <| And.intro @nth_0 <| And.intro @nth_1 <| And.intro @nth_2 <| And.intro @nth_3 <| And.intro @nth_4 <| And.intro @nth_5 <| And.intro @nth_6 <| And.intro @nth_7 <| And.intro @nth_8 <| And.intro @nth_9 <| And.intro @y_nil <| And.intro @y_int <| And.intro @y_bool <| And.intro @y_str <| And.intro @y_sl <| And.intro @y_nils <| And.intro @y_agg <| And.intro @y_ownp <| And.intro @y_own <| And.intro @z_nil <| And.intro @z_int <| And.intro @z_bool <| And.intro @z_str <| And.intro @z_sl <| And.intro @z_nils <| And.intro @b_nil <| And.intro @b_arr <| And.intro @b_box1 <| And.intro @b_box2 <| And.intro @b_box3 <| And.intro @b_box4 <| And.intro @List.map_cons.{0,0} <| And.intro @List.map_nil.{0,0} <| And.intro @Bool.and_self <| And.intro @Bool.and_true <| And.intro @Bool.true_and <| And.intro @Bool.not_true <| And.intro @Bool.not_false <| And.intro @Bool.or_false <| And.intro @Bool.false_or <| And.intro @cond_true.{1} <| And.intro @cond_false.{1} <| And.intro @q_isP <| And.intro @q_isAg <| And.intro @q_isBox <| And.intro @q_isArr <| And.intro @q_int <| And.intro @q_bool <| And.intro @q_str <| And.intro @q_sl <| And.intro @q_nils <| And.intro @e_exit <| And.intro @e_ret <| And.intro @e_nrm <| And.intro @e_ret_exit <| And.intro @e_exit_ret <| And.intro @e_nrm_exit <| And.intro @e_nrm_ret <| And.intro @e_exit_nrm <| And.intro @e_ret_nrm <| And.intro @Nat.zero_add <| And.intro @List.all_cons.{0} <| And.intro @List.all_nil.{0} <| And.intro @okPack.eq_1 <| And.intro @okPut.eq_1 <| And.intro @okPut.eq_2 <| And.intro @okPut.eq_3 <| And.intro @okPut.eq_4 <| And.intro @okPutBlks.eq_1 <| And.intro @okPutBlks.eq_2 <| And.intro @okPutBlks.eq_3 <| And.intro @okPutCells.eq_1 <| And.intro @okPutCells.eq_2 <| And.intro @okPutCells.eq_3 <| And.intro @noslR.eq_1 <| And.intro @noslR.eq_2 <| And.intro @noslR.eq_3 <| And.intro @noslR.eq_4 <| And.intro @noslR.eq_5 <| And.intro @noslP.eq_1 <| And.intro @noslP.eq_2 <| And.intro @noslB.eq_1 <| And.intro @noslB.eq_2 <| And.intro @noslB.eq_3 <| And.intro @noslA.eq_1 <| @noslA.eq_2

end Go.Proofs.YtpnpdkgdgfkpfaaGreatDoor.Vm
