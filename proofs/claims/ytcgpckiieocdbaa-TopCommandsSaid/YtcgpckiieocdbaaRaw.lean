/- The raw theorems, by program: what each function and each loop comes to. -/
import Derived.Test.YtcgpckiieocdbaaEnv
import Derived.Test.YtcgpckiieocdbaaVm34
import Derived.KernelRfl
namespace Go.Proofs.Ytcgpckiieocdbaa.Vm
open Go
set_option maxRecDepth 100000
set_option linter.unusedVariables false

/-- dynpos/dynpostop.awake33 -/
theorem r4 (F : Fun) : funK E F 4 [] [] =
  bnd (F 13 [AV.int IntKind.i64 1, AV.int IntKind.i64 2] []) fun (r : Res) =>
    ctl
      (okR
          [RSh.one (Sh.int IntKind.i64), RSh.one (Sh.int IntKind.i64)] r.fst &&
        okB [] r.snd)
      (bnd
        (ctl ((nth (RV.p PV.nilp) r.fst 1).toPV.toInt == 0)
          (Option.some ((nth (RV.p PV.nilp) r.fst 0).toPV.toInt == 2)) (Option.some Bool.false))
        fun (v : Bool) => Option.some ([RV.p (PV.bool v)], []))
      Option.none := by kernel_rfl

/-- dynpos/dynposmake.New -/
theorem r5 (F : Fun) (l : List (List PV)) : funK E F 5 [AV.sl 1 l] [] =
  ctl
    (Bool.true &&
      (leB 0 (minI 600 (↑l.length : Int)) && leB (minI 600 (↑l.length : Int)) (↑l.length : Int)))
    (Option.some
      ([RV.ownp
            [PV.sl 1 (cutI l 0 (minI 600 (↑l.length : Int))), PV.int IntKind.i64 0]],
        []))
    Option.none := by kernel_rfl

/-- (*dynpos/dynposmake.Src).Net, the loop of block 0 -/
theorem r6_0 (F : Fun) (k4 : Int) (b0_0 : List (List PV)) (b0_1 : Int) (b1_0 : Int) (b1_1 : List (List PV)) (b2_0 : Int) (c3 : List (List PV)) : lp E F 6 1 [] 0
  { vals := [AV.int IntKind.i64 k4],
    blks :=
      [Blk.box [AV.sl 1 b0_0, AV.int IntKind.i64 b0_1],
        Blk.box [AV.int IntKind.i64 b1_0, AV.sl 3 b1_1],
        Blk.box [AV.int IntKind.i64 b2_0, AV.t (TV.hsl 3)],
        Blk.arr 3 c3] } =
  ctl (ltB k4 2)
    (bnd
      (lp E F 6 1 [] 2
        { vals := [AV.int IntKind.i64 k4, AV.int IntKind.i64 0],
          blks :=
            [Blk.box [AV.sl 1 b0_0, AV.int IntKind.i64 b0_1],
              Blk.box [AV.int IntKind.i64 b1_0, AV.sl 3 b1_1],
              Blk.box [AV.int IntKind.i64 b2_0, AV.t (TV.hsl 3)],
              Blk.arr 3 c3] })
      fun (p : Ex × Pack) =>
      ctl (p.fst.eqb (Ex.exit 2))
        (ctl
          (okPack
            {
              slots :=
                [(0, Sum.inr (Sum.inr (AV.t (TV.ptr 0 0)))),
                  (2, Sum.inr (Sum.inr (AV.t (TV.ptr 1 0)))),
                  (3, Sum.inr (Sum.inr (AV.t (TV.ptr 2 0)))), (4, Sum.inl (Sh.int IntKind.i64))],
              blks :=
                [Sum.inl [Sum.inl (Sh.sl 1), Sum.inl (Sh.int IntKind.i64)],
                  Sum.inl [Sum.inl (Sh.int IntKind.i64), Sum.inl (Sh.sl 3)],
                  Sum.inl [Sum.inl (Sh.int IntKind.i64), Sum.inr (AV.t (TV.hsl 3))], Sum.inr 3] }
            p.snd)
          (lp E F 6 1 [] 0
            { vals := [AV.int IntKind.i64 (IntKind.i64.wrap ((nth AV.undef p.snd.vals 0).toPV.toInt + 1))],
              blks :=
                [Blk.box
                    [AV.sl 1
                        (nth AV.undef (nth (Blk.box []) p.snd.blks 0).toCs 0).toPV.toEs,
                      AV.int IntKind.i64
                        (nth AV.undef (nth (Blk.box []) p.snd.blks 0).toCs 1).toPV.toInt],
                  Blk.box
                    [AV.int IntKind.i64
                        (nth AV.undef (nth (Blk.box []) p.snd.blks 1).toCs 0).toPV.toInt,
                      AV.sl 3
                        (nth AV.undef (nth (Blk.box []) p.snd.blks 1).toCs 1).toPV.toEs],
                  Blk.box
                    [AV.int IntKind.i64
                        (nth AV.undef (nth (Blk.box []) p.snd.blks 2).toCs 0).toPV.toInt,
                      AV.t (TV.hsl 3)],
                  Blk.arr 3 (nth (Blk.box []) p.snd.blks 3).toEs] })
          Option.none)
        Option.none)
    (Option.some
      (Ex.exit 0,
        { vals := [],
          blks :=
            [Blk.box [AV.sl 1 b0_0, AV.int IntKind.i64 b0_1],
              Blk.box [AV.int IntKind.i64 b1_0, AV.sl 3 b1_1],
              Blk.box [AV.int IntKind.i64 b2_0, AV.t (TV.hsl 3)],
              Blk.arr 3 c3] })) := (lp_unfold ..).trans (by kernel_rfl)

/-- (*dynpos/dynposmake.Src).Net, the loop of block 2 -/
theorem r6_2 (F : Fun) (k4 : Int) (a5 : Int) (b0_0 : List (List PV)) (b0_1 : Int) (b1_0 : Int) (b1_1 : List (List PV)) (b2_0 : Int) (c3 : List (List PV)) : lp E F 6 1 [] 2
  { vals := [AV.int IntKind.i64 k4, AV.int IntKind.i64 a5],
    blks :=
      [Blk.box [AV.sl 1 b0_0, AV.int IntKind.i64 b0_1],
        Blk.box [AV.int IntKind.i64 b1_0, AV.sl 3 b1_1],
        Blk.box [AV.int IntKind.i64 b2_0, AV.t (TV.hsl 3)],
        Blk.arr 3 c3] } =
  ctl (ltB a5 b2_0)
    (bnd
      (lp E F 6 1 [] 4
        { vals := [AV.int IntKind.i64 k4, AV.int IntKind.i64 a5, AV.int IntKind.i64 (IntKind.i64.wrap (a5 + 1))],
          blks :=
            [Blk.box [AV.sl 1 b0_0, AV.int IntKind.i64 b0_1],
              Blk.box [AV.int IntKind.i64 b1_0, AV.sl 3 b1_1],
              Blk.box [AV.int IntKind.i64 b2_0, AV.t (TV.hsl 3)],
              Blk.arr 3 c3] })
      fun (p : Ex × Pack) =>
      ctl (p.fst.eqb (Ex.exit 4))
        (ctl
          (okPack
            {
              slots :=
                [(0, Sum.inr (Sum.inr (AV.t (TV.ptr 0 0)))),
                  (2, Sum.inr (Sum.inr (AV.t (TV.ptr 1 0)))),
                  (3, Sum.inr (Sum.inr (AV.t (TV.ptr 2 0)))), (4, Sum.inl (Sh.int IntKind.i64)),
                  (5, Sum.inl (Sh.int IntKind.i64))],
              blks :=
                [Sum.inl [Sum.inl (Sh.sl 1), Sum.inl (Sh.int IntKind.i64)],
                  Sum.inl [Sum.inl (Sh.int IntKind.i64), Sum.inl (Sh.sl 3)],
                  Sum.inl [Sum.inl (Sh.int IntKind.i64), Sum.inr (AV.t (TV.hsl 3))], Sum.inr 3] }
            p.snd)
          (lp E F 6 1 [] 2
            {
              vals :=
                [AV.int IntKind.i64 (nth AV.undef p.snd.vals 0).toPV.toInt,
                  AV.int IntKind.i64 (IntKind.i64.wrap ((nth AV.undef p.snd.vals 1).toPV.toInt + 1))],
              blks :=
                [Blk.box
                    [AV.sl 1
                        (nth AV.undef (nth (Blk.box []) p.snd.blks 0).toCs 0).toPV.toEs,
                      AV.int IntKind.i64
                        (nth AV.undef (nth (Blk.box []) p.snd.blks 0).toCs 1).toPV.toInt],
                  Blk.box
                    [AV.int IntKind.i64
                        (nth AV.undef (nth (Blk.box []) p.snd.blks 1).toCs 0).toPV.toInt,
                      AV.sl 3
                        (nth AV.undef (nth (Blk.box []) p.snd.blks 1).toCs 1).toPV.toEs],
                  Blk.box
                    [AV.int IntKind.i64
                        (nth AV.undef (nth (Blk.box []) p.snd.blks 2).toCs 0).toPV.toInt,
                      AV.t (TV.hsl 3)],
                  Blk.arr 3 (nth (Blk.box []) p.snd.blks 3).toEs] })
          Option.none)
        Option.none)
    (Option.some
      (Ex.exit 2,
        { vals := [AV.int IntKind.i64 k4],
          blks :=
            [Blk.box [AV.sl 1 b0_0, AV.int IntKind.i64 b0_1],
              Blk.box [AV.int IntKind.i64 b1_0, AV.sl 3 b1_1],
              Blk.box [AV.int IntKind.i64 b2_0, AV.t (TV.hsl 3)],
              Blk.arr 3 c3] })) := (lp_unfold ..).trans (by kernel_rfl)

/-- (*dynpos/dynposmake.Src).Net, the loop of block 4 -/
theorem r6_4 (F : Fun) (k4 : Int) (a5 : Int) (b6 : Int) (b0_0 : List (List PV)) (b0_1 : Int) (b1_0 : Int) (b1_1 : List (List PV)) (b2_0 : Int) (c3 : List (List PV)) : lp E F 6 1 [] 4
  { vals := [AV.int IntKind.i64 k4, AV.int IntKind.i64 a5, AV.int IntKind.i64 b6],
    blks :=
      [Blk.box [AV.sl 1 b0_0, AV.int IntKind.i64 b0_1],
        Blk.box [AV.int IntKind.i64 b1_0, AV.sl 3 b1_1],
        Blk.box [AV.int IntKind.i64 b2_0, AV.t (TV.hsl 3)],
        Blk.arr 3 c3] } =
  ctl (ltB b6 b2_0)
    (bnd
      (F 8 [AV.t (TV.ptr 0 0), AV.int IntKind.i64 2]
        [Blk.box [AV.sl 1 b0_0, AV.int IntKind.i64 b0_1]])
      fun (r : Res) =>
      ctl
        (okR [RSh.one (Sh.int IntKind.i64)] r.fst &&
          okB [Sum.inl [Sh.sl 1, Sh.int IntKind.i64]] r.snd)
        (ctl ((nth (RV.p PV.nilp) r.fst 0).toPV.toInt == 1)
          (ctl (leN ((c3.length + 1) * 24) 140737488355328)
            (lp E F 6 1 [] 4
              {
                vals :=
                  [AV.int IntKind.i64 k4, AV.int IntKind.i64 a5, AV.int IntKind.i64 (IntKind.i64.wrap (b6 + 1))],
                blks :=
                  [Blk.box
                      [AV.sl 1
                          (nth PV.nilp
                              (List.map AV.toPV (nth (Blk.box []) r.snd 0).toCs) 0).toEs,
                        AV.int IntKind.i64
                          (nth PV.nilp
                              (List.map AV.toPV (nth (Blk.box []) r.snd 0).toCs) 1).toInt],
                    Blk.box [AV.int IntKind.i64 b1_0, AV.sl 3 b1_1],
                    Blk.box [AV.int IntKind.i64 b2_0, AV.t (TV.hsl 3)],
                    Blk.arr 3
                      (c3 ++ [[PV.int IntKind.i64 k4, PV.int IntKind.i64 a5, PV.int IntKind.i64 b6]])] })
            Option.none)
          (lp E F 6 1 [] 4
            { vals := [AV.int IntKind.i64 k4, AV.int IntKind.i64 a5, AV.int IntKind.i64 (IntKind.i64.wrap (b6 + 1))],
              blks :=
                [Blk.box
                    [AV.sl 1
                        (nth PV.nilp
                            (List.map AV.toPV (nth (Blk.box []) r.snd 0).toCs) 0).toEs,
                      AV.int IntKind.i64
                        (nth PV.nilp
                            (List.map AV.toPV (nth (Blk.box []) r.snd 0).toCs) 1).toInt],
                  Blk.box [AV.int IntKind.i64 b1_0, AV.sl 3 b1_1],
                  Blk.box [AV.int IntKind.i64 b2_0, AV.t (TV.hsl 3)],
                  Blk.arr 3 c3] }))
        Option.none)
    (Option.some
      (Ex.exit 4,
        { vals := [AV.int IntKind.i64 k4, AV.int IntKind.i64 a5],
          blks :=
            [Blk.box [AV.sl 1 b0_0, AV.int IntKind.i64 b0_1],
              Blk.box [AV.int IntKind.i64 b1_0, AV.sl 3 b1_1],
              Blk.box [AV.int IntKind.i64 b2_0, AV.t (TV.hsl 3)],
              Blk.arr 3 c3] })) := (lp_unfold ..).trans (by kernel_rfl)

/-- (*dynpos/dynposmake.Src).Net -/
theorem r6 (F : Fun) (s0 : List (List PV)) (s1 : Int) : funK E F 6 [AV.t (TV.ptr 0 0)] [Blk.box [AV.sl 1 s0, AV.int IntKind.i64 s1]] =
  bnd
    (F 14 [AV.t (TV.ptr 0 0), AV.int IntKind.i64 1, AV.int IntKind.i64 5]
      [Blk.box [AV.sl 1 s0, AV.int IntKind.i64 s1]])
    fun (r : Res) =>
    ctl
      (okR [RSh.one (Sh.int IntKind.i64)] r.fst &&
        okB [Sum.inl [Sh.sl 1, Sh.int IntKind.i64]] r.snd)
      (bnd
        (lp E F 6 1 [] 0
          { vals := [AV.int IntKind.i64 0],
            blks :=
              [Blk.box
                  [AV.sl 1
                      (nth PV.nilp
                          (List.map AV.toPV (nth (Blk.box []) r.snd 0).toCs) 0).toEs,
                    AV.int IntKind.i64
                      (nth PV.nilp
                          (List.map AV.toPV (nth (Blk.box []) r.snd 0).toCs) 1).toInt],
                Blk.box [AV.int IntKind.i64 0, AV.sl 3 []],
                Blk.box
                  [AV.int IntKind.i64 (nth (RV.p PV.nilp) r.fst 0).toPV.toInt,
                    AV.t (TV.hsl 3)],
                Blk.arr 3 []] })
        fun (p : Ex × Pack) =>
        ctl (p.fst.eqb (Ex.exit 0))
          (ctl
            (okPack
              {
                slots :=
                  [(2, Sum.inr (Sum.inr (AV.t (TV.ptr 1 0)))),
                    (3, Sum.inr (Sum.inr (AV.t (TV.ptr 2 0))))],
                blks :=
                  [Sum.inl [Sum.inl (Sh.sl 1), Sum.inl (Sh.int IntKind.i64)],
                    Sum.inl [Sum.inl (Sh.int IntKind.i64), Sum.inl (Sh.sl 3)],
                    Sum.inl [Sum.inl (Sh.int IntKind.i64), Sum.inr (AV.t (TV.hsl 3))], Sum.inr 3] }
              p.snd)
            (Option.some
              ([RV.agg
                    [PV.int IntKind.i64
                        (nth AV.undef (nth (Blk.box []) p.snd.blks 2).toCs 0).toPV.toInt,
                      PV.sl 3 (nth (Blk.box []) p.snd.blks 3).toEs]],
                [Blk.box
                    [AV.sl 1
                        (nth AV.undef (nth (Blk.box []) p.snd.blks 0).toCs 0).toPV.toEs,
                      AV.int IntKind.i64
                        (nth AV.undef (nth (Blk.box []) p.snd.blks 0).toCs 1).toPV.toInt]]))
            Option.none)
          Option.none)
      Option.none := by kernel_rfl

/-- dynpos/failover.New -/
theorem r7 (F : Fun) (n : Int) : funK E F 7 [AV.int IntKind.i64 n] [] =
  bnd (ctl (!ltB n 1) (Option.some (ltB 5 n)) (Option.some Bool.true)) fun (v : Bool) =>
    ctl v
      (Option.some ([RV.p (PV.sl 3 []), RV.p (PV.int IntKind.i64 2)], []))
      (ctl
        (leB 0 n && (leB n n && (leB n 9223372036854775807 && leB (n * 24) 140737488355328)))
        (Option.some
          ([RV.p
                (PV.sl 3
                  (reps
                    [PV.int IntKind.i64 0, PV.int IntKind.i64 0, PV.int IntKind.i64 0] n.toNat)),
              RV.p (PV.int IntKind.i64 0)],
            []))
        Option.none) := by kernel_rfl

/-- (*dynpos/dynposmake.Src).N -/
theorem r8 (F : Fun) (s0 : List (List PV)) (s1 : Int) (n : Int) : funK E F 8 [AV.t (TV.ptr 0 0), AV.int IntKind.i64 n] [Blk.box [AV.sl 1 s0, AV.int IntKind.i64 s1]] =
  ctl (leB (↑s0.length : Int) s1)
    (Option.some
      ([RV.p (PV.int IntKind.i64 0)],
        [Blk.box [AV.sl 1 s0, AV.int IntKind.i64 s1]]))
    (getE s0 (IntKind.i64.wrap (IntKind.i64.wrap (s1 + 1) - 1)) fun (c : List PV) =>
      ctl (okCs [Sh.int IntKind.i64] c)
        (bnd
          (F 15 [AV.int IntKind.i64 (nth PV.nilp c 0).toInt, AV.int IntKind.i64 n] [])
          fun (r : Res) =>
          ctl
            (okR [RSh.one (Sh.int IntKind.i64)] r.fst && okB [] r.snd)
            (Option.some
              ([RV.p
                    (PV.int IntKind.i64 (nth (RV.p PV.nilp) r.fst 0).toPV.toInt)],
                [Blk.box [AV.sl 1 s0, AV.int IntKind.i64 (IntKind.i64.wrap (s1 + 1))]]))
            Option.none)
        Option.none) := by kernel_rfl

/-- (*dynpos/dynposmake.Src).Cables, the loop of block 0 -/
theorem r9_0 (F : Fun) (x12 : List (List PV)) (x13 : Int) (x14 : Int) (b0_0 : List (List PV)) (b0_1 : Int) (c1 : List (List PV)) : lp E F 9 1 [] 0
  { vals := [AV.sl 1 x12, AV.int IntKind.i64 x13, AV.int IntKind.i64 x14],
    blks := [Blk.box [AV.sl 1 b0_0, AV.int IntKind.i64 b0_1], Blk.arr 2 c1] } =
  ctl (ltB x14 x13)
    (getE x12 x14 fun (c : List PV) =>
      ctl (okCs [Sh.int IntKind.i64] c)
        (ctl (leN ((c1.length + 1) * 16) 140737488355328)
          (lp E F 9 1 [] 0
            { vals := [AV.sl 1 x12, AV.int IntKind.i64 x13, AV.int IntKind.i64 (IntKind.i64.wrap (x14 + 1))],
              blks :=
                [Blk.box [AV.sl 1 b0_0, AV.int IntKind.i64 b0_1],
                  Blk.arr 2
                    (c1 ++
                      [[PV.int IntKind.i64 8,
                          PV.int IntKind.i64 (nth PV.nilp c 0).toInt]])] })
          Option.none)
        Option.none)
    (Option.some
      (Ex.exit 0,
        { vals := [],
          blks := [Blk.box [AV.sl 1 b0_0, AV.int IntKind.i64 b0_1], Blk.arr 2 c1] })) := (lp_unfold ..).trans (by kernel_rfl)

/-- (*dynpos/dynposmake.Src).Cables -/
theorem r9 (F : Fun) (s0 : List (List PV)) (s1 : Int) (n0 : Int) (n1 : List (List PV)) : funK E F 9 [AV.t (TV.ptr 0 0),
  AV.agg [PV.int IntKind.i64 n0, PV.sl 3 n1]] [Blk.box [AV.sl 1 s0, AV.int IntKind.i64 s1]] =
  bnd
    (F 16 [AV.t (TV.ptr 0 0), AV.int IntKind.i64 (↑n1.length : Int), AV.int IntKind.i64 3]
      [Blk.box [AV.sl 1 s0, AV.int IntKind.i64 s1]])
    fun (r : Res) =>
    ctl
      (okR [RSh.one (Sh.sl 1)] r.fst &&
        okB [Sum.inl [Sh.sl 1, Sh.int IntKind.i64]] r.snd)
      (bnd
        (lp E F 9 1 [] 0
          {
            vals :=
              [AV.sl 1 (nth (RV.p PV.nilp) r.fst 0).toPV.toEs,
                AV.int IntKind.i64 (↑(nth (RV.p PV.nilp) r.fst 0).toPV.toEs.length : Int),
                AV.int IntKind.i64 0],
            blks :=
              [Blk.box
                  [AV.sl 1
                      (nth PV.nilp
                          (List.map AV.toPV (nth (Blk.box []) r.snd 0).toCs) 0).toEs,
                    AV.int IntKind.i64
                      (nth PV.nilp
                          (List.map AV.toPV (nth (Blk.box []) r.snd 0).toCs) 1).toInt],
                Blk.arr 2 []] })
        fun (p : Ex × Pack) =>
        ctl (p.fst.eqb (Ex.exit 0))
          (ctl
            (okPack
              { slots := [(5, Sum.inr (Sum.inr (AV.t (TV.hsl 1))))],
                blks := [Sum.inl [Sum.inl (Sh.sl 1), Sum.inl (Sh.int IntKind.i64)], Sum.inr 2] }
              p.snd)
            (Option.some
              ([RV.p (PV.sl 2 (nth (Blk.box []) p.snd.blks 1).toEs)],
                [Blk.box
                    [AV.sl 1
                        (nth AV.undef (nth (Blk.box []) p.snd.blks 0).toCs 0).toPV.toEs,
                      AV.int IntKind.i64
                        (nth AV.undef (nth (Blk.box []) p.snd.blks 0).toCs 1).toPV.toInt]]))
            Option.none)
          Option.none)
      Option.none := by kernel_rfl

/-- dynpos/network.Copies, the loop of block 0 -/
theorem r10_0 (F : Fun) (broken1 : List (List PV)) (a2 : Int) (b3 : Int) (out9 : Int) (x11 : Int) (b0_0 : Int) (b0_1 : List (List PV)) : lp E F 10 0 [] 0
  {
    vals :=
      [AV.sl 2 broken1, AV.int IntKind.i64 a2, AV.int IntKind.i64 b3,
        AV.int IntKind.i64 out9, AV.int IntKind.i64 x11],
    blks := [Blk.box [AV.int IntKind.i64 b0_0, AV.sl 3 b0_1]] } =
  ctl (ltB x11 2)
    (bnd
      (F 17
        [AV.agg [PV.int IntKind.i64 b0_0, PV.sl 3 b0_1], AV.sl 2 broken1,
          AV.int IntKind.i64 x11, AV.int IntKind.i64 a2, AV.int IntKind.i64 b3]
        [])
      fun (r : Res) =>
      ctl (okR [RSh.one Sh.bool] r.fst && okB [] r.snd)
        (ctl (nth (RV.p PV.nilp) r.fst 0).toPV.toBool
          (lp E F 10 0 [] 0
            {
              vals :=
                [AV.sl 2 broken1, AV.int IntKind.i64 a2, AV.int IntKind.i64 b3,
                  AV.int IntKind.i64 (IntKind.i64.wrap (out9 + 1)), AV.int IntKind.i64 (IntKind.i64.wrap (x11 + 1))],
              blks := [Blk.box [AV.int IntKind.i64 b0_0, AV.sl 3 b0_1]] })
          (lp E F 10 0 [] 0
            {
              vals :=
                [AV.sl 2 broken1, AV.int IntKind.i64 a2, AV.int IntKind.i64 b3,
                  AV.int IntKind.i64 out9, AV.int IntKind.i64 (IntKind.i64.wrap (x11 + 1))],
              blks := [Blk.box [AV.int IntKind.i64 b0_0, AV.sl 3 b0_1]] }))
        Option.none)
    (Option.some (Ex.exit 0, { vals := [AV.int IntKind.i64 out9], blks := [] })) := (lp_unfold ..).trans (by kernel_rfl)

/-- dynpos/network.Copies -/
theorem r10 (F : Fun) (n0 : Int) (n1 : List (List PV)) (broken : List (List PV)) (a : Int) (b : Int) : funK E F 10 [AV.agg [PV.int IntKind.i64 n0, PV.sl 3 n1], AV.sl 2 broken,
  AV.int IntKind.i64 a, AV.int IntKind.i64 b] [] =
  bnd
    (lp E F 10 0 [] 0
      {
        vals :=
          [AV.sl 2 broken, AV.int IntKind.i64 a, AV.int IntKind.i64 b,
            AV.int IntKind.i64 0, AV.int IntKind.i64 0],
        blks := [Blk.box [AV.int IntKind.i64 n0, AV.sl 3 n1]] })
    fun (p : Ex × Pack) =>
    ctl (p.fst.eqb (Ex.exit 0))
      (ctl (okPack { slots := [(9, Sum.inl (Sh.int IntKind.i64))], blks := [] } p.snd)
        (Option.some ([RV.p (PV.int IntKind.i64 (nth AV.undef p.snd.vals 0).toPV.toInt)], []))
        Option.none)
      Option.none := by kernel_rfl

/-- (*dynpos/dynposmake.Src).Shaken -/
theorem r11 (F : Fun) (s0 : List (List PV)) (s1 : Int) (l : List (List PV)) (time : Int) : funK E F 11 [AV.t (TV.ptr 0 0), AV.sl 3 l, AV.int IntKind.i64 time] [Blk.box [AV.sl 1 s0, AV.int IntKind.i64 s1]] =
  bnd
    (F 8 [AV.t (TV.ptr 0 0), AV.int IntKind.i64 (IntKind.i64.wrap (3 * (↑l.length : Int)))]
      [Blk.box [AV.sl 1 s0, AV.int IntKind.i64 s1]])
    fun (r : Res) =>
    ctl
      (okR [RSh.one (Sh.int IntKind.i64)] r.fst &&
        okB [Sum.inl [Sh.sl 1, Sh.int IntKind.i64]] r.snd)
      (bnd
        (F 18
          [AV.sl 3 l,
            AV.int IntKind.i64 (nth (RV.p PV.nilp) r.fst 0).toPV.toInt]
          [])
        fun (r_1 : Res) =>
        ctl
          (okR [RSh.one (Sh.sl 3), RSh.one (Sh.int IntKind.i64)]
              r_1.fst &&
            okB [] r_1.snd)
          (ctl ((nth (RV.p PV.nilp) r_1.fst 1).toPV.toInt == 0)
            (Option.some
              ([RV.p
                    (PV.sl 3 (nth (RV.p PV.nilp) r_1.fst 0).toPV.toEs)],
                [Blk.box
                    [AV.sl 1
                        (nth PV.nilp
                            (List.map AV.toPV (nth (Blk.box []) r.snd 0).toCs) 0).toEs,
                      AV.int IntKind.i64
                        (nth PV.nilp
                            (List.map AV.toPV (nth (Blk.box []) r.snd 0).toCs) 1).toInt]]))
            (bnd
              (F 19
                [AV.sl 3 l,
                  AV.int IntKind.i64 (nth (RV.p PV.nilp) r.fst 0).toPV.toInt,
                  AV.int IntKind.i64 time]
                [])
              fun (r_2 : Res) =>
              ctl
                (okR
                    [RSh.one (Sh.sl 3), RSh.one (Sh.int IntKind.i64)] r_2.fst &&
                  okB [] r_2.snd)
                (ctl ((nth (RV.p PV.nilp) r_2.fst 1).toPV.toInt == 0)
                  (Option.some
                    ([RV.p
                          (PV.sl 3 (nth (RV.p PV.nilp) r_2.fst 0).toPV.toEs)],
                      [Blk.box
                          [AV.sl 1
                              (nth PV.nilp
                                  (List.map AV.toPV (nth (Blk.box []) r.snd 0).toCs) 0).toEs,
                            AV.int IntKind.i64
                              (nth PV.nilp
                                  (List.map AV.toPV (nth (Blk.box []) r.snd 0).toCs) 1).toInt]]))
                  (Option.some
                    ([RV.p (PV.sl 3 l)],
                      [Blk.box
                          [AV.sl 1
                              (nth PV.nilp
                                  (List.map AV.toPV (nth (Blk.box []) r.snd 0).toCs) 0).toEs,
                            AV.int IntKind.i64
                              (nth PV.nilp
                                  (List.map AV.toPV (nth (Blk.box []) r.snd 0).toCs) 1).toInt]])))
                Option.none))
          Option.none)
      Option.none := by kernel_rfl

/-- dynpos/failover.Tick -/
theorem r12 (F : Fun) (l : List (List PV)) (reach : List (List PV)) (time : Int) (timeout : Int) : funK E F 12 [AV.sl 3 l, AV.sl 1 reach, AV.int IntKind.i64 time, AV.int IntKind.i64 timeout] [] =
  bnd
    (F 20 [AV.sl 3 l, AV.sl 1 reach, AV.int IntKind.i64 time, AV.int IntKind.i64 timeout]
      [])
    fun (r : Res) =>
    ctl
      (okR [RSh.one (Sh.int IntKind.i64)] r.fst && okB [] r.snd)
      (ctl ((nth (RV.p PV.nilp) r.fst 0).toPV.toInt != 0)
        (Option.some
          ([RV.p (PV.sl 3 []),
              RV.p
                (PV.int IntKind.i64 (nth (RV.p PV.nilp) r.fst 0).toPV.toInt)],
            []))
        (bnd
          (F 21
            [AV.agg [PV.sl 3 l, PV.sl 1 reach],
              AV.bnd 22 [PV.sl 3 l, PV.sl 1 reach]]
            [])
          fun (r : Res) =>
          ctl
            (okR [RSh.agg [Sh.sl 3, Sh.sl 1]] r.fst &&
              okB [] r.snd)
            (bnd
              (F 21
                [AV.agg
                    [PV.sl 3
                        (nth PV.nilp
                            (nth (RV.p PV.nilp) r.fst 0).toCs 0).toEs,
                      PV.sl 1
                        (nth PV.nilp
                            (nth (RV.p PV.nilp) r.fst 0).toCs 1).toEs],
                  AV.fn 34 [TV.ptr 0 0, TV.ptr 1 0]]
                [Blk.box
                    [AV.sl 3
                        (nth PV.nilp
                            (nth (RV.p PV.nilp) r.fst 0).toCs 0).toEs,
                      AV.sl 1
                        (nth PV.nilp
                            (nth (RV.p PV.nilp) r.fst 0).toCs 1).toEs],
                  Blk.box [AV.sl 3 l, AV.sl 1 reach]])
              fun (r : Res) =>
              ctl
                (okR [RSh.agg [Sh.sl 3, Sh.sl 1]] r.fst &&
                  okB
                    [Sum.inl [Sh.sl 3, Sh.sl 1], Sum.inl [Sh.sl 3, Sh.sl 1]] r.snd)
                (bnd
                  (F 21
                    [AV.agg
                        [PV.sl 3
                            (nth PV.nilp
                                (nth (RV.p PV.nilp) r.fst 0).toCs 0).toEs,
                          PV.sl 1
                            (nth PV.nilp
                                (nth (RV.p PV.nilp) r.fst 0).toCs 1).toEs],
                      AV.fn 39 [TV.ptr 0 0, TV.ptr 1 0]]
                    [Blk.box
                        [AV.sl 3
                            (nth PV.nilp
                                (nth (RV.p PV.nilp) r.fst 0).toCs 0).toEs,
                          AV.sl 1
                            (nth PV.nilp
                                (nth (RV.p PV.nilp) r.fst 0).toCs 1).toEs],
                      Blk.box [AV.int IntKind.i64 time]])
                  fun (r : Res) =>
                  ctl
                    (okR [RSh.agg [Sh.sl 3, Sh.sl 1]] r.fst &&
                      okB [Sum.inl [Sh.sl 3, Sh.sl 1], Sum.inl [Sh.int IntKind.i64]] r.snd)
                    (bnd
                      (F 25
                        [AV.agg
                            [PV.sl 3
                                (nth PV.nilp
                                    (nth (RV.p PV.nilp) r.fst 0).toCs 0).toEs,
                              PV.sl 1
                                (nth PV.nilp
                                    (nth (RV.p PV.nilp) r.fst 0).toCs 1).toEs],
                          AV.int IntKind.i64 time, AV.int IntKind.i64 timeout]
                        [])
                      fun (r : Res) =>
                      ctl
                        (okR
                            [RSh.agg [Sh.sl 3, Sh.sl 1],
                              RSh.one Sh.bool]
                            r.fst &&
                          okB [] r.snd)
                        (ctl (!(nth (RV.p PV.nilp) r.fst 1).toPV.toBool)
                          (Option.some ([RV.p (PV.sl 3 []), RV.p (PV.int IntKind.i64 2)], []))
                          (Option.some
                            ([RV.p
                                  (PV.sl 3
                                    (nth PV.nilp
                                        (nth (RV.p PV.nilp) r.fst 0).toCs 0).toEs),
                                RV.p (PV.int IntKind.i64 0)],
                              [])))
                        Option.none)
                    Option.none)
                Option.none)
            Option.none))
      Option.none := by kernel_rfl

/-- dynpos/failover.Fence -/
theorem r13 (F : Fun) (epoch : Int) (command : Int) : funK E F 13 [AV.int IntKind.i64 epoch, AV.int IntKind.i64 command] [] =
  bnd (ctl (!ltB epoch 0) (Option.some (ltB 2147483648 epoch)) (Option.some Bool.true))
    fun (v : Bool) =>
    bnd (ctl (!v) (Option.some (ltB command 0)) (Option.some Bool.true)) fun (v : Bool) =>
      bnd (ctl (!v) (Option.some (ltB 2147483648 command)) (Option.some Bool.true)) fun (v : Bool) =>
        ctl v
          (Option.some ([RV.p (PV.int IntKind.i64 0), RV.p (PV.int IntKind.i64 1)], []))
          (ctl (ltB command epoch)
            (Option.some ([RV.p (PV.int IntKind.i64 0), RV.p (PV.int IntKind.i64 69)], []))
            (Option.some
              ([RV.p (PV.int IntKind.i64 command), RV.p (PV.int IntKind.i64 0)], []))) := by kernel_rfl

/-- (*dynpos/dynposmake.Src).Range -/
theorem r14 (F : Fun) (s0 : List (List PV)) (s1 : Int) (lo : Int) (hi : Int) : funK E F 14 [AV.t (TV.ptr 0 0), AV.int IntKind.i64 lo, AV.int IntKind.i64 hi] [Blk.box [AV.sl 1 s0, AV.int IntKind.i64 s1]] =
  bnd
    (F 8 [AV.t (TV.ptr 0 0), AV.int IntKind.i64 (IntKind.i64.wrap (IntKind.i64.wrap (hi - lo) + 1))]
      [Blk.box [AV.sl 1 s0, AV.int IntKind.i64 s1]])
    fun (r : Res) =>
    ctl
      (okR [RSh.one (Sh.int IntKind.i64)] r.fst &&
        okB [Sum.inl [Sh.sl 1, Sh.int IntKind.i64]] r.snd)
      (Option.some
        ([RV.p
              (PV.int IntKind.i64
                (IntKind.i64.wrap (lo + (nth (RV.p PV.nilp) r.fst 0).toPV.toInt)))],
          [Blk.box
              [AV.sl 1
                  (nth PV.nilp
                      (List.map AV.toPV (nth (Blk.box []) r.snd 0).toCs) 0).toEs,
                AV.int IntKind.i64
                  (nth PV.nilp
                      (List.map AV.toPV (nth (Blk.box []) r.snd 0).toCs) 1).toInt]]))
      Option.none := by kernel_rfl

/-- dynpos/dynposmake.Mod -/
theorem r15 (F : Fun) (x : Int) (n : Int) : funK E F 15 [AV.int IntKind.i64 x, AV.int IntKind.i64 n] [] =
  ctl (ltB n 1) (Option.some ([RV.p (PV.int IntKind.i64 0)], []))
    (ctl (Bool.true && neB n 0)
      (ctl (Bool.true && neB n 0)
        (Option.some ([RV.p (PV.int IntKind.i64 ((IntKind.i64.wrap (x.tmod n + n)).tmod n))], [])) Option.none)
      Option.none) := by kernel_rfl

/-- (*dynpos/dynposmake.Src).Some, the loop of block 0 -/
theorem r16_0 (F : Fun) (n1 : Int) (k2 : Int) (i8 : Int) (b0_0 : List (List PV)) (b0_1 : Int) (c1 : List (List PV)) : lp E F 16 1 [] 0
  { vals := [AV.int IntKind.i64 n1, AV.int IntKind.i64 k2, AV.int IntKind.i64 i8],
    blks := [Blk.box [AV.sl 1 b0_0, AV.int IntKind.i64 b0_1], Blk.arr 1 c1] } =
  ctl (ltB i8 n1)
    (bnd
      (F 8 [AV.t (TV.ptr 0 0), AV.int IntKind.i64 k2]
        [Blk.box [AV.sl 1 b0_0, AV.int IntKind.i64 b0_1]])
      fun (r : Res) =>
      ctl
        (okR [RSh.one (Sh.int IntKind.i64)] r.fst &&
          okB [Sum.inl [Sh.sl 1, Sh.int IntKind.i64]] r.snd)
        (ctl ((nth (RV.p PV.nilp) r.fst 0).toPV.toInt == IntKind.i64.wrap (k2 - 1))
          (ctl (leN ((c1.length + 1) * 8) 140737488355328)
            (lp E F 16 1 [] 0
              {
                vals :=
                  [AV.int IntKind.i64 n1, AV.int IntKind.i64 k2, AV.int IntKind.i64 (IntKind.i64.wrap (i8 + 1))],
                blks :=
                  [Blk.box
                      [AV.sl 1
                          (nth PV.nilp
                              (List.map AV.toPV (nth (Blk.box []) r.snd 0).toCs) 0).toEs,
                        AV.int IntKind.i64
                          (nth PV.nilp
                              (List.map AV.toPV (nth (Blk.box []) r.snd 0).toCs) 1).toInt],
                    Blk.arr 1 (c1 ++ [[PV.int IntKind.i64 i8]])] })
            Option.none)
          (lp E F 16 1 [] 0
            { vals := [AV.int IntKind.i64 n1, AV.int IntKind.i64 k2, AV.int IntKind.i64 (IntKind.i64.wrap (i8 + 1))],
              blks :=
                [Blk.box
                    [AV.sl 1
                        (nth PV.nilp
                            (List.map AV.toPV (nth (Blk.box []) r.snd 0).toCs) 0).toEs,
                      AV.int IntKind.i64
                        (nth PV.nilp
                            (List.map AV.toPV (nth (Blk.box []) r.snd 0).toCs) 1).toInt],
                  Blk.arr 1 c1] }))
        Option.none)
    (Option.some
      (Ex.exit 0,
        { vals := [],
          blks := [Blk.box [AV.sl 1 b0_0, AV.int IntKind.i64 b0_1], Blk.arr 1 c1] })) := (lp_unfold ..).trans (by kernel_rfl)

/-- (*dynpos/dynposmake.Src).Some -/
theorem r16 (F : Fun) (s0 : List (List PV)) (s1 : Int) (n : Int) (k : Int) : funK E F 16 [AV.t (TV.ptr 0 0), AV.int IntKind.i64 n, AV.int IntKind.i64 k] [Blk.box [AV.sl 1 s0, AV.int IntKind.i64 s1]] =
  bnd
    (lp E F 16 1 [] 0
      { vals := [AV.int IntKind.i64 n, AV.int IntKind.i64 k, AV.int IntKind.i64 0],
        blks := [Blk.box [AV.sl 1 s0, AV.int IntKind.i64 s1], Blk.arr 1 []] })
    fun (p : Ex × Pack) =>
    ctl (p.fst.eqb (Ex.exit 0))
      (ctl
        (okPack
          { slots := [(7, Sum.inr (Sum.inr (AV.t (TV.hsl 1))))],
            blks := [Sum.inl [Sum.inl (Sh.sl 1), Sum.inl (Sh.int IntKind.i64)], Sum.inr 1] }
          p.snd)
        (Option.some
          ([RV.p (PV.sl 1 (nth (Blk.box []) p.snd.blks 1).toEs)],
            [Blk.box
                [AV.sl 1
                    (nth AV.undef (nth (Blk.box []) p.snd.blks 0).toCs 0).toPV.toEs,
                  AV.int IntKind.i64
                    (nth AV.undef (nth (Blk.box []) p.snd.blks 0).toCs 1).toPV.toInt]]))
        Option.none)
      Option.none := by kernel_rfl

/-- dynpos/dynposref33.Crash -/
theorem r18 (F : Fun) (l : List (List PV)) (i : Int) : funK E F 18 [AV.sl 3 l, AV.int IntKind.i64 i] [] =
  bnd (ctl (!ltB i 0) (Option.some (leB (↑l.length : Int) i)) (Option.some Bool.true))
    fun (v : Bool) =>
    ctl v
      (Option.some ([RV.p (PV.sl 3 []), RV.p (PV.int IntKind.i64 10)], []))
      (getE l i fun (c : List PV) =>
        ctl
          (okCs [Sh.int IntKind.i64, Sh.int IntKind.i64, Sh.int IntKind.i64] c)
          (ctl ((nth PV.nilp c 0).toInt == 2)
            (Option.some ([RV.p (PV.sl 3 []), RV.p (PV.int IntKind.i64 11)], []))
            (ctl (leN (l.length * 24) 140737488355328)
              (ctl (leB 0 i && ltB i (↑l.length : Int))
                (Option.some
                  ([RV.p (PV.sl 3 (setEs l i.toNat 0 [PV.int IntKind.i64 2])),
                      RV.p (PV.int IntKind.i64 0)],
                    []))
                Option.none)
              Option.none))
          Option.none) := by kernel_rfl

/-- dynpos/dynposref33.Restart -/
theorem r19 (F : Fun) (l : List (List PV)) (i : Int) (time : Int) : funK E F 19 [AV.sl 3 l, AV.int IntKind.i64 i, AV.int IntKind.i64 time] [] =
  bnd (ctl (!ltB i 0) (Option.some (leB (↑l.length : Int) i)) (Option.some Bool.true))
    fun (v : Bool) =>
    ctl v
      (Option.some ([RV.p (PV.sl 3 []), RV.p (PV.int IntKind.i64 10)], []))
      (getE l i fun (c : List PV) =>
        ctl
          (okCs [Sh.int IntKind.i64, Sh.int IntKind.i64, Sh.int IntKind.i64] c)
          (ctl ((nth PV.nilp c 0).toInt != 2)
            (Option.some ([RV.p (PV.sl 3 []), RV.p (PV.int IntKind.i64 11)], []))
            (getE l i fun (c : List PV) =>
              ctl
                (okCs [Sh.int IntKind.i64, Sh.int IntKind.i64, Sh.int IntKind.i64] c)
                (bnd
                  (ctl (!ltB time (nth PV.nilp c 2).toInt)
                    (Option.some (ltB 2147483648 time)) (Option.some Bool.true))
                  fun (v : Bool) =>
                  ctl v
                    (Option.some ([RV.p (PV.sl 3 []), RV.p (PV.int IntKind.i64 1)], []))
                    (ctl (leN (l.length * 24) 140737488355328)
                      (ctl (leB 0 i && ltB i (↑l.length : Int))
                        (ctl
                          (leB 0 i &&
                            ltB i (↑(setEs l i.toNat 0 [PV.int IntKind.i64 0]).length : Int))
                          (Option.some
                            ([RV.p
                                  (PV.sl 3
                                    (setEs (setEs l i.toNat 0 [PV.int IntKind.i64 0]) i.toNat 2
                                      [PV.int IntKind.i64 time])),
                                RV.p (PV.int IntKind.i64 0)],
                              []))
                          Option.none)
                        Option.none)
                      Option.none))
                Option.none))
          Option.none) := by kernel_rfl

/-- dynpos/failover.check -/
theorem r20 (F : Fun) (l : List (List PV)) (reach : List (List PV)) (time : Int) (timeout : Int) : funK E F 20 [AV.sl 3 l, AV.sl 1 reach, AV.int IntKind.i64 time, AV.int IntKind.i64 timeout] [] =
  bnd (F 28 [AV.sl 3 l, AV.int IntKind.i64 time] []) fun (r : Res) =>
    ctl
      (okR [RSh.one (Sh.int IntKind.i64)] r.fst && okB [] r.snd)
      (ctl ((nth (RV.p PV.nilp) r.fst 0).toPV.toInt != 0)
        (Option.some
          ([RV.p
                (PV.int IntKind.i64 (nth (RV.p PV.nilp) r.fst 0).toPV.toInt)],
            []))
        (bnd (F 29 [AV.sl 3 l, AV.sl 1 reach] []) fun (r : Res) =>
          ctl (okR [RSh.one Sh.bool] r.fst && okB [] r.snd)
            (ctl (!(nth (RV.p PV.nilp) r.fst 0).toPV.toBool)
              (Option.some ([RV.p (PV.int IntKind.i64 8)], []))
              (bnd (ctl (!ltB time 0) (Option.some (ltB 2147483648 time)) (Option.some Bool.true))
                fun (v : Bool) =>
                bnd (ctl (!v) (Option.some (ltB timeout 0)) (Option.some Bool.true)) fun (v : Bool) =>
                  bnd (ctl (!v) (Option.some (ltB 600 timeout)) (Option.some Bool.true)) fun (v : Bool) =>
                    ctl v (Option.some ([RV.p (PV.int IntKind.i64 1)], []))
                      (Option.some ([RV.p (PV.int IntKind.i64 0)], []))))
            Option.none))
      Option.none := by kernel_rfl

/-- (dynpos/failover.party).each, the loop of block 0 -/
theorem r21_0l (F : Fun) (q0 : List (List PV)) (q1 : List (List PV)) (x15 : List (List PV)) (x16 : Int) (x17 : Int) (b0_0 : List (List PV)) (b0_1 : List (List PV)) (b1_0 : List (List PV)) (b1_1 : List (List PV)) (b2_1 : List (List PV)) (c3 : List (List PV)) : lp E F 21 0
  [AV.undef, AV.bnd 22 [PV.sl 3 q0, PV.sl 1 q1]] 0
  { vals := [AV.sl 3 x15, AV.int IntKind.i64 x16, AV.int IntKind.i64 x17],
    blks :=
      [Blk.box [AV.sl 3 b0_0, AV.sl 1 b0_1],
        Blk.box [AV.sl 3 b1_0, AV.sl 1 b1_1],
        Blk.box [AV.t (TV.hsl 3), AV.sl 1 b2_1], Blk.arr 3 c3] } =
  ctl (ltB x17 x16)
    (getE x15 x17 fun (c : List PV) =>
      ctl
        (okCs [Sh.int IntKind.i64, Sh.int IntKind.i64, Sh.int IntKind.i64] c)
        (bnd
          (F 31 [AV.agg [PV.sl 3 b0_0, PV.sl 1 b0_1], AV.int IntKind.i64 x17] [])
          fun (r : Res) =>
          ctl (okR [RSh.one Sh.bool] r.fst && okB [] r.snd)
            (ctl (nth (RV.p PV.nilp) r.fst 0).toPV.toBool
              (bnd
                (F 22
                  [AV.agg [PV.sl 3 q0, PV.sl 1 q1], AV.int IntKind.i64 x17,
                    AV.agg
                      [PV.int IntKind.i64 (nth PV.nilp c 0).toInt,
                        PV.int IntKind.i64 (nth PV.nilp c 1).toInt,
                        PV.int IntKind.i64 (nth PV.nilp c 2).toInt]]
                  [])
                fun (r : Res) =>
                ctl
                  (okR
                      [RSh.agg
                          [Sh.int IntKind.i64, Sh.int IntKind.i64, Sh.int IntKind.i64]]
                      r.fst &&
                    okB [] r.snd)
                  (ctl (leB 0 x17 && ltB x17 (↑c3.length : Int))
                    (ctl
                      (eqAV (AV.bnd 22 [PV.sl 3 q0, PV.sl 1 q1])
                            (AV.bnd 22 [PV.sl 3 q0, PV.sl 1 q1]) &&
                          Bool.true &&
                        Bool.true)
                      (lp E F 21 0
                        [AV.undef, AV.bnd 22 [PV.sl 3 q0, PV.sl 1 q1]] 0
                        {
                          vals :=
                            [AV.sl 3 x15, AV.int IntKind.i64 x16, AV.int IntKind.i64 (IntKind.i64.wrap (x17 + 1))],
                          blks :=
                            [Blk.box [AV.sl 3 b0_0, AV.sl 1 b0_1],
                              Blk.box [AV.sl 3 b1_0, AV.sl 1 b1_1],
                              Blk.box [AV.t (TV.hsl 3), AV.sl 1 b2_1],
                              Blk.arr 3
                                (setEs c3 x17.toNat 0
                                  [PV.int IntKind.i64
                                      (nth PV.nilp
                                          (nth (RV.p PV.nilp) r.fst 0).toCs 0).toInt,
                                    PV.int IntKind.i64
                                      (nth PV.nilp
                                          (nth (RV.p PV.nilp) r.fst 0).toCs 1).toInt,
                                    PV.int IntKind.i64
                                      (nth PV.nilp
                                          (nth (RV.p PV.nilp) r.fst 0).toCs 2).toInt])] })
                      Option.none)
                    Option.none)
                  Option.none)
              (ctl
                (eqAV (AV.bnd 22 [PV.sl 3 q0, PV.sl 1 q1])
                      (AV.bnd 22 [PV.sl 3 q0, PV.sl 1 q1]) &&
                    Bool.true &&
                  Bool.true)
                (lp E F 21 0
                  [AV.undef, AV.bnd 22 [PV.sl 3 q0, PV.sl 1 q1]] 0
                  { vals := [AV.sl 3 x15, AV.int IntKind.i64 x16, AV.int IntKind.i64 (IntKind.i64.wrap (x17 + 1))],
                    blks :=
                      [Blk.box [AV.sl 3 b0_0, AV.sl 1 b0_1],
                        Blk.box [AV.sl 3 b1_0, AV.sl 1 b1_1],
                        Blk.box [AV.t (TV.hsl 3), AV.sl 1 b2_1],
                        Blk.arr 3 c3] })
                Option.none))
            Option.none)
        Option.none)
    (Option.some
      (Ex.exit 0,
        { vals := [],
          blks :=
            [Blk.box [AV.sl 3 b1_0, AV.sl 1 b1_1],
              Blk.box [AV.t (TV.hsl 2), AV.sl 1 b2_1],
              Blk.arr 3 c3] })) := (lp_unfold ..).trans (by kernel_rfl)

/-- (dynpos/failover.party).each, the loop of block 0 -/
theorem r21_0y (F : Fun) (x15 : List (List PV)) (x16 : Int) (x17 : Int) (b0_0 : List (List PV)) (b0_1 : List (List PV)) (b1_0 : List (List PV)) (b1_1 : List (List PV)) (b2_0 : List (List PV)) (b2_1 : List (List PV)) (b3_0 : List (List PV)) (b3_1 : List (List PV)) (b4_1 : List (List PV)) (c5 : List (List PV)) : lp E F 21 2
  [AV.undef, AV.fn 34 [TV.ptr 0 0, TV.ptr 1 0]] 0
  { vals := [AV.sl 3 x15, AV.int IntKind.i64 x16, AV.int IntKind.i64 x17],
    blks :=
      [Blk.box [AV.sl 3 b0_0, AV.sl 1 b0_1],
        Blk.box [AV.sl 3 b1_0, AV.sl 1 b1_1],
        Blk.box [AV.sl 3 b2_0, AV.sl 1 b2_1],
        Blk.box [AV.sl 3 b3_0, AV.sl 1 b3_1],
        Blk.box [AV.t (TV.hsl 5), AV.sl 1 b4_1], Blk.arr 3 c5] } =
  ctl (ltB x17 x16)
    (getE x15 x17 fun (c : List PV) =>
      ctl
        (okCs [Sh.int IntKind.i64, Sh.int IntKind.i64, Sh.int IntKind.i64] c)
        (bnd
          (F 31 [AV.agg [PV.sl 3 b2_0, PV.sl 1 b2_1], AV.int IntKind.i64 x17] [])
          fun (r : Res) =>
          ctl (okR [RSh.one Sh.bool] r.fst && okB [] r.snd)
            (ctl (nth (RV.p PV.nilp) r.fst 0).toPV.toBool
              (bnd
                (F 34
                  [AV.int IntKind.i64 x17,
                    AV.agg
                      [PV.int IntKind.i64 (nth PV.nilp c 0).toInt,
                        PV.int IntKind.i64 (nth PV.nilp c 1).toInt,
                        PV.int IntKind.i64 (nth PV.nilp c 2).toInt],
                    AV.t (TV.ptr 0 0), AV.t (TV.ptr 1 0)]
                  [Blk.box [AV.sl 3 b0_0, AV.sl 1 b0_1],
                    Blk.box [AV.sl 3 b1_0, AV.sl 1 b1_1]])
                fun (r : Res) =>
                ctl
                  (okR
                      [RSh.agg
                          [Sh.int IntKind.i64, Sh.int IntKind.i64, Sh.int IntKind.i64]]
                      r.fst &&
                    okB
                      [Sum.inl [Sh.sl 3, Sh.sl 1], Sum.inl [Sh.sl 3, Sh.sl 1]] r.snd)
                  (ctl (leB 0 x17 && ltB x17 (↑c5.length : Int))
                    (lp E F 21 2
                      [AV.undef, AV.fn 34 [TV.ptr 0 0, TV.ptr 1 0]] 0
                      { vals := [AV.sl 3 x15, AV.int IntKind.i64 x16, AV.int IntKind.i64 (IntKind.i64.wrap (x17 + 1))],
                        blks :=
                          [Blk.box
                              [AV.sl 3
                                  (nth PV.nilp
                                      (List.map AV.toPV (nth (Blk.box []) r.snd 0).toCs) 0).toEs,
                                AV.sl 1
                                  (nth PV.nilp
                                      (List.map AV.toPV (nth (Blk.box []) r.snd 0).toCs) 1).toEs],
                            Blk.box
                              [AV.sl 3
                                  (nth PV.nilp
                                      (List.map AV.toPV (nth (Blk.box []) r.snd 1).toCs) 0).toEs,
                                AV.sl 1
                                  (nth PV.nilp
                                      (List.map AV.toPV (nth (Blk.box []) r.snd 1).toCs) 1).toEs],
                            Blk.box [AV.sl 3 b2_0, AV.sl 1 b2_1],
                            Blk.box [AV.sl 3 b3_0, AV.sl 1 b3_1],
                            Blk.box [AV.t (TV.hsl 5), AV.sl 1 b4_1],
                            Blk.arr 3
                              (setEs c5 x17.toNat 0
                                [PV.int IntKind.i64
                                    (nth PV.nilp
                                        (nth (RV.p PV.nilp) r.fst 0).toCs 0).toInt,
                                  PV.int IntKind.i64
                                    (nth PV.nilp
                                        (nth (RV.p PV.nilp) r.fst 0).toCs 1).toInt,
                                  PV.int IntKind.i64
                                    (nth PV.nilp
                                        (nth (RV.p PV.nilp) r.fst 0).toCs 2).toInt])] })
                    Option.none)
                  Option.none)
              (lp E F 21 2
                [AV.undef, AV.fn 34 [TV.ptr 0 0, TV.ptr 1 0]] 0
                { vals := [AV.sl 3 x15, AV.int IntKind.i64 x16, AV.int IntKind.i64 (IntKind.i64.wrap (x17 + 1))],
                  blks :=
                    [Blk.box [AV.sl 3 b0_0, AV.sl 1 b0_1],
                      Blk.box [AV.sl 3 b1_0, AV.sl 1 b1_1],
                      Blk.box [AV.sl 3 b2_0, AV.sl 1 b2_1],
                      Blk.box [AV.sl 3 b3_0, AV.sl 1 b3_1],
                      Blk.box [AV.t (TV.hsl 5), AV.sl 1 b4_1],
                      Blk.arr 3 c5] }))
            Option.none)
        Option.none)
    (Option.some
      (Ex.exit 0,
        { vals := [],
          blks :=
            [Blk.box [AV.sl 3 b0_0, AV.sl 1 b0_1],
              Blk.box [AV.sl 3 b1_0, AV.sl 1 b1_1],
              Blk.box [AV.sl 3 b3_0, AV.sl 1 b3_1],
              Blk.box [AV.t (TV.hsl 4), AV.sl 1 b4_1],
              Blk.arr 3 c5] })) := (lp_unfold ..).trans (by kernel_rfl)

/-- (dynpos/failover.party).each, the loop of block 0 -/
theorem r21_0h (F : Fun) (x15 : List (List PV)) (x16 : Int) (x17 : Int) (b0_0 : List (List PV)) (b0_1 : List (List PV)) (b1_0 : Int) (b2_0 : List (List PV)) (b2_1 : List (List PV)) (b3_0 : List (List PV)) (b3_1 : List (List PV)) (b4_1 : List (List PV)) (c5 : List (List PV)) : lp E F 21 2
  [AV.undef, AV.fn 39 [TV.ptr 0 0, TV.ptr 1 0]] 0
  { vals := [AV.sl 3 x15, AV.int IntKind.i64 x16, AV.int IntKind.i64 x17],
    blks :=
      [Blk.box [AV.sl 3 b0_0, AV.sl 1 b0_1],
        Blk.box [AV.int IntKind.i64 b1_0],
        Blk.box [AV.sl 3 b2_0, AV.sl 1 b2_1],
        Blk.box [AV.sl 3 b3_0, AV.sl 1 b3_1],
        Blk.box [AV.t (TV.hsl 5), AV.sl 1 b4_1], Blk.arr 3 c5] } =
  ctl (ltB x17 x16)
    (getE x15 x17 fun (c : List PV) =>
      ctl
        (okCs [Sh.int IntKind.i64, Sh.int IntKind.i64, Sh.int IntKind.i64] c)
        (bnd
          (F 31 [AV.agg [PV.sl 3 b2_0, PV.sl 1 b2_1], AV.int IntKind.i64 x17] [])
          fun (r : Res) =>
          ctl (okR [RSh.one Sh.bool] r.fst && okB [] r.snd)
            (ctl (nth (RV.p PV.nilp) r.fst 0).toPV.toBool
              (bnd
                (F 39
                  [AV.int IntKind.i64 x17,
                    AV.agg
                      [PV.int IntKind.i64 (nth PV.nilp c 0).toInt,
                        PV.int IntKind.i64 (nth PV.nilp c 1).toInt,
                        PV.int IntKind.i64 (nth PV.nilp c 2).toInt],
                    AV.t (TV.ptr 0 0), AV.t (TV.ptr 1 0)]
                  [Blk.box [AV.sl 3 b0_0, AV.sl 1 b0_1],
                    Blk.box [AV.int IntKind.i64 b1_0]])
                fun (r : Res) =>
                ctl
                  (okR
                      [RSh.agg
                          [Sh.int IntKind.i64, Sh.int IntKind.i64, Sh.int IntKind.i64]]
                      r.fst &&
                    okB [Sum.inl [Sh.sl 3, Sh.sl 1], Sum.inl [Sh.int IntKind.i64]] r.snd)
                  (ctl (leB 0 x17 && ltB x17 (↑c5.length : Int))
                    (lp E F 21 2
                      [AV.undef, AV.fn 39 [TV.ptr 0 0, TV.ptr 1 0]] 0
                      { vals := [AV.sl 3 x15, AV.int IntKind.i64 x16, AV.int IntKind.i64 (IntKind.i64.wrap (x17 + 1))],
                        blks :=
                          [Blk.box
                              [AV.sl 3
                                  (nth PV.nilp
                                      (List.map AV.toPV (nth (Blk.box []) r.snd 0).toCs) 0).toEs,
                                AV.sl 1
                                  (nth PV.nilp
                                      (List.map AV.toPV (nth (Blk.box []) r.snd 0).toCs) 1).toEs],
                            Blk.box
                              [AV.int IntKind.i64
                                  (nth PV.nilp
                                      (List.map AV.toPV (nth (Blk.box []) r.snd 1).toCs) 0).toInt],
                            Blk.box [AV.sl 3 b2_0, AV.sl 1 b2_1],
                            Blk.box [AV.sl 3 b3_0, AV.sl 1 b3_1],
                            Blk.box [AV.t (TV.hsl 5), AV.sl 1 b4_1],
                            Blk.arr 3
                              (setEs c5 x17.toNat 0
                                [PV.int IntKind.i64
                                    (nth PV.nilp
                                        (nth (RV.p PV.nilp) r.fst 0).toCs 0).toInt,
                                  PV.int IntKind.i64
                                    (nth PV.nilp
                                        (nth (RV.p PV.nilp) r.fst 0).toCs 1).toInt,
                                  PV.int IntKind.i64
                                    (nth PV.nilp
                                        (nth (RV.p PV.nilp) r.fst 0).toCs 2).toInt])] })
                    Option.none)
                  Option.none)
              (lp E F 21 2
                [AV.undef, AV.fn 39 [TV.ptr 0 0, TV.ptr 1 0]] 0
                { vals := [AV.sl 3 x15, AV.int IntKind.i64 x16, AV.int IntKind.i64 (IntKind.i64.wrap (x17 + 1))],
                  blks :=
                    [Blk.box [AV.sl 3 b0_0, AV.sl 1 b0_1],
                      Blk.box [AV.int IntKind.i64 b1_0],
                      Blk.box [AV.sl 3 b2_0, AV.sl 1 b2_1],
                      Blk.box [AV.sl 3 b3_0, AV.sl 1 b3_1],
                      Blk.box [AV.t (TV.hsl 5), AV.sl 1 b4_1],
                      Blk.arr 3 c5] }))
            Option.none)
        Option.none)
    (Option.some
      (Ex.exit 0,
        { vals := [],
          blks :=
            [Blk.box [AV.sl 3 b0_0, AV.sl 1 b0_1],
              Blk.box [AV.int IntKind.i64 b1_0],
              Blk.box [AV.sl 3 b3_0, AV.sl 1 b3_1],
              Blk.box [AV.t (TV.hsl 4), AV.sl 1 b4_1],
              Blk.arr 3 c5] })) := (lp_unfold ..).trans (by kernel_rfl)

/-- (dynpos/failover.party).each -/
theorem r21l (F : Fun) (p0 : List (List PV)) (p1 : List (List PV)) (q0 : List (List PV)) (q1 : List (List PV)) : funK E F 21 [AV.agg [PV.sl 3 p0, PV.sl 1 p1],
  AV.bnd 22 [PV.sl 3 q0, PV.sl 1 q1]] [] =
  bnd (F 30 [AV.sl 3 p0] []) fun (r : Res) =>
    ctl (okR [RSh.own 3] r.fst && okB [] r.snd)
      (ctl
        (eqAV (AV.bnd 22 [PV.sl 3 q0, PV.sl 1 q1])
              (AV.bnd 22 [PV.sl 3 q0, PV.sl 1 q1]) &&
            Bool.true &&
          Bool.true)
        (bnd
          (lp E F 21 0
            [AV.undef, AV.bnd 22 [PV.sl 3 q0, PV.sl 1 q1]] 0
            { vals := [AV.sl 3 p0, AV.int IntKind.i64 (↑p0.length : Int), AV.int IntKind.i64 0],
              blks :=
                [Blk.box [AV.sl 3 p0, AV.sl 1 p1],
                  Blk.box [AV.sl 3 [], AV.sl 1 []],
                  Blk.box [AV.t (TV.hsl 3), AV.sl 1 p1],
                  Blk.arr 3 (nth (RV.p PV.nilp) r.fst 0).toEs] })
          fun (p : Ex × Pack) =>
          ctl (p.fst.eqb (Ex.exit 0))
            (ctl
              (okPack
                {
                  slots :=
                    [(4, Sum.inr (Sum.inr (AV.t (TV.ptr 0 0)))),
                      (5, Sum.inr (Sum.inr (AV.t (TV.ptr 1 0))))],
                  blks :=
                    [Sum.inl [Sum.inl (Sh.sl 3), Sum.inl (Sh.sl 1)],
                      Sum.inl [Sum.inr (AV.t (TV.hsl 2)), Sum.inl (Sh.sl 1)], Sum.inr 3] }
                p.snd)
              (Option.some
                ([RV.agg
                      [PV.sl 3 (nth (Blk.box []) p.snd.blks 2).toEs,
                        PV.sl 1
                          (nth AV.undef (nth (Blk.box []) p.snd.blks 1).toCs 1).toPV.toEs]],
                  []))
              Option.none)
            Option.none)
        Option.none)
      Option.none := by kernel_rfl

/-- (dynpos/failover.party).each -/
theorem r21y (F : Fun) (p0 : List (List PV)) (p1 : List (List PV)) (k0_0 : List (List PV)) (k0_1 : List (List PV)) (k1_0 : List (List PV)) (k1_1 : List (List PV)) : funK E F 21 [AV.agg [PV.sl 3 p0, PV.sl 1 p1],
  AV.fn 34 [TV.ptr 0 0, TV.ptr 1 0]] [Blk.box [AV.sl 3 k0_0, AV.sl 1 k0_1],
  Blk.box [AV.sl 3 k1_0, AV.sl 1 k1_1]] =
  bnd (F 30 [AV.sl 3 p0] []) fun (r : Res) =>
    ctl (okR [RSh.own 3] r.fst && okB [] r.snd)
      (bnd
        (lp E F 21 2
          [AV.undef, AV.fn 34 [TV.ptr 0 0, TV.ptr 1 0]] 0
          { vals := [AV.sl 3 p0, AV.int IntKind.i64 (↑p0.length : Int), AV.int IntKind.i64 0],
            blks :=
              [Blk.box [AV.sl 3 k0_0, AV.sl 1 k0_1],
                Blk.box [AV.sl 3 k1_0, AV.sl 1 k1_1],
                Blk.box [AV.sl 3 p0, AV.sl 1 p1],
                Blk.box [AV.sl 3 [], AV.sl 1 []],
                Blk.box [AV.t (TV.hsl 5), AV.sl 1 p1],
                Blk.arr 3 (nth (RV.p PV.nilp) r.fst 0).toEs] })
        fun (p : Ex × Pack) =>
        ctl (p.fst.eqb (Ex.exit 0))
          (ctl
            (okPack
              {
                slots :=
                  [(4, Sum.inr (Sum.inr (AV.t (TV.ptr 2 0)))),
                    (5, Sum.inr (Sum.inr (AV.t (TV.ptr 3 0))))],
                blks :=
                  [Sum.inl [Sum.inl (Sh.sl 3), Sum.inl (Sh.sl 1)],
                    Sum.inl [Sum.inl (Sh.sl 3), Sum.inl (Sh.sl 1)],
                    Sum.inl [Sum.inl (Sh.sl 3), Sum.inl (Sh.sl 1)],
                    Sum.inl [Sum.inr (AV.t (TV.hsl 4)), Sum.inl (Sh.sl 1)], Sum.inr 3] }
              p.snd)
            (Option.some
              ([RV.agg
                    [PV.sl 3 (nth (Blk.box []) p.snd.blks 4).toEs,
                      PV.sl 1
                        (nth AV.undef (nth (Blk.box []) p.snd.blks 3).toCs 1).toPV.toEs]],
                [Blk.box
                    [AV.sl 3
                        (nth AV.undef (nth (Blk.box []) p.snd.blks 0).toCs 0).toPV.toEs,
                      AV.sl 1
                        (nth AV.undef (nth (Blk.box []) p.snd.blks 0).toCs 1).toPV.toEs],
                  Blk.box
                    [AV.sl 3
                        (nth AV.undef (nth (Blk.box []) p.snd.blks 1).toCs 0).toPV.toEs,
                      AV.sl 1
                        (nth AV.undef (nth (Blk.box []) p.snd.blks 1).toCs 1).toPV.toEs]]))
            Option.none)
          Option.none)
      Option.none := by kernel_rfl

/-- (dynpos/failover.party).each -/
theorem r21h (F : Fun) (p0 : List (List PV)) (p1 : List (List PV)) (k0_0 : List (List PV)) (k0_1 : List (List PV)) (k1_0 : Int) : funK E F 21 [AV.agg [PV.sl 3 p0, PV.sl 1 p1],
  AV.fn 39 [TV.ptr 0 0, TV.ptr 1 0]] [Blk.box [AV.sl 3 k0_0, AV.sl 1 k0_1],
  Blk.box [AV.int IntKind.i64 k1_0]] =
  bnd (F 30 [AV.sl 3 p0] []) fun (r : Res) =>
    ctl (okR [RSh.own 3] r.fst && okB [] r.snd)
      (bnd
        (lp E F 21 2
          [AV.undef, AV.fn 39 [TV.ptr 0 0, TV.ptr 1 0]] 0
          { vals := [AV.sl 3 p0, AV.int IntKind.i64 (↑p0.length : Int), AV.int IntKind.i64 0],
            blks :=
              [Blk.box [AV.sl 3 k0_0, AV.sl 1 k0_1],
                Blk.box [AV.int IntKind.i64 k1_0],
                Blk.box [AV.sl 3 p0, AV.sl 1 p1],
                Blk.box [AV.sl 3 [], AV.sl 1 []],
                Blk.box [AV.t (TV.hsl 5), AV.sl 1 p1],
                Blk.arr 3 (nth (RV.p PV.nilp) r.fst 0).toEs] })
        fun (p : Ex × Pack) =>
        ctl (p.fst.eqb (Ex.exit 0))
          (ctl
            (okPack
              {
                slots :=
                  [(4, Sum.inr (Sum.inr (AV.t (TV.ptr 2 0)))),
                    (5, Sum.inr (Sum.inr (AV.t (TV.ptr 3 0))))],
                blks :=
                  [Sum.inl [Sum.inl (Sh.sl 3), Sum.inl (Sh.sl 1)], Sum.inl [Sum.inl (Sh.int IntKind.i64)],
                    Sum.inl [Sum.inl (Sh.sl 3), Sum.inl (Sh.sl 1)],
                    Sum.inl [Sum.inr (AV.t (TV.hsl 4)), Sum.inl (Sh.sl 1)], Sum.inr 3] }
              p.snd)
            (Option.some
              ([RV.agg
                    [PV.sl 3 (nth (Blk.box []) p.snd.blks 4).toEs,
                      PV.sl 1
                        (nth AV.undef (nth (Blk.box []) p.snd.blks 3).toCs 1).toPV.toEs]],
                [Blk.box
                    [AV.sl 3
                        (nth AV.undef (nth (Blk.box []) p.snd.blks 0).toCs 0).toPV.toEs,
                      AV.sl 1
                        (nth AV.undef (nth (Blk.box []) p.snd.blks 0).toCs 1).toPV.toEs],
                  Blk.box
                    [AV.int IntKind.i64
                        (nth AV.undef (nth (Blk.box []) p.snd.blks 1).toCs 0).toPV.toInt]]))
            Option.none)
          Option.none)
      Option.none := by kernel_rfl

/-- (dynpos/failover.party).learn -/
theorem r22 (F : Fun) (p0 : List (List PV)) (p1 : List (List PV)) (i : Int) (c0 : Int) (c1 : Int) (c2 : Int) : funK E F 22 [AV.agg [PV.sl 3 p0, PV.sl 1 p1], AV.int IntKind.i64 i,
  AV.agg [PV.int IntKind.i64 c0, PV.int IntKind.i64 c1, PV.int IntKind.i64 c2]] [] =
  bnd
    (F 33 [AV.agg [PV.sl 3 p0, PV.sl 1 p1], AV.int IntKind.i64 i] [])
    fun (r : Res) =>
    ctl (okR [RSh.one (Sh.sl 1)] r.fst && okB [] r.snd)
      (bnd
        (F 32
          [AV.agg [PV.sl 3 p0, PV.sl 1 p1],
            AV.sl 1 (nth (RV.p PV.nilp) r.fst 0).toPV.toEs]
          [])
        fun (r : Res) =>
        ctl
          (okR [RSh.one (Sh.int IntKind.i64)] r.fst && okB [] r.snd)
          (Option.some
            ([RV.agg
                  [PV.int IntKind.i64 c0,
                    PV.int IntKind.i64 (nth (RV.p PV.nilp) r.fst 0).toPV.toInt,
                    PV.int IntKind.i64 c2]],
              []))
          Option.none)
      Option.none := by kernel_rfl

/-- (dynpos/failover.party).yields -/
theorem r23 (F : Fun) (p0 : List (List PV)) (p1 : List (List PV)) (before0 : List (List PV)) (before1 : List (List PV)) : funK E F 23 [AV.agg [PV.sl 3 p0, PV.sl 1 p1],
  AV.agg [PV.sl 3 before0, PV.sl 1 before1]] [] =
  Option.none := by kernel_rfl

/-- (dynpos/failover.party).listens -/
theorem r24 (F : Fun) (p0 : List (List PV)) (p1 : List (List PV)) (time : Int) : funK E F 24 [AV.agg [PV.sl 3 p0, PV.sl 1 p1], AV.int IntKind.i64 time] [] =
  Option.none := by kernel_rfl

/-- (dynpos/failover.party).elect, the loop of block 0 -/
theorem r25_0 (F : Fun) (time1 : Int) (all8 : List (List PV)) (x26 : Int) (x27 : Int) (b0_0 : List (List PV)) (b0_1 : List (List PV)) (b1_0 : List (List PV)) (b1_1 : List (List PV)) (c2 : List (Int × MV)) : lp E F 25 0 [] 0
  {
    vals :=
      [AV.int IntKind.i64 time1, AV.sl 1 all8, AV.int IntKind.i64 x26,
        AV.int IntKind.i64 x27],
    blks :=
      [Blk.box [AV.sl 3 b0_0, AV.sl 1 b0_1],
        Blk.box [AV.sl 3 b1_0, AV.sl 1 b1_1], Blk.tab Bool.true 1 c2] } =
  ctl (ltB x27 x26)
    (bnd
      (F 40 [AV.agg [PV.sl 3 b0_0, PV.sl 1 b0_1], AV.int IntKind.i64 x27] [])
      fun (r : Res) =>
      ctl (okR [RSh.one Sh.bool] r.fst && okB [] r.snd)
        (ctl (nth (RV.p PV.nilp) r.fst 0).toPV.toBool
          (lp E F 25 0 [] 0
            {
              vals :=
                [AV.int IntKind.i64 time1, AV.sl 1 all8, AV.int IntKind.i64 x26,
                  AV.int IntKind.i64 (IntKind.i64.wrap (x27 + 1))],
              blks :=
                [Blk.box [AV.sl 3 b0_0, AV.sl 1 b0_1],
                  Blk.box [AV.sl 3 b1_0, AV.sl 1 b1_1], Blk.tab Bool.true 1 c2] })
          (bnd
            (F 33 [AV.agg [PV.sl 3 b0_0, PV.sl 1 b0_1], AV.int IntKind.i64 x27] [])
            fun (r : Res) =>
            ctl (okR [RSh.one (Sh.sl 1)] r.fst && okB [] r.snd)
              (bnd
                (F 42 [AV.sl 1 all8, AV.fn 43 [TV.ptr 0 0]]
                  [Blk.box
                      [AV.sl 1 (nth (RV.p PV.nilp) r.fst 0).toPV.toEs]])
                fun (r : Res) =>
                ctl
                  (okR [RSh.one (Sh.int IntKind.i64)] r.fst &&
                    okB [Sum.inl [Sh.sl 1]] r.snd)
                  (ctl
                    (leB 0 (nth (RV.p PV.nilp) r.fst 0).toPV.toInt)
                    (getE all8 (nth (RV.p PV.nilp) r.fst 0).toPV.toInt
                      fun (c : List PV) =>
                      ctl (okCs [Sh.int IntKind.i64] c)
                        (getE all8 (nth (RV.p PV.nilp) r.fst 0).toPV.toInt
                          fun (c_1 : List PV) =>
                          ctl (okCs [Sh.int IntKind.i64] c_1)
                            (ctl
                              (kvGet (MV.row []) (nth PV.nilp c_1 0).toInt c2).isRow
                              (ctl
                                (leN
                                  (((kvGet (MV.row []) (nth PV.nilp c_1 0).toInt c2).toEs.length +
                                      1) *
                                    8)
                                  140737488355328)
                                (lp E F 25 0 [] 0
                                  {
                                    vals :=
                                      [AV.int IntKind.i64 time1, AV.sl 1 all8, AV.int IntKind.i64 x26,
                                        AV.int IntKind.i64 (IntKind.i64.wrap (x27 + 1))],
                                    blks :=
                                      [Blk.box [AV.sl 3 b0_0, AV.sl 1 b0_1],
                                        Blk.box [AV.sl 3 b1_0, AV.sl 1 b1_1],
                                        Blk.tab Bool.true 1
                                          (kvPut (nth PV.nilp c 0).toInt
                                            (MV.row
                                              ((kvGet (MV.row []) (nth PV.nilp c_1 0).toInt
                                                    c2).toEs ++
                                                [[PV.int IntKind.i64 x27]]))
                                            (kvGone (nth PV.nilp c_1 0).toInt c2))] })
                                Option.none)
                              Option.none)
                            Option.none)
                        Option.none)
                    (lp E F 25 0 [] 0
                      {
                        vals :=
                          [AV.int IntKind.i64 time1, AV.sl 1 all8, AV.int IntKind.i64 x26,
                            AV.int IntKind.i64 (IntKind.i64.wrap (x27 + 1))],
                        blks :=
                          [Blk.box [AV.sl 3 b0_0, AV.sl 1 b0_1],
                            Blk.box [AV.sl 3 b1_0, AV.sl 1 b1_1], Blk.tab Bool.true 1 c2] }))
                  Option.none)
              Option.none))
        Option.none)
    (Option.some
      (Ex.exit 0,
        { vals := [AV.int IntKind.i64 time1, AV.sl 1 all8],
          blks :=
            [Blk.box [AV.sl 3 b0_0, AV.sl 1 b0_1],
              Blk.box [AV.sl 3 b1_0, AV.sl 1 b1_1], Blk.tab Bool.true 1 c2] })) := (lp_unfold ..).trans (by kernel_rfl)

/-- (dynpos/failover.party).elect, the loop of block 2 -/
theorem r25_2 (F : Fun) (time1 : Int) (x62 : List (List PV)) (x63 : Int) (x64 : Int) (b0_0 : List (List PV)) (b0_1 : List (List PV)) (b1_0 : List (List PV)) (b1_1 : List (List PV)) (c2 : List (Int × MV)) (b3_1 : List (List PV)) (c4 : List (List PV)) : lp E F 25 0 [] 2
  {
    vals :=
      [AV.int IntKind.i64 time1, AV.sl 1 x62, AV.int IntKind.i64 x63,
        AV.int IntKind.i64 x64],
    blks :=
      [Blk.box [AV.sl 3 b0_0, AV.sl 1 b0_1],
        Blk.box [AV.sl 3 b1_0, AV.sl 1 b1_1], Blk.tab Bool.true 0 c2,
        Blk.box [AV.t (TV.hsl 4), AV.sl 1 b3_1], Blk.arr 3 c4] } =
  ctl (ltB x64 x63)
    (getE x62 x64 fun (c : List PV) =>
      ctl (okCs [Sh.int IntKind.i64] c)
        (ctl
          (MV.pvOk (Sh.sl 1)
            (kvGet (MV.pv PV.nils) (nth PV.nilp c 0).toInt c2))
          (bnd
            (F 37
              [AV.agg [PV.sl 3 b0_0, PV.sl 1 b0_1],
                AV.int IntKind.i64
                  (↑(kvGet (MV.pv PV.nils) (nth PV.nilp c 0).toInt
                              c2).toPV.toEs.length :
                    Int)]
              [])
            fun (r : Res) =>
            ctl (okR [RSh.one Sh.bool] r.fst && okB [] r.snd)
              (ctl (!(nth (RV.p PV.nilp) r.fst 0).toPV.toBool)
                (lp E F 25 0 [] 2
                  {
                    vals :=
                      [AV.int IntKind.i64 time1, AV.sl 1 x62, AV.int IntKind.i64 x63,
                        AV.int IntKind.i64 (IntKind.i64.wrap (x64 + 1))],
                    blks :=
                      [Blk.box [AV.sl 3 b0_0, AV.sl 1 b0_1],
                        Blk.box [AV.sl 3 b1_0, AV.sl 1 b1_1], Blk.tab Bool.true 0 c2,
                        Blk.box [AV.t (TV.hsl 4), AV.sl 1 b3_1],
                        Blk.arr 3 c4] })
                (ctl
                  (MV.pvOk (Sh.sl 1)
                    (kvGet (MV.pv PV.nils) (nth PV.nilp c 0).toInt
                      c2))
                  (bnd
                    (F 45
                      [AV.sl 1
                          (kvGet (MV.pv PV.nils)
                                (nth PV.nilp c 0).toInt c2).toPV.toEs]
                      [])
                    fun (r : Res) =>
                    ctl (okR [RSh.own 1] r.fst && okB [] r.snd)
                      (ctl
                        (leN (((nth (RV.p PV.nilp) r.fst 0).toEs.length + 1) * 8) 140737488355328)
                        (bnd
                          (F 32
                            [AV.agg [PV.sl 3 b0_0, PV.sl 1 b0_1],
                              AV.sl 1
                                ((nth (RV.p PV.nilp) r.fst 0).toEs ++
                                  [[PV.int IntKind.i64 (nth PV.nilp c 0).toInt]])]
                            [])
                          fun (r : Res) =>
                          ctl
                            (okR [RSh.one (Sh.int IntKind.i64)] r.fst && okB [] r.snd &&
                              (noslR r.fst && noslB r.snd))
                            (ctl
                              (ltB 2147483648
                                (IntKind.i64.wrap (1 + (nth (RV.p PV.nilp) r.fst 0).toPV.toInt)))
                              (Option.some
                                (Ex.ret,
                                  { vals := [AV.bool Bool.false],
                                    blks := [Blk.box [AV.sl 3 [], AV.sl 1 []]] }))
                              (ctl
                                (MV.pvOk (Sh.sl 1)
                                  (kvGet (MV.pv PV.nils)
                                    (nth PV.nilp c 0).toInt c2))
                                (bnd
                                  (F 45
                                    [AV.sl 1
                                        (kvGet (MV.pv PV.nils)
                                              (nth PV.nilp c 0).toInt c2).toPV.toEs]
                                    [])
                                  fun (r_1 : Res) =>
                                  ctl (okR [RSh.own 1] r_1.fst && okB [] r_1.snd)
                                    (ctl
                                      (leN (((nth (RV.p PV.nilp) r_1.fst 0).toEs.length + 1) * 8)
                                        140737488355328)
                                      (bnd
                                        (lp E F 25 0 [] 4
                                          {
                                            vals :=
                                              [AV.int IntKind.i64 time1,
                                                AV.int IntKind.i64 (nth PV.nilp c 0).toInt,
                                                AV.int IntKind.i64
                                                  (IntKind.i64.wrap (1 + (nth (RV.p PV.nilp) r.fst 0).toPV.toInt)),
                                                AV.sl 1 x62, AV.int IntKind.i64 x63, AV.int IntKind.i64 x64,
                                                AV.sl 1
                                                  ((nth (RV.p PV.nilp) r_1.fst 0).toEs ++
                                                    [[PV.int IntKind.i64 (nth PV.nilp c 0).toInt]]),
                                                AV.int IntKind.i64
                                                  (↑((nth (RV.p PV.nilp) r_1.fst 0).toEs ++
                                                          [[PV.int IntKind.i64 (nth PV.nilp c 0).toInt]]).length :
                                                    Int),
                                                AV.int IntKind.i64 0],
                                            blks :=
                                              [Blk.box [AV.sl 3 b0_0, AV.sl 1 b0_1],
                                                Blk.box [AV.sl 3 b1_0, AV.sl 1 b1_1],
                                                Blk.tab Bool.true 0 c2,
                                                Blk.box [AV.t (TV.hsl 4), AV.sl 1 b3_1],
                                                Blk.arr 3 c4] })
                                        fun (p : Ex × Pack) =>
                                        ctl (p.fst.eqb (Ex.exit 4))
                                          (ctl
                                            (okPack
                                              {
                                                slots :=
                                                  [(1, Sum.inl (Sh.int IntKind.i64)),
                                                    (3, Sum.inr (Sum.inr (AV.t (TV.ptr 0 0)))),
                                                    (6, Sum.inr (Sum.inr (AV.t (TV.ptr 1 0)))),
                                                    (9, Sum.inr (Sum.inr (AV.hmap 2))),
                                                    (13, Sum.inr (Sum.inr (AV.t (TV.ptr 3 0)))),
                                                    (15, Sum.inl (Sh.int IntKind.i64)), (62, Sum.inl (Sh.sl 1)),
                                                    (63, Sum.inl (Sh.int IntKind.i64)), (64, Sum.inl (Sh.int IntKind.i64))],
                                                blks :=
                                                  [Sum.inl [Sum.inl (Sh.sl 3), Sum.inl (Sh.sl 1)],
                                                    Sum.inl [Sum.inl (Sh.sl 3), Sum.inl (Sh.sl 1)], Sum.inr 1000001,
                                                    Sum.inl [Sum.inr (AV.t (TV.hsl 4)), Sum.inl (Sh.sl 1)], Sum.inr 3] }
                                              p.snd)
                                            (ctl
                                              (leB 0 (nth AV.undef p.snd.vals 1).toPV.toInt &&
                                                ltB (nth AV.undef p.snd.vals 1).toPV.toInt
                                                  (↑(nth (Blk.box []) p.snd.blks 4).toEs.length : Int))
                                              (ctl
                                                (leB 0 (nth AV.undef p.snd.vals 1).toPV.toInt &&
                                                  ltB (nth AV.undef p.snd.vals 1).toPV.toInt
                                                    (↑(setEs (nth (Blk.box []) p.snd.blks 4).toEs
                                                            (nth AV.undef p.snd.vals 1).toPV.toInt.toNat 0
                                                            [PV.int IntKind.i64 1]).length :
                                                      Int))
                                                (lp E F 25 0 [] 2
                                                  {
                                                    vals :=
                                                      [AV.int IntKind.i64 (nth AV.undef p.snd.vals 0).toPV.toInt,
                                                        AV.sl 1 (nth AV.undef p.snd.vals 2).toPV.toEs,
                                                        AV.int IntKind.i64 (nth AV.undef p.snd.vals 3).toPV.toInt,
                                                        AV.int IntKind.i64
                                                          (IntKind.i64.wrap ((nth AV.undef p.snd.vals 4).toPV.toInt + 1))],
                                                    blks :=
                                                      [Blk.box
                                                          [AV.sl 3
                                                              (nth AV.undef
                                                                    (nth (Blk.box []) p.snd.blks 0).toCs 0).toPV.toEs,
                                                            AV.sl 1
                                                              (nth AV.undef
                                                                    (nth (Blk.box []) p.snd.blks 0).toCs 1).toPV.toEs],
                                                        Blk.box
                                                          [AV.sl 3
                                                              (nth AV.undef
                                                                    (nth (Blk.box []) p.snd.blks 1).toCs 0).toPV.toEs,
                                                            AV.sl 1
                                                              (nth AV.undef
                                                                    (nth (Blk.box []) p.snd.blks 1).toCs 1).toPV.toEs],
                                                        Blk.tab Bool.true 0 (nth (Blk.box []) p.snd.blks 2).toKvs,
                                                        Blk.box
                                                          [AV.t (TV.hsl 4),
                                                            AV.sl 1
                                                              (nth AV.undef
                                                                    (nth (Blk.box []) p.snd.blks 3).toCs 1).toPV.toEs],
                                                        Blk.arr 3
                                                          (setEs
                                                            (setEs (nth (Blk.box []) p.snd.blks 4).toEs
                                                              (nth AV.undef p.snd.vals 1).toPV.toInt.toNat 0
                                                              [PV.int IntKind.i64 1])
                                                            (nth AV.undef p.snd.vals 1).toPV.toInt.toNat 2
                                                            [PV.int IntKind.i64 (nth AV.undef p.snd.vals 0).toPV.toInt])] })
                                                Option.none)
                                              Option.none)
                                            Option.none)
                                          Option.none)
                                      Option.none)
                                    Option.none)
                                Option.none))
                            Option.none)
                        Option.none)
                      Option.none)
                  Option.none))
              Option.none)
          Option.none)
        Option.none)
    (Option.some
      (Ex.exit 2,
        { vals := [],
          blks :=
            [Blk.box [AV.sl 3 b1_0, AV.sl 1 b1_1],
              Blk.box [AV.t (TV.hsl 2), AV.sl 1 b3_1],
              Blk.arr 3 c4] })) := (lp_unfold ..).trans (by kernel_rfl)

/-- (dynpos/failover.party).elect, the loop of block 4 -/
theorem r25_4 (F : Fun) (time1 : Int) (c15 : Int) (epoch16 : Int) (x62 : List (List PV)) (x63 : Int) (x64 : Int) (x94 : List (List PV)) (x95 : Int) (x96 : Int) (b0_0 : List (List PV)) (b0_1 : List (List PV)) (b1_0 : List (List PV)) (b1_1 : List (List PV)) (c2 : List (Int × MV)) (b3_1 : List (List PV)) (c4 : List (List PV)) : lp E F 25 0 [] 4
  {
    vals :=
      [AV.int IntKind.i64 time1, AV.int IntKind.i64 c15, AV.int IntKind.i64 epoch16,
        AV.sl 1 x62, AV.int IntKind.i64 x63, AV.int IntKind.i64 x64, AV.sl 1 x94,
        AV.int IntKind.i64 x95, AV.int IntKind.i64 x96],
    blks :=
      [Blk.box [AV.sl 3 b0_0, AV.sl 1 b0_1],
        Blk.box [AV.sl 3 b1_0, AV.sl 1 b1_1], Blk.tab Bool.true 0 c2,
        Blk.box [AV.t (TV.hsl 4), AV.sl 1 b3_1], Blk.arr 3 c4] } =
  ctl (ltB x96 x95)
    (getE x94 x96 fun (c : List PV) =>
      ctl (okCs [Sh.int IntKind.i64] c)
        (ctl
          (leB 0 (nth PV.nilp c 0).toInt &&
            ltB (nth PV.nilp c 0).toInt (↑c4.length : Int))
          (lp E F 25 0 [] 4
            {
              vals :=
                [AV.int IntKind.i64 time1, AV.int IntKind.i64 c15, AV.int IntKind.i64 epoch16,
                  AV.sl 1 x62, AV.int IntKind.i64 x63, AV.int IntKind.i64 x64, AV.sl 1 x94,
                  AV.int IntKind.i64 x95, AV.int IntKind.i64 (IntKind.i64.wrap (x96 + 1))],
              blks :=
                [Blk.box [AV.sl 3 b0_0, AV.sl 1 b0_1],
                  Blk.box [AV.sl 3 b1_0, AV.sl 1 b1_1], Blk.tab Bool.true 0 c2,
                  Blk.box [AV.t (TV.hsl 4), AV.sl 1 b3_1],
                  Blk.arr 3
                    (setEs c4 (nth PV.nilp c 0).toInt.toNat 1 [PV.int IntKind.i64 epoch16])] })
          Option.none)
        Option.none)
    (Option.some
      (Ex.exit 4,
        {
          vals :=
            [AV.int IntKind.i64 time1, AV.int IntKind.i64 c15, AV.sl 1 x62,
              AV.int IntKind.i64 x63, AV.int IntKind.i64 x64],
          blks :=
            [Blk.box [AV.sl 3 b0_0, AV.sl 1 b0_1],
              Blk.box [AV.sl 3 b1_0, AV.sl 1 b1_1], Blk.tab Bool.true 0 c2,
              Blk.box [AV.t (TV.hsl 4), AV.sl 1 b3_1],
              Blk.arr 3 c4] })) := (lp_unfold ..).trans (by kernel_rfl)

/-- (dynpos/failover.party).elect -/
theorem r25 (F : Fun) (p0 : List (List PV)) (p1 : List (List PV)) (time : Int) (timeout : Int) : funK E F 25 [AV.agg [PV.sl 3 p0, PV.sl 1 p1], AV.int IntKind.i64 time,
  AV.int IntKind.i64 timeout] [] =
  bnd
    (F 41
      [AV.agg [PV.sl 3 p0, PV.sl 1 p1], AV.int IntKind.i64 time,
        AV.int IntKind.i64 timeout]
      [])
    fun (r : Res) =>
    ctl (okR [RSh.one (Sh.sl 1)] r.fst && okB [] r.snd)
      (bnd
        (lp E F 25 0 [] 0
          {
            vals :=
              [AV.int IntKind.i64 time,
                AV.sl 1 (nth (RV.p PV.nilp) r.fst 0).toPV.toEs,
                AV.int IntKind.i64 (↑p0.length : Int), AV.int IntKind.i64 0],
            blks :=
              [Blk.box [AV.sl 3 p0, AV.sl 1 p1],
                Blk.box [AV.sl 3 [], AV.sl 1 []], Blk.tab Bool.true 1 []] })
        fun (p : Ex × Pack) =>
        ctl (p.fst.eqb (Ex.exit 0))
          (ctl
            (okPack
              {
                slots :=
                  [(1, Sum.inl (Sh.int IntKind.i64)), (3, Sum.inr (Sum.inr (AV.t (TV.ptr 0 0)))),
                    (6, Sum.inr (Sum.inr (AV.t (TV.ptr 1 0)))), (8, Sum.inl (Sh.sl 1)),
                    (9, Sum.inr (Sum.inr (AV.hmap 2)))],
                blks :=
                  [Sum.inl [Sum.inl (Sh.sl 3), Sum.inl (Sh.sl 1)],
                    Sum.inl [Sum.inl (Sh.sl 3), Sum.inl (Sh.sl 1)], Sum.inr 1000003] }
              p.snd)
            (bnd
              (F 30
                [AV.sl 3
                    (nth AV.undef (nth (Blk.box []) p.snd.blks 0).toCs 0).toPV.toEs]
                [])
              fun (r : Res) =>
              ctl (okR [RSh.own 3] r.fst && okB [] r.snd)
                (bnd
                  (lp E F 25 0 [] 2
                    {
                      vals :=
                        [AV.int IntKind.i64 (nth AV.undef p.snd.vals 0).toPV.toInt,
                          AV.sl 1 (nth AV.undef p.snd.vals 1).toPV.toEs,
                          AV.int IntKind.i64 (↑(nth AV.undef p.snd.vals 1).toPV.toEs.length : Int),
                          AV.int IntKind.i64 0],
                      blks :=
                        [Blk.box
                            [AV.sl 3
                                (nth AV.undef (nth (Blk.box []) p.snd.blks 0).toCs 0).toPV.toEs,
                              AV.sl 1
                                (nth AV.undef (nth (Blk.box []) p.snd.blks 0).toCs 1).toPV.toEs],
                          Blk.box
                            [AV.sl 3
                                (nth AV.undef (nth (Blk.box []) p.snd.blks 1).toCs 0).toPV.toEs,
                              AV.sl 1
                                (nth AV.undef (nth (Blk.box []) p.snd.blks 1).toCs 1).toPV.toEs],
                          Blk.tab Bool.true 0
                            (List.map (fun (x : Int × MV) => (x.fst, MV.pv (MV.frz 1 x.snd)))
                              (nth (Blk.box []) p.snd.blks 2).toKvs),
                          Blk.box
                            [AV.t (TV.hsl 4),
                              AV.sl 1
                                (nth AV.undef (nth (Blk.box []) p.snd.blks 0).toCs 1).toPV.toEs],
                          Blk.arr 3 (nth (RV.p PV.nilp) r.fst 0).toEs] })
                  fun (p : Ex × Pack) =>
                  ctl (p.fst.eqb (Ex.exit 2))
                    (ctl
                      (okPack
                        {
                          slots :=
                            [(6, Sum.inr (Sum.inr (AV.t (TV.ptr 0 0)))),
                              (13, Sum.inr (Sum.inr (AV.t (TV.ptr 1 0))))],
                          blks :=
                            [Sum.inl [Sum.inl (Sh.sl 3), Sum.inl (Sh.sl 1)],
                              Sum.inl [Sum.inr (AV.t (TV.hsl 2)), Sum.inl (Sh.sl 1)], Sum.inr 3] }
                        p.snd)
                      (Option.some
                        ([RV.agg
                              [PV.sl 3 (nth (Blk.box []) p.snd.blks 2).toEs,
                                PV.sl 1
                                  (nth AV.undef (nth (Blk.box []) p.snd.blks 1).toCs
                                        1).toPV.toEs],
                            RV.p (PV.bool Bool.true)],
                          []))
                      Option.none)
                    (ctl (p.fst.eqb Ex.ret)
                      (ctl
                        (okPack
                          { slots := [(6, Sum.inr (Sum.inr (AV.t (TV.ptr 0 0)))), (7, Sum.inl Sh.bool)],
                            blks := [Sum.inl [Sum.inl (Sh.sl 3), Sum.inl (Sh.sl 1)]] }
                          p.snd)
                        (Option.some
                          ([RV.agg
                                [PV.sl 3
                                    (nth AV.undef (nth (Blk.box []) p.snd.blks 0).toCs
                                          0).toPV.toEs,
                                  PV.sl 1
                                    (nth AV.undef (nth (Blk.box []) p.snd.blks 0).toCs
                                          1).toPV.toEs],
                              RV.p (PV.bool (nth AV.undef p.snd.vals 0).toPV.toBool)],
                            []))
                        Option.none)
                      Option.none))
                Option.none)
            Option.none)
          Option.none)
      Option.none := by kernel_rfl

/-- dynpos/network.right -/
theorem r26 (F : Fun) (n0 : Int) (n1 : List (List PV)) (net : Int) (nodes : List (List PV)) : funK E F 26 [AV.agg [PV.int IntKind.i64 n0, PV.sl 3 n1], AV.int IntKind.i64 net,
  AV.sl 1 nodes] [] =
  bnd (F 46 [AV.agg [PV.int IntKind.i64 n0, PV.sl 3 n1]] [])
    fun (r : Res) =>
    ctl
      (okR [RSh.one (Sh.int IntKind.i64)] r.fst && okB [] r.snd)
      (bnd
        (ctl ((nth (RV.p PV.nilp) r.fst 0).toPV.toInt == 0)
          (Option.some (leB 0 net)) (Option.some Bool.false))
        fun (v : Bool) =>
        bnd (ctl v (Option.some (ltB net 2)) (Option.some Bool.false)) fun (v : Bool) =>
          ctl v
            (bnd
              (F 38 [AV.sl 1 nodes, AV.fn 47 [TV.ptr 0 0]]
                [Blk.box [AV.int IntKind.i64 n0, AV.sl 3 n1]])
              fun (r : Res) =>
              ctl
                (okR [RSh.one Sh.bool] r.fst &&
                  okB [Sum.inl [Sh.int IntKind.i64, Sh.sl 3]] r.snd)
                (Option.some
                  ([RV.p
                        (PV.bool !(nth (RV.p PV.nilp) r.fst 0).toPV.toBool)],
                    []))
                Option.none)
            (Option.some ([RV.p (PV.bool Bool.false)], [])))
      Option.none := by kernel_rfl

/-- dynpos/network.whole, the loop of block 0 -/
theorem r27_0 (F : Fun) (broken1 : List (List PV)) (net2 : Int) (x11 : List (List PV)) (x12 : Int) (x13 : Int) (c0 : List (List PV)) : lp E F 27 0 [] 0
  {
    vals :=
      [AV.sl 2 broken1, AV.int IntKind.i64 net2, AV.sl 3 x11, AV.int IntKind.i64 x12,
        AV.int IntKind.i64 x13],
    blks := [Blk.arr 3 c0] } =
  ctl (ltB x13 x12)
    (getE x11 x13 fun (c : List PV) =>
      ctl
        (okCs [Sh.int IntKind.i64, Sh.int IntKind.i64, Sh.int IntKind.i64] c)
        (ctl ((nth PV.nilp c 0).toInt == net2)
          (bnd
            (bnd
              (F 48 [AV.sl 2 broken1, AV.agg [PV.int IntKind.i64 8, PV.int IntKind.i64 x13]]
                [])
              fun (r : Res) =>
              ctl (okR [RSh.one Sh.bool] r.fst && okB [] r.snd)
                (Option.some !(nth (RV.p PV.nilp) r.fst 0).toPV.toBool) Option.none)
            fun (v : Bool) =>
            ctl v
              (ctl (leN ((c0.length + 1) * 24) 140737488355328)
                (lp E F 27 0 [] 0
                  {
                    vals :=
                      [AV.sl 2 broken1, AV.int IntKind.i64 net2, AV.sl 3 x11,
                        AV.int IntKind.i64 x12, AV.int IntKind.i64 (IntKind.i64.wrap (x13 + 1))],
                    blks :=
                      [Blk.arr 3
                          (c0 ++
                            [[PV.int IntKind.i64 (nth PV.nilp c 0).toInt,
                                PV.int IntKind.i64 (nth PV.nilp c 1).toInt,
                                PV.int IntKind.i64 (nth PV.nilp c 2).toInt]])] })
                Option.none)
              (lp E F 27 0 [] 0
                {
                  vals :=
                    [AV.sl 2 broken1, AV.int IntKind.i64 net2, AV.sl 3 x11,
                      AV.int IntKind.i64 x12, AV.int IntKind.i64 (IntKind.i64.wrap (x13 + 1))],
                  blks := [Blk.arr 3 c0] }))
          (lp E F 27 0 [] 0
            {
              vals :=
                [AV.sl 2 broken1, AV.int IntKind.i64 net2, AV.sl 3 x11,
                  AV.int IntKind.i64 x12, AV.int IntKind.i64 (IntKind.i64.wrap (x13 + 1))],
              blks := [Blk.arr 3 c0] }))
        Option.none)
    (Option.some (Ex.exit 0, { vals := [], blks := [Blk.arr 3 c0] })) := (lp_unfold ..).trans (by kernel_rfl)

/-- dynpos/network.whole -/
theorem r27 (F : Fun) (n0 : Int) (n1 : List (List PV)) (broken : List (List PV)) (net : Int) : funK E F 27 [AV.agg [PV.int IntKind.i64 n0, PV.sl 3 n1], AV.sl 2 broken,
  AV.int IntKind.i64 net] [] =
  bnd
    (lp E F 27 0 [] 0
      {
        vals :=
          [AV.sl 2 broken, AV.int IntKind.i64 net, AV.sl 3 n1,
            AV.int IntKind.i64 (↑n1.length : Int), AV.int IntKind.i64 0],
        blks := [Blk.arr 3 []] })
    fun (p : Ex × Pack) =>
    ctl (p.fst.eqb (Ex.exit 0))
      (ctl
        (okPack { slots := [(7, Sum.inr (Sum.inr (AV.t (TV.hsl 0))))], blks := [Sum.inr 3] } p.snd)
        (Option.some ([RV.p (PV.sl 3 (nth (Blk.box []) p.snd.blks 0).toEs)], [])) Option.none)
      Option.none := by kernel_rfl

/-- dynpos/failover.Check, the loop of block 0 -/
theorem r28_0 (F : Fun) (time1 : Int) (x15 : List (List PV)) (x16 : Int) (x17 : Int) : lp E F 28 0 [] 0
  {
    vals :=
      [AV.int IntKind.i64 time1, AV.sl 3 x15, AV.int IntKind.i64 x16,
        AV.int IntKind.i64 x17],
    blks := [] } =
  ctl (ltB x17 x16)
    (getE x15 x17 fun (c : List PV) =>
      ctl
        (okCs [Sh.int IntKind.i64, Sh.int IntKind.i64, Sh.int IntKind.i64] c)
        (bnd
          (ctl (!ltB (nth PV.nilp c 0).toInt 0)
            (Option.some (ltB 2 (nth PV.nilp c 0).toInt)) (Option.some Bool.true))
          fun (v : Bool) =>
          bnd
            (ctl (!v) (Option.some (ltB (nth PV.nilp c 1).toInt 0)) (Option.some Bool.true))
            fun (v : Bool) =>
            bnd
              (ctl (!v) (Option.some (ltB 2147483648 (nth PV.nilp c 1).toInt))
                (Option.some Bool.true))
              fun (v : Bool) =>
              bnd
                (ctl (!v) (Option.some (ltB (nth PV.nilp c 2).toInt 0)) (Option.some Bool.true))
                fun (v : Bool) =>
                bnd
                  (ctl (!v) (Option.some (ltB time1 (nth PV.nilp c 2).toInt))
                    (Option.some Bool.true))
                  fun (v : Bool) =>
                  ctl v (Option.some (Ex.ret, { vals := [AV.int IntKind.i64 1], blks := [] }))
                    (lp E F 28 0 [] 0
                      {
                        vals :=
                          [AV.int IntKind.i64 time1, AV.sl 3 x15, AV.int IntKind.i64 x16,
                            AV.int IntKind.i64 (IntKind.i64.wrap (x17 + 1))],
                        blks := [] }))
        Option.none)
    (Option.some (Ex.exit 0, { vals := [], blks := [] })) := (lp_unfold ..).trans (by kernel_rfl)

/-- dynpos/failover.Check -/
theorem r28 (F : Fun) (l : List (List PV)) (time : Int) : funK E F 28 [AV.sl 3 l, AV.int IntKind.i64 time] [] =
  bnd
    (ctl (!ltB (↑l.length : Int) 1) (Option.some (ltB 5 (↑l.length : Int))) (Option.some Bool.true)) fun (v : Bool) =>
    ctl v (Option.some ([RV.p (PV.int IntKind.i64 2)], []))
      (bnd
        (lp E F 28 0 [] 0
          {
            vals :=
              [AV.int IntKind.i64 time, AV.sl 3 l, AV.int IntKind.i64 (↑l.length : Int),
                AV.int IntKind.i64 0],
            blks := [] })
        fun (p : Ex × Pack) =>
        ctl (p.fst.eqb (Ex.exit 0)) (Option.some ([RV.p (PV.int IntKind.i64 0)], []))
          (ctl (p.fst.eqb Ex.ret)
            (ctl (okPack { slots := [(4, Sum.inl (Sh.int IntKind.i64))], blks := [] } p.snd)
              (Option.some
                ([RV.p (PV.int IntKind.i64 (nth AV.undef p.snd.vals 0).toPV.toInt)], []))
              Option.none)
            Option.none)) := by kernel_rfl

/-- dynpos/failover.shaped -/
theorem r29 (F : Fun) (l : List (List PV)) (reach : List (List PV)) : funK E F 29 [AV.sl 3 l, AV.sl 1 reach] [] =
  ctl ((↑reach.length : Int) == (↑l.length : Int))
    (bnd
      (F 49 [AV.sl 1 reach, AV.fn 50 [TV.ptr 0 0]]
        [Blk.box [AV.sl 3 l]])
      fun (r : Res) =>
      ctl
        (okR [RSh.one Sh.bool] r.fst &&
          okB [Sum.inl [Sh.sl 3]] r.snd)
        (Option.some
          ([RV.p
                (PV.bool !(nth (RV.p PV.nilp) r.fst 0).toPV.toBool)],
            []))
        Option.none)
    (Option.some ([RV.p (PV.bool Bool.false)], [])) := by kernel_rfl

/-- slices.Clone[[]dynpos/api.Controller,dynpos/api.Controller] -/
theorem r30c (F : Fun) (e : List PV) (l : List (List PV)) : funK E F 30 [AV.sl 3 (e :: l)] [] =
  ctl (leN ((0 + (e :: l).length) * 24) 140737488355328) (Option.some ([RV.own 3 ([] ++ e :: l)], [])) Option.none := by kernel_rfl

/-- (dynpos/failover.party).up -/
theorem r31 (F : Fun) (p0 : List (List PV)) (p1 : List (List PV)) (i : Int) : funK E F 31 [AV.agg [PV.sl 3 p0, PV.sl 1 p1], AV.int IntKind.i64 i] [] =
  getE p0 i fun (c : List PV) =>
    ctl
      (okCs [Sh.int IntKind.i64, Sh.int IntKind.i64, Sh.int IntKind.i64] c)
      (Option.some ([RV.p (PV.bool ((nth PV.nilp c 0).toInt != 2))], [])) Option.none := by kernel_rfl

/-- (dynpos/failover.party).greatest, the loop of block 0 -/
theorem r32_0 (F : Fun) (out5 : Int) (x8 : List (List PV)) (x9 : Int) (x10 : Int) (b0_0 : List (List PV)) (b0_1 : List (List PV)) : lp E F 32 0 [] 0
  {
    vals :=
      [AV.int IntKind.i64 out5, AV.sl 1 x8, AV.int IntKind.i64 x9,
        AV.int IntKind.i64 x10],
    blks := [Blk.box [AV.sl 3 b0_0, AV.sl 1 b0_1]] } =
  ctl (ltB x10 x9)
    (getE x8 x10 fun (c : List PV) =>
      ctl (okCs [Sh.int IntKind.i64] c)
        (getE b0_0 (nth PV.nilp c 0).toInt fun (c : List PV) =>
          ctl
            (okCs [Sh.int IntKind.i64, Sh.int IntKind.i64, Sh.int IntKind.i64] c)
            (lp E F 32 0 [] 0
              {
                vals :=
                  [AV.int IntKind.i64 (maxI (nth PV.nilp c 1).toInt out5),
                    AV.sl 1 x8, AV.int IntKind.i64 x9, AV.int IntKind.i64 (IntKind.i64.wrap (x10 + 1))],
                blks := [Blk.box [AV.sl 3 b0_0, AV.sl 1 b0_1]] })
            Option.none)
        Option.none)
    (Option.some (Ex.exit 0, { vals := [AV.int IntKind.i64 out5], blks := [] })) := (lp_unfold ..).trans (by kernel_rfl)

/-- (dynpos/failover.party).greatest -/
theorem r32 (F : Fun) (p0 : List (List PV)) (p1 : List (List PV)) (l : List (List PV)) : funK E F 32 [AV.agg [PV.sl 3 p0, PV.sl 1 p1], AV.sl 1 l] [] =
  bnd
    (lp E F 32 0 [] 0
      {
        vals :=
          [AV.int IntKind.i64 0, AV.sl 1 l, AV.int IntKind.i64 (↑l.length : Int),
            AV.int IntKind.i64 0],
        blks := [Blk.box [AV.sl 3 p0, AV.sl 1 p1]] })
    fun (p : Ex × Pack) =>
    ctl (p.fst.eqb (Ex.exit 0))
      (ctl (okPack { slots := [(5, Sum.inl (Sh.int IntKind.i64))], blks := [] } p.snd)
        (Option.some ([RV.p (PV.int IntKind.i64 (nth AV.undef p.snd.vals 0).toPV.toInt)], []))
        Option.none)
      Option.none := by kernel_rfl

/-- (dynpos/failover.party).hears, the loop of block 0 -/
theorem r33_0 (F : Fun) (i1 : Int) (x9 : Int) (x10 : Int) (b0_0 : List (List PV)) (b0_1 : List (List PV)) (c1 : List (List PV)) : lp E F 33 0 [] 0
  { vals := [AV.int IntKind.i64 i1, AV.int IntKind.i64 x9, AV.int IntKind.i64 x10],
    blks := [Blk.box [AV.sl 3 b0_0, AV.sl 1 b0_1], Blk.arr 1 c1] } =
  ctl (ltB x10 x9)
    (bnd
      (F 31 [AV.agg [PV.sl 3 b0_0, PV.sl 1 b0_1], AV.int IntKind.i64 i1] [])
      fun (r : Res) =>
      ctl (okR [RSh.one Sh.bool] r.fst && okB [] r.snd)
        (bnd
          (ctl (nth (RV.p PV.nilp) r.fst 0).toPV.toBool
            (bnd
              (F 31 [AV.agg [PV.sl 3 b0_0, PV.sl 1 b0_1], AV.int IntKind.i64 x10] [])
              fun (r : Res) =>
              ctl (okR [RSh.one Sh.bool] r.fst && okB [] r.snd)
                (Option.some (nth (RV.p PV.nilp) r.fst 0).toPV.toBool) Option.none)
            (Option.some Bool.false))
          fun (v : Bool) =>
          bnd
            (ctl v
              (ctl (!i1 == x10)
                (getE b0_1 i1 fun (c : List PV) =>
                  ctl (okCs [Sh.sl 1] c)
                    (getE (nth PV.nilp c 0).toEs x10 fun (c : List PV) =>
                      ctl (okCs [Sh.bool] c)
                        (ctl (!(nth PV.nilp c 0).toBool)
                          (getE b0_1 x10 fun (c : List PV) =>
                            ctl (okCs [Sh.sl 1] c)
                              (getE (nth PV.nilp c 0).toEs i1 fun (c : List PV) =>
                                ctl (okCs [Sh.bool] c)
                                  (Option.some (nth PV.nilp c 0).toBool) Option.none)
                              Option.none)
                          (Option.some Bool.true))
                        Option.none)
                    Option.none)
                (Option.some Bool.true))
              (Option.some Bool.false))
            fun (v : Bool) =>
            ctl v
              (ctl (leN ((c1.length + 1) * 8) 140737488355328)
                (lp E F 33 0 [] 0
                  {
                    vals :=
                      [AV.int IntKind.i64 i1, AV.int IntKind.i64 x9,
                        AV.int IntKind.i64 (IntKind.i64.wrap (x10 + 1))],
                    blks :=
                      [Blk.box [AV.sl 3 b0_0, AV.sl 1 b0_1],
                        Blk.arr 1 (c1 ++ [[PV.int IntKind.i64 x10]])] })
                Option.none)
              (lp E F 33 0 [] 0
                {
                  vals :=
                    [AV.int IntKind.i64 i1, AV.int IntKind.i64 x9, AV.int IntKind.i64 (IntKind.i64.wrap (x10 + 1))],
                  blks := [Blk.box [AV.sl 3 b0_0, AV.sl 1 b0_1], Blk.arr 1 c1] }))
        Option.none)
    (Option.some (Ex.exit 0, { vals := [], blks := [Blk.arr 1 c1] })) := (lp_unfold ..).trans (by kernel_rfl)

/-- (dynpos/failover.party).hears -/
theorem r33 (F : Fun) (p0 : List (List PV)) (p1 : List (List PV)) (i : Int) : funK E F 33 [AV.agg [PV.sl 3 p0, PV.sl 1 p1], AV.int IntKind.i64 i] [] =
  bnd
    (lp E F 33 0 [] 0
      { vals := [AV.int IntKind.i64 i, AV.int IntKind.i64 (↑p0.length : Int), AV.int IntKind.i64 0],
        blks := [Blk.box [AV.sl 3 p0, AV.sl 1 p1], Blk.arr 1 []] })
    fun (p : Ex × Pack) =>
    ctl (p.fst.eqb (Ex.exit 0))
      (ctl
        (okPack { slots := [(5, Sum.inr (Sum.inr (AV.t (TV.hsl 0))))], blks := [Sum.inr 1] } p.snd)
        (Option.some ([RV.p (PV.sl 1 (nth (Blk.box []) p.snd.blks 0).toEs)], [])) Option.none)
      Option.none := by kernel_rfl

/-- (dynpos/failover.party).yields$1 -/
theorem r34 (F : Fun) (i : Int) (c0 : Int) (c1 : Int) (c2 : Int) (k0_0 : List (List PV)) (k0_1 : List (List PV)) (k1_0 : List (List PV)) (k1_1 : List (List PV)) : funK E F 34 [AV.int IntKind.i64 i,
  AV.agg [PV.int IntKind.i64 c0, PV.int IntKind.i64 c1, PV.int IntKind.i64 c2],
  AV.t (TV.ptr 0 0), AV.t (TV.ptr 1 0)] [Blk.box [AV.sl 3 k0_0, AV.sl 1 k0_1],
  Blk.box [AV.sl 3 k1_0, AV.sl 1 k1_1]] =
  bnd
    (F 36 [AV.agg [PV.sl 3 k0_0, PV.sl 1 k0_1], AV.int IntKind.i64 i] [])
    fun (r : Res) =>
    ctl (okR [RSh.one Sh.bool] r.fst && okB [] r.snd)
      (ctl (nth (RV.p PV.nilp) r.fst 0).toPV.toBool
        (bnd
          (F 33 [AV.agg [PV.sl 3 k0_0, PV.sl 1 k0_1], AV.int IntKind.i64 i] [])
          fun (r : Res) =>
          ctl (okR [RSh.one (Sh.sl 1)] r.fst && okB [] r.snd)
            (bnd
              (F 37
                [AV.agg [PV.sl 3 k0_0, PV.sl 1 k0_1],
                  AV.int IntKind.i64 (↑(nth (RV.p PV.nilp) r.fst 0).toPV.toEs.length : Int)]
                [])
              fun (r : Res) =>
              ctl (okR [RSh.one Sh.bool] r.fst && okB [] r.snd)
                (ctl (!!(nth (RV.p PV.nilp) r.fst 0).toPV.toBool)
                  (getE k1_0 i fun (c : List PV) =>
                    ctl
                      (okCs [Sh.int IntKind.i64, Sh.int IntKind.i64, Sh.int IntKind.i64]
                        c)
                      (ctl (!ltB (nth PV.nilp c 1).toInt c1)
                        (bnd
                          (F 33 [AV.agg [PV.sl 3 k0_0, PV.sl 1 k0_1], AV.int IntKind.i64 i] [])
                          fun (r : Res) =>
                          ctl
                            (okR [RSh.one (Sh.sl 1)] r.fst && okB [] r.snd)
                            (bnd
                              (F 38
                                [AV.sl 1 (nth (RV.p PV.nilp) r.fst 0).toPV.toEs,
                                  AV.fn 35 [TV.ptr 0 0, TV.ptr 1 0, TV.ptr 2 0]]
                                [Blk.box [AV.int IntKind.i64 i],
                                  Blk.box [AV.sl 3 k0_0, AV.sl 1 k0_1],
                                  Blk.box
                                    [AV.int IntKind.i64 c0, AV.int IntKind.i64 c1, AV.int IntKind.i64 c2]])
                              fun (r : Res) =>
                              ctl
                                (okR [RSh.one Sh.bool] r.fst &&
                                  okB
                                    [Sum.inl [Sh.int IntKind.i64], Sum.inl [Sh.sl 3, Sh.sl 1],
                                      Sum.inl [Sh.int IntKind.i64, Sh.int IntKind.i64, Sh.int IntKind.i64]]
                                    r.snd)
                                (ctl (nth (RV.p PV.nilp) r.fst 0).toPV.toBool
                                  (Option.some
                                    ([RV.agg
                                          [PV.int IntKind.i64 0,
                                            PV.int IntKind.i64
                                              (nth PV.nilp
                                                  (List.map AV.toPV (nth (Blk.box []) r.snd 2).toCs) 1).toInt,
                                            PV.int IntKind.i64
                                              (nth PV.nilp
                                                  (List.map AV.toPV (nth (Blk.box []) r.snd 2).toCs) 2).toInt]],
                                      [Blk.box
                                          [AV.sl 3
                                              (nth PV.nilp
                                                  (List.map AV.toPV (nth (Blk.box []) r.snd 1).toCs) 0).toEs,
                                            AV.sl 1
                                              (nth PV.nilp
                                                  (List.map AV.toPV (nth (Blk.box []) r.snd 1).toCs) 1).toEs],
                                        Blk.box [AV.sl 3 k1_0, AV.sl 1 k1_1]]))
                                  (Option.some
                                    ([RV.agg
                                          [PV.int IntKind.i64
                                              (nth PV.nilp
                                                  (List.map AV.toPV (nth (Blk.box []) r.snd 2).toCs) 0).toInt,
                                            PV.int IntKind.i64
                                              (nth PV.nilp
                                                  (List.map AV.toPV (nth (Blk.box []) r.snd 2).toCs) 1).toInt,
                                            PV.int IntKind.i64
                                              (nth PV.nilp
                                                  (List.map AV.toPV (nth (Blk.box []) r.snd 2).toCs) 2).toInt]],
                                      [Blk.box
                                          [AV.sl 3
                                              (nth PV.nilp
                                                  (List.map AV.toPV (nth (Blk.box []) r.snd 1).toCs) 0).toEs,
                                            AV.sl 1
                                              (nth PV.nilp
                                                  (List.map AV.toPV (nth (Blk.box []) r.snd 1).toCs) 1).toEs],
                                        Blk.box [AV.sl 3 k1_0, AV.sl 1 k1_1]])))
                                Option.none)
                            Option.none)
                        (Option.some
                          ([RV.agg
                                [PV.int IntKind.i64 0, PV.int IntKind.i64 c1, PV.int IntKind.i64 c2]],
                            [Blk.box [AV.sl 3 k0_0, AV.sl 1 k0_1],
                              Blk.box [AV.sl 3 k1_0, AV.sl 1 k1_1]])))
                      Option.none)
                  (Option.some
                    ([RV.agg
                          [PV.int IntKind.i64 0, PV.int IntKind.i64 c1, PV.int IntKind.i64 c2]],
                      [Blk.box [AV.sl 3 k0_0, AV.sl 1 k0_1],
                        Blk.box [AV.sl 3 k1_0, AV.sl 1 k1_1]])))
                Option.none)
            Option.none)
        (Option.some
          ([RV.agg
                [PV.int IntKind.i64 c0, PV.int IntKind.i64 c1, PV.int IntKind.i64 c2]],
            [Blk.box [AV.sl 3 k0_0, AV.sl 1 k0_1],
              Blk.box [AV.sl 3 k1_0, AV.sl 1 k1_1]])))
      Option.none := by kernel_rfl

/-- (dynpos/failover.party).yields$1$1 -/
theorem r35 (F : Fun) (k : Int) (k0_0 : Int) (k1_0 : List (List PV)) (k1_1 : List (List PV)) (k2_0 : Int) (k2_1 : Int) (k2_2 : Int) : funK E F 35 [AV.int IntKind.i64 k, AV.t (TV.ptr 0 0), AV.t (TV.ptr 1 0),
  AV.t (TV.ptr 2 0)] [Blk.box [AV.int IntKind.i64 k0_0],
  Blk.box [AV.sl 3 k1_0, AV.sl 1 k1_1],
  Blk.box [AV.int IntKind.i64 k2_0, AV.int IntKind.i64 k2_1, AV.int IntKind.i64 k2_2]] =
  bnd
    (ctl (ltB k k0_0)
      (bnd
        (F 36 [AV.agg [PV.sl 3 k1_0, PV.sl 1 k1_1], AV.int IntKind.i64 k] [])
        fun (r : Res) =>
        ctl (okR [RSh.one Sh.bool] r.fst && okB [] r.snd)
          (Option.some (nth (RV.p PV.nilp) r.fst 0).toPV.toBool) Option.none)
      (Option.some Bool.false))
    fun (v : Bool) =>
    bnd
      (ctl v
        (getE k1_0 k fun (c : List PV) =>
          ctl
            (okCs [Sh.int IntKind.i64, Sh.int IntKind.i64, Sh.int IntKind.i64] c)
            (Option.some ((nth PV.nilp c 1).toInt == k2_1)) Option.none)
        (Option.some Bool.false))
      fun (v : Bool) =>
      Option.some
        ([RV.p (PV.bool v)],
          [Blk.box [AV.int IntKind.i64 k0_0],
            Blk.box [AV.sl 3 k1_0, AV.sl 1 k1_1],
            Blk.box
              [AV.int IntKind.i64 k2_0, AV.int IntKind.i64 k2_1, AV.int IntKind.i64 k2_2]]) := by kernel_rfl

/-- (dynpos/failover.party).active -/
theorem r36 (F : Fun) (p0 : List (List PV)) (p1 : List (List PV)) (i : Int) : funK E F 36 [AV.agg [PV.sl 3 p0, PV.sl 1 p1], AV.int IntKind.i64 i] [] =
  getE p0 i fun (c : List PV) =>
    ctl
      (okCs [Sh.int IntKind.i64, Sh.int IntKind.i64, Sh.int IntKind.i64] c)
      (Option.some ([RV.p (PV.bool ((nth PV.nilp c 0).toInt == 1))], [])) Option.none := by kernel_rfl

/-- (dynpos/failover.party).majority -/
theorem r37 (F : Fun) (p0 : List (List PV)) (p1 : List (List PV)) (n : Int) : funK E F 37 [AV.agg [PV.sl 3 p0, PV.sl 1 p1], AV.int IntKind.i64 n] [] =
  Option.some ([RV.p (PV.bool (ltB (↑p0.length : Int) (IntKind.i64.wrap (2 * n))))], []) := by kernel_rfl

/-- slices.ContainsFunc[[]int,int] -/
theorem r38a (F : Fun) (s : List (List PV)) (q0 : List (List PV)) (q1 : List (List PV)) : funK E F 38 [AV.sl 1 s, AV.bnd 36 [PV.sl 3 q0, PV.sl 1 q1]] [] =
  bnd (F 42 [AV.sl 1 s, AV.bnd 36 [PV.sl 3 q0, PV.sl 1 q1]] [])
    fun (r : Res) =>
    ctl
      (okR [RSh.one (Sh.int IntKind.i64)] r.fst && okB [] r.snd)
      (Option.some
        ([RV.p
              (PV.bool
                (leB 0 (nth (RV.p PV.nilp) r.fst 0).toPV.toInt))],
          []))
      Option.none := by kernel_rfl

/-- slices.ContainsFunc[[]int,int] -/
theorem r38b (F : Fun) (s : List (List PV)) (k0_0 : Int) (k1_0 : List (List PV)) (k1_1 : List (List PV)) (k2_0 : Int) (k2_1 : Int) (k2_2 : Int) : funK E F 38 [AV.sl 1 s, AV.fn 35 [TV.ptr 0 0, TV.ptr 1 0, TV.ptr 2 0]] [Blk.box [AV.int IntKind.i64 k0_0],
  Blk.box [AV.sl 3 k1_0, AV.sl 1 k1_1],
  Blk.box [AV.int IntKind.i64 k2_0, AV.int IntKind.i64 k2_1, AV.int IntKind.i64 k2_2]] =
  bnd
    (F 42
      [AV.sl 1 s, AV.fn 35 [TV.ptr 0 0, TV.ptr 1 0, TV.ptr 2 0]]
      [Blk.box [AV.int IntKind.i64 k0_0],
        Blk.box [AV.sl 3 k1_0, AV.sl 1 k1_1],
        Blk.box
          [AV.int IntKind.i64 k2_0, AV.int IntKind.i64 k2_1, AV.int IntKind.i64 k2_2]])
    fun (r : Res) =>
    ctl
      (okR [RSh.one (Sh.int IntKind.i64)] r.fst &&
        okB
          [Sum.inl [Sh.int IntKind.i64], Sum.inl [Sh.sl 3, Sh.sl 1],
            Sum.inl [Sh.int IntKind.i64, Sh.int IntKind.i64, Sh.int IntKind.i64]]
          r.snd)
      (Option.some
        ([RV.p
              (PV.bool
                (leB 0 (nth (RV.p PV.nilp) r.fst 0).toPV.toInt))],
          [Blk.box
              [AV.int IntKind.i64
                  (nth PV.nilp
                      (List.map AV.toPV (nth (Blk.box []) r.snd 0).toCs) 0).toInt],
            Blk.box
              [AV.sl 3
                  (nth PV.nilp
                      (List.map AV.toPV (nth (Blk.box []) r.snd 1).toCs) 0).toEs,
                AV.sl 1
                  (nth PV.nilp
                      (List.map AV.toPV (nth (Blk.box []) r.snd 1).toCs) 1).toEs],
            Blk.box
              [AV.int IntKind.i64
                  (nth PV.nilp
                      (List.map AV.toPV (nth (Blk.box []) r.snd 2).toCs) 0).toInt,
                AV.int IntKind.i64
                  (nth PV.nilp
                      (List.map AV.toPV (nth (Blk.box []) r.snd 2).toCs) 1).toInt,
                AV.int IntKind.i64
                  (nth PV.nilp
                      (List.map AV.toPV (nth (Blk.box []) r.snd 2).toCs) 2).toInt]]))
      Option.none := by kernel_rfl

/-- slices.ContainsFunc[[]int,int] -/
theorem r38n (F : Fun) (s : List (List PV)) (k0_0 : Int) (k0_1 : List (List PV)) : funK E F 38 [AV.sl 1 s, AV.fn 47 [TV.ptr 0 0]] [Blk.box [AV.int IntKind.i64 k0_0, AV.sl 3 k0_1]] =
  bnd
    (F 42 [AV.sl 1 s, AV.fn 47 [TV.ptr 0 0]]
      [Blk.box [AV.int IntKind.i64 k0_0, AV.sl 3 k0_1]])
    fun (r : Res) =>
    ctl
      (okR [RSh.one (Sh.int IntKind.i64)] r.fst &&
        okB [Sum.inl [Sh.int IntKind.i64, Sh.sl 3]] r.snd)
      (Option.some
        ([RV.p
              (PV.bool
                (leB 0 (nth (RV.p PV.nilp) r.fst 0).toPV.toInt))],
          [Blk.box
              [AV.int IntKind.i64
                  (nth PV.nilp
                      (List.map AV.toPV (nth (Blk.box []) r.snd 0).toCs) 0).toInt,
                AV.sl 3
                  (nth PV.nilp
                      (List.map AV.toPV (nth (Blk.box []) r.snd 0).toCs) 1).toEs]]))
      Option.none := by kernel_rfl

/-- (dynpos/failover.party).listens$1 -/
theorem r39 (F : Fun) (i : Int) (c0 : Int) (c1 : Int) (c2 : Int) (k0_0 : List (List PV)) (k0_1 : List (List PV)) (k1_0 : Int) : funK E F 39 [AV.int IntKind.i64 i,
  AV.agg [PV.int IntKind.i64 c0, PV.int IntKind.i64 c1, PV.int IntKind.i64 c2],
  AV.t (TV.ptr 0 0), AV.t (TV.ptr 1 0)] [Blk.box [AV.sl 3 k0_0, AV.sl 1 k0_1],
  Blk.box [AV.int IntKind.i64 k1_0]] =
  bnd
    (F 40 [AV.agg [PV.sl 3 k0_0, PV.sl 1 k0_1], AV.int IntKind.i64 i] [])
    fun (r : Res) =>
    ctl (okR [RSh.one Sh.bool] r.fst && okB [] r.snd)
      (ctl (nth (RV.p PV.nilp) r.fst 0).toPV.toBool
        (Option.some
          ([RV.agg
                [PV.int IntKind.i64 c0, PV.int IntKind.i64 c1, PV.int IntKind.i64 k1_0]],
            [Blk.box [AV.sl 3 k0_0, AV.sl 1 k0_1],
              Blk.box [AV.int IntKind.i64 k1_0]]))
        (Option.some
          ([RV.agg
                [PV.int IntKind.i64 c0, PV.int IntKind.i64 c1, PV.int IntKind.i64 c2]],
            [Blk.box [AV.sl 3 k0_0, AV.sl 1 k0_1],
              Blk.box [AV.int IntKind.i64 k1_0]])))
      Option.none := by kernel_rfl

/-- (dynpos/failover.party).leads -/
theorem r40 (F : Fun) (p0 : List (List PV)) (p1 : List (List PV)) (i : Int) : funK E F 40 [AV.agg [PV.sl 3 p0, PV.sl 1 p1], AV.int IntKind.i64 i] [] =
  bnd
    (F 33 [AV.agg [PV.sl 3 p0, PV.sl 1 p1], AV.int IntKind.i64 i] [])
    fun (r : Res) =>
    ctl (okR [RSh.one (Sh.sl 1)] r.fst && okB [] r.snd)
      (bnd
        (F 38
          [AV.sl 1 (nth (RV.p PV.nilp) r.fst 0).toPV.toEs,
            AV.bnd 36 [PV.sl 3 p0, PV.sl 1 p1]]
          [])
        fun (r : Res) =>
        ctl (okR [RSh.one Sh.bool] r.fst && okB [] r.snd)
          (Option.some
            ([RV.p
                  (PV.bool (nth (RV.p PV.nilp) r.fst 0).toPV.toBool)],
              []))
          Option.none)
      Option.none := by kernel_rfl

/-- (dynpos/failover.party).candidates, the loop of block 0 -/
theorem r41_0 (F : Fun) (time1 : Int) (timeout2 : Int) (x11 : List (List PV)) (x12 : Int) (x13 : Int) (b0_0 : List (List PV)) (b0_1 : List (List PV)) (c1 : List (List PV)) : lp E F 41 0 [] 0
  {
    vals :=
      [AV.int IntKind.i64 time1, AV.int IntKind.i64 timeout2, AV.sl 3 x11,
        AV.int IntKind.i64 x12, AV.int IntKind.i64 x13],
    blks := [Blk.box [AV.sl 3 b0_0, AV.sl 1 b0_1], Blk.arr 1 c1] } =
  ctl (ltB x13 x12)
    (getE x11 x13 fun (c : List PV) =>
      ctl
        (okCs [Sh.int IntKind.i64, Sh.int IntKind.i64, Sh.int IntKind.i64] c)
        (bnd
          (ctl ((nth PV.nilp c 0).toInt == 0)
            (bnd
              (F 33 [AV.agg [PV.sl 3 b0_0, PV.sl 1 b0_1], AV.int IntKind.i64 x13] [])
              fun (r : Res) =>
              ctl (okR [RSh.one (Sh.sl 1)] r.fst && okB [] r.snd)
                (bnd
                  (F 37
                    [AV.agg [PV.sl 3 b0_0, PV.sl 1 b0_1],
                      AV.int IntKind.i64
                        (↑(nth (RV.p PV.nilp) r.fst 0).toPV.toEs.length : Int)]
                    [])
                  fun (r : Res) =>
                  ctl (okR [RSh.one Sh.bool] r.fst && okB [] r.snd)
                    (Option.some (nth (RV.p PV.nilp) r.fst 0).toPV.toBool) Option.none)
                Option.none)
            (Option.some Bool.false))
          fun (v : Bool) =>
          bnd
            (ctl v
              (bnd
                (F 40 [AV.agg [PV.sl 3 b0_0, PV.sl 1 b0_1], AV.int IntKind.i64 x13] [])
                fun (r : Res) =>
                ctl (okR [RSh.one Sh.bool] r.fst && okB [] r.snd)
                  (Option.some !(nth (RV.p PV.nilp) r.fst 0).toPV.toBool) Option.none)
              (Option.some Bool.false))
            fun (v : Bool) =>
            bnd
              (ctl v
                (Option.some (leB timeout2 (IntKind.i64.wrap (time1 - (nth PV.nilp c 2).toInt)))) (Option.some Bool.false))
              fun (v : Bool) =>
              ctl v
                (ctl (leN ((c1.length + 1) * 8) 140737488355328)
                  (lp E F 41 0 [] 0
                    {
                      vals :=
                        [AV.int IntKind.i64 time1, AV.int IntKind.i64 timeout2, AV.sl 3 x11,
                          AV.int IntKind.i64 x12, AV.int IntKind.i64 (IntKind.i64.wrap (x13 + 1))],
                      blks :=
                        [Blk.box [AV.sl 3 b0_0, AV.sl 1 b0_1],
                          Blk.arr 1 (c1 ++ [[PV.int IntKind.i64 x13]])] })
                  Option.none)
                (lp E F 41 0 [] 0
                  {
                    vals :=
                      [AV.int IntKind.i64 time1, AV.int IntKind.i64 timeout2, AV.sl 3 x11,
                        AV.int IntKind.i64 x12, AV.int IntKind.i64 (IntKind.i64.wrap (x13 + 1))],
                    blks := [Blk.box [AV.sl 3 b0_0, AV.sl 1 b0_1], Blk.arr 1 c1] }))
        Option.none)
    (Option.some (Ex.exit 0, { vals := [], blks := [Blk.arr 1 c1] })) := (lp_unfold ..).trans (by kernel_rfl)

/-- (dynpos/failover.party).candidates -/
theorem r41 (F : Fun) (p0 : List (List PV)) (p1 : List (List PV)) (time : Int) (timeout : Int) : funK E F 41 [AV.agg [PV.sl 3 p0, PV.sl 1 p1], AV.int IntKind.i64 time,
  AV.int IntKind.i64 timeout] [] =
  bnd
    (lp E F 41 0 [] 0
      {
        vals :=
          [AV.int IntKind.i64 time, AV.int IntKind.i64 timeout, AV.sl 3 p0,
            AV.int IntKind.i64 (↑p0.length : Int), AV.int IntKind.i64 0],
        blks := [Blk.box [AV.sl 3 p0, AV.sl 1 p1], Blk.arr 1 []] })
    fun (p : Ex × Pack) =>
    ctl (p.fst.eqb (Ex.exit 0))
      (ctl
        (okPack { slots := [(7, Sum.inr (Sum.inr (AV.t (TV.hsl 0))))], blks := [Sum.inr 1] } p.snd)
        (Option.some ([RV.p (PV.sl 1 (nth (Blk.box []) p.snd.blks 0).toEs)], [])) Option.none)
      Option.none := by kernel_rfl

/-- slices.IndexFunc[[]int,int], the loop of block 0 -/
theorem r42_0a (F : Fun) (q0 : List (List PV)) (q1 : List (List PV)) (s0 : List (List PV)) (x7 : Int) (x8 : Int) : lp E F 42 0
  [AV.undef, AV.bnd 36 [PV.sl 3 q0, PV.sl 1 q1]] 0
  { vals := [AV.sl 1 s0, AV.int IntKind.i64 x7, AV.int IntKind.i64 x8], blks := [] } =
  ctl (ltB x8 x7)
    (getE s0 x8 fun (c : List PV) =>
      ctl (okCs [Sh.int IntKind.i64] c)
        (bnd
          (F 36
            [AV.agg [PV.sl 3 q0, PV.sl 1 q1],
              AV.int IntKind.i64 (nth PV.nilp c 0).toInt]
            [])
          fun (r : Res) =>
          ctl (okR [RSh.one Sh.bool] r.fst && okB [] r.snd)
            (ctl (nth (RV.p PV.nilp) r.fst 0).toPV.toBool
              (Option.some (Ex.ret, { vals := [AV.int IntKind.i64 x8], blks := [] }))
              (ctl
                (Bool.true &&
                    (eqAV (AV.bnd 36 [PV.sl 3 q0, PV.sl 1 q1])
                        (AV.bnd 36 [PV.sl 3 q0, PV.sl 1 q1]) &&
                      Bool.true) &&
                  Bool.true)
                (lp E F 42 0
                  [AV.undef, AV.bnd 36 [PV.sl 3 q0, PV.sl 1 q1]] 0
                  { vals := [AV.sl 1 s0, AV.int IntKind.i64 x7, AV.int IntKind.i64 (IntKind.i64.wrap (x8 + 1))],
                    blks := [] })
                Option.none))
            Option.none)
        Option.none)
    (Option.some (Ex.exit 0, { vals := [], blks := [] })) := (lp_unfold ..).trans (by kernel_rfl)

/-- slices.IndexFunc[[]int,int], the loop of block 0 -/
theorem r42_0b (F : Fun) (s0 : List (List PV)) (x7 : Int) (x8 : Int) (b0_0 : Int) (b1_0 : List (List PV)) (b1_1 : List (List PV)) (b2_0 : Int) (b2_1 : Int) (b2_2 : Int) : lp E F 42 3
  [AV.undef, AV.fn 35 [TV.ptr 0 0, TV.ptr 1 0, TV.ptr 2 0]] 0
  { vals := [AV.sl 1 s0, AV.int IntKind.i64 x7, AV.int IntKind.i64 x8],
    blks :=
      [Blk.box [AV.int IntKind.i64 b0_0],
        Blk.box [AV.sl 3 b1_0, AV.sl 1 b1_1],
        Blk.box
          [AV.int IntKind.i64 b2_0, AV.int IntKind.i64 b2_1, AV.int IntKind.i64 b2_2]] } =
  ctl (ltB x8 x7)
    (getE s0 x8 fun (c : List PV) =>
      ctl (okCs [Sh.int IntKind.i64] c)
        (bnd
          (F 35
            [AV.int IntKind.i64 (nth PV.nilp c 0).toInt,
              AV.t (TV.ptr 0 0), AV.t (TV.ptr 1 0),
              AV.t (TV.ptr 2 0)]
            [Blk.box [AV.int IntKind.i64 b0_0],
              Blk.box [AV.sl 3 b1_0, AV.sl 1 b1_1],
              Blk.box
                [AV.int IntKind.i64 b2_0, AV.int IntKind.i64 b2_1, AV.int IntKind.i64 b2_2]])
          fun (r : Res) =>
          ctl
            (okR [RSh.one Sh.bool] r.fst &&
              okB
                [Sum.inl [Sh.int IntKind.i64], Sum.inl [Sh.sl 3, Sh.sl 1],
                  Sum.inl [Sh.int IntKind.i64, Sh.int IntKind.i64, Sh.int IntKind.i64]]
                r.snd)
            (ctl (nth (RV.p PV.nilp) r.fst 0).toPV.toBool
              (Option.some
                (Ex.ret,
                  { vals := [AV.int IntKind.i64 x8],
                    blks :=
                      [Blk.box
                          [AV.int IntKind.i64
                              (nth PV.nilp
                                  (List.map AV.toPV (nth (Blk.box []) r.snd 0).toCs) 0).toInt],
                        Blk.box
                          [AV.sl 3
                              (nth PV.nilp
                                  (List.map AV.toPV (nth (Blk.box []) r.snd 1).toCs) 0).toEs,
                            AV.sl 1
                              (nth PV.nilp
                                  (List.map AV.toPV (nth (Blk.box []) r.snd 1).toCs) 1).toEs],
                        Blk.box
                          [AV.int IntKind.i64
                              (nth PV.nilp
                                  (List.map AV.toPV (nth (Blk.box []) r.snd 2).toCs) 0).toInt,
                            AV.int IntKind.i64
                              (nth PV.nilp
                                  (List.map AV.toPV (nth (Blk.box []) r.snd 2).toCs) 1).toInt,
                            AV.int IntKind.i64
                              (nth PV.nilp
                                  (List.map AV.toPV (nth (Blk.box []) r.snd 2).toCs) 2).toInt]] }))
              (lp E F 42 3
                [AV.undef,
                  AV.fn 35 [TV.ptr 0 0, TV.ptr 1 0, TV.ptr 2 0]]
                0
                { vals := [AV.sl 1 s0, AV.int IntKind.i64 x7, AV.int IntKind.i64 (IntKind.i64.wrap (x8 + 1))],
                  blks :=
                    [Blk.box
                        [AV.int IntKind.i64
                            (nth PV.nilp
                                (List.map AV.toPV (nth (Blk.box []) r.snd 0).toCs) 0).toInt],
                      Blk.box
                        [AV.sl 3
                            (nth PV.nilp
                                (List.map AV.toPV (nth (Blk.box []) r.snd 1).toCs) 0).toEs,
                          AV.sl 1
                            (nth PV.nilp
                                (List.map AV.toPV (nth (Blk.box []) r.snd 1).toCs) 1).toEs],
                      Blk.box
                        [AV.int IntKind.i64
                            (nth PV.nilp
                                (List.map AV.toPV (nth (Blk.box []) r.snd 2).toCs) 0).toInt,
                          AV.int IntKind.i64
                            (nth PV.nilp
                                (List.map AV.toPV (nth (Blk.box []) r.snd 2).toCs) 1).toInt,
                          AV.int IntKind.i64
                            (nth PV.nilp
                                (List.map AV.toPV (nth (Blk.box []) r.snd 2).toCs) 2).toInt]] }))
            Option.none)
        Option.none)
    (Option.some
      (Ex.exit 0,
        { vals := [],
          blks :=
            [Blk.box [AV.int IntKind.i64 b0_0],
              Blk.box [AV.sl 3 b1_0, AV.sl 1 b1_1],
              Blk.box
                [AV.int IntKind.i64 b2_0, AV.int IntKind.i64 b2_1, AV.int IntKind.i64 b2_2]] })) := (lp_unfold ..).trans (by kernel_rfl)

/-- slices.IndexFunc[[]int,int], the loop of block 0 -/
theorem r42_0e (F : Fun) (s0 : List (List PV)) (x7 : Int) (x8 : Int) (b0_0 : List (List PV)) : lp E F 42 1 [AV.undef, AV.fn 43 [TV.ptr 0 0]] 0
  { vals := [AV.sl 1 s0, AV.int IntKind.i64 x7, AV.int IntKind.i64 x8],
    blks := [Blk.box [AV.sl 1 b0_0]] } =
  ctl (ltB x8 x7)
    (getE s0 x8 fun (c : List PV) =>
      ctl (okCs [Sh.int IntKind.i64] c)
        (bnd
          (F 43
            [AV.int IntKind.i64 (nth PV.nilp c 0).toInt,
              AV.t (TV.ptr 0 0)]
            [Blk.box [AV.sl 1 b0_0]])
          fun (r : Res) =>
          ctl
            (okR [RSh.one Sh.bool] r.fst &&
              okB [Sum.inl [Sh.sl 1]] r.snd)
            (ctl (nth (RV.p PV.nilp) r.fst 0).toPV.toBool
              (Option.some
                (Ex.ret,
                  { vals := [AV.int IntKind.i64 x8],
                    blks :=
                      [Blk.box
                          [AV.sl 1
                              (nth PV.nilp
                                  (List.map AV.toPV (nth (Blk.box []) r.snd 0).toCs) 0).toEs]] }))
              (lp E F 42 1 [AV.undef, AV.fn 43 [TV.ptr 0 0]] 0
                { vals := [AV.sl 1 s0, AV.int IntKind.i64 x7, AV.int IntKind.i64 (IntKind.i64.wrap (x8 + 1))],
                  blks :=
                    [Blk.box
                        [AV.sl 1
                            (nth PV.nilp
                                (List.map AV.toPV (nth (Blk.box []) r.snd 0).toCs) 0).toEs]] }))
            Option.none)
        Option.none)
    (Option.some (Ex.exit 0, { vals := [], blks := [Blk.box [AV.sl 1 b0_0]] })) := (lp_unfold ..).trans (by kernel_rfl)

/-- slices.IndexFunc[[]int,int], the loop of block 0 -/
theorem r42_0n (F : Fun) (s0 : List (List PV)) (x7 : Int) (x8 : Int) (b0_0 : Int) (b0_1 : List (List PV)) : lp E F 42 1 [AV.undef, AV.fn 47 [TV.ptr 0 0]] 0
  { vals := [AV.sl 1 s0, AV.int IntKind.i64 x7, AV.int IntKind.i64 x8],
    blks := [Blk.box [AV.int IntKind.i64 b0_0, AV.sl 3 b0_1]] } =
  ctl (ltB x8 x7)
    (getE s0 x8 fun (c : List PV) =>
      ctl (okCs [Sh.int IntKind.i64] c)
        (bnd
          (F 47
            [AV.int IntKind.i64 (nth PV.nilp c 0).toInt,
              AV.t (TV.ptr 0 0)]
            [Blk.box [AV.int IntKind.i64 b0_0, AV.sl 3 b0_1]])
          fun (r : Res) =>
          ctl
            (okR [RSh.one Sh.bool] r.fst &&
              okB [Sum.inl [Sh.int IntKind.i64, Sh.sl 3]] r.snd)
            (ctl (nth (RV.p PV.nilp) r.fst 0).toPV.toBool
              (Option.some
                (Ex.ret,
                  { vals := [AV.int IntKind.i64 x8],
                    blks :=
                      [Blk.box
                          [AV.int IntKind.i64
                              (nth PV.nilp
                                  (List.map AV.toPV (nth (Blk.box []) r.snd 0).toCs) 0).toInt,
                            AV.sl 3
                              (nth PV.nilp
                                  (List.map AV.toPV (nth (Blk.box []) r.snd 0).toCs) 1).toEs]] }))
              (lp E F 42 1 [AV.undef, AV.fn 47 [TV.ptr 0 0]] 0
                { vals := [AV.sl 1 s0, AV.int IntKind.i64 x7, AV.int IntKind.i64 (IntKind.i64.wrap (x8 + 1))],
                  blks :=
                    [Blk.box
                        [AV.int IntKind.i64
                            (nth PV.nilp
                                (List.map AV.toPV (nth (Blk.box []) r.snd 0).toCs) 0).toInt,
                          AV.sl 3
                            (nth PV.nilp
                                (List.map AV.toPV (nth (Blk.box []) r.snd 0).toCs) 1).toEs]] }))
            Option.none)
        Option.none)
    (Option.some
      (Ex.exit 0, { vals := [], blks := [Blk.box [AV.int IntKind.i64 b0_0, AV.sl 3 b0_1]] })) := (lp_unfold ..).trans (by kernel_rfl)

/-- slices.IndexFunc[[]int,int] -/
theorem r42a (F : Fun) (s : List (List PV)) (q0 : List (List PV)) (q1 : List (List PV)) : funK E F 42 [AV.sl 1 s, AV.bnd 36 [PV.sl 3 q0, PV.sl 1 q1]] [] =
  ctl
    (Bool.true &&
        (eqAV (AV.bnd 36 [PV.sl 3 q0, PV.sl 1 q1])
            (AV.bnd 36 [PV.sl 3 q0, PV.sl 1 q1]) &&
          Bool.true) &&
      Bool.true)
    (bnd
      (lp E F 42 0
        [AV.undef, AV.bnd 36 [PV.sl 3 q0, PV.sl 1 q1]] 0
        { vals := [AV.sl 1 s, AV.int IntKind.i64 (↑s.length : Int), AV.int IntKind.i64 0], blks := [] })
      fun (p : Ex × Pack) =>
      ctl (p.fst.eqb (Ex.exit 0)) (Option.some ([RV.p (PV.int IntKind.i64 (-1))], []))
        (ctl (p.fst.eqb Ex.ret)
          (ctl (okPack { slots := [(4, Sum.inl (Sh.int IntKind.i64))], blks := [] } p.snd)
            (Option.some
              ([RV.p (PV.int IntKind.i64 (nth AV.undef p.snd.vals 0).toPV.toInt)], []))
            Option.none)
          Option.none))
    Option.none := by kernel_rfl

/-- slices.IndexFunc[[]int,int] -/
theorem r42b (F : Fun) (s : List (List PV)) (k0_0 : Int) (k1_0 : List (List PV)) (k1_1 : List (List PV)) (k2_0 : Int) (k2_1 : Int) (k2_2 : Int) : funK E F 42 [AV.sl 1 s, AV.fn 35 [TV.ptr 0 0, TV.ptr 1 0, TV.ptr 2 0]] [Blk.box [AV.int IntKind.i64 k0_0],
  Blk.box [AV.sl 3 k1_0, AV.sl 1 k1_1],
  Blk.box [AV.int IntKind.i64 k2_0, AV.int IntKind.i64 k2_1, AV.int IntKind.i64 k2_2]] =
  bnd
    (lp E F 42 3
      [AV.undef, AV.fn 35 [TV.ptr 0 0, TV.ptr 1 0, TV.ptr 2 0]] 0
      { vals := [AV.sl 1 s, AV.int IntKind.i64 (↑s.length : Int), AV.int IntKind.i64 0],
        blks :=
          [Blk.box [AV.int IntKind.i64 k0_0],
            Blk.box [AV.sl 3 k1_0, AV.sl 1 k1_1],
            Blk.box
              [AV.int IntKind.i64 k2_0, AV.int IntKind.i64 k2_1, AV.int IntKind.i64 k2_2]] })
    fun (p : Ex × Pack) =>
    ctl (p.fst.eqb (Ex.exit 0))
      (ctl
        (okPack
          { slots := [],
            blks :=
              [Sum.inl [Sum.inl (Sh.int IntKind.i64)], Sum.inl [Sum.inl (Sh.sl 3), Sum.inl (Sh.sl 1)],
                Sum.inl [Sum.inl (Sh.int IntKind.i64), Sum.inl (Sh.int IntKind.i64), Sum.inl (Sh.int IntKind.i64)]] }
          p.snd)
        (Option.some
          ([RV.p (PV.int IntKind.i64 (-1))],
            [Blk.box
                [AV.int IntKind.i64
                    (nth AV.undef (nth (Blk.box []) p.snd.blks 0).toCs 0).toPV.toInt],
              Blk.box
                [AV.sl 3
                    (nth AV.undef (nth (Blk.box []) p.snd.blks 1).toCs 0).toPV.toEs,
                  AV.sl 1
                    (nth AV.undef (nth (Blk.box []) p.snd.blks 1).toCs 1).toPV.toEs],
              Blk.box
                [AV.int IntKind.i64
                    (nth AV.undef (nth (Blk.box []) p.snd.blks 2).toCs 0).toPV.toInt,
                  AV.int IntKind.i64
                    (nth AV.undef (nth (Blk.box []) p.snd.blks 2).toCs 1).toPV.toInt,
                  AV.int IntKind.i64
                    (nth AV.undef (nth (Blk.box []) p.snd.blks 2).toCs 2).toPV.toInt]]))
        Option.none)
      (ctl (p.fst.eqb Ex.ret)
        (ctl
          (okPack
            { slots := [(4, Sum.inl (Sh.int IntKind.i64))],
              blks :=
                [Sum.inl [Sum.inl (Sh.int IntKind.i64)], Sum.inl [Sum.inl (Sh.sl 3), Sum.inl (Sh.sl 1)],
                  Sum.inl [Sum.inl (Sh.int IntKind.i64), Sum.inl (Sh.int IntKind.i64), Sum.inl (Sh.int IntKind.i64)]] }
            p.snd)
          (Option.some
            ([RV.p (PV.int IntKind.i64 (nth AV.undef p.snd.vals 0).toPV.toInt)],
              [Blk.box
                  [AV.int IntKind.i64
                      (nth AV.undef (nth (Blk.box []) p.snd.blks 0).toCs 0).toPV.toInt],
                Blk.box
                  [AV.sl 3
                      (nth AV.undef (nth (Blk.box []) p.snd.blks 1).toCs 0).toPV.toEs,
                    AV.sl 1
                      (nth AV.undef (nth (Blk.box []) p.snd.blks 1).toCs 1).toPV.toEs],
                Blk.box
                  [AV.int IntKind.i64
                      (nth AV.undef (nth (Blk.box []) p.snd.blks 2).toCs 0).toPV.toInt,
                    AV.int IntKind.i64
                      (nth AV.undef (nth (Blk.box []) p.snd.blks 2).toCs 1).toPV.toInt,
                    AV.int IntKind.i64
                      (nth AV.undef (nth (Blk.box []) p.snd.blks 2).toCs 2).toPV.toInt]]))
          Option.none)
        Option.none) := by kernel_rfl

/-- slices.IndexFunc[[]int,int] -/
theorem r42e (F : Fun) (s : List (List PV)) (k0_0 : List (List PV)) : funK E F 42 [AV.sl 1 s, AV.fn 43 [TV.ptr 0 0]] [Blk.box [AV.sl 1 k0_0]] =
  bnd
    (lp E F 42 1 [AV.undef, AV.fn 43 [TV.ptr 0 0]] 0
      { vals := [AV.sl 1 s, AV.int IntKind.i64 (↑s.length : Int), AV.int IntKind.i64 0],
        blks := [Blk.box [AV.sl 1 k0_0]] })
    fun (p : Ex × Pack) =>
    ctl (p.fst.eqb (Ex.exit 0))
      (ctl (okPack { slots := [], blks := [Sum.inl [Sum.inl (Sh.sl 1)]] } p.snd)
        (Option.some
          ([RV.p (PV.int IntKind.i64 (-1))],
            [Blk.box
                [AV.sl 1
                    (nth AV.undef (nth (Blk.box []) p.snd.blks 0).toCs 0).toPV.toEs]]))
        Option.none)
      (ctl (p.fst.eqb Ex.ret)
        (ctl
          (okPack { slots := [(4, Sum.inl (Sh.int IntKind.i64))], blks := [Sum.inl [Sum.inl (Sh.sl 1)]] } p.snd)
          (Option.some
            ([RV.p (PV.int IntKind.i64 (nth AV.undef p.snd.vals 0).toPV.toInt)],
              [Blk.box
                  [AV.sl 1
                      (nth AV.undef (nth (Blk.box []) p.snd.blks 0).toCs 0).toPV.toEs]]))
          Option.none)
        Option.none) := by kernel_rfl

/-- slices.IndexFunc[[]int,int] -/
theorem r42n (F : Fun) (s : List (List PV)) (k0_0 : Int) (k0_1 : List (List PV)) : funK E F 42 [AV.sl 1 s, AV.fn 47 [TV.ptr 0 0]] [Blk.box [AV.int IntKind.i64 k0_0, AV.sl 3 k0_1]] =
  bnd
    (lp E F 42 1 [AV.undef, AV.fn 47 [TV.ptr 0 0]] 0
      { vals := [AV.sl 1 s, AV.int IntKind.i64 (↑s.length : Int), AV.int IntKind.i64 0],
        blks := [Blk.box [AV.int IntKind.i64 k0_0, AV.sl 3 k0_1]] })
    fun (p : Ex × Pack) =>
    ctl (p.fst.eqb (Ex.exit 0))
      (ctl
        (okPack { slots := [], blks := [Sum.inl [Sum.inl (Sh.int IntKind.i64), Sum.inl (Sh.sl 3)]] } p.snd)
        (Option.some
          ([RV.p (PV.int IntKind.i64 (-1))],
            [Blk.box
                [AV.int IntKind.i64
                    (nth AV.undef (nth (Blk.box []) p.snd.blks 0).toCs 0).toPV.toInt,
                  AV.sl 3
                    (nth AV.undef (nth (Blk.box []) p.snd.blks 0).toCs 1).toPV.toEs]]))
        Option.none)
      (ctl (p.fst.eqb Ex.ret)
        (ctl
          (okPack
            { slots := [(4, Sum.inl (Sh.int IntKind.i64))],
              blks := [Sum.inl [Sum.inl (Sh.int IntKind.i64), Sum.inl (Sh.sl 3)]] }
            p.snd)
          (Option.some
            ([RV.p (PV.int IntKind.i64 (nth AV.undef p.snd.vals 0).toPV.toInt)],
              [Blk.box
                  [AV.int IntKind.i64
                      (nth AV.undef (nth (Blk.box []) p.snd.blks 0).toCs 0).toPV.toInt,
                    AV.sl 3
                      (nth AV.undef (nth (Blk.box []) p.snd.blks 0).toCs 1).toPV.toEs]]))
          Option.none)
        Option.none) := by kernel_rfl

/-- (dynpos/failover.party).elect$1 -/
theorem r43 (F : Fun) (c : Int) (k0_0 : List (List PV)) : funK E F 43 [AV.int IntKind.i64 c, AV.t (TV.ptr 0 0)] [Blk.box [AV.sl 1 k0_0]] =
  bnd (F 44 [AV.sl 1 k0_0, AV.int IntKind.i64 c] []) fun (r : Res) =>
    ctl (okR [RSh.one Sh.bool] r.fst && okB [] r.snd)
      (Option.some
        ([RV.p (PV.bool (nth (RV.p PV.nilp) r.fst 0).toPV.toBool)],
          [Blk.box [AV.sl 1 k0_0]]))
      Option.none := by kernel_rfl

/-- slices.Contains[[]int,int] -/
theorem r44 (F : Fun) (s : List (List PV)) (v : Int) : funK E F 44 [AV.sl 1 s, AV.int IntKind.i64 v] [] =
  bnd (F 51 [AV.sl 1 s, AV.int IntKind.i64 v] []) fun (r : Res) =>
    ctl
      (okR [RSh.one (Sh.int IntKind.i64)] r.fst && okB [] r.snd)
      (Option.some
        ([RV.p
              (PV.bool
                (leB 0 (nth (RV.p PV.nilp) r.fst 0).toPV.toInt))],
          []))
      Option.none := by kernel_rfl

/-- slices.Clone[[]int,int] -/
theorem r45c (F : Fun) (e : List PV) (l : List (List PV)) : funK E F 45 [AV.sl 1 (e :: l)] [] =
  ctl (leN ((0 + (e :: l).length) * 8) 140737488355328) (Option.some ([RV.own 1 ([] ++ e :: l)], [])) Option.none := by kernel_rfl

/-- dynpos/network.Check, the loop of block 0 -/
theorem r46_0 (F : Fun) (x20 : List (List PV)) (x21 : Int) (x22 : Int) (b0_0 : Int) (b0_1 : List (List PV)) : lp E F 46 0 [] 0
  { vals := [AV.sl 3 x20, AV.int IntKind.i64 x21, AV.int IntKind.i64 x22],
    blks := [Blk.box [AV.int IntKind.i64 b0_0, AV.sl 3 b0_1]] } =
  ctl (ltB x22 x21)
    (getE x20 x22 fun (c : List PV) =>
      ctl
        (okCs [Sh.int IntKind.i64, Sh.int IntKind.i64, Sh.int IntKind.i64] c)
        (bnd
          (ctl (!ltB (nth PV.nilp c 0).toInt 0)
            (Option.some (leB 2 (nth PV.nilp c 0).toInt)) (Option.some Bool.true))
          fun (v : Bool) =>
          bnd
            (ctl (!v) (Option.some (ltB (nth PV.nilp c 1).toInt 0)) (Option.some Bool.true))
            fun (v : Bool) =>
            bnd
              (ctl (!v)
                (Option.some
                  (leB (nth PV.nilp c 2).toInt
                    (nth PV.nilp c 1).toInt))
                (Option.some Bool.true))
              fun (v : Bool) =>
              bnd
                (ctl (!v) (Option.some (leB b0_0 (nth PV.nilp c 2).toInt))
                  (Option.some Bool.true))
                fun (v : Bool) =>
                ctl v (Option.some (Ex.ret, { vals := [AV.int IntKind.i64 68], blks := [] }))
                  (bnd
                    (ctl (ltB 0 x22)
                      (getE b0_1 (IntKind.i64.wrap (x22 - 1)) fun (c_1 : List PV) =>
                        ctl
                          (okCs
                            [Sh.int IntKind.i64, Sh.int IntKind.i64, Sh.int IntKind.i64] c_1)
                          (bnd
                            (F 52
                              [AV.agg
                                  [PV.int IntKind.i64 (nth PV.nilp c_1 0).toInt,
                                    PV.int IntKind.i64 (nth PV.nilp c_1 1).toInt,
                                    PV.int IntKind.i64 (nth PV.nilp c_1 2).toInt],
                                AV.agg
                                  [PV.int IntKind.i64 (nth PV.nilp c 0).toInt,
                                    PV.int IntKind.i64 (nth PV.nilp c 1).toInt,
                                    PV.int IntKind.i64 (nth PV.nilp c 2).toInt]]
                              [])
                            fun (r : Res) =>
                            ctl
                              (okR [RSh.one (Sh.int IntKind.i64)] r.fst && okB [] r.snd)
                              (Option.some (leB 0 (nth (RV.p PV.nilp) r.fst 0).toPV.toInt))
                              Option.none)
                          Option.none)
                      (Option.some Bool.false))
                    fun (v : Bool) =>
                    ctl v (Option.some (Ex.ret, { vals := [AV.int IntKind.i64 68], blks := [] }))
                      (lp E F 46 0 [] 0
                        {
                          vals :=
                            [AV.sl 3 x20, AV.int IntKind.i64 x21, AV.int IntKind.i64 (IntKind.i64.wrap (x22 + 1))],
                          blks := [Blk.box [AV.int IntKind.i64 b0_0, AV.sl 3 b0_1]] })))
        Option.none)
    (Option.some (Ex.exit 0, { vals := [], blks := [] })) := (lp_unfold ..).trans (by kernel_rfl)

/-- dynpos/network.Check -/
theorem r46 (F : Fun) (n0 : Int) (n1 : List (List PV)) : funK E F 46 [AV.agg [PV.int IntKind.i64 n0, PV.sl 3 n1]] [] =
  bnd (ctl (!ltB n0 1) (Option.some (ltB 8 n0)) (Option.some Bool.true)) fun (v : Bool) =>
    bnd (ctl (!v) (Option.some (ltB 24 (↑n1.length : Int))) (Option.some Bool.true)) fun (v : Bool) =>
      ctl v (Option.some ([RV.p (PV.int IntKind.i64 68)], []))
        (bnd
          (lp E F 46 0 [] 0
            { vals := [AV.sl 3 n1, AV.int IntKind.i64 (↑n1.length : Int), AV.int IntKind.i64 0],
              blks := [Blk.box [AV.int IntKind.i64 n0, AV.sl 3 n1]] })
          fun (p : Ex × Pack) =>
          ctl (p.fst.eqb (Ex.exit 0)) (Option.some ([RV.p (PV.int IntKind.i64 0)], []))
            (ctl (p.fst.eqb Ex.ret)
              (ctl (okPack { slots := [(2, Sum.inl (Sh.int IntKind.i64))], blks := [] } p.snd)
                (Option.some
                  ([RV.p (PV.int IntKind.i64 (nth AV.undef p.snd.vals 0).toPV.toInt)], []))
                Option.none)
              Option.none)) := by kernel_rfl

/-- dynpos/network.right$1 -/
theorem r47 (F : Fun) (x : Int) (k0_0 : Int) (k0_1 : List (List PV)) : funK E F 47 [AV.int IntKind.i64 x, AV.t (TV.ptr 0 0)] [Blk.box [AV.int IntKind.i64 k0_0, AV.sl 3 k0_1]] =
  bnd (ctl (!ltB x 0) (Option.some (leB k0_0 x)) (Option.some Bool.true)) fun (v : Bool) =>
    Option.some
      ([RV.p (PV.bool v)],
        [Blk.box [AV.int IntKind.i64 k0_0, AV.sl 3 k0_1]]) := by kernel_rfl

/-- slices.Contains[[]dynpos/api.Part,dynpos/api.Part] -/
theorem r48 (F : Fun) (s : List (List PV)) (v0 : Int) (v1 : Int) : funK E F 48 [AV.sl 2 s, AV.agg [PV.int IntKind.i64 v0, PV.int IntKind.i64 v1]] [] =
  bnd
    (F 53 [AV.sl 2 s, AV.agg [PV.int IntKind.i64 v0, PV.int IntKind.i64 v1]] [])
    fun (r : Res) =>
    ctl
      (okR [RSh.one (Sh.int IntKind.i64)] r.fst && okB [] r.snd)
      (Option.some
        ([RV.p
              (PV.bool
                (leB 0 (nth (RV.p PV.nilp) r.fst 0).toPV.toInt))],
          []))
      Option.none := by kernel_rfl

/-- slices.ContainsFunc[[][]bool,[]bool] -/
theorem r49a (F : Fun) (s : List (List PV)) (k0_0 : List (List PV)) : funK E F 49 [AV.sl 1 s, AV.fn 50 [TV.ptr 0 0]] [Blk.box [AV.sl 3 k0_0]] =
  bnd
    (F 54 [AV.sl 1 s, AV.fn 50 [TV.ptr 0 0]]
      [Blk.box [AV.sl 3 k0_0]])
    fun (r : Res) =>
    ctl
      (okR [RSh.one (Sh.int IntKind.i64)] r.fst &&
        okB [Sum.inl [Sh.sl 3]] r.snd)
      (Option.some
        ([RV.p
              (PV.bool
                (leB 0 (nth (RV.p PV.nilp) r.fst 0).toPV.toInt))],
          [Blk.box
              [AV.sl 3
                  (nth PV.nilp
                      (List.map AV.toPV (nth (Blk.box []) r.snd 0).toCs) 0).toEs]]))
      Option.none := by kernel_rfl

/-- dynpos/failover.shaped$1 -/
theorem r50 (F : Fun) (row : List (List PV)) (k0_0 : List (List PV)) : funK E F 50 [AV.sl 1 row, AV.t (TV.ptr 0 0)] [Blk.box [AV.sl 3 k0_0]] =
  Option.some
    ([RV.p (PV.bool ((↑row.length : Int) != (↑k0_0.length : Int)))], [Blk.box [AV.sl 3 k0_0]]) := by kernel_rfl

/-- slices.Index[[]int,int], the loop of block 0 -/
theorem r51_0 (F : Fun) (s0 : List (List PV)) (v1 : Int) (x7 : Int) (x8 : Int) : lp E F 51 0 [] 0
  {
    vals :=
      [AV.sl 1 s0, AV.int IntKind.i64 v1, AV.int IntKind.i64 x7,
        AV.int IntKind.i64 x8],
    blks := [] } =
  ctl (ltB x8 x7)
    (getE s0 x8 fun (c : List PV) =>
      ctl (okCs [Sh.int IntKind.i64] c)
        (ctl (v1 == (nth PV.nilp c 0).toInt)
          (Option.some (Ex.ret, { vals := [AV.int IntKind.i64 x8], blks := [] }))
          (lp E F 51 0 [] 0
            {
              vals :=
                [AV.sl 1 s0, AV.int IntKind.i64 v1, AV.int IntKind.i64 x7,
                  AV.int IntKind.i64 (IntKind.i64.wrap (x8 + 1))],
              blks := [] }))
        Option.none)
    (Option.some (Ex.exit 0, { vals := [], blks := [] })) := (lp_unfold ..).trans (by kernel_rfl)

/-- slices.Index[[]int,int] -/
theorem r51 (F : Fun) (s : List (List PV)) (v : Int) : funK E F 51 [AV.sl 1 s, AV.int IntKind.i64 v] [] =
  bnd
    (lp E F 51 0 [] 0
      {
        vals :=
          [AV.sl 1 s, AV.int IntKind.i64 v, AV.int IntKind.i64 (↑s.length : Int),
            AV.int IntKind.i64 0],
        blks := [] })
    fun (p : Ex × Pack) =>
    ctl (p.fst.eqb (Ex.exit 0)) (Option.some ([RV.p (PV.int IntKind.i64 (-1))], []))
      (ctl (p.fst.eqb Ex.ret)
        (ctl (okPack { slots := [(4, Sum.inl (Sh.int IntKind.i64))], blks := [] } p.snd)
          (Option.some
            ([RV.p (PV.int IntKind.i64 (nth AV.undef p.snd.vals 0).toPV.toInt)], []))
          Option.none)
        Option.none) := by kernel_rfl

/-- dynpos/network.compare -/
theorem r52 (F : Fun) (a0 : Int) (a1 : Int) (a2 : Int) (b0 : Int) (b1 : Int) (b2 : Int) : funK E F 52 [AV.agg [PV.int IntKind.i64 a0, PV.int IntKind.i64 a1, PV.int IntKind.i64 a2],
  AV.agg [PV.int IntKind.i64 b0, PV.int IntKind.i64 b1, PV.int IntKind.i64 b2]] [] =
  bnd (F 56 [AV.int IntKind.i64 a0, AV.int IntKind.i64 b0] []) fun (r : Res) =>
    ctl
      (okR [RSh.one (Sh.int IntKind.i64)] r.fst && okB [] r.snd)
      (bnd (F 56 [AV.int IntKind.i64 a1, AV.int IntKind.i64 b1] []) fun (r_1 : Res) =>
        ctl
          (okR [RSh.one (Sh.int IntKind.i64)] r_1.fst && okB [] r_1.snd)
          (bnd (F 56 [AV.int IntKind.i64 a2, AV.int IntKind.i64 b2] []) fun (r_2 : Res) =>
            ctl
              (okR [RSh.one (Sh.int IntKind.i64)] r_2.fst && okB [] r_2.snd)
              (bnd
                (F 55
                  [AV.sl 1
                      [[PV.int IntKind.i64 (nth (RV.p PV.nilp) r.fst 0).toPV.toInt],
                        [PV.int IntKind.i64 (nth (RV.p PV.nilp) r_1.fst 0).toPV.toInt],
                        [PV.int IntKind.i64 (nth (RV.p PV.nilp) r_2.fst 0).toPV.toInt]]]
                  [])
                fun (r : Res) =>
                ctl
                  (okR [RSh.one (Sh.int IntKind.i64)] r.fst && okB [] r.snd &&
                    (noslR r.fst && noslB r.snd))
                  (Option.some
                    ([RV.p
                          (PV.int IntKind.i64 (nth (RV.p PV.nilp) r.fst 0).toPV.toInt)],
                      []))
                  Option.none)
              Option.none)
          Option.none)
      Option.none := by kernel_rfl

/-- slices.Index[[]dynpos/api.Part,dynpos/api.Part], the loop of block 0 -/
theorem r53_0 (F : Fun) (s0 : List (List PV)) (x7 : Int) (x8 : Int) (b0_0 : Int) (b0_1 : Int) : lp E F 53 0 [] 0
  { vals := [AV.sl 2 s0, AV.int IntKind.i64 x7, AV.int IntKind.i64 x8],
    blks := [Blk.box [AV.int IntKind.i64 b0_0, AV.int IntKind.i64 b0_1]] } =
  ctl (ltB x8 x7)
    (getE s0 x8 fun (c : List PV) =>
      ctl (okCs [Sh.int IntKind.i64, Sh.int IntKind.i64] c)
        (ctl
          (b0_0 == (nth PV.nilp c 0).toInt && (b0_1 == (nth PV.nilp c 1).toInt && Bool.true))
          (Option.some (Ex.ret, { vals := [AV.int IntKind.i64 x8], blks := [] }))
          (lp E F 53 0 [] 0
            { vals := [AV.sl 2 s0, AV.int IntKind.i64 x7, AV.int IntKind.i64 (IntKind.i64.wrap (x8 + 1))],
              blks := [Blk.box [AV.int IntKind.i64 b0_0, AV.int IntKind.i64 b0_1]] }))
        Option.none)
    (Option.some (Ex.exit 0, { vals := [], blks := [] })) := (lp_unfold ..).trans (by kernel_rfl)

/-- slices.Index[[]dynpos/api.Part,dynpos/api.Part] -/
theorem r53 (F : Fun) (s : List (List PV)) (v0 : Int) (v1 : Int) : funK E F 53 [AV.sl 2 s, AV.agg [PV.int IntKind.i64 v0, PV.int IntKind.i64 v1]] [] =
  bnd
    (lp E F 53 0 [] 0
      { vals := [AV.sl 2 s, AV.int IntKind.i64 (↑s.length : Int), AV.int IntKind.i64 0],
        blks := [Blk.box [AV.int IntKind.i64 v0, AV.int IntKind.i64 v1]] })
    fun (p : Ex × Pack) =>
    ctl (p.fst.eqb (Ex.exit 0)) (Option.some ([RV.p (PV.int IntKind.i64 (-1))], []))
      (ctl (p.fst.eqb Ex.ret)
        (ctl (okPack { slots := [(4, Sum.inl (Sh.int IntKind.i64))], blks := [] } p.snd)
          (Option.some
            ([RV.p (PV.int IntKind.i64 (nth AV.undef p.snd.vals 0).toPV.toInt)], []))
          Option.none)
        Option.none) := by kernel_rfl

/-- slices.IndexFunc[[][]bool,[]bool], the loop of block 0 -/
theorem r54_0a (F : Fun) (s0 : List (List PV)) (x7 : Int) (x8 : Int) (b0_0 : List (List PV)) : lp E F 54 1 [AV.undef, AV.fn 50 [TV.ptr 0 0]] 0
  { vals := [AV.sl 1 s0, AV.int IntKind.i64 x7, AV.int IntKind.i64 x8],
    blks := [Blk.box [AV.sl 3 b0_0]] } =
  ctl (ltB x8 x7)
    (getE s0 x8 fun (c : List PV) =>
      ctl (okCs [Sh.sl 1] c)
        (bnd
          (F 50 [AV.sl 1 (nth PV.nilp c 0).toEs, AV.t (TV.ptr 0 0)]
            [Blk.box [AV.sl 3 b0_0]])
          fun (r : Res) =>
          ctl
            (okR [RSh.one Sh.bool] r.fst &&
              okB [Sum.inl [Sh.sl 3]] r.snd)
            (ctl (nth (RV.p PV.nilp) r.fst 0).toPV.toBool
              (Option.some
                (Ex.ret,
                  { vals := [AV.int IntKind.i64 x8],
                    blks :=
                      [Blk.box
                          [AV.sl 3
                              (nth PV.nilp
                                  (List.map AV.toPV (nth (Blk.box []) r.snd 0).toCs) 0).toEs]] }))
              (lp E F 54 1 [AV.undef, AV.fn 50 [TV.ptr 0 0]] 0
                { vals := [AV.sl 1 s0, AV.int IntKind.i64 x7, AV.int IntKind.i64 (IntKind.i64.wrap (x8 + 1))],
                  blks :=
                    [Blk.box
                        [AV.sl 3
                            (nth PV.nilp
                                (List.map AV.toPV (nth (Blk.box []) r.snd 0).toCs) 0).toEs]] }))
            Option.none)
        Option.none)
    (Option.some (Ex.exit 0, { vals := [], blks := [Blk.box [AV.sl 3 b0_0]] })) := (lp_unfold ..).trans (by kernel_rfl)

/-- slices.IndexFunc[[][]bool,[]bool] -/
theorem r54a (F : Fun) (s : List (List PV)) (k0_0 : List (List PV)) : funK E F 54 [AV.sl 1 s, AV.fn 50 [TV.ptr 0 0]] [Blk.box [AV.sl 3 k0_0]] =
  bnd
    (lp E F 54 1 [AV.undef, AV.fn 50 [TV.ptr 0 0]] 0
      { vals := [AV.sl 1 s, AV.int IntKind.i64 (↑s.length : Int), AV.int IntKind.i64 0],
        blks := [Blk.box [AV.sl 3 k0_0]] })
    fun (p : Ex × Pack) =>
    ctl (p.fst.eqb (Ex.exit 0))
      (ctl (okPack { slots := [], blks := [Sum.inl [Sum.inl (Sh.sl 3)]] } p.snd)
        (Option.some
          ([RV.p (PV.int IntKind.i64 (-1))],
            [Blk.box
                [AV.sl 3
                    (nth AV.undef (nth (Blk.box []) p.snd.blks 0).toCs 0).toPV.toEs]]))
        Option.none)
      (ctl (p.fst.eqb Ex.ret)
        (ctl
          (okPack { slots := [(4, Sum.inl (Sh.int IntKind.i64))], blks := [Sum.inl [Sum.inl (Sh.sl 3)]] } p.snd)
          (Option.some
            ([RV.p (PV.int IntKind.i64 (nth AV.undef p.snd.vals 0).toPV.toInt)],
              [Blk.box
                  [AV.sl 3
                      (nth AV.undef (nth (Blk.box []) p.snd.blks 0).toCs 0).toPV.toEs]]))
          Option.none)
        Option.none) := by kernel_rfl

/-- cmp.Or[int], the loop of block 0 -/
theorem r55_0 (F : Fun) (zero3 : Int) (x6 : List (List PV)) (x7 : Int) (x8 : Int) : lp E F 55 0 [] 0
  {
    vals :=
      [AV.int IntKind.i64 zero3, AV.sl 1 x6, AV.int IntKind.i64 x7,
        AV.int IntKind.i64 x8],
    blks := [] } =
  ctl (ltB x8 x7)
    (getE x6 x8 fun (c : List PV) =>
      ctl (okCs [Sh.int IntKind.i64] c)
        (ctl ((nth PV.nilp c 0).toInt != zero3)
          (Option.some
            (Ex.ret, { vals := [AV.int IntKind.i64 (nth PV.nilp c 0).toInt], blks := [] }))
          (lp E F 55 0 [] 0
            {
              vals :=
                [AV.int IntKind.i64 zero3, AV.sl 1 x6, AV.int IntKind.i64 x7,
                  AV.int IntKind.i64 (IntKind.i64.wrap (x8 + 1))],
              blks := [] }))
        Option.none)
    (Option.some (Ex.exit 0, { vals := [AV.int IntKind.i64 zero3], blks := [] })) := (lp_unfold ..).trans (by kernel_rfl)

/-- cmp.Or[int] -/
theorem r55 (F : Fun) (vals : List (List PV)) : funK E F 55 [AV.sl 1 vals] [] =
  bnd
    (lp E F 55 0 [] 0
      {
        vals :=
          [AV.int IntKind.i64 0, AV.sl 1 vals, AV.int IntKind.i64 (↑vals.length : Int),
            AV.int IntKind.i64 0],
        blks := [] })
    fun (p : Ex × Pack) =>
    ctl (p.fst.eqb (Ex.exit 0))
      (ctl (okPack { slots := [(3, Sum.inl (Sh.int IntKind.i64))], blks := [] } p.snd)
        (Option.some ([RV.p (PV.int IntKind.i64 (nth AV.undef p.snd.vals 0).toPV.toInt)], []))
        Option.none)
      (ctl (p.fst.eqb Ex.ret)
        (ctl (okPack { slots := [(2, Sum.inl (Sh.int IntKind.i64))], blks := [] } p.snd)
          (Option.some
            ([RV.p (PV.int IntKind.i64 (nth AV.undef p.snd.vals 0).toPV.toInt)], []))
          Option.none)
        Option.none) := by kernel_rfl

/-- cmp.Compare[int] -/
theorem r56 (F : Fun) (x : Int) (y : Int) : funK E F 56 [AV.int IntKind.i64 x, AV.int IntKind.i64 y] [] =
  bnd (F 57 [AV.int IntKind.i64 x] []) fun (r : Res) =>
    ctl (okR [RSh.one Sh.bool] r.fst && okB [] r.snd)
      (bnd (F 57 [AV.int IntKind.i64 y] []) fun (r_1 : Res) =>
        ctl (okR [RSh.one Sh.bool] r_1.fst && okB [] r_1.snd)
          (ctl (nth (RV.p PV.nilp) r.fst 0).toPV.toBool
            (ctl (nth (RV.p PV.nilp) r_1.fst 0).toPV.toBool
              (Option.some ([RV.p (PV.int IntKind.i64 0)], []))
              (Option.some ([RV.p (PV.int IntKind.i64 (-1))], [])))
            (ctl (nth (RV.p PV.nilp) r_1.fst 0).toPV.toBool
              (Option.some ([RV.p (PV.int IntKind.i64 1)], []))
              (ctl (ltB x y) (Option.some ([RV.p (PV.int IntKind.i64 (-1))], []))
                (ctl (ltB y x) (Option.some ([RV.p (PV.int IntKind.i64 1)], []))
                  (Option.some ([RV.p (PV.int IntKind.i64 0)], []))))))
          Option.none)
      Option.none := by kernel_rfl

/-- cmp.isNaN[int] -/
theorem r57 (F : Fun) (x : Int) : funK E F 57 [AV.int IntKind.i64 x] [] =
  Option.some ([RV.p (PV.bool (x != x))], []) := by kernel_rfl

end Go.Proofs.Ytcgpckiieocdbaa.Vm
