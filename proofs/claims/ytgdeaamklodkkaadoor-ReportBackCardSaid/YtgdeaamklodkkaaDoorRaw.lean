/- The raw theorems, by program: what each function and each loop comes to. -/
import Derived.Test.YtgdeaamklodkkaaDoorEnv
import Derived.Test.YtgdeaamklodkkaaDoorVm34
import Derived.KernelRfl
namespace Go.Proofs.YtgdeaamklodkkaaDoor.Vm
open Go
set_option maxRecDepth 100000
set_option linter.unusedVariables false

/-- dynpos/dynposmake.New -/
theorem r9 (F : Fun) (l : List (List PV)) : funK E F 9 [AV.sl 1 l] [] =
  ctl
    (Bool.true &&
      (leB 0 (minI 600 (↑l.length : Int)) &&
        leB (minI 600 (↑l.length : Int)) (↑l.length : Int)))
    (Option.some
      ([RV.ownp
            [PV.sl 1 (cutI l 0 (minI 600 (↑l.length : Int))),
              PV.int IntKind.i64 0]],
        []))
    Option.none := by kernel_rfl

/-- dynpos/dynposref36.New -/
theorem r10 (F : Fun) : funK E F 10 [] [] =
  Option.some ([RV.agg [PV.nils, PV.int IntKind.u64 14695981039346656037]], []) := by kernel_rfl

/-- (*dynpos/dynposmake.Src).N -/
theorem r11 (F : Fun) (s0 : List (List PV)) (s1 : Int) (n : Int) : funK E F 11 [AV.t (TV.ptr 0 0), AV.int IntKind.i64 n] [Blk.box [AV.sl 1 s0, AV.int IntKind.i64 s1]] =
  ctl (leB (↑s0.length : Int) s1)
    (Option.some
      ([RV.p (PV.int IntKind.i64 0)],
        [Blk.box [AV.sl 1 s0, AV.int IntKind.i64 s1]]))
    (getE s0 (IntKind.i64.wrap (IntKind.i64.wrap (s1 + 1) - 1)) fun (c : List PV) =>
      ctl (okCs [Sh.int IntKind.i64] c)
        (bnd
          (F 21
            [AV.int IntKind.i64 (nth PV.nilp c 0).toInt,
              AV.int IntKind.i64 n]
            [])
          fun (r : Res) =>
          ctl
            (okR [RSh.one (Sh.int IntKind.i64)] r.fst && okB [] r.snd)
            (Option.some
              ([RV.p
                    (PV.int IntKind.i64
                      (nth (RV.p PV.nilp) r.fst 0).toPV.toInt)],
                [Blk.box [AV.sl 1 s0, AV.int IntKind.i64 (IntKind.i64.wrap (s1 + 1))]]))
            Option.none)
        Option.none) := by kernel_rfl

/-- dynpos/dynposref36.Append -/
theorem r12 (F : Fun) (b0 : List (List PV)) (b1 : Int) (e0 : Int) (e1 : Int) (e2 : List (List PV)) : funK E F 12 [AV.agg [PV.sl 3 b0, PV.int IntKind.u64 b1],
  AV.agg [PV.int IntKind.i64 e0, PV.int IntKind.i64 e1, PV.sl 1 e2]] [] =
  bnd (F 22 [AV.agg [PV.sl 3 b0, PV.int IntKind.u64 b1]] [])
    fun (r : Res) =>
    ctl
      (okR [RSh.one (Sh.int IntKind.i64)] r.fst && okB [] r.snd)
      (bnd
        (ctl (!(nth (RV.p PV.nilp) r.fst 0).toPV.toInt != 0)
          (bnd
            (F 23
              [AV.agg
                  [PV.int IntKind.i64 e0, PV.int IntKind.i64 e1, PV.sl 1 e2]]
              [])
            fun (r : Res) =>
            ctl
              (okR [RSh.one Sh.bool] r.fst && okB [] r.snd)
              (Option.some !(nth (RV.p PV.nilp) r.fst 0).toPV.toBool) Option.none)
          (Option.some Bool.true))
        fun (v : Bool) =>
        ctl v
          (Option.some
            ([RV.agg [PV.nils, PV.int IntKind.u64 0],
                RV.p (PV.int IntKind.i64 72)],
              []))
          (bnd
            (ctl (ltB 0 (↑b0.length : Int))
              (getE b0 (IntKind.i64.wrap ((↑b0.length : Int) - 1)) fun (c : List PV) =>
                ctl
                  (okCs [Sh.int IntKind.i64, Sh.int IntKind.i64, Sh.sl 1] c)
                  (Option.some (ltB e0 (nth PV.nilp c 0).toInt)) Option.none)
              (Option.some Bool.false))
            fun (v : Bool) =>
            ctl v
              (Option.some
                ([RV.agg [PV.nils, PV.int IntKind.u64 0],
                    RV.p (PV.int IntKind.i64 16)],
                  []))
              (ctl ((↑b0.length : Int) == 200)
                (Option.some
                  ([RV.agg [PV.nils, PV.int IntKind.u64 0],
                      RV.p (PV.int IntKind.i64 2)],
                    []))
                (ctl (leN (b0.length * 40) 140737488355328)
                  (ctl (leN ((b0.length + 1) * 40) 140737488355328)
                    (bnd
                      (F 25
                        [AV.agg
                            [PV.int IntKind.i64 e0, PV.int IntKind.i64 e1, PV.sl 1 e2]]
                        [])
                      fun (r : Res) =>
                      ctl
                        (okR [RSh.one Sh.str] r.fst && okB [] r.snd)
                        (bnd
                          (F 24
                            [AV.int IntKind.u64 b1,
                              AV.str (nth (RV.p PV.nilp) r.fst 0).toPV.toStr]
                            [])
                          fun (r : Res) =>
                          ctl
                            (okR [RSh.one (Sh.int IntKind.u64)] r.fst &&
                              okB [] r.snd)
                            (Option.some
                              ([RV.agg
                                    [PV.sl 3
                                        (b0 ++ [[PV.int IntKind.i64 e0, PV.int IntKind.i64 e1, PV.sl 1 e2]]),
                                      PV.int IntKind.u64
                                        (nth (RV.p PV.nilp) r.fst 0).toPV.toInt],
                                  RV.p (PV.int IntKind.i64 0)],
                                []))
                            Option.none)
                        Option.none)
                    Option.none)
                  Option.none))))
      Option.none := by kernel_rfl

/-- (*dynpos/dynposmake.Src).Range -/
theorem r13 (F : Fun) (s0 : List (List PV)) (s1 : Int) (lo : Int) (hi : Int) : funK E F 13 [AV.t (TV.ptr 0 0), AV.int IntKind.i64 lo, AV.int IntKind.i64 hi] [Blk.box [AV.sl 1 s0, AV.int IntKind.i64 s1]] =
  bnd
    (F 11 [AV.t (TV.ptr 0 0), AV.int IntKind.i64 (IntKind.i64.wrap (IntKind.i64.wrap (hi - lo) + 1))]
      [Blk.box [AV.sl 1 s0, AV.int IntKind.i64 s1]])
    fun (r : Res) =>
    ctl
      (okR [RSh.one (Sh.int IntKind.i64)] r.fst &&
        okB [Sum.inl [Sh.sl 1, Sh.int IntKind.i64]] r.snd)
      (Option.some
        ([RV.p
              (PV.int IntKind.i64
                (IntKind.i64.wrap (lo + (nth (RV.p PV.nilp) r.fst 0).toPV.toInt)))],
          [Blk.box
              [AV.sl 1
                  (nth PV.nilp
                      (List.map AV.toPV (nth (Blk.box []) r.snd 0).toCs) 0).toEs,
                AV.int IntKind.i64
                  (nth PV.nilp
                      (List.map AV.toPV (nth (Blk.box []) r.snd 0).toCs) 1).toInt]]))
      Option.none := by kernel_rfl

/-- dynpos/dynposlaw40.made, the loop of block 0 -/
theorem r15_0 (F : Fun) (x12 : Int) (b0_0 : List (List PV)) (b0_1 : Int) (b1_0 : Int) (b1_1 : Int) (b1_2 : Int) (b1_3 : Int) (b1_4 : Int) (b1_5 : Int) (b1_6 : Int) (b2_0 : Int) (b2_1 : Int) (b2_2 : Int) (b2_3 : Int) (b2_4 : Int) (b2_5 : Int) (b2_6 : Int) : lp E F 15 1 [] 0
  { vals := [AV.int IntKind.i64 x12],
    blks :=
      [Blk.box [AV.sl 1 b0_0, AV.int IntKind.i64 b0_1],
        Blk.box
          [AV.int IntKind.i64 b1_0, AV.int IntKind.i64 b1_1, AV.int IntKind.i64 b1_2,
            AV.int IntKind.i64 b1_3, AV.int IntKind.i64 b1_4, AV.int IntKind.i64 b1_5,
            AV.int IntKind.i64 b1_6],
        Blk.box
          [AV.int IntKind.i64 b2_0, AV.int IntKind.i64 b2_1, AV.int IntKind.i64 b2_2,
            AV.int IntKind.i64 b2_3, AV.int IntKind.i64 b2_4, AV.int IntKind.i64 b2_5,
            AV.int IntKind.i64 b2_6]] } =
  ctl (ltB x12 4)
    (bnd
      (F 29
        [AV.t (TV.ptr 0 0),
          AV.sl 1
            [[PV.int IntKind.i64 0], [PV.int IntKind.i64 0], [PV.int IntKind.i64 1],
              [PV.int IntKind.i64 7], [PV.int IntKind.i64 100]]]
        [Blk.box [AV.sl 1 b0_0, AV.int IntKind.i64 b0_1]])
      fun (r : Res) =>
      ctl
        (okR [RSh.one (Sh.int IntKind.i64)] r.fst &&
          okB [Sum.inl [Sh.sl 1, Sh.int IntKind.i64]] r.snd)
        (ctl (x12 == 0)
          (lp E F 15 1 [] 0
            { vals := [AV.int IntKind.i64 (IntKind.i64.wrap (x12 + 1))],
              blks :=
                [Blk.box
                    [AV.sl 1
                        (nth PV.nilp
                            (List.map AV.toPV (nth (Blk.box []) r.snd 0).toCs) 0).toEs,
                      AV.int IntKind.i64
                        (nth PV.nilp
                            (List.map AV.toPV (nth (Blk.box []) r.snd 0).toCs) 1).toInt],
                  Blk.box
                    [AV.int IntKind.i64 b1_0, AV.int IntKind.i64 b1_1, AV.int IntKind.i64 b1_2,
                      AV.int IntKind.i64 b1_3, AV.int IntKind.i64 b1_4, AV.int IntKind.i64 b1_5,
                      AV.int IntKind.i64 b1_6],
                  Blk.box
                    [AV.int IntKind.i64
                        (nth (RV.p PV.nilp) r.fst 0).toPV.toInt,
                      AV.int IntKind.i64 b2_1, AV.int IntKind.i64 b2_2, AV.int IntKind.i64 b2_3,
                      AV.int IntKind.i64 b2_4, AV.int IntKind.i64 b2_5, AV.int IntKind.i64 b2_6]] })
          (ctl (x12 == 1)
            (lp E F 15 1 [] 0
              { vals := [AV.int IntKind.i64 (IntKind.i64.wrap (x12 + 1))],
                blks :=
                  [Blk.box
                      [AV.sl 1
                          (nth PV.nilp
                              (List.map AV.toPV (nth (Blk.box []) r.snd 0).toCs) 0).toEs,
                        AV.int IntKind.i64
                          (nth PV.nilp
                              (List.map AV.toPV (nth (Blk.box []) r.snd 0).toCs) 1).toInt],
                    Blk.box
                      [AV.int IntKind.i64 b1_0, AV.int IntKind.i64 b1_1, AV.int IntKind.i64 b1_2,
                        AV.int IntKind.i64 b1_3, AV.int IntKind.i64 b1_4, AV.int IntKind.i64 b1_5,
                        AV.int IntKind.i64 b1_6],
                    Blk.box
                      [AV.int IntKind.i64 b2_0,
                        AV.int IntKind.i64
                          (nth (RV.p PV.nilp) r.fst 0).toPV.toInt,
                        AV.int IntKind.i64 b2_2, AV.int IntKind.i64 b2_3, AV.int IntKind.i64 b2_4,
                        AV.int IntKind.i64 b2_5, AV.int IntKind.i64 b2_6]] })
            (ctl (x12 == 2)
              (lp E F 15 1 [] 0
                { vals := [AV.int IntKind.i64 (IntKind.i64.wrap (x12 + 1))],
                  blks :=
                    [Blk.box
                        [AV.sl 1
                            (nth PV.nilp
                                (List.map AV.toPV (nth (Blk.box []) r.snd 0).toCs) 0).toEs,
                          AV.int IntKind.i64
                            (nth PV.nilp
                                (List.map AV.toPV (nth (Blk.box []) r.snd 0).toCs) 1).toInt],
                      Blk.box
                        [AV.int IntKind.i64 b1_0, AV.int IntKind.i64 b1_1, AV.int IntKind.i64 b1_2,
                          AV.int IntKind.i64 b1_3, AV.int IntKind.i64 b1_4, AV.int IntKind.i64 b1_5,
                          AV.int IntKind.i64 b1_6],
                      Blk.box
                        [AV.int IntKind.i64 b2_0, AV.int IntKind.i64 b2_1,
                          AV.int IntKind.i64
                            (nth (RV.p PV.nilp) r.fst 0).toPV.toInt,
                          AV.int IntKind.i64 b2_3, AV.int IntKind.i64 b2_4, AV.int IntKind.i64 b2_5,
                          AV.int IntKind.i64 b2_6]] })
              (ctl (x12 == 3)
                (lp E F 15 1 [] 0
                  { vals := [AV.int IntKind.i64 (IntKind.i64.wrap (x12 + 1))],
                    blks :=
                      [Blk.box
                          [AV.sl 1
                              (nth PV.nilp
                                  (List.map AV.toPV (nth (Blk.box []) r.snd 0).toCs) 0).toEs,
                            AV.int IntKind.i64
                              (nth PV.nilp
                                  (List.map AV.toPV (nth (Blk.box []) r.snd 0).toCs) 1).toInt],
                        Blk.box
                          [AV.int IntKind.i64 b1_0, AV.int IntKind.i64 b1_1, AV.int IntKind.i64 b1_2,
                            AV.int IntKind.i64 b1_3, AV.int IntKind.i64 b1_4, AV.int IntKind.i64 b1_5,
                            AV.int IntKind.i64 b1_6],
                        Blk.box
                          [AV.int IntKind.i64 b2_0, AV.int IntKind.i64 b2_1, AV.int IntKind.i64 b2_2,
                            AV.int IntKind.i64
                              (nth (RV.p PV.nilp) r.fst 0).toPV.toInt,
                            AV.int IntKind.i64 b2_4, AV.int IntKind.i64 b2_5, AV.int IntKind.i64 b2_6]] })
                Option.none))))
        Option.none)
    (Option.some
      (Ex.exit 0,
        { vals := [],
          blks :=
            [Blk.box [AV.sl 1 b0_0, AV.int IntKind.i64 b0_1],
              Blk.box
                [AV.int IntKind.i64 b1_0, AV.int IntKind.i64 b1_1, AV.int IntKind.i64 b1_2,
                  AV.int IntKind.i64 b1_3, AV.int IntKind.i64 b1_4, AV.int IntKind.i64 b1_5,
                  AV.int IntKind.i64 b1_6],
              Blk.box
                [AV.int IntKind.i64 b2_0, AV.int IntKind.i64 b2_1, AV.int IntKind.i64 b2_2,
                  AV.int IntKind.i64 b2_3, AV.int IntKind.i64 b2_4, AV.int IntKind.i64 b2_5,
                  AV.int IntKind.i64 b2_6]] })) := (lp_unfold ..).trans (by kernel_rfl)

/-- dynpos/dynposlaw40.made -/
theorem r15 (F : Fun) (s0 : List (List PV)) (s1 : Int) : funK E F 15 [AV.t (TV.ptr 0 0)] [Blk.box [AV.sl 1 s0, AV.int IntKind.i64 s1]] =
  bnd
    (F 11 [AV.t (TV.ptr 0 0), AV.int IntKind.i64 4]
      [Blk.box [AV.sl 1 s0, AV.int IntKind.i64 s1]])
    fun (r : Res) =>
    ctl
      (okR [RSh.one (Sh.int IntKind.i64)] r.fst &&
        okB [Sum.inl [Sh.sl 1, Sh.int IntKind.i64]] r.snd)
      (bnd
        (F 11 [AV.t (TV.ptr 0 0), AV.int IntKind.i64 20]
          [Blk.box
              [AV.sl 1
                  (nth PV.nilp
                      (List.map AV.toPV (nth (Blk.box []) r.snd 0).toCs) 0).toEs,
                AV.int IntKind.i64
                  (nth PV.nilp
                      (List.map AV.toPV (nth (Blk.box []) r.snd 0).toCs) 1).toInt]])
        fun (r_1 : Res) =>
        ctl
          (okR [RSh.one (Sh.int IntKind.i64)] r_1.fst &&
            okB [Sum.inl [Sh.sl 1, Sh.int IntKind.i64]] r_1.snd)
          (bnd
            (F 11 [AV.t (TV.ptr 0 0), AV.int IntKind.i64 20]
              [Blk.box
                  [AV.sl 1
                      (nth PV.nilp
                          (List.map AV.toPV (nth (Blk.box []) r_1.snd 0).toCs) 0).toEs,
                    AV.int IntKind.i64
                      (nth PV.nilp
                          (List.map AV.toPV (nth (Blk.box []) r_1.snd 0).toCs) 1).toInt]])
            fun (r_2 : Res) =>
            ctl
              (okR [RSh.one (Sh.int IntKind.i64)] r_2.fst &&
                okB [Sum.inl [Sh.sl 1, Sh.int IntKind.i64]] r_2.snd)
              (bnd
                (lp E F 15 1 [] 0
                  { vals := [AV.int IntKind.i64 0],
                    blks :=
                      [Blk.box
                          [AV.sl 1
                              (nth PV.nilp
                                  (List.map AV.toPV (nth (Blk.box []) r_2.snd 0).toCs) 0).toEs,
                            AV.int IntKind.i64
                              (nth PV.nilp
                                  (List.map AV.toPV (nth (Blk.box []) r_2.snd 0).toCs) 1).toInt],
                        Blk.box
                          [AV.int IntKind.i64 0, AV.int IntKind.i64 0, AV.int IntKind.i64 0,
                            AV.int IntKind.i64 0, AV.int IntKind.i64 0, AV.int IntKind.i64 0,
                            AV.int IntKind.i64 0],
                        Blk.box
                          [AV.int IntKind.i64 0, AV.int IntKind.i64 0, AV.int IntKind.i64 0,
                            AV.int IntKind.i64 0,
                            AV.int IntKind.i64
                              (nth (RV.p PV.nilp) r.fst 0).toPV.toInt,
                            AV.int IntKind.i64
                              (nth (RV.p PV.nilp) r_1.fst 0).toPV.toInt,
                            AV.int IntKind.i64
                              (nth (RV.p PV.nilp) r_2.fst 0).toPV.toInt]] })
                fun (p : Ex × Pack) =>
                ctl (p.fst.eqb (Ex.exit 0))
                  (ctl
                    (okPack
                      {
                        slots :=
                          [(2, Sum.inr (Sum.inr (AV.t (TV.ptr 1 0)))),
                            (3, Sum.inr (Sum.inr (AV.t (TV.ptr 2 0))))],
                        blks :=
                          [Sum.inl [Sum.inl (Sh.sl 1), Sum.inl (Sh.int IntKind.i64)],
                            Sum.inl
                              [Sum.inl (Sh.int IntKind.i64), Sum.inl (Sh.int IntKind.i64),
                                Sum.inl (Sh.int IntKind.i64), Sum.inl (Sh.int IntKind.i64),
                                Sum.inl (Sh.int IntKind.i64), Sum.inl (Sh.int IntKind.i64),
                                Sum.inl (Sh.int IntKind.i64)],
                            Sum.inl
                              [Sum.inl (Sh.int IntKind.i64), Sum.inl (Sh.int IntKind.i64),
                                Sum.inl (Sh.int IntKind.i64), Sum.inl (Sh.int IntKind.i64),
                                Sum.inl (Sh.int IntKind.i64), Sum.inl (Sh.int IntKind.i64),
                                Sum.inl (Sh.int IntKind.i64)]] }
                      p.snd)
                    (Option.some
                      ([RV.agg
                            [PV.int IntKind.i64
                                (nth AV.undef (nth (Blk.box []) p.snd.blks 2).toCs
                                      0).toPV.toInt,
                              PV.int IntKind.i64
                                (nth AV.undef (nth (Blk.box []) p.snd.blks 2).toCs
                                      1).toPV.toInt,
                              PV.int IntKind.i64
                                (nth AV.undef (nth (Blk.box []) p.snd.blks 2).toCs
                                      2).toPV.toInt,
                              PV.int IntKind.i64
                                (nth AV.undef (nth (Blk.box []) p.snd.blks 2).toCs
                                      3).toPV.toInt,
                              PV.int IntKind.i64
                                (nth AV.undef (nth (Blk.box []) p.snd.blks 2).toCs
                                      4).toPV.toInt,
                              PV.int IntKind.i64
                                (nth AV.undef (nth (Blk.box []) p.snd.blks 2).toCs
                                      5).toPV.toInt,
                              PV.int IntKind.i64
                                (nth AV.undef (nth (Blk.box []) p.snd.blks 2).toCs
                                      6).toPV.toInt]],
                        [Blk.box
                            [AV.sl 1
                                (nth AV.undef (nth (Blk.box []) p.snd.blks 0).toCs
                                      0).toPV.toEs,
                              AV.int IntKind.i64
                                (nth AV.undef (nth (Blk.box []) p.snd.blks 0).toCs
                                      1).toPV.toInt]]))
                    Option.none)
                  Option.none)
              Option.none)
          Option.none)
      Option.none := by kernel_rfl

/-- dynpos/report.Percent, the loop of block 0 -/
theorem r16_0 (F : Fun) (level1 : Int) (sum5 : Int) (x21_0 : Int) (x21_1 : Int) (x21_2 : Int) (x21_3 : Int) (x22 : Int) (b0_0 : Int) (b0_1 : Int) (b0_2 : Int) (b0_3 : Int) (b0_4 : Int) (b0_5 : Int) (b0_6 : Int) : lp E F 16 0 [] 0
  {
    vals :=
      [AV.int IntKind.i64 level1, AV.int IntKind.i64 sum5,
        AV.agg
          [PV.int IntKind.i64 x21_0, PV.int IntKind.i64 x21_1, PV.int IntKind.i64 x21_2,
            PV.int IntKind.i64 x21_3],
        AV.int IntKind.i64 x22],
    blks :=
      [Blk.box
          [AV.int IntKind.i64 b0_0, AV.int IntKind.i64 b0_1, AV.int IntKind.i64 b0_2,
            AV.int IntKind.i64 b0_3, AV.int IntKind.i64 b0_4, AV.int IntKind.i64 b0_5,
            AV.int IntKind.i64 b0_6]] } =
  ctl (ltB x22 4)
    (getE
      [[PV.int IntKind.i64 x21_0], [PV.int IntKind.i64 x21_1], [PV.int IntKind.i64 x21_2],
        [PV.int IntKind.i64 x21_3]]
      x22 fun (c : List PV) =>
      ctl (okCs [Sh.int IntKind.i64] c)
        (bnd (F 30 [AV.int IntKind.i64 (nth PV.nilp c 0).toInt] [])
          fun (r : Res) =>
          ctl
            (okR [RSh.one Sh.bool] r.fst && okB [] r.snd)
            (ctl (!(nth (RV.p PV.nilp) r.fst 0).toPV.toBool)
              (Option.some (Ex.ret, { vals := [AV.int IntKind.i64 0], blks := [] }))
              (lp E F 16 0 [] 0
                {
                  vals :=
                    [AV.int IntKind.i64 level1,
                      AV.int IntKind.i64 (IntKind.i64.wrap (sum5 + (nth PV.nilp c 0).toInt)),
                      AV.agg
                        [PV.int IntKind.i64 x21_0, PV.int IntKind.i64 x21_1, PV.int IntKind.i64 x21_2,
                          PV.int IntKind.i64 x21_3],
                      AV.int IntKind.i64 (IntKind.i64.wrap (x22 + 1))],
                  blks :=
                    [Blk.box
                        [AV.int IntKind.i64 b0_0, AV.int IntKind.i64 b0_1, AV.int IntKind.i64 b0_2,
                          AV.int IntKind.i64 b0_3, AV.int IntKind.i64 b0_4, AV.int IntKind.i64 b0_5,
                          AV.int IntKind.i64 b0_6]] }))
            Option.none)
        Option.none)
    (Option.some
      (Ex.exit 0,
        { vals := [AV.int IntKind.i64 level1, AV.int IntKind.i64 sum5],
          blks :=
            [Blk.box
                [AV.int IntKind.i64 b0_0, AV.int IntKind.i64 b0_1, AV.int IntKind.i64 b0_2,
                  AV.int IntKind.i64 b0_3, AV.int IntKind.i64 b0_4, AV.int IntKind.i64 b0_5,
                  AV.int IntKind.i64 b0_6]] })) := (lp_unfold ..).trans (by kernel_rfl)

/-- dynpos/report.Percent -/
theorem r16 (F : Fun) (r0 : Int) (r1 : Int) (r2 : Int) (r3 : Int) (r4 : Int) (r5 : Int) (r6 : Int) (level : Int) : funK E F 16 [AV.agg
    [PV.int IntKind.i64 r0, PV.int IntKind.i64 r1, PV.int IntKind.i64 r2,
      PV.int IntKind.i64 r3, PV.int IntKind.i64 r4, PV.int IntKind.i64 r5,
      PV.int IntKind.i64 r6],
  AV.int IntKind.i64 level] [] =
  bnd (ctl (!ltB level 0) (Option.some (leB 4 level)) (Option.some Bool.true))
    fun (v : Bool) =>
    ctl (!v)
      (ctl (r0 == 0 && (r1 == 0 && (r2 == 0 && (r3 == 0 && Bool.true))))
        (Option.some ([RV.p (PV.int IntKind.i64 0)], []))
        (bnd
          (lp E F 16 0 [] 0
            {
              vals :=
                [AV.int IntKind.i64 level, AV.int IntKind.i64 0,
                  AV.agg
                    [PV.int IntKind.i64 r0, PV.int IntKind.i64 r1, PV.int IntKind.i64 r2,
                      PV.int IntKind.i64 r3],
                  AV.int IntKind.i64 0],
              blks :=
                [Blk.box
                    [AV.int IntKind.i64 r0, AV.int IntKind.i64 r1, AV.int IntKind.i64 r2,
                      AV.int IntKind.i64 r3, AV.int IntKind.i64 r4, AV.int IntKind.i64 r5,
                      AV.int IntKind.i64 r6]] })
          fun (p : Ex × Pack) =>
          ctl (p.fst.eqb (Ex.exit 0))
            (ctl
              (okPack
                {
                  slots :=
                    [(1, Sum.inl (Sh.int IntKind.i64)), (2, Sum.inr (Sum.inr (AV.t (TV.ptr 0 0)))),
                      (5, Sum.inl (Sh.int IntKind.i64))],
                  blks :=
                    [Sum.inl
                        [Sum.inl (Sh.int IntKind.i64), Sum.inl (Sh.int IntKind.i64),
                          Sum.inl (Sh.int IntKind.i64), Sum.inl (Sh.int IntKind.i64),
                          Sum.inl (Sh.int IntKind.i64), Sum.inl (Sh.int IntKind.i64),
                          Sum.inl (Sh.int IntKind.i64)]] }
                p.snd)
              (ctl ((nth AV.undef p.snd.vals 0).toPV.toInt == 0)
                (bnd
                  (F 31
                    [AV.int IntKind.i64
                        (IntKind.i64.wrap
                          (100 *
                            (nth AV.undef (nth (Blk.box []) p.snd.blks 0).toCs
                                  0).toPV.toInt)),
                      AV.int IntKind.i64 (nth AV.undef p.snd.vals 1).toPV.toInt]
                    [])
                  fun (r : Res) =>
                  ctl
                    (okR [RSh.one (Sh.int IntKind.i64)] r.fst && okB [] r.snd)
                    (Option.some
                      ([RV.p
                            (PV.int IntKind.i64
                              (nth (RV.p PV.nilp) r.fst 0).toPV.toInt)],
                        []))
                    Option.none)
                (ctl ((nth AV.undef p.snd.vals 0).toPV.toInt == 1)
                  (bnd
                    (F 31
                      [AV.int IntKind.i64
                          (IntKind.i64.wrap
                            (100 *
                              (nth AV.undef (nth (Blk.box []) p.snd.blks 0).toCs
                                    1).toPV.toInt)),
                        AV.int IntKind.i64 (nth AV.undef p.snd.vals 1).toPV.toInt]
                      [])
                    fun (r : Res) =>
                    ctl
                      (okR [RSh.one (Sh.int IntKind.i64)] r.fst &&
                        okB [] r.snd)
                      (Option.some
                        ([RV.p
                              (PV.int IntKind.i64
                                (nth (RV.p PV.nilp) r.fst 0).toPV.toInt)],
                          []))
                      Option.none)
                  (ctl ((nth AV.undef p.snd.vals 0).toPV.toInt == 2)
                    (bnd
                      (F 31
                        [AV.int IntKind.i64
                            (IntKind.i64.wrap
                              (100 *
                                (nth AV.undef (nth (Blk.box []) p.snd.blks 0).toCs
                                      2).toPV.toInt)),
                          AV.int IntKind.i64 (nth AV.undef p.snd.vals 1).toPV.toInt]
                        [])
                      fun (r : Res) =>
                      ctl
                        (okR [RSh.one (Sh.int IntKind.i64)] r.fst &&
                          okB [] r.snd)
                        (Option.some
                          ([RV.p
                                (PV.int IntKind.i64
                                  (nth (RV.p PV.nilp) r.fst 0).toPV.toInt)],
                            []))
                        Option.none)
                    (ctl ((nth AV.undef p.snd.vals 0).toPV.toInt == 3)
                      (bnd
                        (F 31
                          [AV.int IntKind.i64
                              (IntKind.i64.wrap
                                (100 *
                                  (nth AV.undef
                                        (nth (Blk.box []) p.snd.blks 0).toCs 3).toPV.toInt)),
                            AV.int IntKind.i64 (nth AV.undef p.snd.vals 1).toPV.toInt]
                          [])
                        fun (r : Res) =>
                        ctl
                          (okR [RSh.one (Sh.int IntKind.i64)] r.fst &&
                            okB [] r.snd)
                          (Option.some
                            ([RV.p
                                  (PV.int IntKind.i64
                                    (nth (RV.p PV.nilp) r.fst 0).toPV.toInt)],
                              []))
                          Option.none)
                      Option.none))))
              Option.none)
            (ctl (p.fst.eqb Ex.ret)
              (ctl (okPack { slots := [(4, Sum.inl (Sh.int IntKind.i64))], blks := [] } p.snd)
                (Option.some
                  ([RV.p
                        (PV.int IntKind.i64 (nth AV.undef p.snd.vals 0).toPV.toInt)],
                    []))
                Option.none)
              Option.none)))
      (Option.some ([RV.p (PV.int IntKind.i64 0)], [])) := by kernel_rfl

/-- (*dynpos/dynposmake.Src).Book, the loop of block 0 -/
theorem r17_0 (F : Fun) (time6 : Int) (k7 : Int) (b0_0 : List (List PV)) (b0_1 : Int) (b1_0 : List (List PV)) (b1_1 : Int) (b2_0 : List (List PV)) (b2_1 : Int) : lp E F 17 1 [] 0
  { vals := [AV.int IntKind.i64 time6, AV.int IntKind.i64 k7],
    blks :=
      [Blk.box [AV.sl 1 b0_0, AV.int IntKind.i64 b0_1],
        Blk.box [AV.sl 3 b1_0, AV.int IntKind.u64 b1_1],
        Blk.box [AV.sl 3 b2_0, AV.int IntKind.u64 b2_1]] } =
  ctl (ltB 0 k7)
    (bnd
      (F 11 [AV.t (TV.ptr 0 0), AV.int IntKind.i64 4]
        [Blk.box [AV.sl 1 b0_0, AV.int IntKind.i64 b0_1]])
      fun (r : Res) =>
      ctl
        (okR [RSh.one (Sh.int IntKind.i64)] r.fst &&
          okB [Sum.inl [Sh.sl 1, Sh.int IntKind.i64]] r.snd)
        (bnd
          (F 32
            [AV.t (TV.ptr 0 0),
              AV.int IntKind.i64
                (IntKind.i64.wrap (time6 + (nth (RV.p PV.nilp) r.fst 0).toPV.toInt))]
            [Blk.box
                [AV.sl 1
                    (nth PV.nilp
                        (List.map AV.toPV (nth (Blk.box []) r.snd 0).toCs) 0).toEs,
                  AV.int IntKind.i64
                    (nth PV.nilp
                        (List.map AV.toPV (nth (Blk.box []) r.snd 0).toCs) 1).toInt]])
          fun (r_1 : Res) =>
          ctl
            (okR
                [RSh.agg [Sh.int IntKind.i64, Sh.int IntKind.i64, Sh.sl 1]]
                r_1.fst &&
              okB [Sum.inl [Sh.sl 1, Sh.int IntKind.i64]] r_1.snd)
            (bnd
              (F 12
                [AV.agg [PV.sl 3 b2_0, PV.int IntKind.u64 b2_1],
                  AV.agg
                    [PV.int IntKind.i64
                        (nth PV.nilp
                            (nth (RV.p PV.nilp) r_1.fst 0).toCs 0).toInt,
                      PV.int IntKind.i64
                        (nth PV.nilp
                            (nth (RV.p PV.nilp) r_1.fst 0).toCs 1).toInt,
                      PV.sl 1
                        (nth PV.nilp
                            (nth (RV.p PV.nilp) r_1.fst 0).toCs 2).toEs]]
                [])
              fun (r_2 : Res) =>
              ctl
                (okR
                    [RSh.agg [Sh.sl 3, Sh.int IntKind.u64],
                      RSh.one (Sh.int IntKind.i64)]
                    r_2.fst &&
                  okB [] r_2.snd)
                (lp E F 17 1 [] 0
                  {
                    vals :=
                      [AV.int IntKind.i64
                          (IntKind.i64.wrap (time6 + (nth (RV.p PV.nilp) r.fst 0).toPV.toInt)),
                        AV.int IntKind.i64 (IntKind.i64.wrap (k7 - 1))],
                    blks :=
                      [Blk.box
                          [AV.sl 1
                              (nth PV.nilp
                                  (List.map AV.toPV (nth (Blk.box []) r_1.snd 0).toCs) 0).toEs,
                            AV.int IntKind.i64
                              (nth PV.nilp
                                  (List.map AV.toPV (nth (Blk.box []) r_1.snd 0).toCs) 1).toInt],
                        Blk.box [AV.sl 3 b1_0, AV.int IntKind.u64 b1_1],
                        Blk.box
                          [AV.sl 3
                              (nth PV.nilp
                                  (nth (RV.p PV.nilp) r_2.fst 0).toCs 0).toEs,
                            AV.int IntKind.u64
                              (nth PV.nilp
                                  (nth (RV.p PV.nilp) r_2.fst 0).toCs 1).toInt]] })
                Option.none)
            Option.none)
        Option.none)
    (Option.some
      (Ex.exit 0,
        { vals := [],
          blks :=
            [Blk.box [AV.sl 1 b0_0, AV.int IntKind.i64 b0_1],
              Blk.box [AV.sl 3 b1_0, AV.int IntKind.u64 b1_1],
              Blk.box [AV.sl 3 b2_0, AV.int IntKind.u64 b2_1]] })) := (lp_unfold ..).trans (by kernel_rfl)

/-- (*dynpos/dynposmake.Src).Book -/
theorem r17 (F : Fun) (s0 : List (List PV)) (s1 : Int) (most : Int) : funK E F 17 [AV.t (TV.ptr 0 0), AV.int IntKind.i64 most] [Blk.box [AV.sl 1 s0, AV.int IntKind.i64 s1]] =
  bnd (F 10 [] []) fun (r : Res) =>
    ctl
      (okR [RSh.agg [Sh.sl 3, Sh.int IntKind.u64]] r.fst &&
        okB [] r.snd)
      (bnd
        (F 11 [AV.t (TV.ptr 0 0), AV.int IntKind.i64 (IntKind.i64.wrap (most + 1))]
          [Blk.box [AV.sl 1 s0, AV.int IntKind.i64 s1]])
        fun (r_1 : Res) =>
        ctl
          (okR [RSh.one (Sh.int IntKind.i64)] r_1.fst &&
            okB [Sum.inl [Sh.sl 1, Sh.int IntKind.i64]] r_1.snd)
          (bnd
            (lp E F 17 1 [] 0
              {
                vals :=
                  [AV.int IntKind.i64 0,
                    AV.int IntKind.i64
                      (nth (RV.p PV.nilp) r_1.fst 0).toPV.toInt],
                blks :=
                  [Blk.box
                      [AV.sl 1
                          (nth PV.nilp
                              (List.map AV.toPV (nth (Blk.box []) r_1.snd 0).toCs) 0).toEs,
                        AV.int IntKind.i64
                          (nth PV.nilp
                              (List.map AV.toPV (nth (Blk.box []) r_1.snd 0).toCs) 1).toInt],
                    Blk.box [AV.sl 3 [], AV.int IntKind.u64 0],
                    Blk.box
                      [AV.sl 3
                          (nth PV.nilp
                              (nth (RV.p PV.nilp) r.fst 0).toCs 0).toEs,
                        AV.int IntKind.u64
                          (nth PV.nilp
                              (nth (RV.p PV.nilp) r.fst 0).toCs 1).toInt]] })
            fun (p : Ex × Pack) =>
            ctl (p.fst.eqb (Ex.exit 0))
              (ctl
                (okPack
                  {
                    slots :=
                      [(4, Sum.inr (Sum.inr (AV.t (TV.ptr 1 0)))),
                        (5, Sum.inr (Sum.inr (AV.t (TV.ptr 2 0))))],
                    blks :=
                      [Sum.inl [Sum.inl (Sh.sl 1), Sum.inl (Sh.int IntKind.i64)],
                        Sum.inl [Sum.inl (Sh.sl 3), Sum.inl (Sh.int IntKind.u64)],
                        Sum.inl [Sum.inl (Sh.sl 3), Sum.inl (Sh.int IntKind.u64)]] }
                  p.snd)
                (Option.some
                  ([RV.agg
                        [PV.sl 3
                            (nth AV.undef (nth (Blk.box []) p.snd.blks 2).toCs
                                  0).toPV.toEs,
                          PV.int IntKind.u64
                            (nth AV.undef (nth (Blk.box []) p.snd.blks 2).toCs
                                  1).toPV.toInt]],
                    [Blk.box
                        [AV.sl 1
                            (nth AV.undef (nth (Blk.box []) p.snd.blks 0).toCs
                                  0).toPV.toEs,
                          AV.int IntKind.i64
                            (nth AV.undef (nth (Blk.box []) p.snd.blks 0).toCs
                                  1).toPV.toInt]]))
                Option.none)
              Option.none)
          Option.none)
      Option.none := by kernel_rfl

/-- dynpos/report.Add, the loop of block 0 -/
theorem r18_0 (F : Fun) (x20 : Int) (b0_0 : Int) (b0_1 : Int) (b0_2 : Int) (b0_3 : Int) (b0_4 : Int) (b0_5 : Int) (b0_6 : Int) (b1_0 : Int) (b1_1 : Int) (b1_2 : Int) (b1_3 : Int) (b1_4 : Int) (b1_5 : Int) (b1_6 : Int) (b2_0 : Int) (b2_1 : Int) (b2_2 : Int) (b2_3 : Int) (b2_4 : Int) (b2_5 : Int) (b2_6 : Int) (b3_0 : Int) (b3_1 : Int) (b3_2 : Int) (b3_3 : Int) (b3_4 : Int) (b3_5 : Int) (b3_6 : Int) : lp E F 18 0 [] 0
  { vals := [AV.int IntKind.i64 x20],
    blks :=
      [Blk.box
          [AV.int IntKind.i64 b0_0, AV.int IntKind.i64 b0_1, AV.int IntKind.i64 b0_2,
            AV.int IntKind.i64 b0_3, AV.int IntKind.i64 b0_4, AV.int IntKind.i64 b0_5,
            AV.int IntKind.i64 b0_6],
        Blk.box
          [AV.int IntKind.i64 b1_0, AV.int IntKind.i64 b1_1, AV.int IntKind.i64 b1_2,
            AV.int IntKind.i64 b1_3, AV.int IntKind.i64 b1_4, AV.int IntKind.i64 b1_5,
            AV.int IntKind.i64 b1_6],
        Blk.box
          [AV.int IntKind.i64 b2_0, AV.int IntKind.i64 b2_1, AV.int IntKind.i64 b2_2,
            AV.int IntKind.i64 b2_3, AV.int IntKind.i64 b2_4, AV.int IntKind.i64 b2_5,
            AV.int IntKind.i64 b2_6],
        Blk.box
          [AV.int IntKind.i64 b3_0, AV.int IntKind.i64 b3_1, AV.int IntKind.i64 b3_2,
            AV.int IntKind.i64 b3_3, AV.int IntKind.i64 b3_4, AV.int IntKind.i64 b3_5,
            AV.int IntKind.i64 b3_6]] } =
  ctl (ltB x20 4)
    (ctl (x20 == 0)
      (ctl (x20 == 0)
        (ctl (x20 == 0)
          (lp E F 18 0 [] 0
            { vals := [AV.int IntKind.i64 (IntKind.i64.wrap (x20 + 1))],
              blks :=
                [Blk.box
                    [AV.int IntKind.i64 b0_0, AV.int IntKind.i64 b0_1, AV.int IntKind.i64 b0_2,
                      AV.int IntKind.i64 b0_3, AV.int IntKind.i64 b0_4, AV.int IntKind.i64 b0_5,
                      AV.int IntKind.i64 b0_6],
                  Blk.box
                    [AV.int IntKind.i64 b1_0, AV.int IntKind.i64 b1_1, AV.int IntKind.i64 b1_2,
                      AV.int IntKind.i64 b1_3, AV.int IntKind.i64 b1_4, AV.int IntKind.i64 b1_5,
                      AV.int IntKind.i64 b1_6],
                  Blk.box
                    [AV.int IntKind.i64 b2_0, AV.int IntKind.i64 b2_1, AV.int IntKind.i64 b2_2,
                      AV.int IntKind.i64 b2_3, AV.int IntKind.i64 b2_4, AV.int IntKind.i64 b2_5,
                      AV.int IntKind.i64 b2_6],
                  Blk.box
                    [AV.int IntKind.i64 (IntKind.i64.wrap (b0_0 + b1_0)), AV.int IntKind.i64 b3_1,
                      AV.int IntKind.i64 b3_2, AV.int IntKind.i64 b3_3, AV.int IntKind.i64 b3_4,
                      AV.int IntKind.i64 b3_5, AV.int IntKind.i64 b3_6]] })
          (ctl (x20 == 1)
            (lp E F 18 0 [] 0
              { vals := [AV.int IntKind.i64 (IntKind.i64.wrap (x20 + 1))],
                blks :=
                  [Blk.box
                      [AV.int IntKind.i64 b0_0, AV.int IntKind.i64 b0_1, AV.int IntKind.i64 b0_2,
                        AV.int IntKind.i64 b0_3, AV.int IntKind.i64 b0_4, AV.int IntKind.i64 b0_5,
                        AV.int IntKind.i64 b0_6],
                    Blk.box
                      [AV.int IntKind.i64 b1_0, AV.int IntKind.i64 b1_1, AV.int IntKind.i64 b1_2,
                        AV.int IntKind.i64 b1_3, AV.int IntKind.i64 b1_4, AV.int IntKind.i64 b1_5,
                        AV.int IntKind.i64 b1_6],
                    Blk.box
                      [AV.int IntKind.i64 b2_0, AV.int IntKind.i64 b2_1, AV.int IntKind.i64 b2_2,
                        AV.int IntKind.i64 b2_3, AV.int IntKind.i64 b2_4, AV.int IntKind.i64 b2_5,
                        AV.int IntKind.i64 b2_6],
                    Blk.box
                      [AV.int IntKind.i64 b3_0, AV.int IntKind.i64 (IntKind.i64.wrap (b0_0 + b1_0)),
                        AV.int IntKind.i64 b3_2, AV.int IntKind.i64 b3_3, AV.int IntKind.i64 b3_4,
                        AV.int IntKind.i64 b3_5, AV.int IntKind.i64 b3_6]] })
            (ctl (x20 == 2)
              (lp E F 18 0 [] 0
                { vals := [AV.int IntKind.i64 (IntKind.i64.wrap (x20 + 1))],
                  blks :=
                    [Blk.box
                        [AV.int IntKind.i64 b0_0, AV.int IntKind.i64 b0_1, AV.int IntKind.i64 b0_2,
                          AV.int IntKind.i64 b0_3, AV.int IntKind.i64 b0_4, AV.int IntKind.i64 b0_5,
                          AV.int IntKind.i64 b0_6],
                      Blk.box
                        [AV.int IntKind.i64 b1_0, AV.int IntKind.i64 b1_1, AV.int IntKind.i64 b1_2,
                          AV.int IntKind.i64 b1_3, AV.int IntKind.i64 b1_4, AV.int IntKind.i64 b1_5,
                          AV.int IntKind.i64 b1_6],
                      Blk.box
                        [AV.int IntKind.i64 b2_0, AV.int IntKind.i64 b2_1, AV.int IntKind.i64 b2_2,
                          AV.int IntKind.i64 b2_3, AV.int IntKind.i64 b2_4, AV.int IntKind.i64 b2_5,
                          AV.int IntKind.i64 b2_6],
                      Blk.box
                        [AV.int IntKind.i64 b3_0, AV.int IntKind.i64 b3_1,
                          AV.int IntKind.i64 (IntKind.i64.wrap (b0_0 + b1_0)), AV.int IntKind.i64 b3_3,
                          AV.int IntKind.i64 b3_4, AV.int IntKind.i64 b3_5, AV.int IntKind.i64 b3_6]] })
              (ctl (x20 == 3)
                (lp E F 18 0 [] 0
                  { vals := [AV.int IntKind.i64 (IntKind.i64.wrap (x20 + 1))],
                    blks :=
                      [Blk.box
                          [AV.int IntKind.i64 b0_0, AV.int IntKind.i64 b0_1, AV.int IntKind.i64 b0_2,
                            AV.int IntKind.i64 b0_3, AV.int IntKind.i64 b0_4, AV.int IntKind.i64 b0_5,
                            AV.int IntKind.i64 b0_6],
                        Blk.box
                          [AV.int IntKind.i64 b1_0, AV.int IntKind.i64 b1_1, AV.int IntKind.i64 b1_2,
                            AV.int IntKind.i64 b1_3, AV.int IntKind.i64 b1_4, AV.int IntKind.i64 b1_5,
                            AV.int IntKind.i64 b1_6],
                        Blk.box
                          [AV.int IntKind.i64 b2_0, AV.int IntKind.i64 b2_1, AV.int IntKind.i64 b2_2,
                            AV.int IntKind.i64 b2_3, AV.int IntKind.i64 b2_4, AV.int IntKind.i64 b2_5,
                            AV.int IntKind.i64 b2_6],
                        Blk.box
                          [AV.int IntKind.i64 b3_0, AV.int IntKind.i64 b3_1, AV.int IntKind.i64 b3_2,
                            AV.int IntKind.i64 (IntKind.i64.wrap (b0_0 + b1_0)), AV.int IntKind.i64 b3_4,
                            AV.int IntKind.i64 b3_5, AV.int IntKind.i64 b3_6]] })
                Option.none))))
        (ctl (x20 == 1)
          (ctl (x20 == 0)
            (lp E F 18 0 [] 0
              { vals := [AV.int IntKind.i64 (IntKind.i64.wrap (x20 + 1))],
                blks :=
                  [Blk.box
                      [AV.int IntKind.i64 b0_0, AV.int IntKind.i64 b0_1, AV.int IntKind.i64 b0_2,
                        AV.int IntKind.i64 b0_3, AV.int IntKind.i64 b0_4, AV.int IntKind.i64 b0_5,
                        AV.int IntKind.i64 b0_6],
                    Blk.box
                      [AV.int IntKind.i64 b1_0, AV.int IntKind.i64 b1_1, AV.int IntKind.i64 b1_2,
                        AV.int IntKind.i64 b1_3, AV.int IntKind.i64 b1_4, AV.int IntKind.i64 b1_5,
                        AV.int IntKind.i64 b1_6],
                    Blk.box
                      [AV.int IntKind.i64 b2_0, AV.int IntKind.i64 b2_1, AV.int IntKind.i64 b2_2,
                        AV.int IntKind.i64 b2_3, AV.int IntKind.i64 b2_4, AV.int IntKind.i64 b2_5,
                        AV.int IntKind.i64 b2_6],
                    Blk.box
                      [AV.int IntKind.i64 (IntKind.i64.wrap (b0_0 + b1_1)), AV.int IntKind.i64 b3_1,
                        AV.int IntKind.i64 b3_2, AV.int IntKind.i64 b3_3, AV.int IntKind.i64 b3_4,
                        AV.int IntKind.i64 b3_5, AV.int IntKind.i64 b3_6]] })
            (ctl (x20 == 1)
              (lp E F 18 0 [] 0
                { vals := [AV.int IntKind.i64 (IntKind.i64.wrap (x20 + 1))],
                  blks :=
                    [Blk.box
                        [AV.int IntKind.i64 b0_0, AV.int IntKind.i64 b0_1, AV.int IntKind.i64 b0_2,
                          AV.int IntKind.i64 b0_3, AV.int IntKind.i64 b0_4, AV.int IntKind.i64 b0_5,
                          AV.int IntKind.i64 b0_6],
                      Blk.box
                        [AV.int IntKind.i64 b1_0, AV.int IntKind.i64 b1_1, AV.int IntKind.i64 b1_2,
                          AV.int IntKind.i64 b1_3, AV.int IntKind.i64 b1_4, AV.int IntKind.i64 b1_5,
                          AV.int IntKind.i64 b1_6],
                      Blk.box
                        [AV.int IntKind.i64 b2_0, AV.int IntKind.i64 b2_1, AV.int IntKind.i64 b2_2,
                          AV.int IntKind.i64 b2_3, AV.int IntKind.i64 b2_4, AV.int IntKind.i64 b2_5,
                          AV.int IntKind.i64 b2_6],
                      Blk.box
                        [AV.int IntKind.i64 b3_0, AV.int IntKind.i64 (IntKind.i64.wrap (b0_0 + b1_1)),
                          AV.int IntKind.i64 b3_2, AV.int IntKind.i64 b3_3, AV.int IntKind.i64 b3_4,
                          AV.int IntKind.i64 b3_5, AV.int IntKind.i64 b3_6]] })
              (ctl (x20 == 2)
                (lp E F 18 0 [] 0
                  { vals := [AV.int IntKind.i64 (IntKind.i64.wrap (x20 + 1))],
                    blks :=
                      [Blk.box
                          [AV.int IntKind.i64 b0_0, AV.int IntKind.i64 b0_1, AV.int IntKind.i64 b0_2,
                            AV.int IntKind.i64 b0_3, AV.int IntKind.i64 b0_4, AV.int IntKind.i64 b0_5,
                            AV.int IntKind.i64 b0_6],
                        Blk.box
                          [AV.int IntKind.i64 b1_0, AV.int IntKind.i64 b1_1, AV.int IntKind.i64 b1_2,
                            AV.int IntKind.i64 b1_3, AV.int IntKind.i64 b1_4, AV.int IntKind.i64 b1_5,
                            AV.int IntKind.i64 b1_6],
                        Blk.box
                          [AV.int IntKind.i64 b2_0, AV.int IntKind.i64 b2_1, AV.int IntKind.i64 b2_2,
                            AV.int IntKind.i64 b2_3, AV.int IntKind.i64 b2_4, AV.int IntKind.i64 b2_5,
                            AV.int IntKind.i64 b2_6],
                        Blk.box
                          [AV.int IntKind.i64 b3_0, AV.int IntKind.i64 b3_1,
                            AV.int IntKind.i64 (IntKind.i64.wrap (b0_0 + b1_1)), AV.int IntKind.i64 b3_3,
                            AV.int IntKind.i64 b3_4, AV.int IntKind.i64 b3_5, AV.int IntKind.i64 b3_6]] })
                (ctl (x20 == 3)
                  (lp E F 18 0 [] 0
                    { vals := [AV.int IntKind.i64 (IntKind.i64.wrap (x20 + 1))],
                      blks :=
                        [Blk.box
                            [AV.int IntKind.i64 b0_0, AV.int IntKind.i64 b0_1, AV.int IntKind.i64 b0_2,
                              AV.int IntKind.i64 b0_3, AV.int IntKind.i64 b0_4, AV.int IntKind.i64 b0_5,
                              AV.int IntKind.i64 b0_6],
                          Blk.box
                            [AV.int IntKind.i64 b1_0, AV.int IntKind.i64 b1_1, AV.int IntKind.i64 b1_2,
                              AV.int IntKind.i64 b1_3, AV.int IntKind.i64 b1_4, AV.int IntKind.i64 b1_5,
                              AV.int IntKind.i64 b1_6],
                          Blk.box
                            [AV.int IntKind.i64 b2_0, AV.int IntKind.i64 b2_1, AV.int IntKind.i64 b2_2,
                              AV.int IntKind.i64 b2_3, AV.int IntKind.i64 b2_4, AV.int IntKind.i64 b2_5,
                              AV.int IntKind.i64 b2_6],
                          Blk.box
                            [AV.int IntKind.i64 b3_0, AV.int IntKind.i64 b3_1, AV.int IntKind.i64 b3_2,
                              AV.int IntKind.i64 (IntKind.i64.wrap (b0_0 + b1_1)), AV.int IntKind.i64 b3_4,
                              AV.int IntKind.i64 b3_5, AV.int IntKind.i64 b3_6]] })
                  Option.none))))
          (ctl (x20 == 2)
            (ctl (x20 == 0)
              (lp E F 18 0 [] 0
                { vals := [AV.int IntKind.i64 (IntKind.i64.wrap (x20 + 1))],
                  blks :=
                    [Blk.box
                        [AV.int IntKind.i64 b0_0, AV.int IntKind.i64 b0_1, AV.int IntKind.i64 b0_2,
                          AV.int IntKind.i64 b0_3, AV.int IntKind.i64 b0_4, AV.int IntKind.i64 b0_5,
                          AV.int IntKind.i64 b0_6],
                      Blk.box
                        [AV.int IntKind.i64 b1_0, AV.int IntKind.i64 b1_1, AV.int IntKind.i64 b1_2,
                          AV.int IntKind.i64 b1_3, AV.int IntKind.i64 b1_4, AV.int IntKind.i64 b1_5,
                          AV.int IntKind.i64 b1_6],
                      Blk.box
                        [AV.int IntKind.i64 b2_0, AV.int IntKind.i64 b2_1, AV.int IntKind.i64 b2_2,
                          AV.int IntKind.i64 b2_3, AV.int IntKind.i64 b2_4, AV.int IntKind.i64 b2_5,
                          AV.int IntKind.i64 b2_6],
                      Blk.box
                        [AV.int IntKind.i64 (IntKind.i64.wrap (b0_0 + b1_2)), AV.int IntKind.i64 b3_1,
                          AV.int IntKind.i64 b3_2, AV.int IntKind.i64 b3_3, AV.int IntKind.i64 b3_4,
                          AV.int IntKind.i64 b3_5, AV.int IntKind.i64 b3_6]] })
              (ctl (x20 == 1)
                (lp E F 18 0 [] 0
                  { vals := [AV.int IntKind.i64 (IntKind.i64.wrap (x20 + 1))],
                    blks :=
                      [Blk.box
                          [AV.int IntKind.i64 b0_0, AV.int IntKind.i64 b0_1, AV.int IntKind.i64 b0_2,
                            AV.int IntKind.i64 b0_3, AV.int IntKind.i64 b0_4, AV.int IntKind.i64 b0_5,
                            AV.int IntKind.i64 b0_6],
                        Blk.box
                          [AV.int IntKind.i64 b1_0, AV.int IntKind.i64 b1_1, AV.int IntKind.i64 b1_2,
                            AV.int IntKind.i64 b1_3, AV.int IntKind.i64 b1_4, AV.int IntKind.i64 b1_5,
                            AV.int IntKind.i64 b1_6],
                        Blk.box
                          [AV.int IntKind.i64 b2_0, AV.int IntKind.i64 b2_1, AV.int IntKind.i64 b2_2,
                            AV.int IntKind.i64 b2_3, AV.int IntKind.i64 b2_4, AV.int IntKind.i64 b2_5,
                            AV.int IntKind.i64 b2_6],
                        Blk.box
                          [AV.int IntKind.i64 b3_0, AV.int IntKind.i64 (IntKind.i64.wrap (b0_0 + b1_2)),
                            AV.int IntKind.i64 b3_2, AV.int IntKind.i64 b3_3, AV.int IntKind.i64 b3_4,
                            AV.int IntKind.i64 b3_5, AV.int IntKind.i64 b3_6]] })
                (ctl (x20 == 2)
                  (lp E F 18 0 [] 0
                    { vals := [AV.int IntKind.i64 (IntKind.i64.wrap (x20 + 1))],
                      blks :=
                        [Blk.box
                            [AV.int IntKind.i64 b0_0, AV.int IntKind.i64 b0_1, AV.int IntKind.i64 b0_2,
                              AV.int IntKind.i64 b0_3, AV.int IntKind.i64 b0_4, AV.int IntKind.i64 b0_5,
                              AV.int IntKind.i64 b0_6],
                          Blk.box
                            [AV.int IntKind.i64 b1_0, AV.int IntKind.i64 b1_1, AV.int IntKind.i64 b1_2,
                              AV.int IntKind.i64 b1_3, AV.int IntKind.i64 b1_4, AV.int IntKind.i64 b1_5,
                              AV.int IntKind.i64 b1_6],
                          Blk.box
                            [AV.int IntKind.i64 b2_0, AV.int IntKind.i64 b2_1, AV.int IntKind.i64 b2_2,
                              AV.int IntKind.i64 b2_3, AV.int IntKind.i64 b2_4, AV.int IntKind.i64 b2_5,
                              AV.int IntKind.i64 b2_6],
                          Blk.box
                            [AV.int IntKind.i64 b3_0, AV.int IntKind.i64 b3_1,
                              AV.int IntKind.i64 (IntKind.i64.wrap (b0_0 + b1_2)), AV.int IntKind.i64 b3_3,
                              AV.int IntKind.i64 b3_4, AV.int IntKind.i64 b3_5, AV.int IntKind.i64 b3_6]] })
                  (ctl (x20 == 3)
                    (lp E F 18 0 [] 0
                      { vals := [AV.int IntKind.i64 (IntKind.i64.wrap (x20 + 1))],
                        blks :=
                          [Blk.box
                              [AV.int IntKind.i64 b0_0, AV.int IntKind.i64 b0_1, AV.int IntKind.i64 b0_2,
                                AV.int IntKind.i64 b0_3, AV.int IntKind.i64 b0_4, AV.int IntKind.i64 b0_5,
                                AV.int IntKind.i64 b0_6],
                            Blk.box
                              [AV.int IntKind.i64 b1_0, AV.int IntKind.i64 b1_1, AV.int IntKind.i64 b1_2,
                                AV.int IntKind.i64 b1_3, AV.int IntKind.i64 b1_4, AV.int IntKind.i64 b1_5,
                                AV.int IntKind.i64 b1_6],
                            Blk.box
                              [AV.int IntKind.i64 b2_0, AV.int IntKind.i64 b2_1, AV.int IntKind.i64 b2_2,
                                AV.int IntKind.i64 b2_3, AV.int IntKind.i64 b2_4, AV.int IntKind.i64 b2_5,
                                AV.int IntKind.i64 b2_6],
                            Blk.box
                              [AV.int IntKind.i64 b3_0, AV.int IntKind.i64 b3_1, AV.int IntKind.i64 b3_2,
                                AV.int IntKind.i64 (IntKind.i64.wrap (b0_0 + b1_2)), AV.int IntKind.i64 b3_4,
                                AV.int IntKind.i64 b3_5, AV.int IntKind.i64 b3_6]] })
                    Option.none))))
            (ctl (x20 == 3)
              (ctl (x20 == 0)
                (lp E F 18 0 [] 0
                  { vals := [AV.int IntKind.i64 (IntKind.i64.wrap (x20 + 1))],
                    blks :=
                      [Blk.box
                          [AV.int IntKind.i64 b0_0, AV.int IntKind.i64 b0_1, AV.int IntKind.i64 b0_2,
                            AV.int IntKind.i64 b0_3, AV.int IntKind.i64 b0_4, AV.int IntKind.i64 b0_5,
                            AV.int IntKind.i64 b0_6],
                        Blk.box
                          [AV.int IntKind.i64 b1_0, AV.int IntKind.i64 b1_1, AV.int IntKind.i64 b1_2,
                            AV.int IntKind.i64 b1_3, AV.int IntKind.i64 b1_4, AV.int IntKind.i64 b1_5,
                            AV.int IntKind.i64 b1_6],
                        Blk.box
                          [AV.int IntKind.i64 b2_0, AV.int IntKind.i64 b2_1, AV.int IntKind.i64 b2_2,
                            AV.int IntKind.i64 b2_3, AV.int IntKind.i64 b2_4, AV.int IntKind.i64 b2_5,
                            AV.int IntKind.i64 b2_6],
                        Blk.box
                          [AV.int IntKind.i64 (IntKind.i64.wrap (b0_0 + b1_3)), AV.int IntKind.i64 b3_1,
                            AV.int IntKind.i64 b3_2, AV.int IntKind.i64 b3_3, AV.int IntKind.i64 b3_4,
                            AV.int IntKind.i64 b3_5, AV.int IntKind.i64 b3_6]] })
                (ctl (x20 == 1)
                  (lp E F 18 0 [] 0
                    { vals := [AV.int IntKind.i64 (IntKind.i64.wrap (x20 + 1))],
                      blks :=
                        [Blk.box
                            [AV.int IntKind.i64 b0_0, AV.int IntKind.i64 b0_1, AV.int IntKind.i64 b0_2,
                              AV.int IntKind.i64 b0_3, AV.int IntKind.i64 b0_4, AV.int IntKind.i64 b0_5,
                              AV.int IntKind.i64 b0_6],
                          Blk.box
                            [AV.int IntKind.i64 b1_0, AV.int IntKind.i64 b1_1, AV.int IntKind.i64 b1_2,
                              AV.int IntKind.i64 b1_3, AV.int IntKind.i64 b1_4, AV.int IntKind.i64 b1_5,
                              AV.int IntKind.i64 b1_6],
                          Blk.box
                            [AV.int IntKind.i64 b2_0, AV.int IntKind.i64 b2_1, AV.int IntKind.i64 b2_2,
                              AV.int IntKind.i64 b2_3, AV.int IntKind.i64 b2_4, AV.int IntKind.i64 b2_5,
                              AV.int IntKind.i64 b2_6],
                          Blk.box
                            [AV.int IntKind.i64 b3_0, AV.int IntKind.i64 (IntKind.i64.wrap (b0_0 + b1_3)),
                              AV.int IntKind.i64 b3_2, AV.int IntKind.i64 b3_3, AV.int IntKind.i64 b3_4,
                              AV.int IntKind.i64 b3_5, AV.int IntKind.i64 b3_6]] })
                  (ctl (x20 == 2)
                    (lp E F 18 0 [] 0
                      { vals := [AV.int IntKind.i64 (IntKind.i64.wrap (x20 + 1))],
                        blks :=
                          [Blk.box
                              [AV.int IntKind.i64 b0_0, AV.int IntKind.i64 b0_1, AV.int IntKind.i64 b0_2,
                                AV.int IntKind.i64 b0_3, AV.int IntKind.i64 b0_4, AV.int IntKind.i64 b0_5,
                                AV.int IntKind.i64 b0_6],
                            Blk.box
                              [AV.int IntKind.i64 b1_0, AV.int IntKind.i64 b1_1, AV.int IntKind.i64 b1_2,
                                AV.int IntKind.i64 b1_3, AV.int IntKind.i64 b1_4, AV.int IntKind.i64 b1_5,
                                AV.int IntKind.i64 b1_6],
                            Blk.box
                              [AV.int IntKind.i64 b2_0, AV.int IntKind.i64 b2_1, AV.int IntKind.i64 b2_2,
                                AV.int IntKind.i64 b2_3, AV.int IntKind.i64 b2_4, AV.int IntKind.i64 b2_5,
                                AV.int IntKind.i64 b2_6],
                            Blk.box
                              [AV.int IntKind.i64 b3_0, AV.int IntKind.i64 b3_1,
                                AV.int IntKind.i64 (IntKind.i64.wrap (b0_0 + b1_3)), AV.int IntKind.i64 b3_3,
                                AV.int IntKind.i64 b3_4, AV.int IntKind.i64 b3_5,
                                AV.int IntKind.i64 b3_6]] })
                    (ctl (x20 == 3)
                      (lp E F 18 0 [] 0
                        { vals := [AV.int IntKind.i64 (IntKind.i64.wrap (x20 + 1))],
                          blks :=
                            [Blk.box
                                [AV.int IntKind.i64 b0_0, AV.int IntKind.i64 b0_1, AV.int IntKind.i64 b0_2,
                                  AV.int IntKind.i64 b0_3, AV.int IntKind.i64 b0_4, AV.int IntKind.i64 b0_5,
                                  AV.int IntKind.i64 b0_6],
                              Blk.box
                                [AV.int IntKind.i64 b1_0, AV.int IntKind.i64 b1_1, AV.int IntKind.i64 b1_2,
                                  AV.int IntKind.i64 b1_3, AV.int IntKind.i64 b1_4, AV.int IntKind.i64 b1_5,
                                  AV.int IntKind.i64 b1_6],
                              Blk.box
                                [AV.int IntKind.i64 b2_0, AV.int IntKind.i64 b2_1, AV.int IntKind.i64 b2_2,
                                  AV.int IntKind.i64 b2_3, AV.int IntKind.i64 b2_4, AV.int IntKind.i64 b2_5,
                                  AV.int IntKind.i64 b2_6],
                              Blk.box
                                [AV.int IntKind.i64 b3_0, AV.int IntKind.i64 b3_1, AV.int IntKind.i64 b3_2,
                                  AV.int IntKind.i64 (IntKind.i64.wrap (b0_0 + b1_3)), AV.int IntKind.i64 b3_4,
                                  AV.int IntKind.i64 b3_5, AV.int IntKind.i64 b3_6]] })
                      Option.none))))
              Option.none))))
      (ctl (x20 == 1)
        (ctl (x20 == 0)
          (ctl (x20 == 0)
            (lp E F 18 0 [] 0
              { vals := [AV.int IntKind.i64 (IntKind.i64.wrap (x20 + 1))],
                blks :=
                  [Blk.box
                      [AV.int IntKind.i64 b0_0, AV.int IntKind.i64 b0_1, AV.int IntKind.i64 b0_2,
                        AV.int IntKind.i64 b0_3, AV.int IntKind.i64 b0_4, AV.int IntKind.i64 b0_5,
                        AV.int IntKind.i64 b0_6],
                    Blk.box
                      [AV.int IntKind.i64 b1_0, AV.int IntKind.i64 b1_1, AV.int IntKind.i64 b1_2,
                        AV.int IntKind.i64 b1_3, AV.int IntKind.i64 b1_4, AV.int IntKind.i64 b1_5,
                        AV.int IntKind.i64 b1_6],
                    Blk.box
                      [AV.int IntKind.i64 b2_0, AV.int IntKind.i64 b2_1, AV.int IntKind.i64 b2_2,
                        AV.int IntKind.i64 b2_3, AV.int IntKind.i64 b2_4, AV.int IntKind.i64 b2_5,
                        AV.int IntKind.i64 b2_6],
                    Blk.box
                      [AV.int IntKind.i64 (IntKind.i64.wrap (b0_1 + b1_0)), AV.int IntKind.i64 b3_1,
                        AV.int IntKind.i64 b3_2, AV.int IntKind.i64 b3_3, AV.int IntKind.i64 b3_4,
                        AV.int IntKind.i64 b3_5, AV.int IntKind.i64 b3_6]] })
            (ctl (x20 == 1)
              (lp E F 18 0 [] 0
                { vals := [AV.int IntKind.i64 (IntKind.i64.wrap (x20 + 1))],
                  blks :=
                    [Blk.box
                        [AV.int IntKind.i64 b0_0, AV.int IntKind.i64 b0_1, AV.int IntKind.i64 b0_2,
                          AV.int IntKind.i64 b0_3, AV.int IntKind.i64 b0_4, AV.int IntKind.i64 b0_5,
                          AV.int IntKind.i64 b0_6],
                      Blk.box
                        [AV.int IntKind.i64 b1_0, AV.int IntKind.i64 b1_1, AV.int IntKind.i64 b1_2,
                          AV.int IntKind.i64 b1_3, AV.int IntKind.i64 b1_4, AV.int IntKind.i64 b1_5,
                          AV.int IntKind.i64 b1_6],
                      Blk.box
                        [AV.int IntKind.i64 b2_0, AV.int IntKind.i64 b2_1, AV.int IntKind.i64 b2_2,
                          AV.int IntKind.i64 b2_3, AV.int IntKind.i64 b2_4, AV.int IntKind.i64 b2_5,
                          AV.int IntKind.i64 b2_6],
                      Blk.box
                        [AV.int IntKind.i64 b3_0, AV.int IntKind.i64 (IntKind.i64.wrap (b0_1 + b1_0)),
                          AV.int IntKind.i64 b3_2, AV.int IntKind.i64 b3_3, AV.int IntKind.i64 b3_4,
                          AV.int IntKind.i64 b3_5, AV.int IntKind.i64 b3_6]] })
              (ctl (x20 == 2)
                (lp E F 18 0 [] 0
                  { vals := [AV.int IntKind.i64 (IntKind.i64.wrap (x20 + 1))],
                    blks :=
                      [Blk.box
                          [AV.int IntKind.i64 b0_0, AV.int IntKind.i64 b0_1, AV.int IntKind.i64 b0_2,
                            AV.int IntKind.i64 b0_3, AV.int IntKind.i64 b0_4, AV.int IntKind.i64 b0_5,
                            AV.int IntKind.i64 b0_6],
                        Blk.box
                          [AV.int IntKind.i64 b1_0, AV.int IntKind.i64 b1_1, AV.int IntKind.i64 b1_2,
                            AV.int IntKind.i64 b1_3, AV.int IntKind.i64 b1_4, AV.int IntKind.i64 b1_5,
                            AV.int IntKind.i64 b1_6],
                        Blk.box
                          [AV.int IntKind.i64 b2_0, AV.int IntKind.i64 b2_1, AV.int IntKind.i64 b2_2,
                            AV.int IntKind.i64 b2_3, AV.int IntKind.i64 b2_4, AV.int IntKind.i64 b2_5,
                            AV.int IntKind.i64 b2_6],
                        Blk.box
                          [AV.int IntKind.i64 b3_0, AV.int IntKind.i64 b3_1,
                            AV.int IntKind.i64 (IntKind.i64.wrap (b0_1 + b1_0)), AV.int IntKind.i64 b3_3,
                            AV.int IntKind.i64 b3_4, AV.int IntKind.i64 b3_5, AV.int IntKind.i64 b3_6]] })
                (ctl (x20 == 3)
                  (lp E F 18 0 [] 0
                    { vals := [AV.int IntKind.i64 (IntKind.i64.wrap (x20 + 1))],
                      blks :=
                        [Blk.box
                            [AV.int IntKind.i64 b0_0, AV.int IntKind.i64 b0_1, AV.int IntKind.i64 b0_2,
                              AV.int IntKind.i64 b0_3, AV.int IntKind.i64 b0_4, AV.int IntKind.i64 b0_5,
                              AV.int IntKind.i64 b0_6],
                          Blk.box
                            [AV.int IntKind.i64 b1_0, AV.int IntKind.i64 b1_1, AV.int IntKind.i64 b1_2,
                              AV.int IntKind.i64 b1_3, AV.int IntKind.i64 b1_4, AV.int IntKind.i64 b1_5,
                              AV.int IntKind.i64 b1_6],
                          Blk.box
                            [AV.int IntKind.i64 b2_0, AV.int IntKind.i64 b2_1, AV.int IntKind.i64 b2_2,
                              AV.int IntKind.i64 b2_3, AV.int IntKind.i64 b2_4, AV.int IntKind.i64 b2_5,
                              AV.int IntKind.i64 b2_6],
                          Blk.box
                            [AV.int IntKind.i64 b3_0, AV.int IntKind.i64 b3_1, AV.int IntKind.i64 b3_2,
                              AV.int IntKind.i64 (IntKind.i64.wrap (b0_1 + b1_0)), AV.int IntKind.i64 b3_4,
                              AV.int IntKind.i64 b3_5, AV.int IntKind.i64 b3_6]] })
                  Option.none))))
          (ctl (x20 == 1)
            (ctl (x20 == 0)
              (lp E F 18 0 [] 0
                { vals := [AV.int IntKind.i64 (IntKind.i64.wrap (x20 + 1))],
                  blks :=
                    [Blk.box
                        [AV.int IntKind.i64 b0_0, AV.int IntKind.i64 b0_1, AV.int IntKind.i64 b0_2,
                          AV.int IntKind.i64 b0_3, AV.int IntKind.i64 b0_4, AV.int IntKind.i64 b0_5,
                          AV.int IntKind.i64 b0_6],
                      Blk.box
                        [AV.int IntKind.i64 b1_0, AV.int IntKind.i64 b1_1, AV.int IntKind.i64 b1_2,
                          AV.int IntKind.i64 b1_3, AV.int IntKind.i64 b1_4, AV.int IntKind.i64 b1_5,
                          AV.int IntKind.i64 b1_6],
                      Blk.box
                        [AV.int IntKind.i64 b2_0, AV.int IntKind.i64 b2_1, AV.int IntKind.i64 b2_2,
                          AV.int IntKind.i64 b2_3, AV.int IntKind.i64 b2_4, AV.int IntKind.i64 b2_5,
                          AV.int IntKind.i64 b2_6],
                      Blk.box
                        [AV.int IntKind.i64 (IntKind.i64.wrap (b0_1 + b1_1)), AV.int IntKind.i64 b3_1,
                          AV.int IntKind.i64 b3_2, AV.int IntKind.i64 b3_3, AV.int IntKind.i64 b3_4,
                          AV.int IntKind.i64 b3_5, AV.int IntKind.i64 b3_6]] })
              (ctl (x20 == 1)
                (lp E F 18 0 [] 0
                  { vals := [AV.int IntKind.i64 (IntKind.i64.wrap (x20 + 1))],
                    blks :=
                      [Blk.box
                          [AV.int IntKind.i64 b0_0, AV.int IntKind.i64 b0_1, AV.int IntKind.i64 b0_2,
                            AV.int IntKind.i64 b0_3, AV.int IntKind.i64 b0_4, AV.int IntKind.i64 b0_5,
                            AV.int IntKind.i64 b0_6],
                        Blk.box
                          [AV.int IntKind.i64 b1_0, AV.int IntKind.i64 b1_1, AV.int IntKind.i64 b1_2,
                            AV.int IntKind.i64 b1_3, AV.int IntKind.i64 b1_4, AV.int IntKind.i64 b1_5,
                            AV.int IntKind.i64 b1_6],
                        Blk.box
                          [AV.int IntKind.i64 b2_0, AV.int IntKind.i64 b2_1, AV.int IntKind.i64 b2_2,
                            AV.int IntKind.i64 b2_3, AV.int IntKind.i64 b2_4, AV.int IntKind.i64 b2_5,
                            AV.int IntKind.i64 b2_6],
                        Blk.box
                          [AV.int IntKind.i64 b3_0, AV.int IntKind.i64 (IntKind.i64.wrap (b0_1 + b1_1)),
                            AV.int IntKind.i64 b3_2, AV.int IntKind.i64 b3_3, AV.int IntKind.i64 b3_4,
                            AV.int IntKind.i64 b3_5, AV.int IntKind.i64 b3_6]] })
                (ctl (x20 == 2)
                  (lp E F 18 0 [] 0
                    { vals := [AV.int IntKind.i64 (IntKind.i64.wrap (x20 + 1))],
                      blks :=
                        [Blk.box
                            [AV.int IntKind.i64 b0_0, AV.int IntKind.i64 b0_1, AV.int IntKind.i64 b0_2,
                              AV.int IntKind.i64 b0_3, AV.int IntKind.i64 b0_4, AV.int IntKind.i64 b0_5,
                              AV.int IntKind.i64 b0_6],
                          Blk.box
                            [AV.int IntKind.i64 b1_0, AV.int IntKind.i64 b1_1, AV.int IntKind.i64 b1_2,
                              AV.int IntKind.i64 b1_3, AV.int IntKind.i64 b1_4, AV.int IntKind.i64 b1_5,
                              AV.int IntKind.i64 b1_6],
                          Blk.box
                            [AV.int IntKind.i64 b2_0, AV.int IntKind.i64 b2_1, AV.int IntKind.i64 b2_2,
                              AV.int IntKind.i64 b2_3, AV.int IntKind.i64 b2_4, AV.int IntKind.i64 b2_5,
                              AV.int IntKind.i64 b2_6],
                          Blk.box
                            [AV.int IntKind.i64 b3_0, AV.int IntKind.i64 b3_1,
                              AV.int IntKind.i64 (IntKind.i64.wrap (b0_1 + b1_1)), AV.int IntKind.i64 b3_3,
                              AV.int IntKind.i64 b3_4, AV.int IntKind.i64 b3_5, AV.int IntKind.i64 b3_6]] })
                  (ctl (x20 == 3)
                    (lp E F 18 0 [] 0
                      { vals := [AV.int IntKind.i64 (IntKind.i64.wrap (x20 + 1))],
                        blks :=
                          [Blk.box
                              [AV.int IntKind.i64 b0_0, AV.int IntKind.i64 b0_1, AV.int IntKind.i64 b0_2,
                                AV.int IntKind.i64 b0_3, AV.int IntKind.i64 b0_4, AV.int IntKind.i64 b0_5,
                                AV.int IntKind.i64 b0_6],
                            Blk.box
                              [AV.int IntKind.i64 b1_0, AV.int IntKind.i64 b1_1, AV.int IntKind.i64 b1_2,
                                AV.int IntKind.i64 b1_3, AV.int IntKind.i64 b1_4, AV.int IntKind.i64 b1_5,
                                AV.int IntKind.i64 b1_6],
                            Blk.box
                              [AV.int IntKind.i64 b2_0, AV.int IntKind.i64 b2_1, AV.int IntKind.i64 b2_2,
                                AV.int IntKind.i64 b2_3, AV.int IntKind.i64 b2_4, AV.int IntKind.i64 b2_5,
                                AV.int IntKind.i64 b2_6],
                            Blk.box
                              [AV.int IntKind.i64 b3_0, AV.int IntKind.i64 b3_1, AV.int IntKind.i64 b3_2,
                                AV.int IntKind.i64 (IntKind.i64.wrap (b0_1 + b1_1)), AV.int IntKind.i64 b3_4,
                                AV.int IntKind.i64 b3_5, AV.int IntKind.i64 b3_6]] })
                    Option.none))))
            (ctl (x20 == 2)
              (ctl (x20 == 0)
                (lp E F 18 0 [] 0
                  { vals := [AV.int IntKind.i64 (IntKind.i64.wrap (x20 + 1))],
                    blks :=
                      [Blk.box
                          [AV.int IntKind.i64 b0_0, AV.int IntKind.i64 b0_1, AV.int IntKind.i64 b0_2,
                            AV.int IntKind.i64 b0_3, AV.int IntKind.i64 b0_4, AV.int IntKind.i64 b0_5,
                            AV.int IntKind.i64 b0_6],
                        Blk.box
                          [AV.int IntKind.i64 b1_0, AV.int IntKind.i64 b1_1, AV.int IntKind.i64 b1_2,
                            AV.int IntKind.i64 b1_3, AV.int IntKind.i64 b1_4, AV.int IntKind.i64 b1_5,
                            AV.int IntKind.i64 b1_6],
                        Blk.box
                          [AV.int IntKind.i64 b2_0, AV.int IntKind.i64 b2_1, AV.int IntKind.i64 b2_2,
                            AV.int IntKind.i64 b2_3, AV.int IntKind.i64 b2_4, AV.int IntKind.i64 b2_5,
                            AV.int IntKind.i64 b2_6],
                        Blk.box
                          [AV.int IntKind.i64 (IntKind.i64.wrap (b0_1 + b1_2)), AV.int IntKind.i64 b3_1,
                            AV.int IntKind.i64 b3_2, AV.int IntKind.i64 b3_3, AV.int IntKind.i64 b3_4,
                            AV.int IntKind.i64 b3_5, AV.int IntKind.i64 b3_6]] })
                (ctl (x20 == 1)
                  (lp E F 18 0 [] 0
                    { vals := [AV.int IntKind.i64 (IntKind.i64.wrap (x20 + 1))],
                      blks :=
                        [Blk.box
                            [AV.int IntKind.i64 b0_0, AV.int IntKind.i64 b0_1, AV.int IntKind.i64 b0_2,
                              AV.int IntKind.i64 b0_3, AV.int IntKind.i64 b0_4, AV.int IntKind.i64 b0_5,
                              AV.int IntKind.i64 b0_6],
                          Blk.box
                            [AV.int IntKind.i64 b1_0, AV.int IntKind.i64 b1_1, AV.int IntKind.i64 b1_2,
                              AV.int IntKind.i64 b1_3, AV.int IntKind.i64 b1_4, AV.int IntKind.i64 b1_5,
                              AV.int IntKind.i64 b1_6],
                          Blk.box
                            [AV.int IntKind.i64 b2_0, AV.int IntKind.i64 b2_1, AV.int IntKind.i64 b2_2,
                              AV.int IntKind.i64 b2_3, AV.int IntKind.i64 b2_4, AV.int IntKind.i64 b2_5,
                              AV.int IntKind.i64 b2_6],
                          Blk.box
                            [AV.int IntKind.i64 b3_0, AV.int IntKind.i64 (IntKind.i64.wrap (b0_1 + b1_2)),
                              AV.int IntKind.i64 b3_2, AV.int IntKind.i64 b3_3, AV.int IntKind.i64 b3_4,
                              AV.int IntKind.i64 b3_5, AV.int IntKind.i64 b3_6]] })
                  (ctl (x20 == 2)
                    (lp E F 18 0 [] 0
                      { vals := [AV.int IntKind.i64 (IntKind.i64.wrap (x20 + 1))],
                        blks :=
                          [Blk.box
                              [AV.int IntKind.i64 b0_0, AV.int IntKind.i64 b0_1, AV.int IntKind.i64 b0_2,
                                AV.int IntKind.i64 b0_3, AV.int IntKind.i64 b0_4, AV.int IntKind.i64 b0_5,
                                AV.int IntKind.i64 b0_6],
                            Blk.box
                              [AV.int IntKind.i64 b1_0, AV.int IntKind.i64 b1_1, AV.int IntKind.i64 b1_2,
                                AV.int IntKind.i64 b1_3, AV.int IntKind.i64 b1_4, AV.int IntKind.i64 b1_5,
                                AV.int IntKind.i64 b1_6],
                            Blk.box
                              [AV.int IntKind.i64 b2_0, AV.int IntKind.i64 b2_1, AV.int IntKind.i64 b2_2,
                                AV.int IntKind.i64 b2_3, AV.int IntKind.i64 b2_4, AV.int IntKind.i64 b2_5,
                                AV.int IntKind.i64 b2_6],
                            Blk.box
                              [AV.int IntKind.i64 b3_0, AV.int IntKind.i64 b3_1,
                                AV.int IntKind.i64 (IntKind.i64.wrap (b0_1 + b1_2)), AV.int IntKind.i64 b3_3,
                                AV.int IntKind.i64 b3_4, AV.int IntKind.i64 b3_5,
                                AV.int IntKind.i64 b3_6]] })
                    (ctl (x20 == 3)
                      (lp E F 18 0 [] 0
                        { vals := [AV.int IntKind.i64 (IntKind.i64.wrap (x20 + 1))],
                          blks :=
                            [Blk.box
                                [AV.int IntKind.i64 b0_0, AV.int IntKind.i64 b0_1, AV.int IntKind.i64 b0_2,
                                  AV.int IntKind.i64 b0_3, AV.int IntKind.i64 b0_4, AV.int IntKind.i64 b0_5,
                                  AV.int IntKind.i64 b0_6],
                              Blk.box
                                [AV.int IntKind.i64 b1_0, AV.int IntKind.i64 b1_1, AV.int IntKind.i64 b1_2,
                                  AV.int IntKind.i64 b1_3, AV.int IntKind.i64 b1_4, AV.int IntKind.i64 b1_5,
                                  AV.int IntKind.i64 b1_6],
                              Blk.box
                                [AV.int IntKind.i64 b2_0, AV.int IntKind.i64 b2_1, AV.int IntKind.i64 b2_2,
                                  AV.int IntKind.i64 b2_3, AV.int IntKind.i64 b2_4, AV.int IntKind.i64 b2_5,
                                  AV.int IntKind.i64 b2_6],
                              Blk.box
                                [AV.int IntKind.i64 b3_0, AV.int IntKind.i64 b3_1, AV.int IntKind.i64 b3_2,
                                  AV.int IntKind.i64 (IntKind.i64.wrap (b0_1 + b1_2)), AV.int IntKind.i64 b3_4,
                                  AV.int IntKind.i64 b3_5, AV.int IntKind.i64 b3_6]] })
                      Option.none))))
              (ctl (x20 == 3)
                (ctl (x20 == 0)
                  (lp E F 18 0 [] 0
                    { vals := [AV.int IntKind.i64 (IntKind.i64.wrap (x20 + 1))],
                      blks :=
                        [Blk.box
                            [AV.int IntKind.i64 b0_0, AV.int IntKind.i64 b0_1, AV.int IntKind.i64 b0_2,
                              AV.int IntKind.i64 b0_3, AV.int IntKind.i64 b0_4, AV.int IntKind.i64 b0_5,
                              AV.int IntKind.i64 b0_6],
                          Blk.box
                            [AV.int IntKind.i64 b1_0, AV.int IntKind.i64 b1_1, AV.int IntKind.i64 b1_2,
                              AV.int IntKind.i64 b1_3, AV.int IntKind.i64 b1_4, AV.int IntKind.i64 b1_5,
                              AV.int IntKind.i64 b1_6],
                          Blk.box
                            [AV.int IntKind.i64 b2_0, AV.int IntKind.i64 b2_1, AV.int IntKind.i64 b2_2,
                              AV.int IntKind.i64 b2_3, AV.int IntKind.i64 b2_4, AV.int IntKind.i64 b2_5,
                              AV.int IntKind.i64 b2_6],
                          Blk.box
                            [AV.int IntKind.i64 (IntKind.i64.wrap (b0_1 + b1_3)), AV.int IntKind.i64 b3_1,
                              AV.int IntKind.i64 b3_2, AV.int IntKind.i64 b3_3, AV.int IntKind.i64 b3_4,
                              AV.int IntKind.i64 b3_5, AV.int IntKind.i64 b3_6]] })
                  (ctl (x20 == 1)
                    (lp E F 18 0 [] 0
                      { vals := [AV.int IntKind.i64 (IntKind.i64.wrap (x20 + 1))],
                        blks :=
                          [Blk.box
                              [AV.int IntKind.i64 b0_0, AV.int IntKind.i64 b0_1, AV.int IntKind.i64 b0_2,
                                AV.int IntKind.i64 b0_3, AV.int IntKind.i64 b0_4, AV.int IntKind.i64 b0_5,
                                AV.int IntKind.i64 b0_6],
                            Blk.box
                              [AV.int IntKind.i64 b1_0, AV.int IntKind.i64 b1_1, AV.int IntKind.i64 b1_2,
                                AV.int IntKind.i64 b1_3, AV.int IntKind.i64 b1_4, AV.int IntKind.i64 b1_5,
                                AV.int IntKind.i64 b1_6],
                            Blk.box
                              [AV.int IntKind.i64 b2_0, AV.int IntKind.i64 b2_1, AV.int IntKind.i64 b2_2,
                                AV.int IntKind.i64 b2_3, AV.int IntKind.i64 b2_4, AV.int IntKind.i64 b2_5,
                                AV.int IntKind.i64 b2_6],
                            Blk.box
                              [AV.int IntKind.i64 b3_0, AV.int IntKind.i64 (IntKind.i64.wrap (b0_1 + b1_3)),
                                AV.int IntKind.i64 b3_2, AV.int IntKind.i64 b3_3, AV.int IntKind.i64 b3_4,
                                AV.int IntKind.i64 b3_5, AV.int IntKind.i64 b3_6]] })
                    (ctl (x20 == 2)
                      (lp E F 18 0 [] 0
                        { vals := [AV.int IntKind.i64 (IntKind.i64.wrap (x20 + 1))],
                          blks :=
                            [Blk.box
                                [AV.int IntKind.i64 b0_0, AV.int IntKind.i64 b0_1, AV.int IntKind.i64 b0_2,
                                  AV.int IntKind.i64 b0_3, AV.int IntKind.i64 b0_4, AV.int IntKind.i64 b0_5,
                                  AV.int IntKind.i64 b0_6],
                              Blk.box
                                [AV.int IntKind.i64 b1_0, AV.int IntKind.i64 b1_1, AV.int IntKind.i64 b1_2,
                                  AV.int IntKind.i64 b1_3, AV.int IntKind.i64 b1_4, AV.int IntKind.i64 b1_5,
                                  AV.int IntKind.i64 b1_6],
                              Blk.box
                                [AV.int IntKind.i64 b2_0, AV.int IntKind.i64 b2_1, AV.int IntKind.i64 b2_2,
                                  AV.int IntKind.i64 b2_3, AV.int IntKind.i64 b2_4, AV.int IntKind.i64 b2_5,
                                  AV.int IntKind.i64 b2_6],
                              Blk.box
                                [AV.int IntKind.i64 b3_0, AV.int IntKind.i64 b3_1,
                                  AV.int IntKind.i64 (IntKind.i64.wrap (b0_1 + b1_3)), AV.int IntKind.i64 b3_3,
                                  AV.int IntKind.i64 b3_4, AV.int IntKind.i64 b3_5,
                                  AV.int IntKind.i64 b3_6]] })
                      (ctl (x20 == 3)
                        (lp E F 18 0 [] 0
                          { vals := [AV.int IntKind.i64 (IntKind.i64.wrap (x20 + 1))],
                            blks :=
                              [Blk.box
                                  [AV.int IntKind.i64 b0_0, AV.int IntKind.i64 b0_1,
                                    AV.int IntKind.i64 b0_2, AV.int IntKind.i64 b0_3,
                                    AV.int IntKind.i64 b0_4, AV.int IntKind.i64 b0_5,
                                    AV.int IntKind.i64 b0_6],
                                Blk.box
                                  [AV.int IntKind.i64 b1_0, AV.int IntKind.i64 b1_1,
                                    AV.int IntKind.i64 b1_2, AV.int IntKind.i64 b1_3,
                                    AV.int IntKind.i64 b1_4, AV.int IntKind.i64 b1_5,
                                    AV.int IntKind.i64 b1_6],
                                Blk.box
                                  [AV.int IntKind.i64 b2_0, AV.int IntKind.i64 b2_1,
                                    AV.int IntKind.i64 b2_2, AV.int IntKind.i64 b2_3,
                                    AV.int IntKind.i64 b2_4, AV.int IntKind.i64 b2_5,
                                    AV.int IntKind.i64 b2_6],
                                Blk.box
                                  [AV.int IntKind.i64 b3_0, AV.int IntKind.i64 b3_1,
                                    AV.int IntKind.i64 b3_2, AV.int IntKind.i64 (IntKind.i64.wrap (b0_1 + b1_3)),
                                    AV.int IntKind.i64 b3_4, AV.int IntKind.i64 b3_5,
                                    AV.int IntKind.i64 b3_6]] })
                        Option.none))))
                Option.none))))
        (ctl (x20 == 2)
          (ctl (x20 == 0)
            (ctl (x20 == 0)
              (lp E F 18 0 [] 0
                { vals := [AV.int IntKind.i64 (IntKind.i64.wrap (x20 + 1))],
                  blks :=
                    [Blk.box
                        [AV.int IntKind.i64 b0_0, AV.int IntKind.i64 b0_1, AV.int IntKind.i64 b0_2,
                          AV.int IntKind.i64 b0_3, AV.int IntKind.i64 b0_4, AV.int IntKind.i64 b0_5,
                          AV.int IntKind.i64 b0_6],
                      Blk.box
                        [AV.int IntKind.i64 b1_0, AV.int IntKind.i64 b1_1, AV.int IntKind.i64 b1_2,
                          AV.int IntKind.i64 b1_3, AV.int IntKind.i64 b1_4, AV.int IntKind.i64 b1_5,
                          AV.int IntKind.i64 b1_6],
                      Blk.box
                        [AV.int IntKind.i64 b2_0, AV.int IntKind.i64 b2_1, AV.int IntKind.i64 b2_2,
                          AV.int IntKind.i64 b2_3, AV.int IntKind.i64 b2_4, AV.int IntKind.i64 b2_5,
                          AV.int IntKind.i64 b2_6],
                      Blk.box
                        [AV.int IntKind.i64 (IntKind.i64.wrap (b0_2 + b1_0)), AV.int IntKind.i64 b3_1,
                          AV.int IntKind.i64 b3_2, AV.int IntKind.i64 b3_3, AV.int IntKind.i64 b3_4,
                          AV.int IntKind.i64 b3_5, AV.int IntKind.i64 b3_6]] })
              (ctl (x20 == 1)
                (lp E F 18 0 [] 0
                  { vals := [AV.int IntKind.i64 (IntKind.i64.wrap (x20 + 1))],
                    blks :=
                      [Blk.box
                          [AV.int IntKind.i64 b0_0, AV.int IntKind.i64 b0_1, AV.int IntKind.i64 b0_2,
                            AV.int IntKind.i64 b0_3, AV.int IntKind.i64 b0_4, AV.int IntKind.i64 b0_5,
                            AV.int IntKind.i64 b0_6],
                        Blk.box
                          [AV.int IntKind.i64 b1_0, AV.int IntKind.i64 b1_1, AV.int IntKind.i64 b1_2,
                            AV.int IntKind.i64 b1_3, AV.int IntKind.i64 b1_4, AV.int IntKind.i64 b1_5,
                            AV.int IntKind.i64 b1_6],
                        Blk.box
                          [AV.int IntKind.i64 b2_0, AV.int IntKind.i64 b2_1, AV.int IntKind.i64 b2_2,
                            AV.int IntKind.i64 b2_3, AV.int IntKind.i64 b2_4, AV.int IntKind.i64 b2_5,
                            AV.int IntKind.i64 b2_6],
                        Blk.box
                          [AV.int IntKind.i64 b3_0, AV.int IntKind.i64 (IntKind.i64.wrap (b0_2 + b1_0)),
                            AV.int IntKind.i64 b3_2, AV.int IntKind.i64 b3_3, AV.int IntKind.i64 b3_4,
                            AV.int IntKind.i64 b3_5, AV.int IntKind.i64 b3_6]] })
                (ctl (x20 == 2)
                  (lp E F 18 0 [] 0
                    { vals := [AV.int IntKind.i64 (IntKind.i64.wrap (x20 + 1))],
                      blks :=
                        [Blk.box
                            [AV.int IntKind.i64 b0_0, AV.int IntKind.i64 b0_1, AV.int IntKind.i64 b0_2,
                              AV.int IntKind.i64 b0_3, AV.int IntKind.i64 b0_4, AV.int IntKind.i64 b0_5,
                              AV.int IntKind.i64 b0_6],
                          Blk.box
                            [AV.int IntKind.i64 b1_0, AV.int IntKind.i64 b1_1, AV.int IntKind.i64 b1_2,
                              AV.int IntKind.i64 b1_3, AV.int IntKind.i64 b1_4, AV.int IntKind.i64 b1_5,
                              AV.int IntKind.i64 b1_6],
                          Blk.box
                            [AV.int IntKind.i64 b2_0, AV.int IntKind.i64 b2_1, AV.int IntKind.i64 b2_2,
                              AV.int IntKind.i64 b2_3, AV.int IntKind.i64 b2_4, AV.int IntKind.i64 b2_5,
                              AV.int IntKind.i64 b2_6],
                          Blk.box
                            [AV.int IntKind.i64 b3_0, AV.int IntKind.i64 b3_1,
                              AV.int IntKind.i64 (IntKind.i64.wrap (b0_2 + b1_0)), AV.int IntKind.i64 b3_3,
                              AV.int IntKind.i64 b3_4, AV.int IntKind.i64 b3_5, AV.int IntKind.i64 b3_6]] })
                  (ctl (x20 == 3)
                    (lp E F 18 0 [] 0
                      { vals := [AV.int IntKind.i64 (IntKind.i64.wrap (x20 + 1))],
                        blks :=
                          [Blk.box
                              [AV.int IntKind.i64 b0_0, AV.int IntKind.i64 b0_1, AV.int IntKind.i64 b0_2,
                                AV.int IntKind.i64 b0_3, AV.int IntKind.i64 b0_4, AV.int IntKind.i64 b0_5,
                                AV.int IntKind.i64 b0_6],
                            Blk.box
                              [AV.int IntKind.i64 b1_0, AV.int IntKind.i64 b1_1, AV.int IntKind.i64 b1_2,
                                AV.int IntKind.i64 b1_3, AV.int IntKind.i64 b1_4, AV.int IntKind.i64 b1_5,
                                AV.int IntKind.i64 b1_6],
                            Blk.box
                              [AV.int IntKind.i64 b2_0, AV.int IntKind.i64 b2_1, AV.int IntKind.i64 b2_2,
                                AV.int IntKind.i64 b2_3, AV.int IntKind.i64 b2_4, AV.int IntKind.i64 b2_5,
                                AV.int IntKind.i64 b2_6],
                            Blk.box
                              [AV.int IntKind.i64 b3_0, AV.int IntKind.i64 b3_1, AV.int IntKind.i64 b3_2,
                                AV.int IntKind.i64 (IntKind.i64.wrap (b0_2 + b1_0)), AV.int IntKind.i64 b3_4,
                                AV.int IntKind.i64 b3_5, AV.int IntKind.i64 b3_6]] })
                    Option.none))))
            (ctl (x20 == 1)
              (ctl (x20 == 0)
                (lp E F 18 0 [] 0
                  { vals := [AV.int IntKind.i64 (IntKind.i64.wrap (x20 + 1))],
                    blks :=
                      [Blk.box
                          [AV.int IntKind.i64 b0_0, AV.int IntKind.i64 b0_1, AV.int IntKind.i64 b0_2,
                            AV.int IntKind.i64 b0_3, AV.int IntKind.i64 b0_4, AV.int IntKind.i64 b0_5,
                            AV.int IntKind.i64 b0_6],
                        Blk.box
                          [AV.int IntKind.i64 b1_0, AV.int IntKind.i64 b1_1, AV.int IntKind.i64 b1_2,
                            AV.int IntKind.i64 b1_3, AV.int IntKind.i64 b1_4, AV.int IntKind.i64 b1_5,
                            AV.int IntKind.i64 b1_6],
                        Blk.box
                          [AV.int IntKind.i64 b2_0, AV.int IntKind.i64 b2_1, AV.int IntKind.i64 b2_2,
                            AV.int IntKind.i64 b2_3, AV.int IntKind.i64 b2_4, AV.int IntKind.i64 b2_5,
                            AV.int IntKind.i64 b2_6],
                        Blk.box
                          [AV.int IntKind.i64 (IntKind.i64.wrap (b0_2 + b1_1)), AV.int IntKind.i64 b3_1,
                            AV.int IntKind.i64 b3_2, AV.int IntKind.i64 b3_3, AV.int IntKind.i64 b3_4,
                            AV.int IntKind.i64 b3_5, AV.int IntKind.i64 b3_6]] })
                (ctl (x20 == 1)
                  (lp E F 18 0 [] 0
                    { vals := [AV.int IntKind.i64 (IntKind.i64.wrap (x20 + 1))],
                      blks :=
                        [Blk.box
                            [AV.int IntKind.i64 b0_0, AV.int IntKind.i64 b0_1, AV.int IntKind.i64 b0_2,
                              AV.int IntKind.i64 b0_3, AV.int IntKind.i64 b0_4, AV.int IntKind.i64 b0_5,
                              AV.int IntKind.i64 b0_6],
                          Blk.box
                            [AV.int IntKind.i64 b1_0, AV.int IntKind.i64 b1_1, AV.int IntKind.i64 b1_2,
                              AV.int IntKind.i64 b1_3, AV.int IntKind.i64 b1_4, AV.int IntKind.i64 b1_5,
                              AV.int IntKind.i64 b1_6],
                          Blk.box
                            [AV.int IntKind.i64 b2_0, AV.int IntKind.i64 b2_1, AV.int IntKind.i64 b2_2,
                              AV.int IntKind.i64 b2_3, AV.int IntKind.i64 b2_4, AV.int IntKind.i64 b2_5,
                              AV.int IntKind.i64 b2_6],
                          Blk.box
                            [AV.int IntKind.i64 b3_0, AV.int IntKind.i64 (IntKind.i64.wrap (b0_2 + b1_1)),
                              AV.int IntKind.i64 b3_2, AV.int IntKind.i64 b3_3, AV.int IntKind.i64 b3_4,
                              AV.int IntKind.i64 b3_5, AV.int IntKind.i64 b3_6]] })
                  (ctl (x20 == 2)
                    (lp E F 18 0 [] 0
                      { vals := [AV.int IntKind.i64 (IntKind.i64.wrap (x20 + 1))],
                        blks :=
                          [Blk.box
                              [AV.int IntKind.i64 b0_0, AV.int IntKind.i64 b0_1, AV.int IntKind.i64 b0_2,
                                AV.int IntKind.i64 b0_3, AV.int IntKind.i64 b0_4, AV.int IntKind.i64 b0_5,
                                AV.int IntKind.i64 b0_6],
                            Blk.box
                              [AV.int IntKind.i64 b1_0, AV.int IntKind.i64 b1_1, AV.int IntKind.i64 b1_2,
                                AV.int IntKind.i64 b1_3, AV.int IntKind.i64 b1_4, AV.int IntKind.i64 b1_5,
                                AV.int IntKind.i64 b1_6],
                            Blk.box
                              [AV.int IntKind.i64 b2_0, AV.int IntKind.i64 b2_1, AV.int IntKind.i64 b2_2,
                                AV.int IntKind.i64 b2_3, AV.int IntKind.i64 b2_4, AV.int IntKind.i64 b2_5,
                                AV.int IntKind.i64 b2_6],
                            Blk.box
                              [AV.int IntKind.i64 b3_0, AV.int IntKind.i64 b3_1,
                                AV.int IntKind.i64 (IntKind.i64.wrap (b0_2 + b1_1)), AV.int IntKind.i64 b3_3,
                                AV.int IntKind.i64 b3_4, AV.int IntKind.i64 b3_5,
                                AV.int IntKind.i64 b3_6]] })
                    (ctl (x20 == 3)
                      (lp E F 18 0 [] 0
                        { vals := [AV.int IntKind.i64 (IntKind.i64.wrap (x20 + 1))],
                          blks :=
                            [Blk.box
                                [AV.int IntKind.i64 b0_0, AV.int IntKind.i64 b0_1, AV.int IntKind.i64 b0_2,
                                  AV.int IntKind.i64 b0_3, AV.int IntKind.i64 b0_4, AV.int IntKind.i64 b0_5,
                                  AV.int IntKind.i64 b0_6],
                              Blk.box
                                [AV.int IntKind.i64 b1_0, AV.int IntKind.i64 b1_1, AV.int IntKind.i64 b1_2,
                                  AV.int IntKind.i64 b1_3, AV.int IntKind.i64 b1_4, AV.int IntKind.i64 b1_5,
                                  AV.int IntKind.i64 b1_6],
                              Blk.box
                                [AV.int IntKind.i64 b2_0, AV.int IntKind.i64 b2_1, AV.int IntKind.i64 b2_2,
                                  AV.int IntKind.i64 b2_3, AV.int IntKind.i64 b2_4, AV.int IntKind.i64 b2_5,
                                  AV.int IntKind.i64 b2_6],
                              Blk.box
                                [AV.int IntKind.i64 b3_0, AV.int IntKind.i64 b3_1, AV.int IntKind.i64 b3_2,
                                  AV.int IntKind.i64 (IntKind.i64.wrap (b0_2 + b1_1)), AV.int IntKind.i64 b3_4,
                                  AV.int IntKind.i64 b3_5, AV.int IntKind.i64 b3_6]] })
                      Option.none))))
              (ctl (x20 == 2)
                (ctl (x20 == 0)
                  (lp E F 18 0 [] 0
                    { vals := [AV.int IntKind.i64 (IntKind.i64.wrap (x20 + 1))],
                      blks :=
                        [Blk.box
                            [AV.int IntKind.i64 b0_0, AV.int IntKind.i64 b0_1, AV.int IntKind.i64 b0_2,
                              AV.int IntKind.i64 b0_3, AV.int IntKind.i64 b0_4, AV.int IntKind.i64 b0_5,
                              AV.int IntKind.i64 b0_6],
                          Blk.box
                            [AV.int IntKind.i64 b1_0, AV.int IntKind.i64 b1_1, AV.int IntKind.i64 b1_2,
                              AV.int IntKind.i64 b1_3, AV.int IntKind.i64 b1_4, AV.int IntKind.i64 b1_5,
                              AV.int IntKind.i64 b1_6],
                          Blk.box
                            [AV.int IntKind.i64 b2_0, AV.int IntKind.i64 b2_1, AV.int IntKind.i64 b2_2,
                              AV.int IntKind.i64 b2_3, AV.int IntKind.i64 b2_4, AV.int IntKind.i64 b2_5,
                              AV.int IntKind.i64 b2_6],
                          Blk.box
                            [AV.int IntKind.i64 (IntKind.i64.wrap (b0_2 + b1_2)), AV.int IntKind.i64 b3_1,
                              AV.int IntKind.i64 b3_2, AV.int IntKind.i64 b3_3, AV.int IntKind.i64 b3_4,
                              AV.int IntKind.i64 b3_5, AV.int IntKind.i64 b3_6]] })
                  (ctl (x20 == 1)
                    (lp E F 18 0 [] 0
                      { vals := [AV.int IntKind.i64 (IntKind.i64.wrap (x20 + 1))],
                        blks :=
                          [Blk.box
                              [AV.int IntKind.i64 b0_0, AV.int IntKind.i64 b0_1, AV.int IntKind.i64 b0_2,
                                AV.int IntKind.i64 b0_3, AV.int IntKind.i64 b0_4, AV.int IntKind.i64 b0_5,
                                AV.int IntKind.i64 b0_6],
                            Blk.box
                              [AV.int IntKind.i64 b1_0, AV.int IntKind.i64 b1_1, AV.int IntKind.i64 b1_2,
                                AV.int IntKind.i64 b1_3, AV.int IntKind.i64 b1_4, AV.int IntKind.i64 b1_5,
                                AV.int IntKind.i64 b1_6],
                            Blk.box
                              [AV.int IntKind.i64 b2_0, AV.int IntKind.i64 b2_1, AV.int IntKind.i64 b2_2,
                                AV.int IntKind.i64 b2_3, AV.int IntKind.i64 b2_4, AV.int IntKind.i64 b2_5,
                                AV.int IntKind.i64 b2_6],
                            Blk.box
                              [AV.int IntKind.i64 b3_0, AV.int IntKind.i64 (IntKind.i64.wrap (b0_2 + b1_2)),
                                AV.int IntKind.i64 b3_2, AV.int IntKind.i64 b3_3, AV.int IntKind.i64 b3_4,
                                AV.int IntKind.i64 b3_5, AV.int IntKind.i64 b3_6]] })
                    (ctl (x20 == 2)
                      (lp E F 18 0 [] 0
                        { vals := [AV.int IntKind.i64 (IntKind.i64.wrap (x20 + 1))],
                          blks :=
                            [Blk.box
                                [AV.int IntKind.i64 b0_0, AV.int IntKind.i64 b0_1, AV.int IntKind.i64 b0_2,
                                  AV.int IntKind.i64 b0_3, AV.int IntKind.i64 b0_4, AV.int IntKind.i64 b0_5,
                                  AV.int IntKind.i64 b0_6],
                              Blk.box
                                [AV.int IntKind.i64 b1_0, AV.int IntKind.i64 b1_1, AV.int IntKind.i64 b1_2,
                                  AV.int IntKind.i64 b1_3, AV.int IntKind.i64 b1_4, AV.int IntKind.i64 b1_5,
                                  AV.int IntKind.i64 b1_6],
                              Blk.box
                                [AV.int IntKind.i64 b2_0, AV.int IntKind.i64 b2_1, AV.int IntKind.i64 b2_2,
                                  AV.int IntKind.i64 b2_3, AV.int IntKind.i64 b2_4, AV.int IntKind.i64 b2_5,
                                  AV.int IntKind.i64 b2_6],
                              Blk.box
                                [AV.int IntKind.i64 b3_0, AV.int IntKind.i64 b3_1,
                                  AV.int IntKind.i64 (IntKind.i64.wrap (b0_2 + b1_2)), AV.int IntKind.i64 b3_3,
                                  AV.int IntKind.i64 b3_4, AV.int IntKind.i64 b3_5,
                                  AV.int IntKind.i64 b3_6]] })
                      (ctl (x20 == 3)
                        (lp E F 18 0 [] 0
                          { vals := [AV.int IntKind.i64 (IntKind.i64.wrap (x20 + 1))],
                            blks :=
                              [Blk.box
                                  [AV.int IntKind.i64 b0_0, AV.int IntKind.i64 b0_1,
                                    AV.int IntKind.i64 b0_2, AV.int IntKind.i64 b0_3,
                                    AV.int IntKind.i64 b0_4, AV.int IntKind.i64 b0_5,
                                    AV.int IntKind.i64 b0_6],
                                Blk.box
                                  [AV.int IntKind.i64 b1_0, AV.int IntKind.i64 b1_1,
                                    AV.int IntKind.i64 b1_2, AV.int IntKind.i64 b1_3,
                                    AV.int IntKind.i64 b1_4, AV.int IntKind.i64 b1_5,
                                    AV.int IntKind.i64 b1_6],
                                Blk.box
                                  [AV.int IntKind.i64 b2_0, AV.int IntKind.i64 b2_1,
                                    AV.int IntKind.i64 b2_2, AV.int IntKind.i64 b2_3,
                                    AV.int IntKind.i64 b2_4, AV.int IntKind.i64 b2_5,
                                    AV.int IntKind.i64 b2_6],
                                Blk.box
                                  [AV.int IntKind.i64 b3_0, AV.int IntKind.i64 b3_1,
                                    AV.int IntKind.i64 b3_2, AV.int IntKind.i64 (IntKind.i64.wrap (b0_2 + b1_2)),
                                    AV.int IntKind.i64 b3_4, AV.int IntKind.i64 b3_5,
                                    AV.int IntKind.i64 b3_6]] })
                        Option.none))))
                (ctl (x20 == 3)
                  (ctl (x20 == 0)
                    (lp E F 18 0 [] 0
                      { vals := [AV.int IntKind.i64 (IntKind.i64.wrap (x20 + 1))],
                        blks :=
                          [Blk.box
                              [AV.int IntKind.i64 b0_0, AV.int IntKind.i64 b0_1, AV.int IntKind.i64 b0_2,
                                AV.int IntKind.i64 b0_3, AV.int IntKind.i64 b0_4, AV.int IntKind.i64 b0_5,
                                AV.int IntKind.i64 b0_6],
                            Blk.box
                              [AV.int IntKind.i64 b1_0, AV.int IntKind.i64 b1_1, AV.int IntKind.i64 b1_2,
                                AV.int IntKind.i64 b1_3, AV.int IntKind.i64 b1_4, AV.int IntKind.i64 b1_5,
                                AV.int IntKind.i64 b1_6],
                            Blk.box
                              [AV.int IntKind.i64 b2_0, AV.int IntKind.i64 b2_1, AV.int IntKind.i64 b2_2,
                                AV.int IntKind.i64 b2_3, AV.int IntKind.i64 b2_4, AV.int IntKind.i64 b2_5,
                                AV.int IntKind.i64 b2_6],
                            Blk.box
                              [AV.int IntKind.i64 (IntKind.i64.wrap (b0_2 + b1_3)), AV.int IntKind.i64 b3_1,
                                AV.int IntKind.i64 b3_2, AV.int IntKind.i64 b3_3, AV.int IntKind.i64 b3_4,
                                AV.int IntKind.i64 b3_5, AV.int IntKind.i64 b3_6]] })
                    (ctl (x20 == 1)
                      (lp E F 18 0 [] 0
                        { vals := [AV.int IntKind.i64 (IntKind.i64.wrap (x20 + 1))],
                          blks :=
                            [Blk.box
                                [AV.int IntKind.i64 b0_0, AV.int IntKind.i64 b0_1, AV.int IntKind.i64 b0_2,
                                  AV.int IntKind.i64 b0_3, AV.int IntKind.i64 b0_4, AV.int IntKind.i64 b0_5,
                                  AV.int IntKind.i64 b0_6],
                              Blk.box
                                [AV.int IntKind.i64 b1_0, AV.int IntKind.i64 b1_1, AV.int IntKind.i64 b1_2,
                                  AV.int IntKind.i64 b1_3, AV.int IntKind.i64 b1_4, AV.int IntKind.i64 b1_5,
                                  AV.int IntKind.i64 b1_6],
                              Blk.box
                                [AV.int IntKind.i64 b2_0, AV.int IntKind.i64 b2_1, AV.int IntKind.i64 b2_2,
                                  AV.int IntKind.i64 b2_3, AV.int IntKind.i64 b2_4, AV.int IntKind.i64 b2_5,
                                  AV.int IntKind.i64 b2_6],
                              Blk.box
                                [AV.int IntKind.i64 b3_0, AV.int IntKind.i64 (IntKind.i64.wrap (b0_2 + b1_3)),
                                  AV.int IntKind.i64 b3_2, AV.int IntKind.i64 b3_3, AV.int IntKind.i64 b3_4,
                                  AV.int IntKind.i64 b3_5, AV.int IntKind.i64 b3_6]] })
                      (ctl (x20 == 2)
                        (lp E F 18 0 [] 0
                          { vals := [AV.int IntKind.i64 (IntKind.i64.wrap (x20 + 1))],
                            blks :=
                              [Blk.box
                                  [AV.int IntKind.i64 b0_0, AV.int IntKind.i64 b0_1,
                                    AV.int IntKind.i64 b0_2, AV.int IntKind.i64 b0_3,
                                    AV.int IntKind.i64 b0_4, AV.int IntKind.i64 b0_5,
                                    AV.int IntKind.i64 b0_6],
                                Blk.box
                                  [AV.int IntKind.i64 b1_0, AV.int IntKind.i64 b1_1,
                                    AV.int IntKind.i64 b1_2, AV.int IntKind.i64 b1_3,
                                    AV.int IntKind.i64 b1_4, AV.int IntKind.i64 b1_5,
                                    AV.int IntKind.i64 b1_6],
                                Blk.box
                                  [AV.int IntKind.i64 b2_0, AV.int IntKind.i64 b2_1,
                                    AV.int IntKind.i64 b2_2, AV.int IntKind.i64 b2_3,
                                    AV.int IntKind.i64 b2_4, AV.int IntKind.i64 b2_5,
                                    AV.int IntKind.i64 b2_6],
                                Blk.box
                                  [AV.int IntKind.i64 b3_0, AV.int IntKind.i64 b3_1,
                                    AV.int IntKind.i64 (IntKind.i64.wrap (b0_2 + b1_3)), AV.int IntKind.i64 b3_3,
                                    AV.int IntKind.i64 b3_4, AV.int IntKind.i64 b3_5,
                                    AV.int IntKind.i64 b3_6]] })
                        (ctl (x20 == 3)
                          (lp E F 18 0 [] 0
                            { vals := [AV.int IntKind.i64 (IntKind.i64.wrap (x20 + 1))],
                              blks :=
                                [Blk.box
                                    [AV.int IntKind.i64 b0_0, AV.int IntKind.i64 b0_1,
                                      AV.int IntKind.i64 b0_2, AV.int IntKind.i64 b0_3,
                                      AV.int IntKind.i64 b0_4, AV.int IntKind.i64 b0_5,
                                      AV.int IntKind.i64 b0_6],
                                  Blk.box
                                    [AV.int IntKind.i64 b1_0, AV.int IntKind.i64 b1_1,
                                      AV.int IntKind.i64 b1_2, AV.int IntKind.i64 b1_3,
                                      AV.int IntKind.i64 b1_4, AV.int IntKind.i64 b1_5,
                                      AV.int IntKind.i64 b1_6],
                                  Blk.box
                                    [AV.int IntKind.i64 b2_0, AV.int IntKind.i64 b2_1,
                                      AV.int IntKind.i64 b2_2, AV.int IntKind.i64 b2_3,
                                      AV.int IntKind.i64 b2_4, AV.int IntKind.i64 b2_5,
                                      AV.int IntKind.i64 b2_6],
                                  Blk.box
                                    [AV.int IntKind.i64 b3_0, AV.int IntKind.i64 b3_1,
                                      AV.int IntKind.i64 b3_2, AV.int IntKind.i64 (IntKind.i64.wrap (b0_2 + b1_3)),
                                      AV.int IntKind.i64 b3_4, AV.int IntKind.i64 b3_5,
                                      AV.int IntKind.i64 b3_6]] })
                          Option.none))))
                  Option.none))))
          (ctl (x20 == 3)
            (ctl (x20 == 0)
              (ctl (x20 == 0)
                (lp E F 18 0 [] 0
                  { vals := [AV.int IntKind.i64 (IntKind.i64.wrap (x20 + 1))],
                    blks :=
                      [Blk.box
                          [AV.int IntKind.i64 b0_0, AV.int IntKind.i64 b0_1, AV.int IntKind.i64 b0_2,
                            AV.int IntKind.i64 b0_3, AV.int IntKind.i64 b0_4, AV.int IntKind.i64 b0_5,
                            AV.int IntKind.i64 b0_6],
                        Blk.box
                          [AV.int IntKind.i64 b1_0, AV.int IntKind.i64 b1_1, AV.int IntKind.i64 b1_2,
                            AV.int IntKind.i64 b1_3, AV.int IntKind.i64 b1_4, AV.int IntKind.i64 b1_5,
                            AV.int IntKind.i64 b1_6],
                        Blk.box
                          [AV.int IntKind.i64 b2_0, AV.int IntKind.i64 b2_1, AV.int IntKind.i64 b2_2,
                            AV.int IntKind.i64 b2_3, AV.int IntKind.i64 b2_4, AV.int IntKind.i64 b2_5,
                            AV.int IntKind.i64 b2_6],
                        Blk.box
                          [AV.int IntKind.i64 (IntKind.i64.wrap (b0_3 + b1_0)), AV.int IntKind.i64 b3_1,
                            AV.int IntKind.i64 b3_2, AV.int IntKind.i64 b3_3, AV.int IntKind.i64 b3_4,
                            AV.int IntKind.i64 b3_5, AV.int IntKind.i64 b3_6]] })
                (ctl (x20 == 1)
                  (lp E F 18 0 [] 0
                    { vals := [AV.int IntKind.i64 (IntKind.i64.wrap (x20 + 1))],
                      blks :=
                        [Blk.box
                            [AV.int IntKind.i64 b0_0, AV.int IntKind.i64 b0_1, AV.int IntKind.i64 b0_2,
                              AV.int IntKind.i64 b0_3, AV.int IntKind.i64 b0_4, AV.int IntKind.i64 b0_5,
                              AV.int IntKind.i64 b0_6],
                          Blk.box
                            [AV.int IntKind.i64 b1_0, AV.int IntKind.i64 b1_1, AV.int IntKind.i64 b1_2,
                              AV.int IntKind.i64 b1_3, AV.int IntKind.i64 b1_4, AV.int IntKind.i64 b1_5,
                              AV.int IntKind.i64 b1_6],
                          Blk.box
                            [AV.int IntKind.i64 b2_0, AV.int IntKind.i64 b2_1, AV.int IntKind.i64 b2_2,
                              AV.int IntKind.i64 b2_3, AV.int IntKind.i64 b2_4, AV.int IntKind.i64 b2_5,
                              AV.int IntKind.i64 b2_6],
                          Blk.box
                            [AV.int IntKind.i64 b3_0, AV.int IntKind.i64 (IntKind.i64.wrap (b0_3 + b1_0)),
                              AV.int IntKind.i64 b3_2, AV.int IntKind.i64 b3_3, AV.int IntKind.i64 b3_4,
                              AV.int IntKind.i64 b3_5, AV.int IntKind.i64 b3_6]] })
                  (ctl (x20 == 2)
                    (lp E F 18 0 [] 0
                      { vals := [AV.int IntKind.i64 (IntKind.i64.wrap (x20 + 1))],
                        blks :=
                          [Blk.box
                              [AV.int IntKind.i64 b0_0, AV.int IntKind.i64 b0_1, AV.int IntKind.i64 b0_2,
                                AV.int IntKind.i64 b0_3, AV.int IntKind.i64 b0_4, AV.int IntKind.i64 b0_5,
                                AV.int IntKind.i64 b0_6],
                            Blk.box
                              [AV.int IntKind.i64 b1_0, AV.int IntKind.i64 b1_1, AV.int IntKind.i64 b1_2,
                                AV.int IntKind.i64 b1_3, AV.int IntKind.i64 b1_4, AV.int IntKind.i64 b1_5,
                                AV.int IntKind.i64 b1_6],
                            Blk.box
                              [AV.int IntKind.i64 b2_0, AV.int IntKind.i64 b2_1, AV.int IntKind.i64 b2_2,
                                AV.int IntKind.i64 b2_3, AV.int IntKind.i64 b2_4, AV.int IntKind.i64 b2_5,
                                AV.int IntKind.i64 b2_6],
                            Blk.box
                              [AV.int IntKind.i64 b3_0, AV.int IntKind.i64 b3_1,
                                AV.int IntKind.i64 (IntKind.i64.wrap (b0_3 + b1_0)), AV.int IntKind.i64 b3_3,
                                AV.int IntKind.i64 b3_4, AV.int IntKind.i64 b3_5,
                                AV.int IntKind.i64 b3_6]] })
                    (ctl (x20 == 3)
                      (lp E F 18 0 [] 0
                        { vals := [AV.int IntKind.i64 (IntKind.i64.wrap (x20 + 1))],
                          blks :=
                            [Blk.box
                                [AV.int IntKind.i64 b0_0, AV.int IntKind.i64 b0_1, AV.int IntKind.i64 b0_2,
                                  AV.int IntKind.i64 b0_3, AV.int IntKind.i64 b0_4, AV.int IntKind.i64 b0_5,
                                  AV.int IntKind.i64 b0_6],
                              Blk.box
                                [AV.int IntKind.i64 b1_0, AV.int IntKind.i64 b1_1, AV.int IntKind.i64 b1_2,
                                  AV.int IntKind.i64 b1_3, AV.int IntKind.i64 b1_4, AV.int IntKind.i64 b1_5,
                                  AV.int IntKind.i64 b1_6],
                              Blk.box
                                [AV.int IntKind.i64 b2_0, AV.int IntKind.i64 b2_1, AV.int IntKind.i64 b2_2,
                                  AV.int IntKind.i64 b2_3, AV.int IntKind.i64 b2_4, AV.int IntKind.i64 b2_5,
                                  AV.int IntKind.i64 b2_6],
                              Blk.box
                                [AV.int IntKind.i64 b3_0, AV.int IntKind.i64 b3_1, AV.int IntKind.i64 b3_2,
                                  AV.int IntKind.i64 (IntKind.i64.wrap (b0_3 + b1_0)), AV.int IntKind.i64 b3_4,
                                  AV.int IntKind.i64 b3_5, AV.int IntKind.i64 b3_6]] })
                      Option.none))))
              (ctl (x20 == 1)
                (ctl (x20 == 0)
                  (lp E F 18 0 [] 0
                    { vals := [AV.int IntKind.i64 (IntKind.i64.wrap (x20 + 1))],
                      blks :=
                        [Blk.box
                            [AV.int IntKind.i64 b0_0, AV.int IntKind.i64 b0_1, AV.int IntKind.i64 b0_2,
                              AV.int IntKind.i64 b0_3, AV.int IntKind.i64 b0_4, AV.int IntKind.i64 b0_5,
                              AV.int IntKind.i64 b0_6],
                          Blk.box
                            [AV.int IntKind.i64 b1_0, AV.int IntKind.i64 b1_1, AV.int IntKind.i64 b1_2,
                              AV.int IntKind.i64 b1_3, AV.int IntKind.i64 b1_4, AV.int IntKind.i64 b1_5,
                              AV.int IntKind.i64 b1_6],
                          Blk.box
                            [AV.int IntKind.i64 b2_0, AV.int IntKind.i64 b2_1, AV.int IntKind.i64 b2_2,
                              AV.int IntKind.i64 b2_3, AV.int IntKind.i64 b2_4, AV.int IntKind.i64 b2_5,
                              AV.int IntKind.i64 b2_6],
                          Blk.box
                            [AV.int IntKind.i64 (IntKind.i64.wrap (b0_3 + b1_1)), AV.int IntKind.i64 b3_1,
                              AV.int IntKind.i64 b3_2, AV.int IntKind.i64 b3_3, AV.int IntKind.i64 b3_4,
                              AV.int IntKind.i64 b3_5, AV.int IntKind.i64 b3_6]] })
                  (ctl (x20 == 1)
                    (lp E F 18 0 [] 0
                      { vals := [AV.int IntKind.i64 (IntKind.i64.wrap (x20 + 1))],
                        blks :=
                          [Blk.box
                              [AV.int IntKind.i64 b0_0, AV.int IntKind.i64 b0_1, AV.int IntKind.i64 b0_2,
                                AV.int IntKind.i64 b0_3, AV.int IntKind.i64 b0_4, AV.int IntKind.i64 b0_5,
                                AV.int IntKind.i64 b0_6],
                            Blk.box
                              [AV.int IntKind.i64 b1_0, AV.int IntKind.i64 b1_1, AV.int IntKind.i64 b1_2,
                                AV.int IntKind.i64 b1_3, AV.int IntKind.i64 b1_4, AV.int IntKind.i64 b1_5,
                                AV.int IntKind.i64 b1_6],
                            Blk.box
                              [AV.int IntKind.i64 b2_0, AV.int IntKind.i64 b2_1, AV.int IntKind.i64 b2_2,
                                AV.int IntKind.i64 b2_3, AV.int IntKind.i64 b2_4, AV.int IntKind.i64 b2_5,
                                AV.int IntKind.i64 b2_6],
                            Blk.box
                              [AV.int IntKind.i64 b3_0, AV.int IntKind.i64 (IntKind.i64.wrap (b0_3 + b1_1)),
                                AV.int IntKind.i64 b3_2, AV.int IntKind.i64 b3_3, AV.int IntKind.i64 b3_4,
                                AV.int IntKind.i64 b3_5, AV.int IntKind.i64 b3_6]] })
                    (ctl (x20 == 2)
                      (lp E F 18 0 [] 0
                        { vals := [AV.int IntKind.i64 (IntKind.i64.wrap (x20 + 1))],
                          blks :=
                            [Blk.box
                                [AV.int IntKind.i64 b0_0, AV.int IntKind.i64 b0_1, AV.int IntKind.i64 b0_2,
                                  AV.int IntKind.i64 b0_3, AV.int IntKind.i64 b0_4, AV.int IntKind.i64 b0_5,
                                  AV.int IntKind.i64 b0_6],
                              Blk.box
                                [AV.int IntKind.i64 b1_0, AV.int IntKind.i64 b1_1, AV.int IntKind.i64 b1_2,
                                  AV.int IntKind.i64 b1_3, AV.int IntKind.i64 b1_4, AV.int IntKind.i64 b1_5,
                                  AV.int IntKind.i64 b1_6],
                              Blk.box
                                [AV.int IntKind.i64 b2_0, AV.int IntKind.i64 b2_1, AV.int IntKind.i64 b2_2,
                                  AV.int IntKind.i64 b2_3, AV.int IntKind.i64 b2_4, AV.int IntKind.i64 b2_5,
                                  AV.int IntKind.i64 b2_6],
                              Blk.box
                                [AV.int IntKind.i64 b3_0, AV.int IntKind.i64 b3_1,
                                  AV.int IntKind.i64 (IntKind.i64.wrap (b0_3 + b1_1)), AV.int IntKind.i64 b3_3,
                                  AV.int IntKind.i64 b3_4, AV.int IntKind.i64 b3_5,
                                  AV.int IntKind.i64 b3_6]] })
                      (ctl (x20 == 3)
                        (lp E F 18 0 [] 0
                          { vals := [AV.int IntKind.i64 (IntKind.i64.wrap (x20 + 1))],
                            blks :=
                              [Blk.box
                                  [AV.int IntKind.i64 b0_0, AV.int IntKind.i64 b0_1,
                                    AV.int IntKind.i64 b0_2, AV.int IntKind.i64 b0_3,
                                    AV.int IntKind.i64 b0_4, AV.int IntKind.i64 b0_5,
                                    AV.int IntKind.i64 b0_6],
                                Blk.box
                                  [AV.int IntKind.i64 b1_0, AV.int IntKind.i64 b1_1,
                                    AV.int IntKind.i64 b1_2, AV.int IntKind.i64 b1_3,
                                    AV.int IntKind.i64 b1_4, AV.int IntKind.i64 b1_5,
                                    AV.int IntKind.i64 b1_6],
                                Blk.box
                                  [AV.int IntKind.i64 b2_0, AV.int IntKind.i64 b2_1,
                                    AV.int IntKind.i64 b2_2, AV.int IntKind.i64 b2_3,
                                    AV.int IntKind.i64 b2_4, AV.int IntKind.i64 b2_5,
                                    AV.int IntKind.i64 b2_6],
                                Blk.box
                                  [AV.int IntKind.i64 b3_0, AV.int IntKind.i64 b3_1,
                                    AV.int IntKind.i64 b3_2, AV.int IntKind.i64 (IntKind.i64.wrap (b0_3 + b1_1)),
                                    AV.int IntKind.i64 b3_4, AV.int IntKind.i64 b3_5,
                                    AV.int IntKind.i64 b3_6]] })
                        Option.none))))
                (ctl (x20 == 2)
                  (ctl (x20 == 0)
                    (lp E F 18 0 [] 0
                      { vals := [AV.int IntKind.i64 (IntKind.i64.wrap (x20 + 1))],
                        blks :=
                          [Blk.box
                              [AV.int IntKind.i64 b0_0, AV.int IntKind.i64 b0_1, AV.int IntKind.i64 b0_2,
                                AV.int IntKind.i64 b0_3, AV.int IntKind.i64 b0_4, AV.int IntKind.i64 b0_5,
                                AV.int IntKind.i64 b0_6],
                            Blk.box
                              [AV.int IntKind.i64 b1_0, AV.int IntKind.i64 b1_1, AV.int IntKind.i64 b1_2,
                                AV.int IntKind.i64 b1_3, AV.int IntKind.i64 b1_4, AV.int IntKind.i64 b1_5,
                                AV.int IntKind.i64 b1_6],
                            Blk.box
                              [AV.int IntKind.i64 b2_0, AV.int IntKind.i64 b2_1, AV.int IntKind.i64 b2_2,
                                AV.int IntKind.i64 b2_3, AV.int IntKind.i64 b2_4, AV.int IntKind.i64 b2_5,
                                AV.int IntKind.i64 b2_6],
                            Blk.box
                              [AV.int IntKind.i64 (IntKind.i64.wrap (b0_3 + b1_2)), AV.int IntKind.i64 b3_1,
                                AV.int IntKind.i64 b3_2, AV.int IntKind.i64 b3_3, AV.int IntKind.i64 b3_4,
                                AV.int IntKind.i64 b3_5, AV.int IntKind.i64 b3_6]] })
                    (ctl (x20 == 1)
                      (lp E F 18 0 [] 0
                        { vals := [AV.int IntKind.i64 (IntKind.i64.wrap (x20 + 1))],
                          blks :=
                            [Blk.box
                                [AV.int IntKind.i64 b0_0, AV.int IntKind.i64 b0_1, AV.int IntKind.i64 b0_2,
                                  AV.int IntKind.i64 b0_3, AV.int IntKind.i64 b0_4, AV.int IntKind.i64 b0_5,
                                  AV.int IntKind.i64 b0_6],
                              Blk.box
                                [AV.int IntKind.i64 b1_0, AV.int IntKind.i64 b1_1, AV.int IntKind.i64 b1_2,
                                  AV.int IntKind.i64 b1_3, AV.int IntKind.i64 b1_4, AV.int IntKind.i64 b1_5,
                                  AV.int IntKind.i64 b1_6],
                              Blk.box
                                [AV.int IntKind.i64 b2_0, AV.int IntKind.i64 b2_1, AV.int IntKind.i64 b2_2,
                                  AV.int IntKind.i64 b2_3, AV.int IntKind.i64 b2_4, AV.int IntKind.i64 b2_5,
                                  AV.int IntKind.i64 b2_6],
                              Blk.box
                                [AV.int IntKind.i64 b3_0, AV.int IntKind.i64 (IntKind.i64.wrap (b0_3 + b1_2)),
                                  AV.int IntKind.i64 b3_2, AV.int IntKind.i64 b3_3, AV.int IntKind.i64 b3_4,
                                  AV.int IntKind.i64 b3_5, AV.int IntKind.i64 b3_6]] })
                      (ctl (x20 == 2)
                        (lp E F 18 0 [] 0
                          { vals := [AV.int IntKind.i64 (IntKind.i64.wrap (x20 + 1))],
                            blks :=
                              [Blk.box
                                  [AV.int IntKind.i64 b0_0, AV.int IntKind.i64 b0_1,
                                    AV.int IntKind.i64 b0_2, AV.int IntKind.i64 b0_3,
                                    AV.int IntKind.i64 b0_4, AV.int IntKind.i64 b0_5,
                                    AV.int IntKind.i64 b0_6],
                                Blk.box
                                  [AV.int IntKind.i64 b1_0, AV.int IntKind.i64 b1_1,
                                    AV.int IntKind.i64 b1_2, AV.int IntKind.i64 b1_3,
                                    AV.int IntKind.i64 b1_4, AV.int IntKind.i64 b1_5,
                                    AV.int IntKind.i64 b1_6],
                                Blk.box
                                  [AV.int IntKind.i64 b2_0, AV.int IntKind.i64 b2_1,
                                    AV.int IntKind.i64 b2_2, AV.int IntKind.i64 b2_3,
                                    AV.int IntKind.i64 b2_4, AV.int IntKind.i64 b2_5,
                                    AV.int IntKind.i64 b2_6],
                                Blk.box
                                  [AV.int IntKind.i64 b3_0, AV.int IntKind.i64 b3_1,
                                    AV.int IntKind.i64 (IntKind.i64.wrap (b0_3 + b1_2)), AV.int IntKind.i64 b3_3,
                                    AV.int IntKind.i64 b3_4, AV.int IntKind.i64 b3_5,
                                    AV.int IntKind.i64 b3_6]] })
                        (ctl (x20 == 3)
                          (lp E F 18 0 [] 0
                            { vals := [AV.int IntKind.i64 (IntKind.i64.wrap (x20 + 1))],
                              blks :=
                                [Blk.box
                                    [AV.int IntKind.i64 b0_0, AV.int IntKind.i64 b0_1,
                                      AV.int IntKind.i64 b0_2, AV.int IntKind.i64 b0_3,
                                      AV.int IntKind.i64 b0_4, AV.int IntKind.i64 b0_5,
                                      AV.int IntKind.i64 b0_6],
                                  Blk.box
                                    [AV.int IntKind.i64 b1_0, AV.int IntKind.i64 b1_1,
                                      AV.int IntKind.i64 b1_2, AV.int IntKind.i64 b1_3,
                                      AV.int IntKind.i64 b1_4, AV.int IntKind.i64 b1_5,
                                      AV.int IntKind.i64 b1_6],
                                  Blk.box
                                    [AV.int IntKind.i64 b2_0, AV.int IntKind.i64 b2_1,
                                      AV.int IntKind.i64 b2_2, AV.int IntKind.i64 b2_3,
                                      AV.int IntKind.i64 b2_4, AV.int IntKind.i64 b2_5,
                                      AV.int IntKind.i64 b2_6],
                                  Blk.box
                                    [AV.int IntKind.i64 b3_0, AV.int IntKind.i64 b3_1,
                                      AV.int IntKind.i64 b3_2, AV.int IntKind.i64 (IntKind.i64.wrap (b0_3 + b1_2)),
                                      AV.int IntKind.i64 b3_4, AV.int IntKind.i64 b3_5,
                                      AV.int IntKind.i64 b3_6]] })
                          Option.none))))
                  (ctl (x20 == 3)
                    (ctl (x20 == 0)
                      (lp E F 18 0 [] 0
                        { vals := [AV.int IntKind.i64 (IntKind.i64.wrap (x20 + 1))],
                          blks :=
                            [Blk.box
                                [AV.int IntKind.i64 b0_0, AV.int IntKind.i64 b0_1, AV.int IntKind.i64 b0_2,
                                  AV.int IntKind.i64 b0_3, AV.int IntKind.i64 b0_4, AV.int IntKind.i64 b0_5,
                                  AV.int IntKind.i64 b0_6],
                              Blk.box
                                [AV.int IntKind.i64 b1_0, AV.int IntKind.i64 b1_1, AV.int IntKind.i64 b1_2,
                                  AV.int IntKind.i64 b1_3, AV.int IntKind.i64 b1_4, AV.int IntKind.i64 b1_5,
                                  AV.int IntKind.i64 b1_6],
                              Blk.box
                                [AV.int IntKind.i64 b2_0, AV.int IntKind.i64 b2_1, AV.int IntKind.i64 b2_2,
                                  AV.int IntKind.i64 b2_3, AV.int IntKind.i64 b2_4, AV.int IntKind.i64 b2_5,
                                  AV.int IntKind.i64 b2_6],
                              Blk.box
                                [AV.int IntKind.i64 (IntKind.i64.wrap (b0_3 + b1_3)), AV.int IntKind.i64 b3_1,
                                  AV.int IntKind.i64 b3_2, AV.int IntKind.i64 b3_3, AV.int IntKind.i64 b3_4,
                                  AV.int IntKind.i64 b3_5, AV.int IntKind.i64 b3_6]] })
                      (ctl (x20 == 1)
                        (lp E F 18 0 [] 0
                          { vals := [AV.int IntKind.i64 (IntKind.i64.wrap (x20 + 1))],
                            blks :=
                              [Blk.box
                                  [AV.int IntKind.i64 b0_0, AV.int IntKind.i64 b0_1,
                                    AV.int IntKind.i64 b0_2, AV.int IntKind.i64 b0_3,
                                    AV.int IntKind.i64 b0_4, AV.int IntKind.i64 b0_5,
                                    AV.int IntKind.i64 b0_6],
                                Blk.box
                                  [AV.int IntKind.i64 b1_0, AV.int IntKind.i64 b1_1,
                                    AV.int IntKind.i64 b1_2, AV.int IntKind.i64 b1_3,
                                    AV.int IntKind.i64 b1_4, AV.int IntKind.i64 b1_5,
                                    AV.int IntKind.i64 b1_6],
                                Blk.box
                                  [AV.int IntKind.i64 b2_0, AV.int IntKind.i64 b2_1,
                                    AV.int IntKind.i64 b2_2, AV.int IntKind.i64 b2_3,
                                    AV.int IntKind.i64 b2_4, AV.int IntKind.i64 b2_5,
                                    AV.int IntKind.i64 b2_6],
                                Blk.box
                                  [AV.int IntKind.i64 b3_0, AV.int IntKind.i64 (IntKind.i64.wrap (b0_3 + b1_3)),
                                    AV.int IntKind.i64 b3_2, AV.int IntKind.i64 b3_3,
                                    AV.int IntKind.i64 b3_4, AV.int IntKind.i64 b3_5,
                                    AV.int IntKind.i64 b3_6]] })
                        (ctl (x20 == 2)
                          (lp E F 18 0 [] 0
                            { vals := [AV.int IntKind.i64 (IntKind.i64.wrap (x20 + 1))],
                              blks :=
                                [Blk.box
                                    [AV.int IntKind.i64 b0_0, AV.int IntKind.i64 b0_1,
                                      AV.int IntKind.i64 b0_2, AV.int IntKind.i64 b0_3,
                                      AV.int IntKind.i64 b0_4, AV.int IntKind.i64 b0_5,
                                      AV.int IntKind.i64 b0_6],
                                  Blk.box
                                    [AV.int IntKind.i64 b1_0, AV.int IntKind.i64 b1_1,
                                      AV.int IntKind.i64 b1_2, AV.int IntKind.i64 b1_3,
                                      AV.int IntKind.i64 b1_4, AV.int IntKind.i64 b1_5,
                                      AV.int IntKind.i64 b1_6],
                                  Blk.box
                                    [AV.int IntKind.i64 b2_0, AV.int IntKind.i64 b2_1,
                                      AV.int IntKind.i64 b2_2, AV.int IntKind.i64 b2_3,
                                      AV.int IntKind.i64 b2_4, AV.int IntKind.i64 b2_5,
                                      AV.int IntKind.i64 b2_6],
                                  Blk.box
                                    [AV.int IntKind.i64 b3_0, AV.int IntKind.i64 b3_1,
                                      AV.int IntKind.i64 (IntKind.i64.wrap (b0_3 + b1_3)), AV.int IntKind.i64 b3_3,
                                      AV.int IntKind.i64 b3_4, AV.int IntKind.i64 b3_5,
                                      AV.int IntKind.i64 b3_6]] })
                          (ctl (x20 == 3)
                            (lp E F 18 0 [] 0
                              { vals := [AV.int IntKind.i64 (IntKind.i64.wrap (x20 + 1))],
                                blks :=
                                  [Blk.box
                                      [AV.int IntKind.i64 b0_0, AV.int IntKind.i64 b0_1,
                                        AV.int IntKind.i64 b0_2, AV.int IntKind.i64 b0_3,
                                        AV.int IntKind.i64 b0_4, AV.int IntKind.i64 b0_5,
                                        AV.int IntKind.i64 b0_6],
                                    Blk.box
                                      [AV.int IntKind.i64 b1_0, AV.int IntKind.i64 b1_1,
                                        AV.int IntKind.i64 b1_2, AV.int IntKind.i64 b1_3,
                                        AV.int IntKind.i64 b1_4, AV.int IntKind.i64 b1_5,
                                        AV.int IntKind.i64 b1_6],
                                    Blk.box
                                      [AV.int IntKind.i64 b2_0, AV.int IntKind.i64 b2_1,
                                        AV.int IntKind.i64 b2_2, AV.int IntKind.i64 b2_3,
                                        AV.int IntKind.i64 b2_4, AV.int IntKind.i64 b2_5,
                                        AV.int IntKind.i64 b2_6],
                                    Blk.box
                                      [AV.int IntKind.i64 b3_0, AV.int IntKind.i64 b3_1,
                                        AV.int IntKind.i64 b3_2, AV.int IntKind.i64 (IntKind.i64.wrap (b0_3 + b1_3)),
                                        AV.int IntKind.i64 b3_4, AV.int IntKind.i64 b3_5,
                                        AV.int IntKind.i64 b3_6]] })
                            Option.none))))
                    Option.none))))
            Option.none))))
    (Option.some
      (Ex.exit 0,
        { vals := [],
          blks :=
            [Blk.box
                [AV.int IntKind.i64 b0_0, AV.int IntKind.i64 b0_1, AV.int IntKind.i64 b0_2,
                  AV.int IntKind.i64 b0_3, AV.int IntKind.i64 b0_4, AV.int IntKind.i64 b0_5,
                  AV.int IntKind.i64 b0_6],
              Blk.box
                [AV.int IntKind.i64 b1_0, AV.int IntKind.i64 b1_1, AV.int IntKind.i64 b1_2,
                  AV.int IntKind.i64 b1_3, AV.int IntKind.i64 b1_4, AV.int IntKind.i64 b1_5,
                  AV.int IntKind.i64 b1_6],
              Blk.box
                [AV.int IntKind.i64 b2_0, AV.int IntKind.i64 b2_1, AV.int IntKind.i64 b2_2,
                  AV.int IntKind.i64 b2_3, AV.int IntKind.i64 b2_4, AV.int IntKind.i64 b2_5,
                  AV.int IntKind.i64 b2_6],
              Blk.box
                [AV.int IntKind.i64 b3_0, AV.int IntKind.i64 b3_1, AV.int IntKind.i64 b3_2,
                  AV.int IntKind.i64 b3_3, AV.int IntKind.i64 b3_4, AV.int IntKind.i64 b3_5,
                  AV.int IntKind.i64 b3_6]] })) := (lp_unfold ..).trans (by kernel_rfl)

/-- dynpos/report.Add -/
theorem r18 (F : Fun) (a0 : Int) (a1 : Int) (a2 : Int) (a3 : Int) (a4 : Int) (a5 : Int) (a6 : Int) (b0 : Int) (b1 : Int) (b2 : Int) (b3 : Int) (b4 : Int) (b5 : Int) (b6 : Int) : funK E F 18 [AV.agg
    [PV.int IntKind.i64 a0, PV.int IntKind.i64 a1, PV.int IntKind.i64 a2,
      PV.int IntKind.i64 a3, PV.int IntKind.i64 a4, PV.int IntKind.i64 a5,
      PV.int IntKind.i64 a6],
  AV.agg
    [PV.int IntKind.i64 b0, PV.int IntKind.i64 b1, PV.int IntKind.i64 b2,
      PV.int IntKind.i64 b3, PV.int IntKind.i64 b4, PV.int IntKind.i64 b5,
      PV.int IntKind.i64 b6]] [] =
  bnd
    (lp E F 18 0 [] 0
      { vals := [AV.int IntKind.i64 0],
        blks :=
          [Blk.box
              [AV.int IntKind.i64 a0, AV.int IntKind.i64 a1, AV.int IntKind.i64 a2,
                AV.int IntKind.i64 a3, AV.int IntKind.i64 a4, AV.int IntKind.i64 a5,
                AV.int IntKind.i64 a6],
            Blk.box
              [AV.int IntKind.i64 b0, AV.int IntKind.i64 b1, AV.int IntKind.i64 b2,
                AV.int IntKind.i64 b3, AV.int IntKind.i64 b4, AV.int IntKind.i64 b5,
                AV.int IntKind.i64 b6],
            Blk.box
              [AV.int IntKind.i64 0, AV.int IntKind.i64 0, AV.int IntKind.i64 0,
                AV.int IntKind.i64 0, AV.int IntKind.i64 0, AV.int IntKind.i64 0,
                AV.int IntKind.i64 0],
            Blk.box
              [AV.int IntKind.i64 0, AV.int IntKind.i64 0, AV.int IntKind.i64 0,
                AV.int IntKind.i64 0, AV.int IntKind.i64 a4,
                AV.int IntKind.i64 (IntKind.i64.wrap (a5 + b5)), AV.int IntKind.i64 (IntKind.i64.wrap (a6 + b6))]] })
    fun (p : Ex × Pack) =>
    ctl (p.fst.eqb (Ex.exit 0))
      (ctl
        (okPack
          {
            slots :=
              [(2, Sum.inr (Sum.inr (AV.t (TV.ptr 0 0)))),
                (3, Sum.inr (Sum.inr (AV.t (TV.ptr 1 0)))),
                (4, Sum.inr (Sum.inr (AV.t (TV.ptr 2 0)))),
                (5, Sum.inr (Sum.inr (AV.t (TV.ptr 3 0))))],
            blks :=
              [Sum.inl
                  [Sum.inl (Sh.int IntKind.i64), Sum.inl (Sh.int IntKind.i64), Sum.inl (Sh.int IntKind.i64),
                    Sum.inl (Sh.int IntKind.i64), Sum.inl (Sh.int IntKind.i64),
                    Sum.inl (Sh.int IntKind.i64), Sum.inl (Sh.int IntKind.i64)],
                Sum.inl
                  [Sum.inl (Sh.int IntKind.i64), Sum.inl (Sh.int IntKind.i64), Sum.inl (Sh.int IntKind.i64),
                    Sum.inl (Sh.int IntKind.i64), Sum.inl (Sh.int IntKind.i64),
                    Sum.inl (Sh.int IntKind.i64), Sum.inl (Sh.int IntKind.i64)],
                Sum.inl
                  [Sum.inl (Sh.int IntKind.i64), Sum.inl (Sh.int IntKind.i64), Sum.inl (Sh.int IntKind.i64),
                    Sum.inl (Sh.int IntKind.i64), Sum.inl (Sh.int IntKind.i64),
                    Sum.inl (Sh.int IntKind.i64), Sum.inl (Sh.int IntKind.i64)],
                Sum.inl
                  [Sum.inl (Sh.int IntKind.i64), Sum.inl (Sh.int IntKind.i64), Sum.inl (Sh.int IntKind.i64),
                    Sum.inl (Sh.int IntKind.i64), Sum.inl (Sh.int IntKind.i64),
                    Sum.inl (Sh.int IntKind.i64), Sum.inl (Sh.int IntKind.i64)]] }
          p.snd)
        (bnd
          (ctl
            (!(nth AV.undef (nth (Blk.box []) p.snd.blks 0).toCs 4).toPV.toInt ==
                0)
            (ctl
              ((nth AV.undef (nth (Blk.box []) p.snd.blks 1).toCs 4).toPV.toInt !=
                0)
              (Option.some
                (ltB
                  (nth AV.undef (nth (Blk.box []) p.snd.blks 1).toCs 4).toPV.toInt
                  (nth AV.undef (nth (Blk.box []) p.snd.blks 0).toCs
                        4).toPV.toInt))
              (Option.some Bool.false))
            (Option.some Bool.true))
          fun (v : Bool) =>
          ctl v
            (Option.some
              ([RV.agg
                    [PV.int IntKind.i64
                        (nth AV.undef (nth (Blk.box []) p.snd.blks 3).toCs
                              0).toPV.toInt,
                      PV.int IntKind.i64
                        (nth AV.undef (nth (Blk.box []) p.snd.blks 3).toCs
                              1).toPV.toInt,
                      PV.int IntKind.i64
                        (nth AV.undef (nth (Blk.box []) p.snd.blks 3).toCs
                              2).toPV.toInt,
                      PV.int IntKind.i64
                        (nth AV.undef (nth (Blk.box []) p.snd.blks 3).toCs
                              3).toPV.toInt,
                      PV.int IntKind.i64
                        (nth AV.undef (nth (Blk.box []) p.snd.blks 1).toCs
                              4).toPV.toInt,
                      PV.int IntKind.i64
                        (nth AV.undef (nth (Blk.box []) p.snd.blks 3).toCs
                              5).toPV.toInt,
                      PV.int IntKind.i64
                        (nth AV.undef (nth (Blk.box []) p.snd.blks 3).toCs
                              6).toPV.toInt]],
                []))
            (Option.some
              ([RV.agg
                    [PV.int IntKind.i64
                        (nth AV.undef (nth (Blk.box []) p.snd.blks 3).toCs
                              0).toPV.toInt,
                      PV.int IntKind.i64
                        (nth AV.undef (nth (Blk.box []) p.snd.blks 3).toCs
                              1).toPV.toInt,
                      PV.int IntKind.i64
                        (nth AV.undef (nth (Blk.box []) p.snd.blks 3).toCs
                              2).toPV.toInt,
                      PV.int IntKind.i64
                        (nth AV.undef (nth (Blk.box []) p.snd.blks 3).toCs
                              3).toPV.toInt,
                      PV.int IntKind.i64
                        (nth AV.undef (nth (Blk.box []) p.snd.blks 3).toCs
                              4).toPV.toInt,
                      PV.int IntKind.i64
                        (nth AV.undef (nth (Blk.box []) p.snd.blks 3).toCs
                              5).toPV.toInt,
                      PV.int IntKind.i64
                        (nth AV.undef (nth (Blk.box []) p.snd.blks 3).toCs
                              6).toPV.toInt]],
                [])))
        Option.none)
      Option.none := by kernel_rfl



/-- dynpos/report.Read, the loop of block 0 -/
theorem r20_0 (F : Fun) (text0 : List UInt8) (rest4 : List UInt8) (x18 : List (List PV)) (x19 : Int) (x20 : Int) (b0_0 : Int) (b0_1 : Int) (b0_2 : Int) (b0_3 : Int) (b0_4 : Int) (b0_5 : Int) (b0_6 : Int) (c1 : List (List PV)) : lp E F 20 0 [] 0
  {
    vals :=
      [AV.str text0, AV.str rest4, AV.sl 1 x18, AV.int IntKind.i64 x19,
        AV.int IntKind.i64 x20],
    blks :=
      [Blk.box
          [AV.int IntKind.i64 b0_0, AV.int IntKind.i64 b0_1, AV.int IntKind.i64 b0_2,
            AV.int IntKind.i64 b0_3, AV.int IntKind.i64 b0_4, AV.int IntKind.i64 b0_5,
            AV.int IntKind.i64 b0_6],
        Blk.arr 1 c1] } =
  ctl (ltB x20 x19)
    (getE x18 x20 fun (c : List PV) =>
      ctl (okCs [Sh.str] c)
        (bnd
          (F 38 [AV.str rest4, AV.str (nth PV.nilp c 0).toStr] [])
          fun (r : Res) =>
          ctl
            (okR
                [RSh.one Sh.str, RSh.one Sh.bool] r.fst &&
              okB [] r.snd)
            (ctl (!(nth (RV.p PV.nilp) r.fst 1).toPV.toBool)
              (Option.some
                (Ex.ret,
                  { vals := [AV.int IntKind.i64 74],
                    blks :=
                      [Blk.box
                          [AV.int IntKind.i64 0, AV.int IntKind.i64 0, AV.int IntKind.i64 0,
                            AV.int IntKind.i64 0, AV.int IntKind.i64 0, AV.int IntKind.i64 0,
                            AV.int IntKind.i64 0]] }))
              (bnd
                (F 39
                  [AV.str (nth (RV.p PV.nilp) r.fst 0).toPV.toStr,
                    AV.str [32, 10]]
                  [])
                fun (r_1 : Res) =>
                ctl
                  (okR [RSh.one (Sh.int IntKind.i64)] r_1.fst &&
                    okB [] r_1.snd)
                  (ctl
                    (ltB (nth (RV.p PV.nilp) r_1.fst 0).toPV.toInt 0)
                    (Option.some
                      (Ex.ret,
                        { vals := [AV.int IntKind.i64 74],
                          blks :=
                            [Blk.box
                                [AV.int IntKind.i64 0, AV.int IntKind.i64 0, AV.int IntKind.i64 0,
                                  AV.int IntKind.i64 0, AV.int IntKind.i64 0, AV.int IntKind.i64 0,
                                  AV.int IntKind.i64 0]] }))
                    (ctl
                      (Bool.true &&
                        (leB 0 (nth (RV.p PV.nilp) r_1.fst 0).toPV.toInt &&
                          leB (nth (RV.p PV.nilp) r_1.fst 0).toPV.toInt
                            (↑(nth (RV.p PV.nilp) r.fst 0).toPV.toStr.length : Int)))
                      (bnd
                        (F 40
                          [AV.str
                              (cutI (nth (RV.p PV.nilp) r.fst 0).toPV.toStr 0
                                (nth (RV.p PV.nilp) r_1.fst 0).toPV.toInt)]
                          [])
                        fun (r_2 : Res) =>
                        ctl
                          (okR
                              [RSh.one (Sh.int IntKind.i64), RSh.one Sh.ifc]
                              r_2.fst &&
                            okB [] r_2.snd)
                          (bnd
                            (ctl (!!(nth (RV.p PV.nilp) r_2.fst 1).toPV.toNil)
                              (bnd
                                (F 30
                                  [AV.int IntKind.i64
                                      (nth (RV.p PV.nilp) r_2.fst 0).toPV.toInt]
                                  [])
                                fun (r : Res) =>
                                ctl
                                  (okR [RSh.one Sh.bool] r.fst && okB [] r.snd)
                                  (Option.some !(nth (RV.p PV.nilp) r.fst 0).toPV.toBool) Option.none)
                              (Option.some Bool.true))
                            fun (v : Bool) =>
                            ctl v
                              (Option.some
                                (Ex.ret,
                                  { vals := [AV.int IntKind.i64 74],
                                    blks :=
                                      [Blk.box
                                          [AV.int IntKind.i64 0, AV.int IntKind.i64 0, AV.int IntKind.i64 0,
                                            AV.int IntKind.i64 0, AV.int IntKind.i64 0,
                                            AV.int IntKind.i64 0, AV.int IntKind.i64 0]] }))
                              (ctl
                                (leB 0
                                    (nth (RV.p PV.nilp) r_1.fst 0).toPV.toInt &&
                                  (leB (nth (RV.p PV.nilp) r_1.fst 0).toPV.toInt
                                      (↑(nth (RV.p PV.nilp) r.fst 0).toPV.toStr.length : Int) &&
                                    leB
                                      (↑(nth (RV.p PV.nilp) r.fst 0).toPV.toStr.length : Int)
                                      (↑(nth (RV.p PV.nilp) r.fst 0).toPV.toStr.length : Int)))
                                (ctl (leN ((c1.length + 1) * 8) 140737488355328)
                                  (lp E F 20 0 [] 0
                                    {
                                      vals :=
                                        [AV.str text0,
                                          AV.str
                                            (cutI
                                              (nth (RV.p PV.nilp) r.fst 0).toPV.toStr
                                              (nth (RV.p PV.nilp) r_1.fst 0).toPV.toInt
                                              (↑(nth (RV.p PV.nilp) r.fst 0).toPV.toStr.length : Int)),
                                          AV.sl 1 x18, AV.int IntKind.i64 x19,
                                          AV.int IntKind.i64 (IntKind.i64.wrap (x20 + 1))],
                                      blks :=
                                        [Blk.box
                                            [AV.int IntKind.i64 b0_0, AV.int IntKind.i64 b0_1,
                                              AV.int IntKind.i64 b0_2, AV.int IntKind.i64 b0_3,
                                              AV.int IntKind.i64 b0_4, AV.int IntKind.i64 b0_5,
                                              AV.int IntKind.i64 b0_6],
                                          Blk.arr 1
                                            (c1 ++
                                              [[PV.int IntKind.i64
                                                    (nth (RV.p PV.nilp) r_2.fst 0).toPV.toInt]])] })
                                  Option.none)
                                Option.none))
                          Option.none)
                      Option.none))
                  Option.none))
            Option.none)
        Option.none)
    (Option.some
      (Ex.exit 0,
        { vals := [AV.str text0],
          blks :=
            [Blk.box
                [AV.int IntKind.i64 b0_0, AV.int IntKind.i64 b0_1, AV.int IntKind.i64 b0_2,
                  AV.int IntKind.i64 b0_3, AV.int IntKind.i64 b0_4, AV.int IntKind.i64 b0_5,
                  AV.int IntKind.i64 b0_6],
              Blk.arr 1 c1] })) := (lp_unfold ..).trans (by kernel_rfl)

/-- dynpos/report.Read -/
theorem r20 (F : Fun) (text : List UInt8) : funK E F 20 [AV.str text] [] =
  bnd (F 35 [] []) fun (r : Res) =>
    ctl
      (okR [RSh.one (Sh.sl 1)] r.fst && okB [] r.snd)
      (ctl
        (Bool.true &&
          (Bool.true &&
            (leB (↑(nth (RV.p PV.nilp) r.fst 0).toPV.toEs.length : Int)
                9223372036854775807 &&
              leB ((↑(nth (RV.p PV.nilp) r.fst 0).toPV.toEs.length : Int) * 8)
                140737488355328)))
        (bnd (F 35 [] []) fun (r : Res) =>
          ctl
            (okR [RSh.one (Sh.sl 1)] r.fst && okB [] r.snd)
            (bnd
              (lp E F 20 0 [] 0
                {
                  vals :=
                    [AV.str text, AV.str text,
                      AV.sl 1 (nth (RV.p PV.nilp) r.fst 0).toPV.toEs,
                      AV.int IntKind.i64
                        (↑(nth (RV.p PV.nilp) r.fst 0).toPV.toEs.length : Int),
                      AV.int IntKind.i64 0],
                  blks :=
                    [Blk.box
                        [AV.int IntKind.i64 0, AV.int IntKind.i64 0, AV.int IntKind.i64 0,
                          AV.int IntKind.i64 0, AV.int IntKind.i64 0, AV.int IntKind.i64 0,
                          AV.int IntKind.i64 0],
                      Blk.arr 1 (reps [PV.int IntKind.i64 0] 0)] })
              fun (p : Ex × Pack) =>
              ctl (p.fst.eqb (Ex.exit 0))
                (ctl
                  (okPack
                    {
                      slots :=
                        [(0, Sum.inl Sh.str), (2, Sum.inr (Sum.inr (AV.t (TV.ptr 0 0)))),
                          (5, Sum.inr (Sum.inr (AV.t (TV.hsl 1))))],
                      blks :=
                        [Sum.inl
                            [Sum.inl (Sh.int IntKind.i64), Sum.inl (Sh.int IntKind.i64),
                              Sum.inl (Sh.int IntKind.i64), Sum.inl (Sh.int IntKind.i64),
                              Sum.inl (Sh.int IntKind.i64), Sum.inl (Sh.int IntKind.i64),
                              Sum.inl (Sh.int IntKind.i64)],
                          Sum.inr 1] }
                    p.snd)
                  (ctl
                    (Bool.true && ltB 3 (↑(nth (Blk.box []) p.snd.blks 1).toEs.length : Int))
                    (ctl
                      (okCs [Sh.int IntKind.i64]
                        (List.take 1 (List.drop 0 (nth [] (nth (Blk.box []) p.snd.blks 1).toEs 3))))
                      (ctl
                        (Bool.true && ltB 0 (↑(nth (Blk.box []) p.snd.blks 1).toEs.length : Int))
                        (ctl
                          (okCs [Sh.int IntKind.i64]
                            (List.take 1 (List.drop 0 (nth [] (nth (Blk.box []) p.snd.blks 1).toEs 0))))
                          (ctl
                            (Bool.true && ltB 1 (↑(nth (Blk.box []) p.snd.blks 1).toEs.length : Int))
                            (ctl
                              (okCs [Sh.int IntKind.i64]
                                (List.take 1 (List.drop 0 (nth [] (nth (Blk.box []) p.snd.blks 1).toEs 1))))
                              (ctl
                                (Bool.true && ltB 2 (↑(nth (Blk.box []) p.snd.blks 1).toEs.length : Int))
                                (ctl
                                  (okCs [Sh.int IntKind.i64]
                                    (List.take 1 (List.drop 0 (nth [] (nth (Blk.box []) p.snd.blks 1).toEs 2))))
                                  (ctl
                                    (Bool.true && ltB 4 (↑(nth (Blk.box []) p.snd.blks 1).toEs.length : Int))
                                    (ctl
                                      (okCs [Sh.int IntKind.i64]
                                        (List.take 1 (List.drop 0 (nth [] (nth (Blk.box []) p.snd.blks 1).toEs 4))))
                                      (ctl
                                        (Bool.true && ltB 5 (↑(nth (Blk.box []) p.snd.blks 1).toEs.length : Int))
                                        (ctl
                                          (okCs [Sh.int IntKind.i64]
                                            (List.take 1
                                              (List.drop 0 (nth [] (nth (Blk.box []) p.snd.blks 1).toEs 5))))
                                          (ctl
                                            (Bool.true && ltB 6 (↑(nth (Blk.box []) p.snd.blks 1).toEs.length : Int))
                                            (ctl
                                              (okCs [Sh.int IntKind.i64]
                                                (List.take 1
                                                  (List.drop 0 (nth [] (nth (Blk.box []) p.snd.blks 1).toEs 6))))
                                              (bnd
                                                (F 19
                                                  [AV.agg
                                                      [PV.int IntKind.i64
                                                          (nth PV.nilp
                                                              (nth [] (nth (Blk.box []) p.snd.blks 1).toEs 3)
                                                              0).toInt,
                                                        PV.int IntKind.i64
                                                          (nth PV.nilp
                                                              (nth [] (nth (Blk.box []) p.snd.blks 1).toEs 0)
                                                              0).toInt,
                                                        PV.int IntKind.i64
                                                          (nth PV.nilp
                                                              (nth [] (nth (Blk.box []) p.snd.blks 1).toEs 1)
                                                              0).toInt,
                                                        PV.int IntKind.i64
                                                          (nth PV.nilp
                                                              (nth [] (nth (Blk.box []) p.snd.blks 1).toEs 2)
                                                              0).toInt,
                                                        PV.int IntKind.i64
                                                          (nth PV.nilp
                                                              (nth [] (nth (Blk.box []) p.snd.blks 1).toEs 4)
                                                              0).toInt,
                                                        PV.int IntKind.i64
                                                          (nth PV.nilp
                                                              (nth [] (nth (Blk.box []) p.snd.blks 1).toEs 5)
                                                              0).toInt,
                                                        PV.int IntKind.i64
                                                          (nth PV.nilp
                                                              (nth [] (nth (Blk.box []) p.snd.blks 1).toEs 6)
                                                              0).toInt]]
                                                  [])
                                                fun (r : Res) =>
                                                ctl
                                                  (okR [RSh.one Sh.str] r.fst &&
                                                    okB [] r.snd)
                                                  (ctl
                                                    (!(nth (RV.p PV.nilp) r.fst 0).toPV.toStr ==
                                                        (nth AV.undef p.snd.vals 0).toPV.toStr)
                                                    (Option.some
                                                      ([RV.agg
                                                            [PV.int IntKind.i64 0, PV.int IntKind.i64 0,
                                                              PV.int IntKind.i64 0, PV.int IntKind.i64 0,
                                                              PV.int IntKind.i64 0, PV.int IntKind.i64 0,
                                                              PV.int IntKind.i64 0],
                                                          RV.p (PV.int IntKind.i64 74)],
                                                        []))
                                                    (Option.some
                                                      ([RV.agg
                                                            [PV.int IntKind.i64
                                                                (nth PV.nilp
                                                                    (nth [] (nth (Blk.box []) p.snd.blks 1).toEs 3)
                                                                    0).toInt,
                                                              PV.int IntKind.i64
                                                                (nth PV.nilp
                                                                    (nth [] (nth (Blk.box []) p.snd.blks 1).toEs 0)
                                                                    0).toInt,
                                                              PV.int IntKind.i64
                                                                (nth PV.nilp
                                                                    (nth [] (nth (Blk.box []) p.snd.blks 1).toEs 1)
                                                                    0).toInt,
                                                              PV.int IntKind.i64
                                                                (nth PV.nilp
                                                                    (nth [] (nth (Blk.box []) p.snd.blks 1).toEs 2)
                                                                    0).toInt,
                                                              PV.int IntKind.i64
                                                                (nth PV.nilp
                                                                    (nth [] (nth (Blk.box []) p.snd.blks 1).toEs 4)
                                                                    0).toInt,
                                                              PV.int IntKind.i64
                                                                (nth PV.nilp
                                                                    (nth [] (nth (Blk.box []) p.snd.blks 1).toEs 5)
                                                                    0).toInt,
                                                              PV.int IntKind.i64
                                                                (nth PV.nilp
                                                                    (nth [] (nth (Blk.box []) p.snd.blks 1).toEs 6)
                                                                    0).toInt],
                                                          RV.p (PV.int IntKind.i64 0)],
                                                        [])))
                                                  Option.none)
                                              Option.none)
                                            Option.none)
                                          Option.none)
                                        Option.none)
                                      Option.none)
                                    Option.none)
                                  Option.none)
                                Option.none)
                              Option.none)
                            Option.none)
                          Option.none)
                        Option.none)
                      Option.none)
                    Option.none)
                  Option.none)
                (ctl (p.fst.eqb Ex.ret)
                  (ctl
                    (okPack
                      { slots := [(2, Sum.inr (Sum.inr (AV.t (TV.ptr 0 0)))), (3, Sum.inl (Sh.int IntKind.i64))],
                        blks :=
                          [Sum.inl
                              [Sum.inl (Sh.int IntKind.i64), Sum.inl (Sh.int IntKind.i64),
                                Sum.inl (Sh.int IntKind.i64), Sum.inl (Sh.int IntKind.i64),
                                Sum.inl (Sh.int IntKind.i64), Sum.inl (Sh.int IntKind.i64),
                                Sum.inl (Sh.int IntKind.i64)]] }
                      p.snd)
                    (Option.some
                      ([RV.agg
                            [PV.int IntKind.i64
                                (nth AV.undef (nth (Blk.box []) p.snd.blks 0).toCs
                                      0).toPV.toInt,
                              PV.int IntKind.i64
                                (nth AV.undef (nth (Blk.box []) p.snd.blks 0).toCs
                                      1).toPV.toInt,
                              PV.int IntKind.i64
                                (nth AV.undef (nth (Blk.box []) p.snd.blks 0).toCs
                                      2).toPV.toInt,
                              PV.int IntKind.i64
                                (nth AV.undef (nth (Blk.box []) p.snd.blks 0).toCs
                                      3).toPV.toInt,
                              PV.int IntKind.i64
                                (nth AV.undef (nth (Blk.box []) p.snd.blks 0).toCs
                                      4).toPV.toInt,
                              PV.int IntKind.i64
                                (nth AV.undef (nth (Blk.box []) p.snd.blks 0).toCs
                                      5).toPV.toInt,
                              PV.int IntKind.i64
                                (nth AV.undef (nth (Blk.box []) p.snd.blks 0).toCs
                                      6).toPV.toInt],
                          RV.p
                            (PV.int IntKind.i64 (nth AV.undef p.snd.vals 0).toPV.toInt)],
                        []))
                    Option.none)
                  Option.none))
            Option.none)
        Option.none)
      Option.none := by kernel_rfl

/-- dynpos/dynposmake.Mod -/
theorem r21 (F : Fun) (x : Int) (n : Int) : funK E F 21 [AV.int IntKind.i64 x, AV.int IntKind.i64 n] [] =
  ctl (ltB n 1) (Option.some ([RV.p (PV.int IntKind.i64 0)], []))
    (ctl (Bool.true && neB n 0)
      (ctl (Bool.true && neB n 0)
        (Option.some ([RV.p (PV.int IntKind.i64 ((IntKind.i64.wrap (x.tmod n + n)).tmod n))], [])) Option.none)
      Option.none) := by kernel_rfl

/-- dynpos/dynposref36.Check, the loop of block 0 -/
theorem r22_0 (F : Fun) (sum3 : Int) (x11 : List (List PV)) (x12 : Int) (x13 : Int) (b0_0 : List (List PV)) (b0_1 : Int) : lp E F 22 0 [] 0
  {
    vals :=
      [AV.int IntKind.u64 sum3, AV.sl 3 x11, AV.int IntKind.i64 x12,
        AV.int IntKind.i64 x13],
    blks := [Blk.box [AV.sl 3 b0_0, AV.int IntKind.u64 b0_1]] } =
  ctl (ltB x13 x12)
    (getE x11 x13 fun (c : List PV) =>
      ctl
        (okCs [Sh.int IntKind.i64, Sh.int IntKind.i64, Sh.sl 1] c)
        (bnd
          (F 23
            [AV.agg
                [PV.int IntKind.i64 (nth PV.nilp c 0).toInt,
                  PV.int IntKind.i64 (nth PV.nilp c 1).toInt,
                  PV.sl 1 (nth PV.nilp c 2).toEs]]
            [])
          fun (r : Res) =>
          ctl
            (okR [RSh.one Sh.bool] r.fst && okB [] r.snd)
            (bnd
              (ctl (!!(nth (RV.p PV.nilp) r.fst 0).toPV.toBool)
                (ctl (ltB 0 x13)
                  (getE b0_0 (IntKind.i64.wrap (x13 - 1)) fun (c_1 : List PV) =>
                    ctl
                      (okCs
                        [Sh.int IntKind.i64, Sh.int IntKind.i64, Sh.sl 1] c_1)
                      (Option.some
                        (ltB (nth PV.nilp c 0).toInt
                          (nth PV.nilp c_1 0).toInt))
                      Option.none)
                  (Option.some Bool.false))
                (Option.some Bool.true))
              fun (v : Bool) =>
              ctl v (Option.some (Ex.ret, { vals := [AV.int IntKind.i64 72], blks := [] }))
                (bnd
                  (F 25
                    [AV.agg
                        [PV.int IntKind.i64 (nth PV.nilp c 0).toInt,
                          PV.int IntKind.i64 (nth PV.nilp c 1).toInt,
                          PV.sl 1 (nth PV.nilp c 2).toEs]]
                    [])
                  fun (r : Res) =>
                  ctl
                    (okR [RSh.one Sh.str] r.fst && okB [] r.snd)
                    (bnd
                      (F 24
                        [AV.int IntKind.u64 sum3,
                          AV.str (nth (RV.p PV.nilp) r.fst 0).toPV.toStr]
                        [])
                      fun (r : Res) =>
                      ctl
                        (okR [RSh.one (Sh.int IntKind.u64)] r.fst &&
                          okB [] r.snd)
                        (lp E F 22 0 [] 0
                          {
                            vals :=
                              [AV.int IntKind.u64
                                  (nth (RV.p PV.nilp) r.fst 0).toPV.toInt,
                                AV.sl 3 x11, AV.int IntKind.i64 x12,
                                AV.int IntKind.i64 (IntKind.i64.wrap (x13 + 1))],
                            blks := [Blk.box [AV.sl 3 b0_0, AV.int IntKind.u64 b0_1]] })
                        Option.none)
                    Option.none))
            Option.none)
        Option.none)
    (Option.some
      (Ex.exit 0,
        { vals := [AV.int IntKind.u64 sum3],
          blks := [Blk.box [AV.sl 3 b0_0, AV.int IntKind.u64 b0_1]] })) := (lp_unfold ..).trans (by kernel_rfl)

/-- dynpos/dynposref36.Check -/
theorem r22 (F : Fun) (b0 : List (List PV)) (b1 : Int) : funK E F 22 [AV.agg [PV.sl 3 b0, PV.int IntKind.u64 b1]] [] =
  ctl (ltB 200 (↑b0.length : Int))
    (Option.some ([RV.p (PV.int IntKind.i64 72)], []))
    (bnd
      (lp E F 22 0 [] 0
        {
          vals :=
            [AV.int IntKind.u64 14695981039346656037, AV.sl 3 b0, AV.int IntKind.i64 (↑b0.length : Int),
              AV.int IntKind.i64 0],
          blks := [Blk.box [AV.sl 3 b0, AV.int IntKind.u64 b1]] })
      fun (p : Ex × Pack) =>
      ctl (p.fst.eqb (Ex.exit 0))
        (ctl
          (okPack
            { slots := [(1, Sum.inr (Sum.inr (AV.t (TV.ptr 0 0)))), (3, Sum.inl (Sh.int IntKind.u64))],
              blks := [Sum.inl [Sum.inl (Sh.sl 3), Sum.inl (Sh.int IntKind.u64)]] }
            p.snd)
          (ctl
            ((nth AV.undef p.snd.vals 0).toPV.toInt !=
              (nth AV.undef (nth (Blk.box []) p.snd.blks 0).toCs 1).toPV.toInt)
            (Option.some ([RV.p (PV.int IntKind.i64 72)], []))
            (Option.some ([RV.p (PV.int IntKind.i64 0)], [])))
          Option.none)
        (ctl (p.fst.eqb Ex.ret)
          (ctl (okPack { slots := [(2, Sum.inl (Sh.int IntKind.i64))], blks := [] } p.snd)
            (Option.some
              ([RV.p
                    (PV.int IntKind.i64 (nth AV.undef p.snd.vals 0).toPV.toInt)],
                []))
            Option.none)
          Option.none)) := by kernel_rfl

/-- dynpos/dynposref36.Valid, the loop of block 0 -/
theorem r23_0 (F : Fun) (x29 : List (List PV)) (x30 : Int) (x31 : Int) : lp E F 23 0 [] 0
  { vals := [AV.sl 1 x29, AV.int IntKind.i64 x30, AV.int IntKind.i64 x31], blks := [] } =
  ctl (ltB x31 x30)
    (getE x29 x31 fun (c : List PV) =>
      ctl (okCs [Sh.int IntKind.i64] c)
        (bnd
          (ctl (!ltB (nth PV.nilp c 0).toInt (-1000000000))
            (Option.some (ltB 1000000000 (nth PV.nilp c 0).toInt)) (Option.some Bool.true))
          fun (v : Bool) =>
          ctl v (Option.some (Ex.ret, { vals := [AV.bool Bool.false], blks := [] }))
            (lp E F 23 0 [] 0
              {
                vals :=
                  [AV.sl 1 x29, AV.int IntKind.i64 x30, AV.int IntKind.i64 (IntKind.i64.wrap (x31 + 1))],
                blks := [] }))
        Option.none)
    (Option.some (Ex.exit 0, { vals := [], blks := [] })) := (lp_unfold ..).trans (by kernel_rfl)

/-- dynpos/dynposref36.Valid -/
theorem r23 (F : Fun) (e0 : Int) (e1 : Int) (e2 : List (List PV)) : funK E F 23 [AV.agg [PV.int IntKind.i64 e0, PV.int IntKind.i64 e1, PV.sl 1 e2]] [] =
  bnd (ctl (!ltB e0 0) (Option.some (ltB 2147483648 e0)) (Option.some Bool.true))
    fun (v : Bool) =>
    bnd
      (ctl (!v)
        (bnd (F 41 [AV.int IntKind.i64 e1] []) fun (r : Res) =>
          ctl
            (okR [RSh.one (Sh.int IntKind.i64)] r.fst && okB [] r.snd)
            (Option.some (ltB (nth (RV.p PV.nilp) r.fst 0).toPV.toInt 0))
            Option.none)
        (Option.some Bool.true))
      fun (v : Bool) =>
      bnd
        (ctl (!v)
          (bnd (F 41 [AV.int IntKind.i64 e1] []) fun (r : Res) =>
            ctl
              (okR [RSh.one (Sh.int IntKind.i64)] r.fst && okB [] r.snd)
              (Option.some ((↑e2.length : Int) != (nth (RV.p PV.nilp) r.fst 0).toPV.toInt)) Option.none)
          (Option.some Bool.true))
        fun (v : Bool) =>
        ctl v (Option.some ([RV.p (PV.bool Bool.false)], []))
          (bnd
            (lp E F 23 0 [] 0
              { vals := [AV.sl 1 e2, AV.int IntKind.i64 (↑e2.length : Int), AV.int IntKind.i64 0],
                blks := [] })
            fun (p : Ex × Pack) =>
            ctl (p.fst.eqb (Ex.exit 0))
              (Option.some ([RV.p (PV.bool Bool.true)], []))
              (ctl (p.fst.eqb Ex.ret)
                (ctl (okPack { slots := [(2, Sum.inl Sh.bool)], blks := [] } p.snd)
                  (Option.some
                    ([RV.p (PV.bool (nth AV.undef p.snd.vals 0).toPV.toBool)],
                      []))
                  Option.none)
                Option.none)) := by kernel_rfl

/-- dynpos/dynposref36.Sum -/
theorem r24 (F : Fun) (sum : Int) (s : List UInt8) : funK E F 24 [AV.int IntKind.u64 sum, AV.str s] [] =
  bnd
    (lp E F 24 0 [] 0
      { vals := [AV.int IntKind.u64 sum, AV.str s, AV.int IntKind.i64 0], blks := [] })
    fun (p : Ex × Pack) =>
    ctl (p.fst.eqb (Ex.exit 0))
      (ctl (okPack { slots := [(0, Sum.inl (Sh.int IntKind.u64))], blks := [] } p.snd)
        (Option.some
          ([RV.p (PV.int IntKind.u64 (nth AV.undef p.snd.vals 0).toPV.toInt)],
            []))
        Option.none)
      Option.none := by kernel_rfl

/-- dynpos/dynposref36.line, the loop of block 0 -/
theorem r25_0 (F : Fun) (s3 : List UInt8) (x15 : List (List PV)) (x16 : Int) (x17 : Int) : lp E F 25 0 [] 0
  {
    vals :=
      [AV.str s3, AV.sl 1 x15, AV.int IntKind.i64 x16,
        AV.int IntKind.i64 x17],
    blks := [] } =
  ctl (ltB x17 x16)
    (getE x15 x17 fun (c : List PV) =>
      ctl (okCs [Sh.int IntKind.i64] c)
        (bnd (F 36 [AV.int IntKind.i64 (nth PV.nilp c 0).toInt] [])
          fun (r : Res) =>
          ctl
            (okR [RSh.one Sh.str] r.fst && okB [] r.snd)
            (ctl
              (leN (1 + (nth (RV.p PV.nilp) r.fst 0).toPV.toStr.length)
                9223372036854775807)
              (ctl
                (leN
                  (s3.length + ([32] ++ (nth (RV.p PV.nilp) r.fst 0).toPV.toStr).length) 9223372036854775807)
                (lp E F 25 0 [] 0
                  {
                    vals :=
                      [AV.str
                          (s3 ++ ([32] ++ (nth (RV.p PV.nilp) r.fst 0).toPV.toStr)),
                        AV.sl 1 x15, AV.int IntKind.i64 x16,
                        AV.int IntKind.i64 (IntKind.i64.wrap (x17 + 1))],
                    blks := [] })
                Option.none)
              Option.none)
            Option.none)
        Option.none)
    (Option.some (Ex.exit 0, { vals := [AV.str s3], blks := [] })) := (lp_unfold ..).trans (by kernel_rfl)

/-- dynpos/dynposref36.line -/
theorem r25 (F : Fun) (e0 : Int) (e1 : Int) (e2 : List (List PV)) : funK E F 25 [AV.agg [PV.int IntKind.i64 e0, PV.int IntKind.i64 e1, PV.sl 1 e2]] [] =
  bnd (F 36 [AV.int IntKind.i64 e0] []) fun (r : Res) =>
    ctl
      (okR [RSh.one Sh.str] r.fst && okB [] r.snd)
      (ctl
        (leN ((nth (RV.p PV.nilp) r.fst 0).toPV.toStr.length + 1)
          9223372036854775807)
        (bnd (F 36 [AV.int IntKind.i64 e1] []) fun (r_1 : Res) =>
          ctl
            (okR [RSh.one Sh.str] r_1.fst && okB [] r_1.snd)
            (ctl
              (leN
                (((nth (RV.p PV.nilp) r.fst 0).toPV.toStr ++ [32]).length +
                  (nth (RV.p PV.nilp) r_1.fst 0).toPV.toStr.length)
                9223372036854775807)
              (bnd
                (lp E F 25 0 [] 0
                  {
                    vals :=
                      [AV.str
                          ((nth (RV.p PV.nilp) r.fst 0).toPV.toStr ++ [32] ++
                            (nth (RV.p PV.nilp) r_1.fst 0).toPV.toStr),
                        AV.sl 1 e2, AV.int IntKind.i64 (↑e2.length : Int), AV.int IntKind.i64 0],
                    blks := [] })
                fun (p : Ex × Pack) =>
                ctl (p.fst.eqb (Ex.exit 0))
                  (ctl (okPack { slots := [(3, Sum.inl Sh.str)], blks := [] } p.snd)
                    (ctl
                      (leN ((nth AV.undef p.snd.vals 0).toPV.toStr.length + 1) 9223372036854775807)
                      (Option.some
                        ([RV.p
                              (PV.str ((nth AV.undef p.snd.vals 0).toPV.toStr ++ [10]))],
                          []))
                      Option.none)
                    Option.none)
                  Option.none)
              Option.none)
            Option.none)
        Option.none)
      Option.none := by kernel_rfl

/-- dynpos/logbook.Spans, the loop of block 0 -/
theorem r26_0 (F : Fun) (kind1 : Int) (from2 : Int) (to3 : Int) (x56 : List (List PV)) (x57 : Int) (x58 : Int) (b0_0 : List (List PV)) (b0_1 : Int) (c1 : List (List PV)) : lp E F 26 0 [] 0
  {
    vals :=
      [AV.int IntKind.i64 kind1, AV.int IntKind.i64 from2, AV.int IntKind.i64 to3,
        AV.sl 3 x56, AV.int IntKind.i64 x57, AV.int IntKind.i64 x58],
    blks := [Blk.box [AV.sl 3 b0_0, AV.int IntKind.u64 b0_1], Blk.arr 3 c1] } =
  ctl (ltB x58 x57)
    (getE x56 x58 fun (c : List PV) =>
      ctl
        (okCs [Sh.int IntKind.i64, Sh.int IntKind.i64, Sh.sl 1] c)
        (bnd
          (ctl (!(nth PV.nilp c 1).toInt != kind1)
            (Option.some (leB (nth PV.nilp c 0).toInt from2)) (Option.some Bool.true))
          fun (v : Bool) =>
          bnd
            (ctl (!v) (Option.some (leB to3 (nth PV.nilp c 0).toInt))
              (Option.some Bool.true))
            fun (v : Bool) =>
            ctl v
              (lp E F 26 0 [] 0
                {
                  vals :=
                    [AV.int IntKind.i64 kind1, AV.int IntKind.i64 from2, AV.int IntKind.i64 to3,
                      AV.sl 3 x56, AV.int IntKind.i64 x57, AV.int IntKind.i64 (IntKind.i64.wrap (x58 + 1))],
                  blks :=
                    [Blk.box [AV.sl 3 b0_0, AV.int IntKind.u64 b0_1],
                      Blk.arr 3 c1] })
              (ctl
                (leB 0 (IntKind.i64.wrap ((↑c1.length : Int) - 1)) && ltB (IntKind.i64.wrap ((↑c1.length : Int) - 1)) (↑c1.length : Int))
                (bnd
                  (F 44
                    [AV.agg [PV.sl 3 b0_0, PV.int IntKind.u64 b0_1],
                      AV.int IntKind.i64 kind1,
                      AV.int IntKind.i64 (nth PV.nilp c 0).toInt]
                    [])
                  fun (r : Res) =>
                  ctl
                    (okR
                        [RSh.one (Sh.int IntKind.i64), RSh.one Sh.bool]
                        r.fst &&
                      okB [] r.snd)
                    (ctl
                      (okCs [Sh.int IntKind.i64]
                        (List.take 1 (List.drop 2 (nth [] c1 (IntKind.i64.wrap ((↑c1.length : Int) - 1)).toNat))))
                      (ctl
                        ((nth (RV.p PV.nilp) r.fst 0).toPV.toInt !=
                          (nth PV.nilp (nth [] c1 (IntKind.i64.wrap ((↑c1.length : Int) - 1)).toNat) 2).toInt)
                        (ctl
                          (leN
                            (((setEs c1 (IntKind.i64.wrap ((↑c1.length : Int) - 1)).toNat 1
                                    [PV.int IntKind.i64 (nth PV.nilp c 0).toInt]).length +
                                1) *
                              24)
                            140737488355328)
                          (lp E F 26 0 [] 0
                            {
                              vals :=
                                [AV.int IntKind.i64 kind1, AV.int IntKind.i64 from2, AV.int IntKind.i64 to3,
                                  AV.sl 3 x56, AV.int IntKind.i64 x57,
                                  AV.int IntKind.i64 (IntKind.i64.wrap (x58 + 1))],
                              blks :=
                                [Blk.box [AV.sl 3 b0_0, AV.int IntKind.u64 b0_1],
                                  Blk.arr 3
                                    (setEs c1 (IntKind.i64.wrap ((↑c1.length : Int) - 1)).toNat 1
                                        [PV.int IntKind.i64 (nth PV.nilp c 0).toInt] ++
                                      [[PV.int IntKind.i64 (nth PV.nilp c 0).toInt,
                                          PV.int IntKind.i64 to3,
                                          PV.int IntKind.i64
                                            (nth (RV.p PV.nilp) r.fst 0).toPV.toInt]])] })
                          Option.none)
                        (lp E F 26 0 [] 0
                          {
                            vals :=
                              [AV.int IntKind.i64 kind1, AV.int IntKind.i64 from2, AV.int IntKind.i64 to3,
                                AV.sl 3 x56, AV.int IntKind.i64 x57,
                                AV.int IntKind.i64 (IntKind.i64.wrap (x58 + 1))],
                            blks :=
                              [Blk.box [AV.sl 3 b0_0, AV.int IntKind.u64 b0_1],
                                Blk.arr 3 c1] }))
                      Option.none)
                    Option.none)
                Option.none))
        Option.none)
    (Option.some (Ex.exit 0, { vals := [], blks := [Blk.arr 3 c1] })) := (lp_unfold ..).trans (by kernel_rfl)

/-- dynpos/logbook.Spans -/
theorem r26 (F : Fun) (b0 : List (List PV)) (b1 : Int) (kind : Int) (zfrom : Int) (to : Int) : funK E F 26 [AV.agg [PV.sl 3 b0, PV.int IntKind.u64 b1], AV.int IntKind.i64 kind,
  AV.int IntKind.i64 zfrom, AV.int IntKind.i64 to] [] =
  bnd (F 42 [AV.agg [PV.sl 3 b0, PV.int IntKind.u64 b1]] [])
    fun (r : Res) =>
    ctl
      (okR [RSh.one (Sh.int IntKind.i64)] r.fst && okB [] r.snd)
      (ctl ((nth (RV.p PV.nilp) r.fst 0).toPV.toInt != 0)
        (Option.some
          ([RV.p (PV.sl 3 []),
              RV.p
                (PV.int IntKind.i64 (nth (RV.p PV.nilp) r.fst 0).toPV.toInt)],
            []))
        (bnd (F 43 [AV.int IntKind.i64 kind] []) fun (r : Res) =>
          ctl
            (okR [RSh.one Sh.bool] r.fst && okB [] r.snd)
            (bnd
              (ctl (!!(nth (RV.p PV.nilp) r.fst 0).toPV.toBool)
                (Option.some (ltB zfrom 0)) (Option.some Bool.true))
              fun (v : Bool) =>
              bnd (ctl (!v) (Option.some (ltB to zfrom)) (Option.some Bool.true)) fun (v : Bool) =>
                bnd (ctl (!v) (Option.some (ltB 2147483648 to)) (Option.some Bool.true)) fun (v : Bool) =>
                  ctl v
                    (Option.some
                      ([RV.p (PV.sl 3 []), RV.p (PV.int IntKind.i64 1)], []))
                    (ctl (zfrom == to)
                      (Option.some
                        ([RV.p (PV.sl 3 []), RV.p (PV.int IntKind.i64 0)], []))
                      (bnd
                        (F 44
                          [AV.agg [PV.sl 3 b0, PV.int IntKind.u64 b1],
                            AV.int IntKind.i64 kind, AV.int IntKind.i64 zfrom]
                          [])
                        fun (r : Res) =>
                        ctl
                          (okR
                              [RSh.one (Sh.int IntKind.i64), RSh.one Sh.bool]
                              r.fst &&
                            okB [] r.snd)
                          (bnd
                            (lp E F 26 0 [] 0
                              {
                                vals :=
                                  [AV.int IntKind.i64 kind, AV.int IntKind.i64 zfrom,
                                    AV.int IntKind.i64 to, AV.sl 3 b0, AV.int IntKind.i64 (↑b0.length : Int),
                                    AV.int IntKind.i64 0],
                                blks :=
                                  [Blk.box [AV.sl 3 b0, AV.int IntKind.u64 b1],
                                    Blk.arr 3
                                      [[PV.int IntKind.i64 zfrom, PV.int IntKind.i64 to,
                                          PV.int IntKind.i64
                                            (nth (RV.p PV.nilp) r.fst 0).toPV.toInt]]] })
                            fun (p : Ex × Pack) =>
                            ctl (p.fst.eqb (Ex.exit 0))
                              (ctl
                                (okPack { slots := [(13, Sum.inr (Sum.inr (AV.t (TV.hsl 0))))], blks := [Sum.inr 3] }
                                  p.snd)
                                (Option.some
                                  ([RV.p
                                        (PV.sl 3 (nth (Blk.box []) p.snd.blks 0).toEs),
                                      RV.p (PV.int IntKind.i64 0)],
                                    []))
                                Option.none)
                              Option.none)
                          Option.none)))
            Option.none))
      Option.none := by kernel_rfl

/-- dynpos/report.worst, the loop of block 0 -/
theorem r27_0 (F : Fun) (level3 : Int) (b0_0 : Int) (b0_1 : Int) (b0_2 : Int) (b0_3 : Int) : lp E F 27 0 [] 0
  { vals := [AV.int IntKind.i64 level3],
    blks :=
      [Blk.box
          [AV.int IntKind.i64 b0_0, AV.int IntKind.i64 b0_1, AV.int IntKind.i64 b0_2,
            AV.int IntKind.i64 b0_3]] } =
  ctl (leB level3 3)
    (ctl (level3 == 0)
      (ctl (ltB 0 b0_0)
        (Option.some (Ex.ret, { vals := [AV.int IntKind.i64 level3], blks := [] }))
        (lp E F 27 0 [] 0
          { vals := [AV.int IntKind.i64 (IntKind.i64.wrap (level3 + 1))],
            blks :=
              [Blk.box
                  [AV.int IntKind.i64 b0_0, AV.int IntKind.i64 b0_1, AV.int IntKind.i64 b0_2,
                    AV.int IntKind.i64 b0_3]] }))
      (ctl (level3 == 1)
        (ctl (ltB 0 b0_1)
          (Option.some (Ex.ret, { vals := [AV.int IntKind.i64 level3], blks := [] }))
          (lp E F 27 0 [] 0
            { vals := [AV.int IntKind.i64 (IntKind.i64.wrap (level3 + 1))],
              blks :=
                [Blk.box
                    [AV.int IntKind.i64 b0_0, AV.int IntKind.i64 b0_1, AV.int IntKind.i64 b0_2,
                      AV.int IntKind.i64 b0_3]] }))
        (ctl (level3 == 2)
          (ctl (ltB 0 b0_2)
            (Option.some (Ex.ret, { vals := [AV.int IntKind.i64 level3], blks := [] }))
            (lp E F 27 0 [] 0
              { vals := [AV.int IntKind.i64 (IntKind.i64.wrap (level3 + 1))],
                blks :=
                  [Blk.box
                      [AV.int IntKind.i64 b0_0, AV.int IntKind.i64 b0_1, AV.int IntKind.i64 b0_2,
                        AV.int IntKind.i64 b0_3]] }))
          (ctl (level3 == 3)
            (ctl (ltB 0 b0_3)
              (Option.some (Ex.ret, { vals := [AV.int IntKind.i64 level3], blks := [] }))
              (lp E F 27 0 [] 0
                { vals := [AV.int IntKind.i64 (IntKind.i64.wrap (level3 + 1))],
                  blks :=
                    [Blk.box
                        [AV.int IntKind.i64 b0_0, AV.int IntKind.i64 b0_1, AV.int IntKind.i64 b0_2,
                          AV.int IntKind.i64 b0_3]] }))
            Option.none))))
    (Option.some (Ex.exit 0, { vals := [], blks := [] })) := (lp_unfold ..).trans (by kernel_rfl)

/-- dynpos/report.worst -/
theorem r27 (F : Fun) (l0 : Int) (l1 : Int) (l2 : Int) (l3 : Int) : funK E F 27 [AV.agg
    [PV.int IntKind.i64 l0, PV.int IntKind.i64 l1, PV.int IntKind.i64 l2,
      PV.int IntKind.i64 l3]] [] =
  bnd
    (lp E F 27 0 [] 0
      { vals := [AV.int IntKind.i64 1],
        blks :=
          [Blk.box
              [AV.int IntKind.i64 l0, AV.int IntKind.i64 l1, AV.int IntKind.i64 l2,
                AV.int IntKind.i64 l3]] })
    fun (p : Ex × Pack) =>
    ctl (p.fst.eqb (Ex.exit 0))
      (Option.some ([RV.p (PV.int IntKind.i64 0)], []))
      (ctl (p.fst.eqb Ex.ret)
        (ctl (okPack { slots := [(2, Sum.inl (Sh.int IntKind.i64))], blks := [] } p.snd)
          (Option.some
            ([RV.p
                  (PV.int IntKind.i64 (nth AV.undef p.snd.vals 0).toPV.toInt)],
              []))
          Option.none)
        Option.none) := by kernel_rfl

/-- (*dynpos/dynposmake.Src).Pick -/
theorem r29 (F : Fun) (s0 : List (List PV)) (s1 : Int) (l : List (List PV)) : funK E F 29 [AV.t (TV.ptr 0 0), AV.sl 1 l] [Blk.box [AV.sl 1 s0, AV.int IntKind.i64 s1]] =
  bnd
    (F 11 [AV.t (TV.ptr 0 0), AV.int IntKind.i64 (↑l.length : Int)]
      [Blk.box [AV.sl 1 s0, AV.int IntKind.i64 s1]])
    fun (r : Res) =>
    ctl
      (okR [RSh.one (Sh.int IntKind.i64)] r.fst &&
        okB [Sum.inl [Sh.sl 1, Sh.int IntKind.i64]] r.snd)
      (getE l (nth (RV.p PV.nilp) r.fst 0).toPV.toInt
        fun (c : List PV) =>
        ctl (okCs [Sh.int IntKind.i64] c)
          (Option.some
            ([RV.p (PV.int IntKind.i64 (nth PV.nilp c 0).toInt)],
              [Blk.box
                  [AV.sl 1
                      (nth PV.nilp
                          (List.map AV.toPV (nth (Blk.box []) r.snd 0).toCs) 0).toEs,
                    AV.int IntKind.i64
                      (nth PV.nilp
                          (List.map AV.toPV (nth (Blk.box []) r.snd 0).toCs) 1).toInt]]))
          Option.none)
      Option.none := by kernel_rfl

/-- dynpos/report.possible -/
theorem r30 (F : Fun) (n : Int) : funK E F 30 [AV.int IntKind.i64 n] [] =
  bnd (ctl (leB 0 n) (Option.some (leB n 2147483648)) (Option.some Bool.false))
    fun (v : Bool) => Option.some ([RV.p (PV.bool v)], []) := by kernel_rfl

/-- dynpos/report.half -/
theorem r31 (F : Fun) (n : Int) (d : Int) : funK E F 31 [AV.int IntKind.i64 n, AV.int IntKind.i64 d] [] =
  bnd (F 45 [AV.int IntKind.i64 n, AV.int IntKind.i64 d] [])
    fun (r : Res) =>
    ctl
      (okR
          [RSh.one (Sh.int IntKind.i64), RSh.one (Sh.int IntKind.i64)]
          r.fst &&
        okB [] r.snd)
      (ctl ((nth (RV.p PV.nilp) r.fst 1).toPV.toInt == 0)
        (Option.some
          ([RV.p
                (PV.int IntKind.i64 (nth (RV.p PV.nilp) r.fst 0).toPV.toInt)],
            []))
        (ctl (Bool.true && neB d 0)
          (ctl (Bool.true && neB d 0)
            (ctl (leB (IntKind.i64.wrap (d - n.tmod d)) (n.tmod d))
              (Option.some ([RV.p (PV.int IntKind.i64 (IntKind.i64.wrap (IntKind.i64.wrap (n.tdiv d) + 1)))], []))
              (Option.some ([RV.p (PV.int IntKind.i64 (IntKind.i64.wrap (n.tdiv d)))], [])))
            Option.none)
          Option.none))
      Option.none := by kernel_rfl

/-- (*dynpos/dynposmake.Src).Entry, the loop of block 0 -/
theorem r32_0 (F : Fun) (k6 : Int) (b0_0 : List (List PV)) (b0_1 : Int) (b1_0 : Int) (b1_1 : Int) (b1_2 : List (List PV)) (b2_0 : Int) (b2_1 : Int) (c3 : List (List PV)) : lp E F 32 1 [] 0
  { vals := [AV.int IntKind.i64 k6],
    blks :=
      [Blk.box [AV.sl 1 b0_0, AV.int IntKind.i64 b0_1],
        Blk.box
          [AV.int IntKind.i64 b1_0, AV.int IntKind.i64 b1_1, AV.sl 1 b1_2],
        Blk.box
          [AV.int IntKind.i64 b2_0, AV.int IntKind.i64 b2_1,
            AV.t (TV.hsl 3)],
        Blk.arr 1 c3] } =
  ctl (ltB 0 k6)
    (bnd
      (F 29
        [AV.t (TV.ptr 0 0),
          AV.sl 1
            [[PV.int IntKind.i64 0], [PV.int IntKind.i64 1], [PV.int IntKind.i64 2],
              [PV.int IntKind.i64 3], [PV.int IntKind.i64 (-5)], [PV.int IntKind.i64 1000000000],
              [PV.int IntKind.i64 (-1000000000)]]]
        [Blk.box [AV.sl 1 b0_0, AV.int IntKind.i64 b0_1]])
      fun (r : Res) =>
      ctl
        (okR [RSh.one (Sh.int IntKind.i64)] r.fst &&
          okB [Sum.inl [Sh.sl 1, Sh.int IntKind.i64]] r.snd)
        (ctl (leN ((c3.length + 1) * 8) 140737488355328)
          (lp E F 32 1 [] 0
            { vals := [AV.int IntKind.i64 (IntKind.i64.wrap (k6 - 1))],
              blks :=
                [Blk.box
                    [AV.sl 1
                        (nth PV.nilp
                            (List.map AV.toPV (nth (Blk.box []) r.snd 0).toCs) 0).toEs,
                      AV.int IntKind.i64
                        (nth PV.nilp
                            (List.map AV.toPV (nth (Blk.box []) r.snd 0).toCs) 1).toInt],
                  Blk.box
                    [AV.int IntKind.i64 b1_0, AV.int IntKind.i64 b1_1, AV.sl 1 b1_2],
                  Blk.box
                    [AV.int IntKind.i64 b2_0, AV.int IntKind.i64 b2_1,
                      AV.t (TV.hsl 3)],
                  Blk.arr 1
                    (c3 ++
                      [[PV.int IntKind.i64
                            (nth (RV.p PV.nilp) r.fst 0).toPV.toInt]])] })
          Option.none)
        Option.none)
    (Option.some
      (Ex.exit 0,
        { vals := [],
          blks :=
            [Blk.box [AV.sl 1 b0_0, AV.int IntKind.i64 b0_1],
              Blk.box
                [AV.int IntKind.i64 b1_0, AV.int IntKind.i64 b1_1, AV.sl 1 b1_2],
              Blk.box
                [AV.int IntKind.i64 b2_0, AV.int IntKind.i64 b2_1,
                  AV.t (TV.hsl 3)],
              Blk.arr 1 c3] })) := (lp_unfold ..).trans (by kernel_rfl)

/-- (*dynpos/dynposmake.Src).Entry -/
theorem r32 (F : Fun) (s0 : List (List PV)) (s1 : Int) (time : Int) : funK E F 32 [AV.t (TV.ptr 0 0), AV.int IntKind.i64 time] [Blk.box [AV.sl 1 s0, AV.int IntKind.i64 s1]] =
  bnd
    (F 29
      [AV.t (TV.ptr 0 0),
        AV.sl 1
          [[PV.int IntKind.i64 1], [PV.int IntKind.i64 1], [PV.int IntKind.i64 2],
            [PV.int IntKind.i64 3], [PV.int IntKind.i64 4], [PV.int IntKind.i64 5],
            [PV.int IntKind.i64 6], [PV.int IntKind.i64 7], [PV.int IntKind.i64 8]]]
      [Blk.box [AV.sl 1 s0, AV.int IntKind.i64 s1]])
    fun (r : Res) =>
    ctl
      (okR [RSh.one (Sh.int IntKind.i64)] r.fst &&
        okB [Sum.inl [Sh.sl 1, Sh.int IntKind.i64]] r.snd)
      (ctl
        (leB 0 (nth (RV.p PV.nilp) r.fst 0).toPV.toInt &&
          ltB (nth (RV.p PV.nilp) r.fst 0).toPV.toInt 9)
        (ctl
          (okCs [Sh.int IntKind.i64]
            (List.take 1
              (List.drop 0
                (nth []
                  [[PV.int IntKind.i64 0], [PV.int IntKind.i64 1], [PV.int IntKind.i64 1],
                    [PV.int IntKind.i64 1], [PV.int IntKind.i64 2], [PV.int IntKind.i64 2],
                    [PV.int IntKind.i64 4], [PV.int IntKind.i64 2], [PV.int IntKind.i64 3]]
                  (nth (RV.p PV.nilp) r.fst 0).toPV.toInt.toNat))))
          (bnd
            (lp E F 32 1 [] 0
              {
                vals :=
                  [AV.int IntKind.i64
                      (nth PV.nilp
                          (nth []
                            [[PV.int IntKind.i64 0], [PV.int IntKind.i64 1], [PV.int IntKind.i64 1],
                              [PV.int IntKind.i64 1], [PV.int IntKind.i64 2], [PV.int IntKind.i64 2],
                              [PV.int IntKind.i64 4], [PV.int IntKind.i64 2], [PV.int IntKind.i64 3]]
                            (nth (RV.p PV.nilp) r.fst 0).toPV.toInt.toNat)
                          0).toInt],
                blks :=
                  [Blk.box
                      [AV.sl 1
                          (nth PV.nilp
                              (List.map AV.toPV (nth (Blk.box []) r.snd 0).toCs) 0).toEs,
                        AV.int IntKind.i64
                          (nth PV.nilp
                              (List.map AV.toPV (nth (Blk.box []) r.snd 0).toCs) 1).toInt],
                    Blk.box
                      [AV.int IntKind.i64 0, AV.int IntKind.i64 0, AV.sl 1 []],
                    Blk.box
                      [AV.int IntKind.i64 time,
                        AV.int IntKind.i64
                          (nth (RV.p PV.nilp) r.fst 0).toPV.toInt,
                        AV.t (TV.hsl 3)],
                    Blk.arr 1 []] })
            fun (p : Ex × Pack) =>
            ctl (p.fst.eqb (Ex.exit 0))
              (ctl
                (okPack
                  {
                    slots :=
                      [(4, Sum.inr (Sum.inr (AV.t (TV.ptr 1 0)))),
                        (5, Sum.inr (Sum.inr (AV.t (TV.ptr 2 0))))],
                    blks :=
                      [Sum.inl [Sum.inl (Sh.sl 1), Sum.inl (Sh.int IntKind.i64)],
                        Sum.inl
                          [Sum.inl (Sh.int IntKind.i64), Sum.inl (Sh.int IntKind.i64), Sum.inl (Sh.sl 1)],
                        Sum.inl
                          [Sum.inl (Sh.int IntKind.i64), Sum.inl (Sh.int IntKind.i64),
                            Sum.inr (AV.t (TV.hsl 3))],
                        Sum.inr 1] }
                  p.snd)
                (Option.some
                  ([RV.agg
                        [PV.int IntKind.i64
                            (nth AV.undef (nth (Blk.box []) p.snd.blks 2).toCs
                                  0).toPV.toInt,
                          PV.int IntKind.i64
                            (nth AV.undef (nth (Blk.box []) p.snd.blks 2).toCs
                                  1).toPV.toInt,
                          PV.sl 1 (nth (Blk.box []) p.snd.blks 3).toEs]],
                    [Blk.box
                        [AV.sl 1
                            (nth AV.undef (nth (Blk.box []) p.snd.blks 0).toCs
                                  0).toPV.toEs,
                          AV.int IntKind.i64
                            (nth AV.undef (nth (Blk.box []) p.snd.blks 0).toCs
                                  1).toPV.toInt]]))
                Option.none)
              Option.none)
          Option.none)
        Option.none)
      Option.none := by kernel_rfl

/-- dynpos/report.numbers -/
theorem r33 (F : Fun) (r0 : Int) (r1 : Int) (r2 : Int) (r3 : Int) (r4 : Int) (r5 : Int) (r6 : Int) : funK E F 33 [AV.agg
    [PV.int IntKind.i64 r0, PV.int IntKind.i64 r1, PV.int IntKind.i64 r2,
      PV.int IntKind.i64 r3, PV.int IntKind.i64 r4, PV.int IntKind.i64 r5,
      PV.int IntKind.i64 r6]] [] =
  Option.some
    ([RV.p
          (PV.sl 1
            [[PV.int IntKind.i64 r1], [PV.int IntKind.i64 r2], [PV.int IntKind.i64 r3],
              [PV.int IntKind.i64 r0], [PV.int IntKind.i64 r4], [PV.int IntKind.i64 r5],
              [PV.int IntKind.i64 r6]])],
      []) := by kernel_rfl

/-- dynpos/report.names -/
theorem r35 (F : Fun) : funK E F 35 [] [] =
  Option.some
    ([RV.p
          (PV.sl 1
            [[PV.str [114, 101, 100, 32]], [PV.str [32, 121, 101, 108, 108, 111, 119, 32]],
              [PV.str [32, 103, 114, 101, 101, 110, 32]], [PV.str [32, 110, 111, 110, 101, 32]],
              [PV.str [10, 119, 111, 114, 115, 116, 32]], [PV.str [10, 98, 114, 111, 107, 101, 110, 32]],
              [PV.str [10, 115, 104, 111, 114, 116, 32]]])],
      []) := by kernel_rfl



/-- strings.CutPrefix -/
theorem r38 (F : Fun) (s : List UInt8) (zprefix : List UInt8) : funK E F 38 [AV.str s, AV.str zprefix] [] =
  Option.some
    ([RV.p
          (PV.str (if (List.brecOn.go (motive := fun (x : List UInt8) => List UInt8 → Bool) zprefix List.isPrefixOf._f).1 s = Bool.true then List.drop zprefix.length s else s)),
        RV.p (PV.bool ((List.brecOn.go (motive := fun (x : List UInt8) => List UInt8 → Bool) zprefix List.isPrefixOf._f).1 s))],
      []) := by kernel_rfl

/-- dynpos/dynposref36.words -/
theorem r41 (F : Fun) (kind : Int) : funK E F 41 [AV.int IntKind.i64 kind] [] =
  bnd (ctl (!ltB kind 1) (Option.some (ltB 8 kind)) (Option.some Bool.true))
    fun (v : Bool) =>
    ctl v (Option.some ([RV.p (PV.int IntKind.i64 (-1))], []))
      (getE
        [[PV.int IntKind.i64 (-1)], [PV.int IntKind.i64 1], [PV.int IntKind.i64 1],
          [PV.int IntKind.i64 1], [PV.int IntKind.i64 2], [PV.int IntKind.i64 2],
          [PV.int IntKind.i64 4], [PV.int IntKind.i64 2], [PV.int IntKind.i64 3]]
        kind fun (c : List PV) =>
        ctl (okCs [Sh.int IntKind.i64] c)
          (Option.some
            ([RV.p (PV.int IntKind.i64 (nth PV.nilp c 0).toInt)], []))
          Option.none) := by kernel_rfl

/-- dynpos/logbook.Check, the loop of block 0 -/
theorem r42_0 (F : Fun) (sum3 : Int) (x12 : List (List PV)) (x13 : Int) (x14 : Int) (b0_0 : List (List PV)) (b0_1 : Int) : lp E F 42 0 [] 0
  {
    vals :=
      [AV.int IntKind.u64 sum3, AV.sl 3 x12, AV.int IntKind.i64 x13,
        AV.int IntKind.i64 x14],
    blks := [Blk.box [AV.sl 3 b0_0, AV.int IntKind.u64 b0_1]] } =
  ctl (ltB x14 x13)
    (getE x12 x14 fun (c : List PV) =>
      ctl
        (okCs [Sh.int IntKind.i64, Sh.int IntKind.i64, Sh.sl 1] c)
        (bnd
          (F 56
            [AV.agg
                [PV.int IntKind.i64 (nth PV.nilp c 0).toInt,
                  PV.int IntKind.i64 (nth PV.nilp c 1).toInt,
                  PV.sl 1 (nth PV.nilp c 2).toEs]]
            [])
          fun (r : Res) =>
          ctl
            (okR [RSh.one Sh.bool] r.fst && okB [] r.snd)
            (bnd
              (ctl (!!(nth (RV.p PV.nilp) r.fst 0).toPV.toBool)
                (ctl (ltB 0 x14)
                  (getE b0_0 (IntKind.i64.wrap (x14 - 1)) fun (c_1 : List PV) =>
                    ctl
                      (okCs
                        [Sh.int IntKind.i64, Sh.int IntKind.i64, Sh.sl 1] c_1)
                      (Option.some
                        (ltB (nth PV.nilp c 0).toInt
                          (nth PV.nilp c_1 0).toInt))
                      Option.none)
                  (Option.some Bool.false))
                (Option.some Bool.true))
              fun (v : Bool) =>
              ctl v (Option.some (Ex.ret, { vals := [AV.int IntKind.i64 72], blks := [] }))
                (bnd
                  (F 58
                    [AV.agg
                        [PV.int IntKind.i64 (nth PV.nilp c 0).toInt,
                          PV.int IntKind.i64 (nth PV.nilp c 1).toInt,
                          PV.sl 1 (nth PV.nilp c 2).toEs]]
                    [])
                  fun (r : Res) =>
                  ctl
                    (okR [RSh.one Sh.str] r.fst && okB [] r.snd)
                    (bnd
                      (F 57
                        [AV.int IntKind.u64 sum3,
                          AV.str (nth (RV.p PV.nilp) r.fst 0).toPV.toStr]
                        [])
                      fun (r : Res) =>
                      ctl
                        (okR [RSh.one (Sh.int IntKind.u64)] r.fst &&
                          okB [] r.snd)
                        (lp E F 42 0 [] 0
                          {
                            vals :=
                              [AV.int IntKind.u64
                                  (nth (RV.p PV.nilp) r.fst 0).toPV.toInt,
                                AV.sl 3 x12, AV.int IntKind.i64 x13,
                                AV.int IntKind.i64 (IntKind.i64.wrap (x14 + 1))],
                            blks := [Blk.box [AV.sl 3 b0_0, AV.int IntKind.u64 b0_1]] })
                        Option.none)
                    Option.none))
            Option.none)
        Option.none)
    (Option.some
      (Ex.exit 0,
        { vals := [AV.int IntKind.u64 sum3],
          blks := [Blk.box [AV.sl 3 b0_0, AV.int IntKind.u64 b0_1]] })) := (lp_unfold ..).trans (by kernel_rfl)

/-- dynpos/logbook.Check -/
theorem r42 (F : Fun) (b0 : List (List PV)) (b1 : Int) : funK E F 42 [AV.agg [PV.sl 3 b0, PV.int IntKind.u64 b1]] [] =
  ctl (ltB 200 (↑b0.length : Int))
    (Option.some ([RV.p (PV.int IntKind.i64 72)], []))
    (bnd (F 55 [] []) fun (r : Res) =>
      ctl
        (okR [RSh.one (Sh.int IntKind.u64)] r.fst && okB [] r.snd)
        (bnd
          (lp E F 42 0 [] 0
            {
              vals :=
                [AV.int IntKind.u64 (nth (RV.p PV.nilp) r.fst 0).toPV.toInt,
                  AV.sl 3 b0, AV.int IntKind.i64 (↑b0.length : Int), AV.int IntKind.i64 0],
              blks := [Blk.box [AV.sl 3 b0, AV.int IntKind.u64 b1]] })
          fun (p : Ex × Pack) =>
          ctl (p.fst.eqb (Ex.exit 0))
            (ctl
              (okPack
                { slots := [(1, Sum.inr (Sum.inr (AV.t (TV.ptr 0 0)))), (3, Sum.inl (Sh.int IntKind.u64))],
                  blks := [Sum.inl [Sum.inl (Sh.sl 3), Sum.inl (Sh.int IntKind.u64)]] }
                p.snd)
              (ctl
                ((nth AV.undef p.snd.vals 0).toPV.toInt !=
                  (nth AV.undef (nth (Blk.box []) p.snd.blks 0).toCs
                        1).toPV.toInt)
                (Option.some ([RV.p (PV.int IntKind.i64 72)], []))
                (Option.some ([RV.p (PV.int IntKind.i64 0)], [])))
              Option.none)
            (ctl (p.fst.eqb Ex.ret)
              (ctl (okPack { slots := [(2, Sum.inl (Sh.int IntKind.i64))], blks := [] } p.snd)
                (Option.some
                  ([RV.p
                        (PV.int IntKind.i64 (nth AV.undef p.snd.vals 0).toPV.toInt)],
                    []))
                Option.none)
              Option.none))
        Option.none) := by kernel_rfl

/-- dynpos/logbook.state -/
theorem r43 (F : Fun) (kind : Int) : funK E F 43 [AV.int IntKind.i64 kind] [] =
  bnd (F 59 [AV.int IntKind.i64 kind] []) fun (r : Res) =>
    ctl
      (okR [RSh.one (Sh.int IntKind.i64)] r.fst && okB [] r.snd)
      (Option.some
        ([RV.p
              (PV.bool ((nth (RV.p PV.nilp) r.fst 0).toPV.toInt == 1))],
          []))
      Option.none := by kernel_rfl



/-- dynpos/arith.Half -/
theorem r45 (F : Fun) (n : Int) (d : Int) : funK E F 45 [AV.int IntKind.i64 n, AV.int IntKind.i64 d] [] =
  bnd (F 61 [AV.int IntKind.i64 n, AV.int IntKind.i64 d, AV.fn 62 []] [])
    fun (r : Res) =>
    ctl
      (okR
          [RSh.one (Sh.int IntKind.i64), RSh.one (Sh.int IntKind.i64)]
          r.fst &&
        okB [] r.snd)
      (Option.some
        ([RV.p
              (PV.int IntKind.i64 (nth (RV.p PV.nilp) r.fst 0).toPV.toInt),
            RV.p
              (PV.int IntKind.i64 (nth (RV.p PV.nilp) r.fst 1).toPV.toInt)],
          []))
      Option.none := by kernel_rfl

/-- dynpos/logbook.Begin -/
theorem r55 (F : Fun) : funK E F 55 [] [] =
  Option.some ([RV.p (PV.int IntKind.u64 14695981039346656037)], []) := by kernel_rfl

/-- dynpos/logbook.Valid -/
theorem r56 (F : Fun) (e0 : Int) (e1 : Int) (e2 : List (List PV)) : funK E F 56 [AV.agg [PV.int IntKind.i64 e0, PV.int IntKind.i64 e1, PV.sl 1 e2]] [] =
  bnd (ctl (leB 0 e0) (Option.some (leB e0 2147483648)) (Option.some Bool.false))
    fun (v : Bool) =>
    bnd
      (ctl v
        (bnd (F 59 [AV.int IntKind.i64 e1] []) fun (r : Res) =>
          ctl
            (okR [RSh.one (Sh.int IntKind.i64)] r.fst && okB [] r.snd)
            (Option.some ((↑e2.length : Int) == (nth (RV.p PV.nilp) r.fst 0).toPV.toInt)) Option.none)
        (Option.some Bool.false))
      fun (v : Bool) =>
      bnd
        (ctl v
          (bnd (F 76 [AV.int IntKind.i64 1000000000, AV.sl 1 e2] [])
            fun (r : Res) =>
            ctl
              (okR [RSh.one Sh.bool] r.fst && okB [] r.snd)
              (Option.some (nth (RV.p PV.nilp) r.fst 0).toPV.toBool) Option.none)
          (Option.some Bool.false))
        fun (v : Bool) => Option.some ([RV.p (PV.bool v)], []) := by kernel_rfl

/-- dynpos/logbook.Sum -/
theorem r57 (F : Fun) (sum : Int) (text : List UInt8) : funK E F 57 [AV.int IntKind.u64 sum, AV.str text] [] =
  bnd
    (lp E F 57 0 [] 0
      {
        vals :=
          [AV.int IntKind.u64 sum, AV.sl 1 (byteEs text),
            AV.int IntKind.i64 (↑(byteEs text).length : Int), AV.int IntKind.i64 0],
        blks := [] })
    fun (p : Ex × Pack) =>
    ctl (p.fst.eqb (Ex.exit 0))
      (ctl (okPack { slots := [(0, Sum.inl (Sh.int IntKind.u64))], blks := [] } p.snd)
        (Option.some
          ([RV.p (PV.int IntKind.u64 (nth AV.undef p.snd.vals 0).toPV.toInt)],
            []))
        Option.none)
      Option.none := by kernel_rfl

/-- dynpos/logbook.line, the loop of block 0 -/
theorem r58_0 (F : Fun) (x14 : List (List PV)) (x15 : Int) (x16 : Int) (c0 : List (List PV)) : lp E F 58 0 [] 0
  { vals := [AV.sl 1 x14, AV.int IntKind.i64 x15, AV.int IntKind.i64 x16],
    blks := [Blk.arr 1 c0] } =
  ctl (ltB x16 x15)
    (getE x14 x16 fun (c : List PV) =>
      ctl (okCs [Sh.int IntKind.i64] c)
        (bnd (F 36 [AV.int IntKind.i64 (nth PV.nilp c 0).toInt] [])
          fun (r : Res) =>
          ctl
            (okR [RSh.one Sh.str] r.fst && okB [] r.snd)
            (ctl (leN ((c0.length + 1) * 16) 140737488355328)
              (lp E F 58 0 [] 0
                {
                  vals :=
                    [AV.sl 1 x14, AV.int IntKind.i64 x15, AV.int IntKind.i64 (IntKind.i64.wrap (x16 + 1))],
                  blks :=
                    [Blk.arr 1
                        (c0 ++
                          [[PV.str (nth (RV.p PV.nilp) r.fst 0).toPV.toStr]])] })
              Option.none)
            Option.none)
        Option.none)
    (Option.some (Ex.exit 0, { vals := [], blks := [Blk.arr 1 c0] })) := (lp_unfold ..).trans (by kernel_rfl)

/-- dynpos/logbook.line -/
theorem r58 (F : Fun) (e0 : Int) (e1 : Int) (e2 : List (List PV)) : funK E F 58 [AV.agg [PV.int IntKind.i64 e0, PV.int IntKind.i64 e1, PV.sl 1 e2]] [] =
  bnd (F 36 [AV.int IntKind.i64 e0] []) fun (r : Res) =>
    ctl
      (okR [RSh.one Sh.str] r.fst && okB [] r.snd)
      (bnd (F 36 [AV.int IntKind.i64 e1] []) fun (r_1 : Res) =>
        ctl
          (okR [RSh.one Sh.str] r_1.fst && okB [] r_1.snd)
          (bnd
            (lp E F 58 0 [] 0
              { vals := [AV.sl 1 e2, AV.int IntKind.i64 (↑e2.length : Int), AV.int IntKind.i64 0],
                blks :=
                  [Blk.arr 1
                      [[PV.str (nth (RV.p PV.nilp) r.fst 0).toPV.toStr],
                        [PV.str (nth (RV.p PV.nilp) r_1.fst 0).toPV.toStr]]] })
            fun (p : Ex × Pack) =>
            ctl (p.fst.eqb (Ex.exit 0))
              (ctl
                (okPack { slots := [(3, Sum.inr (Sum.inr (AV.t (TV.hsl 0))))], blks := [Sum.inr 1] } p.snd)
                (bnd
                  (F 77
                    [AV.sl 1 (nth (Blk.box []) p.snd.blks 0).toEs, AV.str [32]]
                    [])
                  fun (r : Res) =>
                  ctl
                    (okR [RSh.one Sh.str] r.fst && okB [] r.snd &&
                      (noslR r.fst && noslB r.snd))
                    (ctl
                      (leN ((nth (RV.p PV.nilp) r.fst 0).toPV.toStr.length + 1)
                        9223372036854775807)
                      (Option.some
                        ([RV.p
                              (PV.str
                                ((nth (RV.p PV.nilp) r.fst 0).toPV.toStr ++ [10]))],
                          []))
                      Option.none)
                    Option.none)
                Option.none)
              Option.none)
          Option.none)
      Option.none := by kernel_rfl

/-- dynpos/logbook.words -/
theorem r59 (F : Fun) (kind : Int) : funK E F 59 [AV.int IntKind.i64 kind] [] =
  ctl (kind == 1)
    (ctl (kind == 1) (Option.some ([RV.p (PV.int IntKind.i64 1)], []))
      (ctl (kind == 4)
        (ctl (kind == 4) (Option.some ([RV.p (PV.int IntKind.i64 2)], []))
          (ctl (kind == 6) (Option.some ([RV.p (PV.int IntKind.i64 4)], []))
            (ctl (kind == 8) (Option.some ([RV.p (PV.int IntKind.i64 3)], []))
              (Option.some ([RV.p (PV.int IntKind.i64 (-1))], [])))))
        (ctl (kind == 5)
          (ctl (kind == 5) (Option.some ([RV.p (PV.int IntKind.i64 2)], []))
            (ctl (kind == 6) (Option.some ([RV.p (PV.int IntKind.i64 4)], []))
              (ctl (kind == 8) (Option.some ([RV.p (PV.int IntKind.i64 3)], []))
                (Option.some ([RV.p (PV.int IntKind.i64 (-1))], [])))))
          (ctl (kind == 7) (Option.some ([RV.p (PV.int IntKind.i64 2)], []))
            (ctl (kind == 6) (Option.some ([RV.p (PV.int IntKind.i64 4)], []))
              (ctl (kind == 8) (Option.some ([RV.p (PV.int IntKind.i64 3)], []))
                (Option.some ([RV.p (PV.int IntKind.i64 (-1))], []))))))))
    (ctl (kind == 2)
      (ctl (kind == 2) (Option.some ([RV.p (PV.int IntKind.i64 1)], []))
        (ctl (kind == 4)
          (ctl (kind == 4) (Option.some ([RV.p (PV.int IntKind.i64 2)], []))
            (ctl (kind == 6) (Option.some ([RV.p (PV.int IntKind.i64 4)], []))
              (ctl (kind == 8) (Option.some ([RV.p (PV.int IntKind.i64 3)], []))
                (Option.some ([RV.p (PV.int IntKind.i64 (-1))], [])))))
          (ctl (kind == 5)
            (ctl (kind == 5) (Option.some ([RV.p (PV.int IntKind.i64 2)], []))
              (ctl (kind == 6) (Option.some ([RV.p (PV.int IntKind.i64 4)], []))
                (ctl (kind == 8) (Option.some ([RV.p (PV.int IntKind.i64 3)], []))
                  (Option.some ([RV.p (PV.int IntKind.i64 (-1))], [])))))
            (ctl (kind == 7) (Option.some ([RV.p (PV.int IntKind.i64 2)], []))
              (ctl (kind == 6) (Option.some ([RV.p (PV.int IntKind.i64 4)], []))
                (ctl (kind == 8) (Option.some ([RV.p (PV.int IntKind.i64 3)], []))
                  (Option.some ([RV.p (PV.int IntKind.i64 (-1))], []))))))))
      (ctl (kind == 3) (Option.some ([RV.p (PV.int IntKind.i64 1)], []))
        (ctl (kind == 4)
          (ctl (kind == 4) (Option.some ([RV.p (PV.int IntKind.i64 2)], []))
            (ctl (kind == 6) (Option.some ([RV.p (PV.int IntKind.i64 4)], []))
              (ctl (kind == 8) (Option.some ([RV.p (PV.int IntKind.i64 3)], []))
                (Option.some ([RV.p (PV.int IntKind.i64 (-1))], [])))))
          (ctl (kind == 5)
            (ctl (kind == 5) (Option.some ([RV.p (PV.int IntKind.i64 2)], []))
              (ctl (kind == 6) (Option.some ([RV.p (PV.int IntKind.i64 4)], []))
                (ctl (kind == 8) (Option.some ([RV.p (PV.int IntKind.i64 3)], []))
                  (Option.some ([RV.p (PV.int IntKind.i64 (-1))], [])))))
            (ctl (kind == 7) (Option.some ([RV.p (PV.int IntKind.i64 2)], []))
              (ctl (kind == 6) (Option.some ([RV.p (PV.int IntKind.i64 4)], []))
                (ctl (kind == 8) (Option.some ([RV.p (PV.int IntKind.i64 3)], []))
                  (Option.some ([RV.p (PV.int IntKind.i64 (-1))], []))))))))) := by kernel_rfl

/-- dynpos/arith.divide -/
theorem r61a (F : Fun) (n : Int) (d : Int) : funK E F 61 [AV.int IntKind.i64 n, AV.int IntKind.i64 d, AV.fn 62 []] [] =
  bnd
    (ctl (!ltB n (-1000000000000000000)) (Option.some (ltB 1000000000000000000 n)) (Option.some Bool.true))
    fun (v : Bool) =>
    bnd (ctl (!v) (Option.some (ltB d 1)) (Option.some Bool.true)) fun (v : Bool) =>
      bnd (ctl (!v) (Option.some (ltB 1000000000 d)) (Option.some Bool.true)) fun (v : Bool) =>
        ctl v
          (Option.some
            ([RV.p (PV.int IntKind.i64 0), RV.p (PV.int IntKind.i64 1)],
              []))
          (bnd (F 62 [AV.int IntKind.i64 n, AV.int IntKind.i64 d] [])
            fun (r : Res) =>
            ctl
              (okR [RSh.one (Sh.int IntKind.i64)] r.fst && okB [] r.snd)
              (Option.some
                ([RV.p
                      (PV.int IntKind.i64
                        (nth (RV.p PV.nilp) r.fst 0).toPV.toInt),
                    RV.p (PV.int IntKind.i64 0)],
                  []))
              Option.none) := by kernel_rfl

/-- dynpos/arith.Half$1 -/
theorem r62 (F : Fun) (n : Int) (d : Int) : funK E F 62 [AV.int IntKind.i64 n, AV.int IntKind.i64 d] [] =
  bnd
    (F 63 [AV.int IntKind.i64 (IntKind.i64.wrap (IntKind.i64.wrap (2 * n) + d)), AV.int IntKind.i64 (IntKind.i64.wrap (2 * d))] [])
    fun (r : Res) =>
    ctl
      (okR [RSh.one (Sh.int IntKind.i64)] r.fst && okB [] r.snd)
      (Option.some
        ([RV.p
              (PV.int IntKind.i64 (nth (RV.p PV.nilp) r.fst 0).toPV.toInt)],
          []))
      Option.none := by kernel_rfl

/-- dynpos/arith.floor -/
theorem r63 (F : Fun) (n : Int) (d : Int) : funK E F 63 [AV.int IntKind.i64 n, AV.int IntKind.i64 d] [] =
  ctl (Bool.true && neB d 0)
    (ctl (Bool.true && neB d 0)
      (ctl (ltB (n.tmod d) 0)
        (Option.some ([RV.p (PV.int IntKind.i64 (IntKind.i64.wrap (IntKind.i64.wrap (n.tdiv d) - 1)))], []))
        (Option.some ([RV.p (PV.int IntKind.i64 (IntKind.i64.wrap (n.tdiv d)))], [])))
      Option.none)
    Option.none := by kernel_rfl

/-- dynpos/quotient.Within, the loop of block 0 -/
theorem r76_0 (F : Fun) (most0 : Int) (x7 : List (List PV)) (x8 : Int) (x9 : Int) : lp E F 76 0 [] 0
  {
    vals :=
      [AV.int IntKind.i64 most0, AV.sl 1 x7, AV.int IntKind.i64 x8,
        AV.int IntKind.i64 x9],
    blks := [] } =
  ctl (ltB x9 x8)
    (getE x7 x9 fun (c : List PV) =>
      ctl (okCs [Sh.int IntKind.i64] c)
        (bnd
          (ctl (!ltB (nth PV.nilp c 0).toInt (IntKind.i64.wrap (0 - most0)))
            (Option.some (ltB most0 (nth PV.nilp c 0).toInt)) (Option.some Bool.true))
          fun (v : Bool) =>
          ctl v (Option.some (Ex.ret, { vals := [AV.bool Bool.false], blks := [] }))
            (lp E F 76 0 [] 0
              {
                vals :=
                  [AV.int IntKind.i64 most0, AV.sl 1 x7, AV.int IntKind.i64 x8,
                    AV.int IntKind.i64 (IntKind.i64.wrap (x9 + 1))],
                blks := [] }))
        Option.none)
    (Option.some (Ex.exit 0, { vals := [], blks := [] })) := (lp_unfold ..).trans (by kernel_rfl)

/-- dynpos/quotient.Within -/
theorem r76 (F : Fun) (most : Int) (l : List (List PV)) : funK E F 76 [AV.int IntKind.i64 most, AV.sl 1 l] [] =
  bnd
    (lp E F 76 0 [] 0
      {
        vals :=
          [AV.int IntKind.i64 most, AV.sl 1 l, AV.int IntKind.i64 (↑l.length : Int),
            AV.int IntKind.i64 0],
        blks := [] })
    fun (p : Ex × Pack) =>
    ctl (p.fst.eqb (Ex.exit 0)) (Option.some ([RV.p (PV.bool Bool.true)], []))
      (ctl (p.fst.eqb Ex.ret)
        (ctl (okPack { slots := [(4, Sum.inl Sh.bool)], blks := [] } p.snd)
          (Option.some
            ([RV.p (PV.bool (nth AV.undef p.snd.vals 0).toPV.toBool)], []))
          Option.none)
        Option.none) := by kernel_rfl



/-- dynpos/dynposlaw40.sane -/
theorem r8 (F : Fun) : funK E F 8 [] [] =
  bnd (F 10 [] []) fun (r : Res) =>
    ctl
      (okR [RSh.agg [Sh.sl 3, Sh.int IntKind.u64]] r.fst &&
        okB [] r.snd)
      (bnd
        (F 12
          [AV.agg
              [PV.sl 3
                  (nth PV.nilp
                      (nth (RV.p PV.nilp) r.fst 0).toCs 0).toEs,
                PV.int IntKind.u64
                  (nth PV.nilp
                      (nth (RV.p PV.nilp) r.fst 0).toCs 1).toInt],
            AV.agg
              [PV.int IntKind.i64 0, PV.int IntKind.i64 1,
                PV.sl 1 [[PV.int IntKind.i64 1]]]]
          [])
        fun (r : Res) =>
        ctl
          (okR
              [RSh.agg [Sh.sl 3, Sh.int IntKind.u64],
                RSh.one (Sh.int IntKind.i64)]
              r.fst &&
            okB [] r.snd)
          (bnd
            (F 12
              [AV.agg
                  [PV.sl 3
                      (nth PV.nilp
                          (nth (RV.p PV.nilp) r.fst 0).toCs 0).toEs,
                    PV.int IntKind.u64
                      (nth PV.nilp
                          (nth (RV.p PV.nilp) r.fst 0).toCs 1).toInt],
                AV.agg
                  [PV.int IntKind.i64 4, PV.int IntKind.i64 1,
                    PV.sl 1 [[PV.int IntKind.i64 3]]]]
              [])
            fun (r : Res) =>
            ctl
              (okR
                  [RSh.agg [Sh.sl 3, Sh.int IntKind.u64],
                    RSh.one (Sh.int IntKind.i64)]
                  r.fst &&
                okB [] r.snd)
              (bnd
                (F 14
                  [AV.agg
                      [PV.sl 3
                          (nth PV.nilp
                              (nth (RV.p PV.nilp) r.fst 0).toCs 0).toEs,
                        PV.int IntKind.u64
                          (nth PV.nilp
                              (nth (RV.p PV.nilp) r.fst 0).toCs 1).toInt],
                    AV.int IntKind.i64 0, AV.int IntKind.i64 10]
                  [])
                fun (r : Res) =>
                ctl
                  (okR
                      [RSh.agg
                          [Sh.int IntKind.i64, Sh.int IntKind.i64, Sh.int IntKind.i64,
                            Sh.int IntKind.i64, Sh.int IntKind.i64, Sh.int IntKind.i64,
                            Sh.int IntKind.i64],
                        RSh.one (Sh.int IntKind.i64)]
                      r.fst &&
                    okB [] r.snd)
                  (ctl ((nth (RV.p PV.nilp) r.fst 1).toPV.toInt == 0)
                    (bnd
                      (ctl
                        ((nth PV.nilp
                                  (nth (RV.p PV.nilp) r.fst 0).toCs 0).toInt ==
                              0 &&
                            ((nth PV.nilp
                                    (nth (RV.p PV.nilp) r.fst 0).toCs 1).toInt ==
                                4 &&
                              ((nth PV.nilp
                                      (nth (RV.p PV.nilp) r.fst 0).toCs 2).toInt ==
                                  0 &&
                                ((nth PV.nilp
                                        (nth (RV.p PV.nilp) r.fst 0).toCs 3).toInt ==
                                    6 &&
                                  Bool.true))) &&
                          ((nth PV.nilp
                                  (nth (RV.p PV.nilp) r.fst 0).toCs 4).toInt ==
                              1 &&
                            ((nth PV.nilp
                                    (nth (RV.p PV.nilp) r.fst 0).toCs 5).toInt ==
                                0 &&
                              ((nth PV.nilp
                                      (nth (RV.p PV.nilp) r.fst 0).toCs 6).toInt ==
                                  0 &&
                                Bool.true))))
                        (bnd
                          (F 16
                            [AV.agg
                                [PV.int IntKind.i64
                                    (nth PV.nilp
                                        (nth (RV.p PV.nilp) r.fst 0).toCs 0).toInt,
                                  PV.int IntKind.i64
                                    (nth PV.nilp
                                        (nth (RV.p PV.nilp) r.fst 0).toCs 1).toInt,
                                  PV.int IntKind.i64
                                    (nth PV.nilp
                                        (nth (RV.p PV.nilp) r.fst 0).toCs 2).toInt,
                                  PV.int IntKind.i64
                                    (nth PV.nilp
                                        (nth (RV.p PV.nilp) r.fst 0).toCs 3).toInt,
                                  PV.int IntKind.i64
                                    (nth PV.nilp
                                        (nth (RV.p PV.nilp) r.fst 0).toCs 4).toInt,
                                  PV.int IntKind.i64
                                    (nth PV.nilp
                                        (nth (RV.p PV.nilp) r.fst 0).toCs 5).toInt,
                                  PV.int IntKind.i64
                                    (nth PV.nilp
                                        (nth (RV.p PV.nilp) r.fst 0).toCs 6).toInt],
                              AV.int IntKind.i64 3]
                            [])
                          fun (r : Res) =>
                          ctl
                            (okR [RSh.one (Sh.int IntKind.i64)] r.fst &&
                              okB [] r.snd)
                            (Option.some ((nth (RV.p PV.nilp) r.fst 0).toPV.toInt == 60)) Option.none)
                        (Option.some Bool.false))
                      fun (v : Bool) =>
                      bnd
                        (ctl v
                          (bnd
                            (F 19
                              [AV.agg
                                  [PV.int IntKind.i64
                                      (nth PV.nilp
                                          (nth (RV.p PV.nilp) r.fst 0).toCs 0).toInt,
                                    PV.int IntKind.i64
                                      (nth PV.nilp
                                          (nth (RV.p PV.nilp) r.fst 0).toCs 1).toInt,
                                    PV.int IntKind.i64
                                      (nth PV.nilp
                                          (nth (RV.p PV.nilp) r.fst 0).toCs 2).toInt,
                                    PV.int IntKind.i64
                                      (nth PV.nilp
                                          (nth (RV.p PV.nilp) r.fst 0).toCs 3).toInt,
                                    PV.int IntKind.i64
                                      (nth PV.nilp
                                          (nth (RV.p PV.nilp) r.fst 0).toCs 4).toInt,
                                    PV.int IntKind.i64
                                      (nth PV.nilp
                                          (nth (RV.p PV.nilp) r.fst 0).toCs 5).toInt,
                                    PV.int IntKind.i64
                                      (nth PV.nilp
                                          (nth (RV.p PV.nilp) r.fst 0).toCs 6).toInt]]
                              [])
                            fun (r : Res) =>
                            ctl
                              (okR [RSh.one Sh.str] r.fst && okB [] r.snd)
                              (Option.some
                                ((nth (RV.p PV.nilp) r.fst 0).toPV.toStr ==
                                  [114, 101, 100, 32, 52, 32, 121, 101, 108, 108, 111, 119, 32, 48, 32, 103, 114, 101, 101, 110, 32, 54, 32, 110, 111, 110, 101, 32, 48, 10, 119, 111, 114, 115, 116, 32, 49, 10, 98, 114,
                                    111, 107, 101, 110, 32, 48, 10, 115, 104, 111, 114, 116, 32, 48, 10]))
                              Option.none)
                          (Option.some Bool.false))
                        fun (v : Bool) => Option.some ([RV.p (PV.bool v)], []))
                    (Option.some ([RV.p (PV.bool Bool.false)], [])))
                  Option.none)
              Option.none)
          Option.none)
      Option.none := by kernel_rfl

end Go.Proofs.YtgdeaamklodkkaaDoor.Vm
