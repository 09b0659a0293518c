/- The raw theorems, by program: what each function and each loop comes to. -/
import Derived.Test.YtldeniedmbgnaaaEnv
import Derived.Test.YtldeniedmbgnaaaVm34
import Derived.KernelRfl
namespace Go.Proofs.Ytldeniedmbgnaaa.Vm
open Go
set_option maxRecDepth 100000
set_option linter.unusedVariables false

/-- dynpos/dynposmake.New -/
theorem r8 (F : Fun) (l : List (List PV)) : funK E F 8 [AV.sl 1 l] [] =
  ctl
    (Bool.true &&
      (leB 0 (minI 600 (↑l.length : Int)) && leB (minI 600 (↑l.length : Int)) (↑l.length : Int)))
    (Option.some
      ([RV.ownp
            [PV.sl 1 (cutI l 0 (minI 600 (↑l.length : Int))), PV.int IntKind.i64 0]],
        []))
    Option.none := by kernel_rfl

/-- (*dynpos/dynposmake.Src).Thruster, the loop of block 0 -/
theorem r9_0 (F : Fun) (k4 : Int) (b0_0 : List (List PV)) (b0_1 : Int) (b1_0 : Int) (b1_1 : Int) (b1_2 : Int) (b1_3 : Int) (b1_4 : Int) (b1_5 : List (List PV)) (b2_0 : Int) (b2_1 : Int) (b2_2 : Int) (b2_3 : Int) (b2_4 : Int) (c3 : List (List PV)) : lp E F 9 1 [] 0
  { vals := [AV.int IntKind.i64 k4],
    blks :=
      [Blk.box [AV.sl 1 b0_0, AV.int IntKind.i64 b0_1],
        Blk.box
          [AV.int IntKind.i64 b1_0, AV.int IntKind.i64 b1_1, AV.int IntKind.i64 b1_2,
            AV.int IntKind.i64 b1_3, AV.int IntKind.i64 b1_4, AV.sl 2 b1_5],
        Blk.box
          [AV.int IntKind.i64 b2_0, AV.int IntKind.i64 b2_1, AV.int IntKind.i64 b2_2,
            AV.int IntKind.i64 b2_3, AV.int IntKind.i64 b2_4, AV.t (TV.hsl 3)],
        Blk.arr 2 c3] } =
  ctl (ltB 0 k4)
    (bnd
      (F 26 [AV.t (TV.ptr 0 0)]
        [Blk.box [AV.sl 1 b0_0, AV.int IntKind.i64 b0_1]])
      fun (r : Res) =>
      ctl
        (okR [RSh.agg [Sh.int IntKind.i64, Sh.int IntKind.i64]] r.fst &&
          okB [Sum.inl [Sh.sl 1, Sh.int IntKind.i64]] r.snd)
        (ctl (leN ((c3.length + 1) * 16) 140737488355328)
          (lp E F 9 1 [] 0
            { vals := [AV.int IntKind.i64 (IntKind.i64.wrap (k4 - 1))],
              blks :=
                [Blk.box
                    [AV.sl 1
                        (nth PV.nilp
                            (List.map AV.toPV (nth (Blk.box []) r.snd 0).toCs) 0).toEs,
                      AV.int IntKind.i64
                        (nth PV.nilp
                            (List.map AV.toPV (nth (Blk.box []) r.snd 0).toCs) 1).toInt],
                  Blk.box
                    [AV.int IntKind.i64 b1_0, AV.int IntKind.i64 b1_1, AV.int IntKind.i64 b1_2,
                      AV.int IntKind.i64 b1_3, AV.int IntKind.i64 b1_4, AV.sl 2 b1_5],
                  Blk.box
                    [AV.int IntKind.i64 b2_0, AV.int IntKind.i64 b2_1, AV.int IntKind.i64 b2_2,
                      AV.int IntKind.i64 b2_3, AV.int IntKind.i64 b2_4, AV.t (TV.hsl 3)],
                  Blk.arr 2
                    (c3 ++
                      [[PV.int IntKind.i64
                            (nth PV.nilp
                                (nth (RV.p PV.nilp) r.fst 0).toCs 0).toInt,
                          PV.int IntKind.i64
                            (nth PV.nilp
                                (nth (RV.p PV.nilp) r.fst 0).toCs 1).toInt]])] })
          Option.none)
        Option.none)
    (Option.some
      (Ex.exit 0,
        { vals := [],
          blks :=
            [Blk.box [AV.sl 1 b0_0, AV.int IntKind.i64 b0_1],
              Blk.box
                [AV.int IntKind.i64 b1_0, AV.int IntKind.i64 b1_1, AV.int IntKind.i64 b1_2,
                  AV.int IntKind.i64 b1_3, AV.int IntKind.i64 b1_4, AV.sl 2 b1_5],
              Blk.box
                [AV.int IntKind.i64 b2_0, AV.int IntKind.i64 b2_1, AV.int IntKind.i64 b2_2,
                  AV.int IntKind.i64 b2_3, AV.int IntKind.i64 b2_4, AV.t (TV.hsl 3)],
              Blk.arr 2 c3] })) := (lp_unfold ..).trans (by kernel_rfl)

/-- (*dynpos/dynposmake.Src).Thruster -/
theorem r9 (F : Fun) (s0 : List (List PV)) (s1 : Int) : funK E F 9 [AV.t (TV.ptr 0 0)] [Blk.box [AV.sl 1 s0, AV.int IntKind.i64 s1]] =
  bnd
    (F 11 [AV.t (TV.ptr 0 0), AV.int IntKind.i64 1, AV.int IntKind.i64 3]
      [Blk.box [AV.sl 1 s0, AV.int IntKind.i64 s1]])
    fun (r : Res) =>
    ctl
      (okR [RSh.one (Sh.int IntKind.i64)] r.fst &&
        okB [Sum.inl [Sh.sl 1, Sh.int IntKind.i64]] r.snd)
      (bnd
        (F 25 [AV.t (TV.ptr 0 0), AV.int IntKind.i64 2]
          [Blk.box
              [AV.sl 1
                  (nth PV.nilp
                      (List.map AV.toPV (nth (Blk.box []) r.snd 0).toCs) 0).toEs,
                AV.int IntKind.i64
                  (nth PV.nilp
                      (List.map AV.toPV (nth (Blk.box []) r.snd 0).toCs) 1).toInt]])
        fun (r_1 : Res) =>
        ctl
          (okR [RSh.one (Sh.int IntKind.i64)] r_1.fst &&
            okB [Sum.inl [Sh.sl 1, Sh.int IntKind.i64]] r_1.snd)
          (bnd
            (F 27
              [AV.t (TV.ptr 0 0),
                AV.sl 1
                  [[PV.int IntKind.i64 0], [PV.int IntKind.i64 1], [PV.int IntKind.i64 7],
                    [PV.int IntKind.i64 20], [PV.int IntKind.i64 40]]]
              [Blk.box
                  [AV.sl 1
                      (nth PV.nilp
                          (List.map AV.toPV (nth (Blk.box []) r_1.snd 0).toCs) 0).toEs,
                    AV.int IntKind.i64
                      (nth PV.nilp
                          (List.map AV.toPV (nth (Blk.box []) r_1.snd 0).toCs) 1).toInt]])
            fun (r_2 : Res) =>
            ctl
              (okR [RSh.one (Sh.int IntKind.i64)] r_2.fst &&
                okB [Sum.inl [Sh.sl 1, Sh.int IntKind.i64]] r_2.snd)
              (bnd
                (F 27
                  [AV.t (TV.ptr 0 0),
                    AV.sl 1
                      [[PV.int IntKind.i64 0], [PV.int IntKind.i64 1], [PV.int IntKind.i64 5],
                        [PV.int IntKind.i64 50]]]
                  [Blk.box
                      [AV.sl 1
                          (nth PV.nilp
                              (List.map AV.toPV (nth (Blk.box []) r_2.snd 0).toCs) 0).toEs,
                        AV.int IntKind.i64
                          (nth PV.nilp
                              (List.map AV.toPV (nth (Blk.box []) r_2.snd 0).toCs) 1).toInt]])
                fun (r_3 : Res) =>
                ctl
                  (okR [RSh.one (Sh.int IntKind.i64)] r_3.fst &&
                    okB [Sum.inl [Sh.sl 1, Sh.int IntKind.i64]] r_3.snd)
                  (bnd
                    (F 27
                      [AV.t (TV.ptr 0 0),
                        AV.sl 1
                          [[PV.int IntKind.i64 1], [PV.int IntKind.i64 2], [PV.int IntKind.i64 3],
                            [PV.int IntKind.i64 100]]]
                      [Blk.box
                          [AV.sl 1
                              (nth PV.nilp
                                  (List.map AV.toPV (nth (Blk.box []) r_3.snd 0).toCs) 0).toEs,
                            AV.int IntKind.i64
                              (nth PV.nilp
                                  (List.map AV.toPV (nth (Blk.box []) r_3.snd 0).toCs) 1).toInt]])
                    fun (r_4 : Res) =>
                    ctl
                      (okR [RSh.one (Sh.int IntKind.i64)] r_4.fst &&
                        okB [Sum.inl [Sh.sl 1, Sh.int IntKind.i64]] r_4.snd)
                      (bnd
                        (F 25 [AV.t (TV.ptr 0 0), AV.int IntKind.i64 3]
                          [Blk.box
                              [AV.sl 1
                                  (nth PV.nilp
                                      (List.map AV.toPV (nth (Blk.box []) r_4.snd 0).toCs) 0).toEs,
                                AV.int IntKind.i64
                                  (nth PV.nilp
                                      (List.map AV.toPV (nth (Blk.box []) r_4.snd 0).toCs) 1).toInt]])
                        fun (r_5 : Res) =>
                        ctl
                          (okR [RSh.one (Sh.int IntKind.i64)] r_5.fst &&
                            okB [Sum.inl [Sh.sl 1, Sh.int IntKind.i64]] r_5.snd)
                          (bnd
                            (lp E F 9 1 [] 0
                              {
                                vals :=
                                  [AV.int IntKind.i64
                                      (nth (RV.p PV.nilp) r_5.fst 0).toPV.toInt],
                                blks :=
                                  [Blk.box
                                      [AV.sl 1
                                          (nth PV.nilp
                                              (List.map AV.toPV (nth (Blk.box []) r_5.snd 0).toCs) 0).toEs,
                                        AV.int IntKind.i64
                                          (nth PV.nilp
                                              (List.map AV.toPV (nth (Blk.box []) r_5.snd 0).toCs) 1).toInt],
                                    Blk.box
                                      [AV.int IntKind.i64 0, AV.int IntKind.i64 0, AV.int IntKind.i64 0,
                                        AV.int IntKind.i64 0, AV.int IntKind.i64 0, AV.sl 2 []],
                                    Blk.box
                                      [AV.int IntKind.i64
                                          (nth (RV.p PV.nilp) r.fst 0).toPV.toInt,
                                        AV.int IntKind.i64
                                          (nth (RV.p PV.nilp) r_1.fst 0).toPV.toInt,
                                        AV.int IntKind.i64
                                          (nth (RV.p PV.nilp) r_2.fst 0).toPV.toInt,
                                        AV.int IntKind.i64
                                          (nth (RV.p PV.nilp) r_3.fst 0).toPV.toInt,
                                        AV.int IntKind.i64
                                          (nth (RV.p PV.nilp) r_4.fst 0).toPV.toInt,
                                        AV.t (TV.hsl 3)],
                                    Blk.arr 2 []] })
                            fun (p : Ex × Pack) =>
                            ctl (p.fst.eqb (Ex.exit 0))
                              (ctl
                                (okPack
                                  {
                                    slots :=
                                      [(2, Sum.inr (Sum.inr (AV.t (TV.ptr 1 0)))),
                                        (3, Sum.inr (Sum.inr (AV.t (TV.ptr 2 0))))],
                                    blks :=
                                      [Sum.inl [Sum.inl (Sh.sl 1), Sum.inl (Sh.int IntKind.i64)],
                                        Sum.inl
                                          [Sum.inl (Sh.int IntKind.i64), Sum.inl (Sh.int IntKind.i64),
                                            Sum.inl (Sh.int IntKind.i64), Sum.inl (Sh.int IntKind.i64),
                                            Sum.inl (Sh.int IntKind.i64), Sum.inl (Sh.sl 2)],
                                        Sum.inl
                                          [Sum.inl (Sh.int IntKind.i64), Sum.inl (Sh.int IntKind.i64),
                                            Sum.inl (Sh.int IntKind.i64), Sum.inl (Sh.int IntKind.i64),
                                            Sum.inl (Sh.int IntKind.i64), Sum.inr (AV.t (TV.hsl 3))],
                                        Sum.inr 2] }
                                  p.snd)
                                (Option.some
                                  ([RV.agg
                                        [PV.int IntKind.i64
                                            (nth AV.undef (nth (Blk.box []) p.snd.blks 2).toCs
                                                  0).toPV.toInt,
                                          PV.int IntKind.i64
                                            (nth AV.undef (nth (Blk.box []) p.snd.blks 2).toCs
                                                  1).toPV.toInt,
                                          PV.int IntKind.i64
                                            (nth AV.undef (nth (Blk.box []) p.snd.blks 2).toCs
                                                  2).toPV.toInt,
                                          PV.int IntKind.i64
                                            (nth AV.undef (nth (Blk.box []) p.snd.blks 2).toCs
                                                  3).toPV.toInt,
                                          PV.int IntKind.i64
                                            (nth AV.undef (nth (Blk.box []) p.snd.blks 2).toCs
                                                  4).toPV.toInt,
                                          PV.sl 2 (nth (Blk.box []) p.snd.blks 3).toEs]],
                                    [Blk.box
                                        [AV.sl 1
                                            (nth AV.undef (nth (Blk.box []) p.snd.blks 0).toCs
                                                  0).toPV.toEs,
                                          AV.int IntKind.i64
                                            (nth AV.undef (nth (Blk.box []) p.snd.blks 0).toCs
                                                  1).toPV.toInt]]))
                                Option.none)
                              Option.none)
                          Option.none)
                      Option.none)
                  Option.none)
              Option.none)
          Option.none)
      Option.none := by kernel_rfl

/-- dynpos/sector.Lateral -/
theorem r10 (F : Fun) (t0 : Int) (t1 : Int) (t2 : Int) (t3 : Int) (t4 : Int) (t5 : List (List PV)) : funK E F 10 [AV.agg
    [PV.int IntKind.i64 t0, PV.int IntKind.i64 t1, PV.int IntKind.i64 t2,
      PV.int IntKind.i64 t3, PV.int IntKind.i64 t4, PV.sl 2 t5]] [] =
  bnd
    (F 13
      [AV.agg
          [PV.int IntKind.i64 t0, PV.int IntKind.i64 t1, PV.int IntKind.i64 t2,
            PV.int IntKind.i64 t3, PV.int IntKind.i64 t4, PV.sl 2 t5]]
      [])
    fun (r : Res) =>
    ctl (okR [RSh.one Sh.bool] r.fst && okB [] r.snd)
      (ctl (!(nth (RV.p PV.nilp) r.fst 0).toPV.toBool)
        (Option.some ([RV.p (PV.int IntKind.i64 0), RV.p (PV.int IntKind.i64 0)], []))
        (bnd
          (F 28 [AV.fn 29 [TV.ptr 0 0]]
            [Blk.box
                [AV.int IntKind.i64 t0, AV.int IntKind.i64 t1, AV.int IntKind.i64 t2,
                  AV.int IntKind.i64 t3, AV.int IntKind.i64 t4, AV.sl 2 t5]])
          fun (r : Res) =>
          ctl
            (okR
                [RSh.one (Sh.int IntKind.i64), RSh.one (Sh.int IntKind.i64)] r.fst &&
              okB
                [Sum.inl
                    [Sh.int IntKind.i64, Sh.int IntKind.i64, Sh.int IntKind.i64,
                      Sh.int IntKind.i64, Sh.int IntKind.i64, Sh.sl 2]]
                r.snd)
            (Option.some
              ([RV.p
                    (PV.int IntKind.i64 (nth (RV.p PV.nilp) r.fst 0).toPV.toInt),
                  RV.p
                    (PV.int IntKind.i64 (nth (RV.p PV.nilp) r.fst 1).toPV.toInt)],
                []))
            Option.none))
      Option.none := by kernel_rfl

/-- (*dynpos/dynposmake.Src).Range -/
theorem r11 (F : Fun) (s0 : List (List PV)) (s1 : Int) (lo : Int) (hi : Int) : funK E F 11 [AV.t (TV.ptr 0 0), AV.int IntKind.i64 lo, AV.int IntKind.i64 hi] [Blk.box [AV.sl 1 s0, AV.int IntKind.i64 s1]] =
  bnd
    (F 25 [AV.t (TV.ptr 0 0), AV.int IntKind.i64 (IntKind.i64.wrap (IntKind.i64.wrap (hi - lo) + 1))]
      [Blk.box [AV.sl 1 s0, AV.int IntKind.i64 s1]])
    fun (r : Res) =>
    ctl
      (okR [RSh.one (Sh.int IntKind.i64)] r.fst &&
        okB [Sum.inl [Sh.sl 1, Sh.int IntKind.i64]] r.snd)
      (Option.some
        ([RV.p
              (PV.int IntKind.i64
                (IntKind.i64.wrap (lo + (nth (RV.p PV.nilp) r.fst 0).toPV.toInt)))],
          [Blk.box
              [AV.sl 1
                  (nth PV.nilp
                      (List.map AV.toPV (nth (Blk.box []) r.snd 0).toCs) 0).toEs,
                AV.int IntKind.i64
                  (nth PV.nilp
                      (List.map AV.toPV (nth (Blk.box []) r.snd 0).toCs) 1).toInt]]))
      Option.none := by kernel_rfl

/-- dynpos/sector.Longitudinal -/
theorem r12 (F : Fun) (t0 : Int) (t1 : Int) (t2 : Int) (t3 : Int) (t4 : Int) (t5 : List (List PV)) (y : Int) : funK E F 12 [AV.agg
    [PV.int IntKind.i64 t0, PV.int IntKind.i64 t1, PV.int IntKind.i64 t2,
      PV.int IntKind.i64 t3, PV.int IntKind.i64 t4, PV.sl 2 t5],
  AV.int IntKind.i64 y] [] =
  bnd
    (F 13
      [AV.agg
          [PV.int IntKind.i64 t0, PV.int IntKind.i64 t1, PV.int IntKind.i64 t2,
            PV.int IntKind.i64 t3, PV.int IntKind.i64 t4, PV.sl 2 t5]]
      [])
    fun (r : Res) =>
    ctl (okR [RSh.one Sh.bool] r.fst && okB [] r.snd)
      (ctl (!(nth (RV.p PV.nilp) r.fst 0).toPV.toBool)
        (Option.some ([RV.p (PV.int IntKind.i64 0), RV.p (PV.int IntKind.i64 0)], []))
        (bnd
          (F 28 [AV.fn 31 [TV.ptr 0 0, TV.ptr 1 0]]
            [Blk.box
                [AV.int IntKind.i64 t0, AV.int IntKind.i64 t1, AV.int IntKind.i64 t2,
                  AV.int IntKind.i64 t3, AV.int IntKind.i64 t4, AV.sl 2 t5],
              Blk.box [AV.int IntKind.i64 y]])
          fun (r : Res) =>
          ctl
            (okR
                [RSh.one (Sh.int IntKind.i64), RSh.one (Sh.int IntKind.i64)] r.fst &&
              okB
                [Sum.inl
                    [Sh.int IntKind.i64, Sh.int IntKind.i64, Sh.int IntKind.i64,
                      Sh.int IntKind.i64, Sh.int IntKind.i64, Sh.sl 2],
                  Sum.inl [Sh.int IntKind.i64]]
                r.snd)
            (Option.some
              ([RV.p
                    (PV.int IntKind.i64 (nth (RV.p PV.nilp) r.fst 0).toPV.toInt),
                  RV.p
                    (PV.int IntKind.i64 (nth (RV.p PV.nilp) r.fst 1).toPV.toInt)],
                []))
            Option.none))
      Option.none := by kernel_rfl

/-- dynpos/sector.Valid -/
theorem r13 (F : Fun) (t0 : Int) (t1 : Int) (t2 : Int) (t3 : Int) (t4 : Int) (t5 : List (List PV)) : funK E F 13 [AV.agg
    [PV.int IntKind.i64 t0, PV.int IntKind.i64 t1, PV.int IntKind.i64 t2,
      PV.int IntKind.i64 t3, PV.int IntKind.i64 t4, PV.sl 2 t5]] [] =
  bnd (F 32 [AV.int IntKind.i64 t0, AV.int IntKind.i64 1, AV.int IntKind.i64 3] [])
    fun (r : Res) =>
    ctl (okR [RSh.one Sh.bool] r.fst && okB [] r.snd)
      (bnd
        (ctl (nth (RV.p PV.nilp) r.fst 0).toPV.toBool
          (bnd
            (F 32 [AV.int IntKind.i64 t1, AV.int IntKind.i64 0, AV.int IntKind.i64 1] [])
            fun (r : Res) =>
            ctl (okR [RSh.one Sh.bool] r.fst && okB [] r.snd)
              (Option.some (nth (RV.p PV.nilp) r.fst 0).toPV.toBool) Option.none)
          (Option.some Bool.false))
        fun (v : Bool) =>
        bnd
          (ctl v
            (bnd
              (F 32 [AV.int IntKind.i64 t2, AV.int IntKind.i64 0, AV.int IntKind.i64 5000] [])
              fun (r : Res) =>
              ctl (okR [RSh.one Sh.bool] r.fst && okB [] r.snd)
                (Option.some (nth (RV.p PV.nilp) r.fst 0).toPV.toBool) Option.none)
            (Option.some Bool.false))
          fun (v : Bool) =>
          bnd
            (ctl v
              (bnd
                (F 32 [AV.int IntKind.i64 t3, AV.int IntKind.i64 0, AV.int IntKind.i64 5000] [])
                fun (r : Res) =>
                ctl (okR [RSh.one Sh.bool] r.fst && okB [] r.snd)
                  (Option.some (nth (RV.p PV.nilp) r.fst 0).toPV.toBool) Option.none)
              (Option.some Bool.false))
            fun (v : Bool) =>
            bnd
              (ctl v
                (bnd
                  (F 32 [AV.int IntKind.i64 t4, AV.int IntKind.i64 1, AV.int IntKind.i64 100] [])
                  fun (r : Res) =>
                  ctl (okR [RSh.one Sh.bool] r.fst && okB [] r.snd)
                    (Option.some (nth (RV.p PV.nilp) r.fst 0).toPV.toBool) Option.none)
                (Option.some Bool.false))
              fun (v : Bool) =>
              bnd (ctl v (Option.some (leB (↑t5.length : Int) 4)) (Option.some Bool.false)) fun (v : Bool) =>
                ctl v
                  (bnd (F 33 [AV.sl 2 t5, AV.fn 34 []] []) fun (r : Res) =>
                    ctl
                      (okR [RSh.one Sh.bool] r.fst && okB [] r.snd)
                      (Option.some
                        ([RV.p
                              (PV.bool !(nth (RV.p PV.nilp) r.fst 0).toPV.toBool)],
                          []))
                      Option.none)
                  (Option.some ([RV.p (PV.bool Bool.false)], [])))
      Option.none := by kernel_rfl

/-- dynpos/dynposlaw11.few -/
theorem r15 (F : Fun) (t0 : Int) (t1 : Int) (t2 : Int) (t3 : Int) (t4 : Int) (t5 : List (List PV)) : funK E F 15 [AV.agg
    [PV.int IntKind.i64 t0, PV.int IntKind.i64 t1, PV.int IntKind.i64 t2,
      PV.int IntKind.i64 t3, PV.int IntKind.i64 t4, PV.sl 2 t5]] [] =
  Option.some ([RV.p (PV.bool (leB (↑t5.length : Int) 6))], []) := by kernel_rfl

/-- (*dynpos/dynposmake.Src).BentThruster -/
theorem r16 (F : Fun) (s0 : List (List PV)) (s1 : Int) (t0 : Int) (t1 : Int) (t2 : Int) (t3 : Int) (t4 : Int) (t5 : List (List PV)) : funK E F 16 [AV.t (TV.ptr 0 0),
  AV.agg
    [PV.int IntKind.i64 t0, PV.int IntKind.i64 t1, PV.int IntKind.i64 t2,
      PV.int IntKind.i64 t3, PV.int IntKind.i64 t4, PV.sl 2 t5]] [Blk.box [AV.sl 1 s0, AV.int IntKind.i64 s1]] =
  bnd
    (F 25 [AV.t (TV.ptr 0 0), AV.int IntKind.i64 6]
      [Blk.box [AV.sl 1 s0, AV.int IntKind.i64 s1]])
    fun (r : Res) =>
    ctl
      (okR [RSh.one (Sh.int IntKind.i64)] r.fst &&
        okB [Sum.inl [Sh.sl 1, Sh.int IntKind.i64]] r.snd)
      (ctl ((nth (RV.p PV.nilp) r.fst 0).toPV.toInt == 0)
        (bnd
          (F 11 [AV.t (TV.ptr 0 0), AV.int IntKind.i64 (-1), AV.int IntKind.i64 5]
            [Blk.box
                [AV.sl 1
                    (nth PV.nilp
                        (List.map AV.toPV (nth (Blk.box []) r.snd 0).toCs) 0).toEs,
                  AV.int IntKind.i64
                    (nth PV.nilp
                        (List.map AV.toPV (nth (Blk.box []) r.snd 0).toCs) 1).toInt]])
          fun (r : Res) =>
          ctl
            (okR [RSh.one (Sh.int IntKind.i64)] r.fst &&
              okB [Sum.inl [Sh.sl 1, Sh.int IntKind.i64]] r.snd)
            (Option.some
              ([RV.agg
                    [PV.int IntKind.i64 (nth (RV.p PV.nilp) r.fst 0).toPV.toInt,
                      PV.int IntKind.i64 t1, PV.int IntKind.i64 t2, PV.int IntKind.i64 t3,
                      PV.int IntKind.i64 t4, PV.sl 2 t5]],
                [Blk.box
                    [AV.sl 1
                        (nth PV.nilp
                            (List.map AV.toPV (nth (Blk.box []) r.snd 0).toCs) 0).toEs,
                      AV.int IntKind.i64
                        (nth PV.nilp
                            (List.map AV.toPV (nth (Blk.box []) r.snd 0).toCs) 1).toInt]]))
            Option.none)
        (ctl ((nth (RV.p PV.nilp) r.fst 0).toPV.toInt == 1)
          (bnd
            (F 11 [AV.t (TV.ptr 0 0), AV.int IntKind.i64 (-1), AV.int IntKind.i64 3]
              [Blk.box
                  [AV.sl 1
                      (nth PV.nilp
                          (List.map AV.toPV (nth (Blk.box []) r.snd 0).toCs) 0).toEs,
                    AV.int IntKind.i64
                      (nth PV.nilp
                          (List.map AV.toPV (nth (Blk.box []) r.snd 0).toCs) 1).toInt]])
            fun (r : Res) =>
            ctl
              (okR [RSh.one (Sh.int IntKind.i64)] r.fst &&
                okB [Sum.inl [Sh.sl 1, Sh.int IntKind.i64]] r.snd)
              (Option.some
                ([RV.agg
                      [PV.int IntKind.i64 t0,
                        PV.int IntKind.i64 (nth (RV.p PV.nilp) r.fst 0).toPV.toInt,
                        PV.int IntKind.i64 t2, PV.int IntKind.i64 t3, PV.int IntKind.i64 t4,
                        PV.sl 2 t5]],
                  [Blk.box
                      [AV.sl 1
                          (nth PV.nilp
                              (List.map AV.toPV (nth (Blk.box []) r.snd 0).toCs) 0).toEs,
                        AV.int IntKind.i64
                          (nth PV.nilp
                              (List.map AV.toPV (nth (Blk.box []) r.snd 0).toCs) 1).toInt]]))
              Option.none)
          (ctl ((nth (RV.p PV.nilp) r.fst 0).toPV.toInt == 2)
            (bnd
              (F 27
                [AV.t (TV.ptr 0 0),
                  AV.sl 1
                    [[PV.int IntKind.i64 (-1)], [PV.int IntKind.i64 5001], [PV.int IntKind.i64 30]]]
                [Blk.box
                    [AV.sl 1
                        (nth PV.nilp
                            (List.map AV.toPV (nth (Blk.box []) r.snd 0).toCs) 0).toEs,
                      AV.int IntKind.i64
                        (nth PV.nilp
                            (List.map AV.toPV (nth (Blk.box []) r.snd 0).toCs) 1).toInt]])
              fun (r : Res) =>
              ctl
                (okR [RSh.one (Sh.int IntKind.i64)] r.fst &&
                  okB [Sum.inl [Sh.sl 1, Sh.int IntKind.i64]] r.snd)
                (Option.some
                  ([RV.agg
                        [PV.int IntKind.i64 t0, PV.int IntKind.i64 t1,
                          PV.int IntKind.i64 (nth (RV.p PV.nilp) r.fst 0).toPV.toInt,
                          PV.int IntKind.i64 t3, PV.int IntKind.i64 t4, PV.sl 2 t5]],
                    [Blk.box
                        [AV.sl 1
                            (nth PV.nilp
                                (List.map AV.toPV (nth (Blk.box []) r.snd 0).toCs) 0).toEs,
                          AV.int IntKind.i64
                            (nth PV.nilp
                                (List.map AV.toPV (nth (Blk.box []) r.snd 0).toCs) 1).toInt]]))
                Option.none)
            (ctl ((nth (RV.p PV.nilp) r.fst 0).toPV.toInt == 3)
              (bnd
                (F 19 [AV.t (TV.ptr 0 0)]
                  [Blk.box
                      [AV.sl 1
                          (nth PV.nilp
                              (List.map AV.toPV (nth (Blk.box []) r.snd 0).toCs) 0).toEs,
                        AV.int IntKind.i64
                          (nth PV.nilp
                              (List.map AV.toPV (nth (Blk.box []) r.snd 0).toCs) 1).toInt]])
                fun (r : Res) =>
                ctl
                  (okR [RSh.one (Sh.int IntKind.i64)] r.fst &&
                    okB [Sum.inl [Sh.sl 1, Sh.int IntKind.i64]] r.snd)
                  (Option.some
                    ([RV.agg
                          [PV.int IntKind.i64 t0, PV.int IntKind.i64 t1, PV.int IntKind.i64 t2,
                            PV.int IntKind.i64 (nth (RV.p PV.nilp) r.fst 0).toPV.toInt,
                            PV.int IntKind.i64 t4, PV.sl 2 t5]],
                      [Blk.box
                          [AV.sl 1
                              (nth PV.nilp
                                  (List.map AV.toPV (nth (Blk.box []) r.snd 0).toCs) 0).toEs,
                            AV.int IntKind.i64
                              (nth PV.nilp
                                  (List.map AV.toPV (nth (Blk.box []) r.snd 0).toCs) 1).toInt]]))
                  Option.none)
              (ctl ((nth (RV.p PV.nilp) r.fst 0).toPV.toInt == 4)
                (bnd
                  (F 27
                    [AV.t (TV.ptr 0 0),
                      AV.sl 1
                        [[PV.int IntKind.i64 0], [PV.int IntKind.i64 (-5)], [PV.int IntKind.i64 101],
                          [PV.int IntKind.i64 50]]]
                    [Blk.box
                        [AV.sl 1
                            (nth PV.nilp
                                (List.map AV.toPV (nth (Blk.box []) r.snd 0).toCs) 0).toEs,
                          AV.int IntKind.i64
                            (nth PV.nilp
                                (List.map AV.toPV (nth (Blk.box []) r.snd 0).toCs) 1).toInt]])
                  fun (r : Res) =>
                  ctl
                    (okR [RSh.one (Sh.int IntKind.i64)] r.fst &&
                      okB [Sum.inl [Sh.sl 1, Sh.int IntKind.i64]] r.snd)
                    (Option.some
                      ([RV.agg
                            [PV.int IntKind.i64 t0, PV.int IntKind.i64 t1, PV.int IntKind.i64 t2,
                              PV.int IntKind.i64 t3,
                              PV.int IntKind.i64 (nth (RV.p PV.nilp) r.fst 0).toPV.toInt,
                              PV.sl 2 t5]],
                        [Blk.box
                            [AV.sl 1
                                (nth PV.nilp
                                    (List.map AV.toPV (nth (Blk.box []) r.snd 0).toCs) 0).toEs,
                              AV.int IntKind.i64
                                (nth PV.nilp
                                    (List.map AV.toPV (nth (Blk.box []) r.snd 0).toCs) 1).toInt]]))
                    Option.none)
                (ctl (leN (t5.length * 16) 140737488355328)
                  (bnd
                    (F 11
                      [AV.t (TV.ptr 0 0), AV.int IntKind.i64 (-1), AV.int IntKind.i64 3600]
                      [Blk.box
                          [AV.sl 1
                              (nth PV.nilp
                                  (List.map AV.toPV (nth (Blk.box []) r.snd 0).toCs) 0).toEs,
                            AV.int IntKind.i64
                              (nth PV.nilp
                                  (List.map AV.toPV (nth (Blk.box []) r.snd 0).toCs) 1).toInt]])
                    fun (r : Res) =>
                    ctl
                      (okR [RSh.one (Sh.int IntKind.i64)] r.fst &&
                        okB [Sum.inl [Sh.sl 1, Sh.int IntKind.i64]] r.snd)
                      (bnd
                        (F 11
                          [AV.t (TV.ptr 0 0), AV.int IntKind.i64 (-1),
                            AV.int IntKind.i64 3600]
                          [Blk.box
                              [AV.sl 1
                                  (nth PV.nilp
                                      (List.map AV.toPV (nth (Blk.box []) r.snd 0).toCs) 0).toEs,
                                AV.int IntKind.i64
                                  (nth PV.nilp
                                      (List.map AV.toPV (nth (Blk.box []) r.snd 0).toCs) 1).toInt]])
                        fun (r_1 : Res) =>
                        ctl
                          (okR [RSh.one (Sh.int IntKind.i64)] r_1.fst &&
                            okB [Sum.inl [Sh.sl 1, Sh.int IntKind.i64]] r_1.snd)
                          (ctl (leN ((t5.length + 1) * 16) 140737488355328)
                            (Option.some
                              ([RV.agg
                                    [PV.int IntKind.i64 t0, PV.int IntKind.i64 t1, PV.int IntKind.i64 t2,
                                      PV.int IntKind.i64 t3, PV.int IntKind.i64 t4,
                                      PV.sl 2
                                        (t5 ++
                                          [[PV.int IntKind.i64
                                                (nth (RV.p PV.nilp) r.fst 0).toPV.toInt,
                                              PV.int IntKind.i64
                                                (nth (RV.p PV.nilp) r_1.fst 0).toPV.toInt]])]],
                                [Blk.box
                                    [AV.sl 1
                                        (nth PV.nilp
                                            (List.map AV.toPV (nth (Blk.box []) r_1.snd 0).toCs) 0).toEs,
                                      AV.int IntKind.i64
                                        (nth PV.nilp
                                            (List.map AV.toPV (nth (Blk.box []) r_1.snd 0).toCs) 1).toInt]]))
                            Option.none)
                          Option.none)
                      Option.none)
                  Option.none))))))
      Option.none := by kernel_rfl

/-- dynpos/dynposref11.Valid, the loop of block 0 -/
theorem r17_0 (F : Fun) (x60 : List (List PV)) (x61 : Int) (x62 : Int) : lp E F 17 0 [] 0
  { vals := [AV.sl 2 x60, AV.int IntKind.i64 x61, AV.int IntKind.i64 x62], blks := [] } =
  ctl (ltB x62 x61)
    (getE x60 x62 fun (c : List PV) =>
      ctl (okCs [Sh.int IntKind.i64, Sh.int IntKind.i64] c)
        (bnd
          (F 37
            [AV.agg
                [PV.int IntKind.i64 (nth PV.nilp c 0).toInt,
                  PV.int IntKind.i64 (nth PV.nilp c 1).toInt]]
            [])
          fun (r : Res) =>
          ctl (okR [RSh.one Sh.bool] r.fst && okB [] r.snd)
            (ctl (!(nth (RV.p PV.nilp) r.fst 0).toPV.toBool)
              (Option.some (Ex.ret, { vals := [AV.bool Bool.false], blks := [] }))
              (lp E F 17 0 [] 0
                { vals := [AV.sl 2 x60, AV.int IntKind.i64 x61, AV.int IntKind.i64 (IntKind.i64.wrap (x62 + 1))],
                  blks := [] }))
            Option.none)
        Option.none)
    (Option.some (Ex.exit 0, { vals := [], blks := [] })) := (lp_unfold ..).trans (by kernel_rfl)

/-- dynpos/dynposref11.Valid -/
theorem r17 (F : Fun) (t0 : Int) (t1 : Int) (t2 : Int) (t3 : Int) (t4 : Int) (t5 : List (List PV)) : funK E F 17 [AV.agg
    [PV.int IntKind.i64 t0, PV.int IntKind.i64 t1, PV.int IntKind.i64 t2,
      PV.int IntKind.i64 t3, PV.int IntKind.i64 t4, PV.sl 2 t5]] [] =
  bnd (ctl (!ltB t0 1) (Option.some (ltB 3 t0)) (Option.some Bool.true)) fun (v : Bool) =>
    bnd (ctl (!v) (Option.some (ltB t1 0)) (Option.some Bool.true)) fun (v : Bool) =>
      bnd (ctl (!v) (Option.some (ltB 1 t1)) (Option.some Bool.true)) fun (v : Bool) =>
        bnd (ctl (!v) (Option.some (ltB t2 0)) (Option.some Bool.true)) fun (v : Bool) =>
          bnd (ctl (!v) (Option.some (ltB 5000 t2)) (Option.some Bool.true)) fun (v : Bool) =>
            bnd (ctl (!v) (Option.some (ltB t3 0)) (Option.some Bool.true)) fun (v : Bool) =>
              bnd (ctl (!v) (Option.some (ltB 5000 t3)) (Option.some Bool.true)) fun (v : Bool) =>
                bnd (ctl (!v) (Option.some (ltB t4 1)) (Option.some Bool.true)) fun (v : Bool) =>
                  bnd (ctl (!v) (Option.some (ltB 100 t4)) (Option.some Bool.true)) fun (v : Bool) =>
                    bnd (ctl (!v) (Option.some (ltB 4 (↑t5.length : Int))) (Option.some Bool.true)) fun (v : Bool) =>
                      ctl v (Option.some ([RV.p (PV.bool Bool.false)], []))
                        (bnd
                          (lp E F 17 0 [] 0
                            { vals := [AV.sl 2 t5, AV.int IntKind.i64 (↑t5.length : Int), AV.int IntKind.i64 0],
                              blks := [] })
                          fun (p : Ex × Pack) =>
                          ctl (p.fst.eqb (Ex.exit 0))
                            (Option.some ([RV.p (PV.bool Bool.true)], []))
                            (ctl (p.fst.eqb Ex.ret)
                              (ctl (okPack { slots := [(2, Sum.inl Sh.bool)], blks := [] } p.snd)
                                (Option.some
                                  ([RV.p (PV.bool (nth AV.undef p.snd.vals 0).toPV.toBool)], []))
                                Option.none)
                              Option.none)) := by kernel_rfl

/-- dynpos/dynposref11.Lateral, the loop of block 0 -/
theorem r18_0 (F : Fun) (low4 : Int) (high5 : Int) (b0_0 : Int) (b0_1 : Int) (b0_2 : Int) (b0_3 : Int) (b0_4 : Int) (b0_5 : List (List PV)) : lp E F 18 0 [] 0
  { vals := [AV.int IntKind.i64 low4, AV.int IntKind.i64 high5],
    blks :=
      [Blk.box
          [AV.int IntKind.i64 b0_0, AV.int IntKind.i64 b0_1, AV.int IntKind.i64 b0_2,
            AV.int IntKind.i64 b0_3, AV.int IntKind.i64 b0_4, AV.sl 2 b0_5]] } =
  bnd
    (F 21
      [AV.agg
          [PV.int IntKind.i64 b0_0, PV.int IntKind.i64 b0_1, PV.int IntKind.i64 b0_2,
            PV.int IntKind.i64 b0_3, PV.int IntKind.i64 b0_4, PV.sl 2 b0_5],
        AV.int IntKind.i64 0, AV.int IntKind.i64 (IntKind.i64.wrap (low4 - 1))]
      [])
    fun (r : Res) =>
    ctl (okR [RSh.one Sh.bool] r.fst && okB [] r.snd)
      (ctl (nth (RV.p PV.nilp) r.fst 0).toPV.toBool
        (lp E F 18 0 [] 0
          { vals := [AV.int IntKind.i64 (IntKind.i64.wrap (low4 - 1)), AV.int IntKind.i64 high5],
            blks :=
              [Blk.box
                  [AV.int IntKind.i64 b0_0, AV.int IntKind.i64 b0_1, AV.int IntKind.i64 b0_2,
                    AV.int IntKind.i64 b0_3, AV.int IntKind.i64 b0_4, AV.sl 2 b0_5]] })
        (Option.some
          (Ex.exit 0,
            { vals := [AV.int IntKind.i64 low4, AV.int IntKind.i64 high5],
              blks :=
                [Blk.box
                    [AV.int IntKind.i64 b0_0, AV.int IntKind.i64 b0_1, AV.int IntKind.i64 b0_2,
                      AV.int IntKind.i64 b0_3, AV.int IntKind.i64 b0_4, AV.sl 2 b0_5]] })))
      Option.none := (lp_unfold ..).trans (by kernel_rfl)

/-- dynpos/dynposref11.Lateral, the loop of block 2 -/
theorem r18_2 (F : Fun) (low4 : Int) (high5 : Int) (b0_0 : Int) (b0_1 : Int) (b0_2 : Int) (b0_3 : Int) (b0_4 : Int) (b0_5 : List (List PV)) : lp E F 18 0 [] 2
  { vals := [AV.int IntKind.i64 low4, AV.int IntKind.i64 high5],
    blks :=
      [Blk.box
          [AV.int IntKind.i64 b0_0, AV.int IntKind.i64 b0_1, AV.int IntKind.i64 b0_2,
            AV.int IntKind.i64 b0_3, AV.int IntKind.i64 b0_4, AV.sl 2 b0_5]] } =
  bnd
    (F 21
      [AV.agg
          [PV.int IntKind.i64 b0_0, PV.int IntKind.i64 b0_1, PV.int IntKind.i64 b0_2,
            PV.int IntKind.i64 b0_3, PV.int IntKind.i64 b0_4, PV.sl 2 b0_5],
        AV.int IntKind.i64 0, AV.int IntKind.i64 (IntKind.i64.wrap (high5 + 1))]
      [])
    fun (r : Res) =>
    ctl (okR [RSh.one Sh.bool] r.fst && okB [] r.snd)
      (ctl (nth (RV.p PV.nilp) r.fst 0).toPV.toBool
        (lp E F 18 0 [] 2
          { vals := [AV.int IntKind.i64 low4, AV.int IntKind.i64 (IntKind.i64.wrap (high5 + 1))],
            blks :=
              [Blk.box
                  [AV.int IntKind.i64 b0_0, AV.int IntKind.i64 b0_1, AV.int IntKind.i64 b0_2,
                    AV.int IntKind.i64 b0_3, AV.int IntKind.i64 b0_4, AV.sl 2 b0_5]] })
        (Option.some (Ex.exit 2, { vals := [AV.int IntKind.i64 low4, AV.int IntKind.i64 high5], blks := [] })))
      Option.none := (lp_unfold ..).trans (by kernel_rfl)

/-- dynpos/dynposref11.Lateral -/
theorem r18 (F : Fun) (t0 : Int) (t1 : Int) (t2 : Int) (t3 : Int) (t4 : Int) (t5 : List (List PV)) : funK E F 18 [AV.agg
    [PV.int IntKind.i64 t0, PV.int IntKind.i64 t1, PV.int IntKind.i64 t2,
      PV.int IntKind.i64 t3, PV.int IntKind.i64 t4, PV.sl 2 t5]] [] =
  bnd
    (lp E F 18 0 [] 0
      { vals := [AV.int IntKind.i64 0, AV.int IntKind.i64 0],
        blks :=
          [Blk.box
              [AV.int IntKind.i64 t0, AV.int IntKind.i64 t1, AV.int IntKind.i64 t2,
                AV.int IntKind.i64 t3, AV.int IntKind.i64 t4, AV.sl 2 t5]] })
    fun (p : Ex × Pack) =>
    ctl (p.fst.eqb (Ex.exit 0))
      (ctl
        (okPack
          {
            slots :=
              [(1, Sum.inr (Sum.inr (AV.t (TV.ptr 0 0)))), (4, Sum.inl (Sh.int IntKind.i64)),
                (5, Sum.inl (Sh.int IntKind.i64))],
            blks :=
              [Sum.inl
                  [Sum.inl (Sh.int IntKind.i64), Sum.inl (Sh.int IntKind.i64), Sum.inl (Sh.int IntKind.i64),
                    Sum.inl (Sh.int IntKind.i64), Sum.inl (Sh.int IntKind.i64), Sum.inl (Sh.sl 2)]] }
          p.snd)
        (bnd
          (lp E F 18 0 [] 2
            {
              vals :=
                [AV.int IntKind.i64 (nth AV.undef p.snd.vals 0).toPV.toInt,
                  AV.int IntKind.i64 (nth AV.undef p.snd.vals 1).toPV.toInt],
              blks :=
                [Blk.box
                    [AV.int IntKind.i64
                        (nth AV.undef (nth (Blk.box []) p.snd.blks 0).toCs 0).toPV.toInt,
                      AV.int IntKind.i64
                        (nth AV.undef (nth (Blk.box []) p.snd.blks 0).toCs 1).toPV.toInt,
                      AV.int IntKind.i64
                        (nth AV.undef (nth (Blk.box []) p.snd.blks 0).toCs 2).toPV.toInt,
                      AV.int IntKind.i64
                        (nth AV.undef (nth (Blk.box []) p.snd.blks 0).toCs 3).toPV.toInt,
                      AV.int IntKind.i64
                        (nth AV.undef (nth (Blk.box []) p.snd.blks 0).toCs 4).toPV.toInt,
                      AV.sl 2
                        (nth AV.undef (nth (Blk.box []) p.snd.blks 0).toCs 5).toPV.toEs]] })
          fun (p : Ex × Pack) =>
          ctl (p.fst.eqb (Ex.exit 2))
            (ctl
              (okPack { slots := [(4, Sum.inl (Sh.int IntKind.i64)), (5, Sum.inl (Sh.int IntKind.i64))], blks := [] }
                p.snd)
              (Option.some
                ([RV.p (PV.int IntKind.i64 (nth AV.undef p.snd.vals 0).toPV.toInt),
                    RV.p (PV.int IntKind.i64 (nth AV.undef p.snd.vals 1).toPV.toInt)],
                  []))
              Option.none)
            Option.none)
        Option.none)
      Option.none := by kernel_rfl

/-- (*dynpos/dynposmake.Src).Odd -/
theorem r19 (F : Fun) (s0 : List (List PV)) (s1 : Int) : funK E F 19 [AV.t (TV.ptr 0 0)] [Blk.box [AV.sl 1 s0, AV.int IntKind.i64 s1]] =
  bnd
    (F 27
      [AV.t (TV.ptr 0 0),
        AV.sl 1
          [[PV.int IntKind.i64 (-1)], [PV.int IntKind.i64 0], [PV.int IntKind.i64 1],
            [PV.int IntKind.i64 4611686018427387904], [PV.int IntKind.i64 (-4611686018427387904)],
            [PV.int IntKind.i64 9223372036854775807], [PV.int IntKind.i64 (-9223372036854775808)],
            [PV.int IntKind.i64 1000000000], [PV.int IntKind.i64 1000000001], [PV.int IntKind.i64 (-1000000001)],
            [PV.int IntKind.i64 3600], [PV.int IntKind.i64 1800], [PV.int IntKind.i64 100000000],
            [PV.int IntKind.i64 100000001], [PV.int IntKind.i64 5001]]]
      [Blk.box [AV.sl 1 s0, AV.int IntKind.i64 s1]])
    fun (r : Res) =>
    ctl
      (okR [RSh.one (Sh.int IntKind.i64)] r.fst &&
        okB [Sum.inl [Sh.sl 1, Sh.int IntKind.i64]] r.snd)
      (Option.some
        ([RV.p
              (PV.int IntKind.i64 (nth (RV.p PV.nilp) r.fst 0).toPV.toInt)],
          [Blk.box
              [AV.sl 1
                  (nth PV.nilp
                      (List.map AV.toPV (nth (Blk.box []) r.snd 0).toCs) 0).toEs,
                AV.int IntKind.i64
                  (nth PV.nilp
                      (List.map AV.toPV (nth (Blk.box []) r.snd 0).toCs) 1).toInt]]))
      Option.none := by kernel_rfl

/-- dynpos/sector.Allowed -/
theorem r20 (F : Fun) (t0 : Int) (t1 : Int) (t2 : Int) (t3 : Int) (t4 : Int) (t5 : List (List PV)) (x : Int) (y : Int) : funK E F 20 [AV.agg
    [PV.int IntKind.i64 t0, PV.int IntKind.i64 t1, PV.int IntKind.i64 t2,
      PV.int IntKind.i64 t3, PV.int IntKind.i64 t4, PV.sl 2 t5],
  AV.int IntKind.i64 x, AV.int IntKind.i64 y] [] =
  bnd
    (F 13
      [AV.agg
          [PV.int IntKind.i64 t0, PV.int IntKind.i64 t1, PV.int IntKind.i64 t2,
            PV.int IntKind.i64 t3, PV.int IntKind.i64 t4, PV.sl 2 t5]]
      [])
    fun (r : Res) =>
    ctl (okR [RSh.one Sh.bool] r.fst && okB [] r.snd)
      (bnd
        (ctl (nth (RV.p PV.nilp) r.fst 0).toPV.toBool
          (bnd
            (F 30
              [AV.agg
                  [PV.int IntKind.i64 t0, PV.int IntKind.i64 t1, PV.int IntKind.i64 t2,
                    PV.int IntKind.i64 t3, PV.int IntKind.i64 t4, PV.sl 2 t5],
                AV.int IntKind.i64 x, AV.int IntKind.i64 y]
              [])
            fun (r : Res) =>
            ctl (okR [RSh.one Sh.bool] r.fst && okB [] r.snd)
              (Option.some (nth (RV.p PV.nilp) r.fst 0).toPV.toBool) Option.none)
          (Option.some Bool.false))
        fun (v : Bool) => Option.some ([RV.p (PV.bool v)], []))
      Option.none := by kernel_rfl

/-- dynpos/dynposref11.Allowed, the loop of block 0 -/
theorem r21_0 (F : Fun) (x1 : Int) (y2 : Int) (x70 : List (List PV)) (x71 : Int) (x72 : Int) : lp E F 21 0 [] 0
  {
    vals :=
      [AV.int IntKind.i64 x1, AV.int IntKind.i64 y2, AV.sl 2 x70,
        AV.int IntKind.i64 x71, AV.int IntKind.i64 x72],
    blks := [] } =
  ctl (ltB x72 x71)
    (getE x70 x72 fun (c : List PV) =>
      ctl (okCs [Sh.int IntKind.i64, Sh.int IntKind.i64] c)
        (bnd
          (F 38
            [AV.agg
                [PV.int IntKind.i64 (nth PV.nilp c 0).toInt,
                  PV.int IntKind.i64 (nth PV.nilp c 1).toInt],
              AV.int IntKind.i64 x1, AV.int IntKind.i64 y2]
            [])
          fun (r : Res) =>
          ctl (okR [RSh.one Sh.bool] r.fst && okB [] r.snd)
            (ctl (nth (RV.p PV.nilp) r.fst 0).toPV.toBool
              (Option.some (Ex.ret, { vals := [AV.bool Bool.false], blks := [] }))
              (lp E F 21 0 [] 0
                {
                  vals :=
                    [AV.int IntKind.i64 x1, AV.int IntKind.i64 y2, AV.sl 2 x70,
                      AV.int IntKind.i64 x71, AV.int IntKind.i64 (IntKind.i64.wrap (x72 + 1))],
                  blks := [] }))
            Option.none)
        Option.none)
    (Option.some (Ex.exit 0, { vals := [], blks := [] })) := (lp_unfold ..).trans (by kernel_rfl)

/-- dynpos/dynposref11.Allowed -/
theorem r21 (F : Fun) (t0 : Int) (t1 : Int) (t2 : Int) (t3 : Int) (t4 : Int) (t5 : List (List PV)) (x : Int) (y : Int) : funK E F 21 [AV.agg
    [PV.int IntKind.i64 t0, PV.int IntKind.i64 t1, PV.int IntKind.i64 t2,
      PV.int IntKind.i64 t3, PV.int IntKind.i64 t4, PV.sl 2 t5],
  AV.int IntKind.i64 x, AV.int IntKind.i64 y] [] =
  bnd
    (F 17
      [AV.agg
          [PV.int IntKind.i64 t0, PV.int IntKind.i64 t1, PV.int IntKind.i64 t2,
            PV.int IntKind.i64 t3, PV.int IntKind.i64 t4, PV.sl 2 t5]]
      [])
    fun (r : Res) =>
    ctl (okR [RSh.one Sh.bool] r.fst && okB [] r.snd)
      (bnd
        (ctl (!!(nth (RV.p PV.nilp) r.fst 0).toPV.toBool)
          (Option.some (ltB x (IntKind.i64.wrap (0 - t2)))) (Option.some Bool.true))
        fun (v : Bool) =>
        bnd (ctl (!v) (Option.some (ltB t2 x)) (Option.some Bool.true)) fun (v : Bool) =>
          bnd (ctl (!v) (Option.some (ltB y (IntKind.i64.wrap (0 - t2)))) (Option.some Bool.true)) fun (v : Bool) =>
            bnd (ctl (!v) (Option.some (ltB t2 y)) (Option.some Bool.true)) fun (v : Bool) =>
              bnd
                (ctl (!v) (Option.some (ltB (IntKind.i64.wrap (t2 * t2)) (IntKind.i64.wrap (IntKind.i64.wrap (x * x) + IntKind.i64.wrap (y * y)))))
                  (Option.some Bool.true))
                fun (v : Bool) =>
                ctl v (Option.some ([RV.p (PV.bool Bool.false)], []))
                  (bnd (ctl (t0 == 1) (Option.some (x != 0)) (Option.some Bool.false)) fun (v : Bool) =>
                    bnd (ctl (!v) (ctl (t0 == 2) (Option.some (y != 0)) (Option.some Bool.false)) (Option.some Bool.true))
                      fun (v : Bool) =>
                      ctl v (Option.some ([RV.p (PV.bool Bool.false)], []))
                        (bnd
                          (lp E F 21 0 [] 0
                            {
                              vals :=
                                [AV.int IntKind.i64 x, AV.int IntKind.i64 y, AV.sl 2 t5,
                                  AV.int IntKind.i64 (↑t5.length : Int), AV.int IntKind.i64 0],
                              blks := [] })
                          fun (p : Ex × Pack) =>
                          ctl (p.fst.eqb (Ex.exit 0))
                            (Option.some ([RV.p (PV.bool Bool.true)], []))
                            (ctl (p.fst.eqb Ex.ret)
                              (ctl (okPack { slots := [(6, Sum.inl Sh.bool)], blks := [] } p.snd)
                                (Option.some
                                  ([RV.p (PV.bool (nth AV.undef p.snd.vals 0).toPV.toBool)], []))
                                Option.none)
                              Option.none))))
      Option.none := by kernel_rfl

/-- dynpos/dynposref11.Longitudinal, the loop of block 0 -/
theorem r22_0 (F : Fun) (y1 : Int) (low6 : Int) (high7 : Int) (b0_0 : Int) (b0_1 : Int) (b0_2 : Int) (b0_3 : Int) (b0_4 : Int) (b0_5 : List (List PV)) : lp E F 22 0 [] 0
  { vals := [AV.int IntKind.i64 y1, AV.int IntKind.i64 low6, AV.int IntKind.i64 high7],
    blks :=
      [Blk.box
          [AV.int IntKind.i64 b0_0, AV.int IntKind.i64 b0_1, AV.int IntKind.i64 b0_2,
            AV.int IntKind.i64 b0_3, AV.int IntKind.i64 b0_4, AV.sl 2 b0_5]] } =
  bnd
    (F 21
      [AV.agg
          [PV.int IntKind.i64 b0_0, PV.int IntKind.i64 b0_1, PV.int IntKind.i64 b0_2,
            PV.int IntKind.i64 b0_3, PV.int IntKind.i64 b0_4, PV.sl 2 b0_5],
        AV.int IntKind.i64 (IntKind.i64.wrap (low6 - 1)), AV.int IntKind.i64 y1]
      [])
    fun (r : Res) =>
    ctl (okR [RSh.one Sh.bool] r.fst && okB [] r.snd)
      (ctl (nth (RV.p PV.nilp) r.fst 0).toPV.toBool
        (lp E F 22 0 [] 0
          {
            vals :=
              [AV.int IntKind.i64 y1, AV.int IntKind.i64 (IntKind.i64.wrap (low6 - 1)), AV.int IntKind.i64 high7],
            blks :=
              [Blk.box
                  [AV.int IntKind.i64 b0_0, AV.int IntKind.i64 b0_1, AV.int IntKind.i64 b0_2,
                    AV.int IntKind.i64 b0_3, AV.int IntKind.i64 b0_4, AV.sl 2 b0_5]] })
        (Option.some
          (Ex.exit 0,
            { vals := [AV.int IntKind.i64 y1, AV.int IntKind.i64 low6, AV.int IntKind.i64 high7],
              blks :=
                [Blk.box
                    [AV.int IntKind.i64 b0_0, AV.int IntKind.i64 b0_1, AV.int IntKind.i64 b0_2,
                      AV.int IntKind.i64 b0_3, AV.int IntKind.i64 b0_4, AV.sl 2 b0_5]] })))
      Option.none := (lp_unfold ..).trans (by kernel_rfl)

/-- dynpos/dynposref11.Longitudinal, the loop of block 2 -/
theorem r22_2 (F : Fun) (y1 : Int) (low6 : Int) (high7 : Int) (b0_0 : Int) (b0_1 : Int) (b0_2 : Int) (b0_3 : Int) (b0_4 : Int) (b0_5 : List (List PV)) : lp E F 22 0 [] 2
  { vals := [AV.int IntKind.i64 y1, AV.int IntKind.i64 low6, AV.int IntKind.i64 high7],
    blks :=
      [Blk.box
          [AV.int IntKind.i64 b0_0, AV.int IntKind.i64 b0_1, AV.int IntKind.i64 b0_2,
            AV.int IntKind.i64 b0_3, AV.int IntKind.i64 b0_4, AV.sl 2 b0_5]] } =
  bnd
    (F 21
      [AV.agg
          [PV.int IntKind.i64 b0_0, PV.int IntKind.i64 b0_1, PV.int IntKind.i64 b0_2,
            PV.int IntKind.i64 b0_3, PV.int IntKind.i64 b0_4, PV.sl 2 b0_5],
        AV.int IntKind.i64 (IntKind.i64.wrap (high7 + 1)), AV.int IntKind.i64 y1]
      [])
    fun (r : Res) =>
    ctl (okR [RSh.one Sh.bool] r.fst && okB [] r.snd)
      (ctl (nth (RV.p PV.nilp) r.fst 0).toPV.toBool
        (lp E F 22 0 [] 2
          {
            vals :=
              [AV.int IntKind.i64 y1, AV.int IntKind.i64 low6, AV.int IntKind.i64 (IntKind.i64.wrap (high7 + 1))],
            blks :=
              [Blk.box
                  [AV.int IntKind.i64 b0_0, AV.int IntKind.i64 b0_1, AV.int IntKind.i64 b0_2,
                    AV.int IntKind.i64 b0_3, AV.int IntKind.i64 b0_4, AV.sl 2 b0_5]] })
        (Option.some (Ex.exit 2, { vals := [AV.int IntKind.i64 low6, AV.int IntKind.i64 high7], blks := [] })))
      Option.none := (lp_unfold ..).trans (by kernel_rfl)

/-- dynpos/dynposref11.Longitudinal -/
theorem r22 (F : Fun) (t0 : Int) (t1 : Int) (t2 : Int) (t3 : Int) (t4 : Int) (t5 : List (List PV)) (y : Int) : funK E F 22 [AV.agg
    [PV.int IntKind.i64 t0, PV.int IntKind.i64 t1, PV.int IntKind.i64 t2,
      PV.int IntKind.i64 t3, PV.int IntKind.i64 t4, PV.sl 2 t5],
  AV.int IntKind.i64 y] [] =
  bnd
    (F 21
      [AV.agg
          [PV.int IntKind.i64 t0, PV.int IntKind.i64 t1, PV.int IntKind.i64 t2,
            PV.int IntKind.i64 t3, PV.int IntKind.i64 t4, PV.sl 2 t5],
        AV.int IntKind.i64 0, AV.int IntKind.i64 y]
      [])
    fun (r : Res) =>
    ctl (okR [RSh.one Sh.bool] r.fst && okB [] r.snd)
      (ctl (!(nth (RV.p PV.nilp) r.fst 0).toPV.toBool)
        (Option.some ([RV.p (PV.int IntKind.i64 0), RV.p (PV.int IntKind.i64 0)], []))
        (bnd
          (lp E F 22 0 [] 0
            { vals := [AV.int IntKind.i64 y, AV.int IntKind.i64 0, AV.int IntKind.i64 0],
              blks :=
                [Blk.box
                    [AV.int IntKind.i64 t0, AV.int IntKind.i64 t1, AV.int IntKind.i64 t2,
                      AV.int IntKind.i64 t3, AV.int IntKind.i64 t4, AV.sl 2 t5]] })
          fun (p : Ex × Pack) =>
          ctl (p.fst.eqb (Ex.exit 0))
            (ctl
              (okPack
                {
                  slots :=
                    [(1, Sum.inl (Sh.int IntKind.i64)), (2, Sum.inr (Sum.inr (AV.t (TV.ptr 0 0)))),
                      (6, Sum.inl (Sh.int IntKind.i64)), (7, Sum.inl (Sh.int IntKind.i64))],
                  blks :=
                    [Sum.inl
                        [Sum.inl (Sh.int IntKind.i64), Sum.inl (Sh.int IntKind.i64), Sum.inl (Sh.int IntKind.i64),
                          Sum.inl (Sh.int IntKind.i64), Sum.inl (Sh.int IntKind.i64), Sum.inl (Sh.sl 2)]] }
                p.snd)
              (bnd
                (lp E F 22 0 [] 2
                  {
                    vals :=
                      [AV.int IntKind.i64 (nth AV.undef p.snd.vals 0).toPV.toInt,
                        AV.int IntKind.i64 (nth AV.undef p.snd.vals 1).toPV.toInt,
                        AV.int IntKind.i64 (nth AV.undef p.snd.vals 2).toPV.toInt],
                    blks :=
                      [Blk.box
                          [AV.int IntKind.i64
                              (nth AV.undef (nth (Blk.box []) p.snd.blks 0).toCs 0).toPV.toInt,
                            AV.int IntKind.i64
                              (nth AV.undef (nth (Blk.box []) p.snd.blks 0).toCs 1).toPV.toInt,
                            AV.int IntKind.i64
                              (nth AV.undef (nth (Blk.box []) p.snd.blks 0).toCs 2).toPV.toInt,
                            AV.int IntKind.i64
                              (nth AV.undef (nth (Blk.box []) p.snd.blks 0).toCs 3).toPV.toInt,
                            AV.int IntKind.i64
                              (nth AV.undef (nth (Blk.box []) p.snd.blks 0).toCs 4).toPV.toInt,
                            AV.sl 2
                              (nth AV.undef (nth (Blk.box []) p.snd.blks 0).toCs 5).toPV.toEs]] })
                fun (p : Ex × Pack) =>
                ctl (p.fst.eqb (Ex.exit 2))
                  (ctl
                    (okPack { slots := [(6, Sum.inl (Sh.int IntKind.i64)), (7, Sum.inl (Sh.int IntKind.i64))], blks := [] }
                      p.snd)
                    (Option.some
                      ([RV.p (PV.int IntKind.i64 (nth AV.undef p.snd.vals 0).toPV.toInt),
                          RV.p (PV.int IntKind.i64 (nth AV.undef p.snd.vals 1).toPV.toInt)],
                        []))
                    Option.none)
                  Option.none)
              Option.none)
            Option.none))
      Option.none := by kernel_rfl

/-- dynpos/sector.Rated -/
theorem r23 (F : Fun) (low : Int) (high : Int) (last : Int) (rate : Int) : funK E F 23 [AV.int IntKind.i64 low, AV.int IntKind.i64 high, AV.int IntKind.i64 last,
  AV.int IntKind.i64 rate] [] =
  bnd
    (ctl (!ltB 1000000000 (maxI rate (maxI last (maxI high low))))
      (Option.some (ltB (minI last (minI high low)) (-1000000000))) (Option.some Bool.true))
    fun (v : Bool) =>
    bnd (ctl (!v) (Option.some (ltB high low)) (Option.some Bool.true)) fun (v : Bool) =>
      bnd (ctl (!v) (Option.some (ltB rate 0)) (Option.some Bool.true)) fun (v : Bool) =>
        ctl v
          (Option.some
            ([RV.p (PV.int IntKind.i64 low), RV.p (PV.int IntKind.i64 high)], []))
          (ctl
            (leB (maxI (IntKind.i64.wrap (last - rate)) low) (minI (IntKind.i64.wrap (last + rate)) high))
            (Option.some
              ([RV.p (PV.int IntKind.i64 (maxI (IntKind.i64.wrap (last - rate)) low)),
                  RV.p (PV.int IntKind.i64 (minI (IntKind.i64.wrap (last + rate)) high))],
                []))
            (ctl (ltB last low)
              (Option.some
                ([RV.p (PV.int IntKind.i64 low), RV.p (PV.int IntKind.i64 low)], []))
              (Option.some
                ([RV.p (PV.int IntKind.i64 high), RV.p (PV.int IntKind.i64 high)], [])))) := by kernel_rfl

/-- dynpos/dynposref11.Rated, the loop of block 0 -/
theorem r24_0 (F : Fun) (low0 : Int) (high1 : Int) (last2 : Int) (rate3 : Int) (x18_0 : Int) (x18_1 : Int) (x18_2 : Int) (x18_3 : Int) (x19 : Int) : lp E F 24 0 [] 0
  {
    vals :=
      [AV.int IntKind.i64 low0, AV.int IntKind.i64 high1, AV.int IntKind.i64 last2,
        AV.int IntKind.i64 rate3,
        AV.agg
          [PV.int IntKind.i64 x18_0, PV.int IntKind.i64 x18_1, PV.int IntKind.i64 x18_2,
            PV.int IntKind.i64 x18_3],
        AV.int IntKind.i64 x19],
    blks := [] } =
  ctl (ltB x19 4)
    (getE
      [[PV.int IntKind.i64 x18_0], [PV.int IntKind.i64 x18_1], [PV.int IntKind.i64 x18_2],
        [PV.int IntKind.i64 x18_3]]
      x19 fun (c : List PV) =>
      ctl (okCs [Sh.int IntKind.i64] c)
        (bnd
          (ctl (!ltB (nth PV.nilp c 0).toInt (-1000000000))
            (Option.some (ltB 1000000000 (nth PV.nilp c 0).toInt)) (Option.some Bool.true))
          fun (v : Bool) =>
          ctl v
            (Option.some (Ex.ret, { vals := [AV.int IntKind.i64 low0, AV.int IntKind.i64 high1], blks := [] }))
            (lp E F 24 0 [] 0
              {
                vals :=
                  [AV.int IntKind.i64 low0, AV.int IntKind.i64 high1, AV.int IntKind.i64 last2,
                    AV.int IntKind.i64 rate3,
                    AV.agg
                      [PV.int IntKind.i64 x18_0, PV.int IntKind.i64 x18_1, PV.int IntKind.i64 x18_2,
                        PV.int IntKind.i64 x18_3],
                    AV.int IntKind.i64 (IntKind.i64.wrap (x19 + 1))],
                blks := [] }))
        Option.none)
    (Option.some
      (Ex.exit 0,
        {
          vals :=
            [AV.int IntKind.i64 low0, AV.int IntKind.i64 high1, AV.int IntKind.i64 last2,
              AV.int IntKind.i64 rate3],
          blks := [] })) := (lp_unfold ..).trans (by kernel_rfl)

/-- dynpos/dynposref11.Rated -/
theorem r24 (F : Fun) (low : Int) (high : Int) (last : Int) (rate : Int) : funK E F 24 [AV.int IntKind.i64 low, AV.int IntKind.i64 high, AV.int IntKind.i64 last,
  AV.int IntKind.i64 rate] [] =
  bnd
    (lp E F 24 0 [] 0
      {
        vals :=
          [AV.int IntKind.i64 low, AV.int IntKind.i64 high, AV.int IntKind.i64 last,
            AV.int IntKind.i64 rate,
            AV.agg
              [PV.int IntKind.i64 low, PV.int IntKind.i64 high, PV.int IntKind.i64 last,
                PV.int IntKind.i64 rate],
            AV.int IntKind.i64 0],
        blks := [] })
    fun (p : Ex × Pack) =>
    ctl (p.fst.eqb (Ex.exit 0))
      (ctl
        (okPack
          {
            slots :=
              [(0, Sum.inl (Sh.int IntKind.i64)), (1, Sum.inl (Sh.int IntKind.i64)), (2, Sum.inl (Sh.int IntKind.i64)),
                (3, Sum.inl (Sh.int IntKind.i64))],
            blks := [] }
          p.snd)
        (bnd
          (ctl
            (!ltB (nth AV.undef p.snd.vals 1).toPV.toInt
                (nth AV.undef p.snd.vals 0).toPV.toInt)
            (Option.some (ltB (nth AV.undef p.snd.vals 3).toPV.toInt 0)) (Option.some Bool.true))
          fun (v : Bool) =>
          ctl v
            (Option.some
              ([RV.p (PV.int IntKind.i64 (nth AV.undef p.snd.vals 0).toPV.toInt),
                  RV.p (PV.int IntKind.i64 (nth AV.undef p.snd.vals 1).toPV.toInt)],
                []))
            (ctl
              (leB
                (maxI
                  (IntKind.i64.wrap
                    ((nth AV.undef p.snd.vals 2).toPV.toInt -
                      (nth AV.undef p.snd.vals 3).toPV.toInt))
                  (nth AV.undef p.snd.vals 0).toPV.toInt)
                (minI
                  (IntKind.i64.wrap
                    ((nth AV.undef p.snd.vals 2).toPV.toInt +
                      (nth AV.undef p.snd.vals 3).toPV.toInt))
                  (nth AV.undef p.snd.vals 1).toPV.toInt))
              (Option.some
                ([RV.p
                      (PV.int IntKind.i64
                        (maxI
                          (IntKind.i64.wrap
                            ((nth AV.undef p.snd.vals 2).toPV.toInt -
                              (nth AV.undef p.snd.vals 3).toPV.toInt))
                          (nth AV.undef p.snd.vals 0).toPV.toInt)),
                    RV.p
                      (PV.int IntKind.i64
                        (minI
                          (IntKind.i64.wrap
                            ((nth AV.undef p.snd.vals 2).toPV.toInt +
                              (nth AV.undef p.snd.vals 3).toPV.toInt))
                          (nth AV.undef p.snd.vals 1).toPV.toInt))],
                  []))
              (ctl
                (ltB (nth AV.undef p.snd.vals 2).toPV.toInt
                  (nth AV.undef p.snd.vals 0).toPV.toInt)
                (Option.some
                  ([RV.p (PV.int IntKind.i64 (nth AV.undef p.snd.vals 0).toPV.toInt),
                      RV.p (PV.int IntKind.i64 (nth AV.undef p.snd.vals 0).toPV.toInt)],
                    []))
                (Option.some
                  ([RV.p (PV.int IntKind.i64 (nth AV.undef p.snd.vals 1).toPV.toInt),
                      RV.p (PV.int IntKind.i64 (nth AV.undef p.snd.vals 1).toPV.toInt)],
                    [])))))
        Option.none)
      (ctl (p.fst.eqb Ex.ret)
        (ctl
          (okPack { slots := [(8, Sum.inl (Sh.int IntKind.i64)), (9, Sum.inl (Sh.int IntKind.i64))], blks := [] } p.snd)
          (Option.some
            ([RV.p (PV.int IntKind.i64 (nth AV.undef p.snd.vals 0).toPV.toInt),
                RV.p (PV.int IntKind.i64 (nth AV.undef p.snd.vals 1).toPV.toInt)],
              []))
          Option.none)
        Option.none) := by kernel_rfl

/-- (*dynpos/dynposmake.Src).N -/
theorem r25 (F : Fun) (s0 : List (List PV)) (s1 : Int) (n : Int) : funK E F 25 [AV.t (TV.ptr 0 0), AV.int IntKind.i64 n] [Blk.box [AV.sl 1 s0, AV.int IntKind.i64 s1]] =
  ctl (leB (↑s0.length : Int) s1)
    (Option.some
      ([RV.p (PV.int IntKind.i64 0)],
        [Blk.box [AV.sl 1 s0, AV.int IntKind.i64 s1]]))
    (getE s0 (IntKind.i64.wrap (IntKind.i64.wrap (s1 + 1) - 1)) fun (c : List PV) =>
      ctl (okCs [Sh.int IntKind.i64] c)
        (bnd
          (F 39 [AV.int IntKind.i64 (nth PV.nilp c 0).toInt, AV.int IntKind.i64 n] [])
          fun (r : Res) =>
          ctl
            (okR [RSh.one (Sh.int IntKind.i64)] r.fst && okB [] r.snd)
            (Option.some
              ([RV.p
                    (PV.int IntKind.i64 (nth (RV.p PV.nilp) r.fst 0).toPV.toInt)],
                [Blk.box [AV.sl 1 s0, AV.int IntKind.i64 (IntKind.i64.wrap (s1 + 1))]]))
            Option.none)
        Option.none) := by kernel_rfl

/-- (*dynpos/dynposmake.Src).Arc -/
theorem r26 (F : Fun) (s0 : List (List PV)) (s1 : Int) : funK E F 26 [AV.t (TV.ptr 0 0)] [Blk.box [AV.sl 1 s0, AV.int IntKind.i64 s1]] =
  bnd
    (F 27
      [AV.t (TV.ptr 0 0),
        AV.sl 1
          [[PV.int IntKind.i64 0], [PV.int IntKind.i64 450], [PV.int IntKind.i64 800],
            [PV.int IntKind.i64 1350], [PV.int IntKind.i64 1800], [PV.int IntKind.i64 2600],
            [PV.int IntKind.i64 3500]]]
      [Blk.box [AV.sl 1 s0, AV.int IntKind.i64 s1]])
    fun (r : Res) =>
    ctl
      (okR [RSh.one (Sh.int IntKind.i64)] r.fst &&
        okB [Sum.inl [Sh.sl 1, Sh.int IntKind.i64]] r.snd)
      (bnd
        (F 27
          [AV.t (TV.ptr 0 0),
            AV.sl 1
              [[PV.int IntKind.i64 0], [PV.int IntKind.i64 100], [PV.int IntKind.i64 300],
                [PV.int IntKind.i64 900], [PV.int IntKind.i64 1799]]]
          [Blk.box
              [AV.sl 1
                  (nth PV.nilp
                      (List.map AV.toPV (nth (Blk.box []) r.snd 0).toCs) 0).toEs,
                AV.int IntKind.i64
                  (nth PV.nilp
                      (List.map AV.toPV (nth (Blk.box []) r.snd 0).toCs) 1).toInt]])
        fun (r_1 : Res) =>
        ctl
          (okR [RSh.one (Sh.int IntKind.i64)] r_1.fst &&
            okB [Sum.inl [Sh.sl 1, Sh.int IntKind.i64]] r_1.snd)
          (Option.some
            ([RV.agg
                  [PV.int IntKind.i64 (nth (RV.p PV.nilp) r.fst 0).toPV.toInt,
                    PV.int IntKind.i64
                      ((IntKind.i64.wrap
                            ((nth (RV.p PV.nilp) r.fst 0).toPV.toInt +
                              (nth (RV.p PV.nilp) r_1.fst 0).toPV.toInt)).tmod
                        3600)]],
              [Blk.box
                  [AV.sl 1
                      (nth PV.nilp
                          (List.map AV.toPV (nth (Blk.box []) r_1.snd 0).toCs) 0).toEs,
                    AV.int IntKind.i64
                      (nth PV.nilp
                          (List.map AV.toPV (nth (Blk.box []) r_1.snd 0).toCs) 1).toInt]]))
          Option.none)
      Option.none := by kernel_rfl

/-- (*dynpos/dynposmake.Src).Pick -/
theorem r27 (F : Fun) (s0 : List (List PV)) (s1 : Int) (l : List (List PV)) : funK E F 27 [AV.t (TV.ptr 0 0), AV.sl 1 l] [Blk.box [AV.sl 1 s0, AV.int IntKind.i64 s1]] =
  bnd
    (F 25 [AV.t (TV.ptr 0 0), AV.int IntKind.i64 (↑l.length : Int)]
      [Blk.box [AV.sl 1 s0, AV.int IntKind.i64 s1]])
    fun (r : Res) =>
    ctl
      (okR [RSh.one (Sh.int IntKind.i64)] r.fst &&
        okB [Sum.inl [Sh.sl 1, Sh.int IntKind.i64]] r.snd)
      (getE l (nth (RV.p PV.nilp) r.fst 0).toPV.toInt
        fun (c : List PV) =>
        ctl (okCs [Sh.int IntKind.i64] c)
          (Option.some
            ([RV.p (PV.int IntKind.i64 (nth PV.nilp c 0).toInt)],
              [Blk.box
                  [AV.sl 1
                      (nth PV.nilp
                          (List.map AV.toPV (nth (Blk.box []) r.snd 0).toCs) 0).toEs,
                    AV.int IntKind.i64
                      (nth PV.nilp
                          (List.map AV.toPV (nth (Blk.box []) r.snd 0).toCs) 1).toInt]]))
          Option.none)
      Option.none := by kernel_rfl

/-- dynpos/sector.run, the loop of block 0 -/
theorem r28_0a (F : Fun) (low2 : Int) (high3 : Int) (b0_0 : Int) (b0_1 : Int) (b0_2 : Int) (b0_3 : Int) (b0_4 : Int) (b0_5 : List (List PV)) : lp E F 28 1 [AV.fn 29 [TV.ptr 0 0]] 0
  { vals := [AV.int IntKind.i64 low2, AV.int IntKind.i64 high3],
    blks :=
      [Blk.box
          [AV.int IntKind.i64 b0_0, AV.int IntKind.i64 b0_1, AV.int IntKind.i64 b0_2,
            AV.int IntKind.i64 b0_3, AV.int IntKind.i64 b0_4, AV.sl 2 b0_5]] } =
  bnd
    (F 29 [AV.int IntKind.i64 (IntKind.i64.wrap (low2 - 1)), AV.t (TV.ptr 0 0)]
      [Blk.box
          [AV.int IntKind.i64 b0_0, AV.int IntKind.i64 b0_1, AV.int IntKind.i64 b0_2,
            AV.int IntKind.i64 b0_3, AV.int IntKind.i64 b0_4, AV.sl 2 b0_5]])
    fun (r : Res) =>
    ctl
      (okR [RSh.one Sh.bool] r.fst &&
        okB
          [Sum.inl
              [Sh.int IntKind.i64, Sh.int IntKind.i64, Sh.int IntKind.i64,
                Sh.int IntKind.i64, Sh.int IntKind.i64, Sh.sl 2]]
          r.snd)
      (ctl (nth (RV.p PV.nilp) r.fst 0).toPV.toBool
        (lp E F 28 1 [AV.fn 29 [TV.ptr 0 0]] 0
          { vals := [AV.int IntKind.i64 (IntKind.i64.wrap (low2 - 1)), AV.int IntKind.i64 high3],
            blks :=
              [Blk.box
                  [AV.int IntKind.i64
                      (nth PV.nilp
                          (List.map AV.toPV (nth (Blk.box []) r.snd 0).toCs) 0).toInt,
                    AV.int IntKind.i64
                      (nth PV.nilp
                          (List.map AV.toPV (nth (Blk.box []) r.snd 0).toCs) 1).toInt,
                    AV.int IntKind.i64
                      (nth PV.nilp
                          (List.map AV.toPV (nth (Blk.box []) r.snd 0).toCs) 2).toInt,
                    AV.int IntKind.i64
                      (nth PV.nilp
                          (List.map AV.toPV (nth (Blk.box []) r.snd 0).toCs) 3).toInt,
                    AV.int IntKind.i64
                      (nth PV.nilp
                          (List.map AV.toPV (nth (Blk.box []) r.snd 0).toCs) 4).toInt,
                    AV.sl 2
                      (nth PV.nilp
                          (List.map AV.toPV (nth (Blk.box []) r.snd 0).toCs) 5).toEs]] })
        (Option.some
          (Ex.exit 0,
            { vals := [AV.int IntKind.i64 low2, AV.int IntKind.i64 high3],
              blks :=
                [Blk.box
                    [AV.int IntKind.i64
                        (nth PV.nilp
                            (List.map AV.toPV (nth (Blk.box []) r.snd 0).toCs) 0).toInt,
                      AV.int IntKind.i64
                        (nth PV.nilp
                            (List.map AV.toPV (nth (Blk.box []) r.snd 0).toCs) 1).toInt,
                      AV.int IntKind.i64
                        (nth PV.nilp
                            (List.map AV.toPV (nth (Blk.box []) r.snd 0).toCs) 2).toInt,
                      AV.int IntKind.i64
                        (nth PV.nilp
                            (List.map AV.toPV (nth (Blk.box []) r.snd 0).toCs) 3).toInt,
                      AV.int IntKind.i64
                        (nth PV.nilp
                            (List.map AV.toPV (nth (Blk.box []) r.snd 0).toCs) 4).toInt,
                      AV.sl 2
                        (nth PV.nilp
                            (List.map AV.toPV (nth (Blk.box []) r.snd 0).toCs) 5).toEs]] })))
      Option.none := (lp_unfold ..).trans (by kernel_rfl)

/-- dynpos/sector.run, the loop of block 0 -/
theorem r28_0b (F : Fun) (low2 : Int) (high3 : Int) (b0_0 : Int) (b0_1 : Int) (b0_2 : Int) (b0_3 : Int) (b0_4 : Int) (b0_5 : List (List PV)) (b1_0 : Int) : lp E F 28 2 [AV.fn 31 [TV.ptr 0 0, TV.ptr 1 0]] 0
  { vals := [AV.int IntKind.i64 low2, AV.int IntKind.i64 high3],
    blks :=
      [Blk.box
          [AV.int IntKind.i64 b0_0, AV.int IntKind.i64 b0_1, AV.int IntKind.i64 b0_2,
            AV.int IntKind.i64 b0_3, AV.int IntKind.i64 b0_4, AV.sl 2 b0_5],
        Blk.box [AV.int IntKind.i64 b1_0]] } =
  bnd
    (F 31
      [AV.int IntKind.i64 (IntKind.i64.wrap (low2 - 1)), AV.t (TV.ptr 0 0),
        AV.t (TV.ptr 1 0)]
      [Blk.box
          [AV.int IntKind.i64 b0_0, AV.int IntKind.i64 b0_1, AV.int IntKind.i64 b0_2,
            AV.int IntKind.i64 b0_3, AV.int IntKind.i64 b0_4, AV.sl 2 b0_5],
        Blk.box [AV.int IntKind.i64 b1_0]])
    fun (r : Res) =>
    ctl
      (okR [RSh.one Sh.bool] r.fst &&
        okB
          [Sum.inl
              [Sh.int IntKind.i64, Sh.int IntKind.i64, Sh.int IntKind.i64,
                Sh.int IntKind.i64, Sh.int IntKind.i64, Sh.sl 2],
            Sum.inl [Sh.int IntKind.i64]]
          r.snd)
      (ctl (nth (RV.p PV.nilp) r.fst 0).toPV.toBool
        (lp E F 28 2 [AV.fn 31 [TV.ptr 0 0, TV.ptr 1 0]] 0
          { vals := [AV.int IntKind.i64 (IntKind.i64.wrap (low2 - 1)), AV.int IntKind.i64 high3],
            blks :=
              [Blk.box
                  [AV.int IntKind.i64
                      (nth PV.nilp
                          (List.map AV.toPV (nth (Blk.box []) r.snd 0).toCs) 0).toInt,
                    AV.int IntKind.i64
                      (nth PV.nilp
                          (List.map AV.toPV (nth (Blk.box []) r.snd 0).toCs) 1).toInt,
                    AV.int IntKind.i64
                      (nth PV.nilp
                          (List.map AV.toPV (nth (Blk.box []) r.snd 0).toCs) 2).toInt,
                    AV.int IntKind.i64
                      (nth PV.nilp
                          (List.map AV.toPV (nth (Blk.box []) r.snd 0).toCs) 3).toInt,
                    AV.int IntKind.i64
                      (nth PV.nilp
                          (List.map AV.toPV (nth (Blk.box []) r.snd 0).toCs) 4).toInt,
                    AV.sl 2
                      (nth PV.nilp
                          (List.map AV.toPV (nth (Blk.box []) r.snd 0).toCs) 5).toEs],
                Blk.box
                  [AV.int IntKind.i64
                      (nth PV.nilp
                          (List.map AV.toPV (nth (Blk.box []) r.snd 1).toCs) 0).toInt]] })
        (Option.some
          (Ex.exit 0,
            { vals := [AV.int IntKind.i64 low2, AV.int IntKind.i64 high3],
              blks :=
                [Blk.box
                    [AV.int IntKind.i64
                        (nth PV.nilp
                            (List.map AV.toPV (nth (Blk.box []) r.snd 0).toCs) 0).toInt,
                      AV.int IntKind.i64
                        (nth PV.nilp
                            (List.map AV.toPV (nth (Blk.box []) r.snd 0).toCs) 1).toInt,
                      AV.int IntKind.i64
                        (nth PV.nilp
                            (List.map AV.toPV (nth (Blk.box []) r.snd 0).toCs) 2).toInt,
                      AV.int IntKind.i64
                        (nth PV.nilp
                            (List.map AV.toPV (nth (Blk.box []) r.snd 0).toCs) 3).toInt,
                      AV.int IntKind.i64
                        (nth PV.nilp
                            (List.map AV.toPV (nth (Blk.box []) r.snd 0).toCs) 4).toInt,
                      AV.sl 2
                        (nth PV.nilp
                            (List.map AV.toPV (nth (Blk.box []) r.snd 0).toCs) 5).toEs],
                  Blk.box
                    [AV.int IntKind.i64
                        (nth PV.nilp
                            (List.map AV.toPV (nth (Blk.box []) r.snd 1).toCs) 0).toInt]] })))
      Option.none := (lp_unfold ..).trans (by kernel_rfl)

/-- dynpos/sector.run, the loop of block 2 -/
theorem r28_2a (F : Fun) (low2 : Int) (high3 : Int) (b0_0 : Int) (b0_1 : Int) (b0_2 : Int) (b0_3 : Int) (b0_4 : Int) (b0_5 : List (List PV)) : lp E F 28 1 [AV.fn 29 [TV.ptr 0 0]] 2
  { vals := [AV.int IntKind.i64 low2, AV.int IntKind.i64 high3],
    blks :=
      [Blk.box
          [AV.int IntKind.i64 b0_0, AV.int IntKind.i64 b0_1, AV.int IntKind.i64 b0_2,
            AV.int IntKind.i64 b0_3, AV.int IntKind.i64 b0_4, AV.sl 2 b0_5]] } =
  bnd
    (F 29 [AV.int IntKind.i64 (IntKind.i64.wrap (high3 + 1)), AV.t (TV.ptr 0 0)]
      [Blk.box
          [AV.int IntKind.i64 b0_0, AV.int IntKind.i64 b0_1, AV.int IntKind.i64 b0_2,
            AV.int IntKind.i64 b0_3, AV.int IntKind.i64 b0_4, AV.sl 2 b0_5]])
    fun (r : Res) =>
    ctl
      (okR [RSh.one Sh.bool] r.fst &&
        okB
          [Sum.inl
              [Sh.int IntKind.i64, Sh.int IntKind.i64, Sh.int IntKind.i64,
                Sh.int IntKind.i64, Sh.int IntKind.i64, Sh.sl 2]]
          r.snd)
      (ctl (nth (RV.p PV.nilp) r.fst 0).toPV.toBool
        (lp E F 28 1 [AV.fn 29 [TV.ptr 0 0]] 2
          { vals := [AV.int IntKind.i64 low2, AV.int IntKind.i64 (IntKind.i64.wrap (high3 + 1))],
            blks :=
              [Blk.box
                  [AV.int IntKind.i64
                      (nth PV.nilp
                          (List.map AV.toPV (nth (Blk.box []) r.snd 0).toCs) 0).toInt,
                    AV.int IntKind.i64
                      (nth PV.nilp
                          (List.map AV.toPV (nth (Blk.box []) r.snd 0).toCs) 1).toInt,
                    AV.int IntKind.i64
                      (nth PV.nilp
                          (List.map AV.toPV (nth (Blk.box []) r.snd 0).toCs) 2).toInt,
                    AV.int IntKind.i64
                      (nth PV.nilp
                          (List.map AV.toPV (nth (Blk.box []) r.snd 0).toCs) 3).toInt,
                    AV.int IntKind.i64
                      (nth PV.nilp
                          (List.map AV.toPV (nth (Blk.box []) r.snd 0).toCs) 4).toInt,
                    AV.sl 2
                      (nth PV.nilp
                          (List.map AV.toPV (nth (Blk.box []) r.snd 0).toCs) 5).toEs]] })
        (Option.some
          (Ex.exit 2,
            { vals := [AV.int IntKind.i64 low2, AV.int IntKind.i64 high3],
              blks :=
                [Blk.box
                    [AV.int IntKind.i64
                        (nth PV.nilp
                            (List.map AV.toPV (nth (Blk.box []) r.snd 0).toCs) 0).toInt,
                      AV.int IntKind.i64
                        (nth PV.nilp
                            (List.map AV.toPV (nth (Blk.box []) r.snd 0).toCs) 1).toInt,
                      AV.int IntKind.i64
                        (nth PV.nilp
                            (List.map AV.toPV (nth (Blk.box []) r.snd 0).toCs) 2).toInt,
                      AV.int IntKind.i64
                        (nth PV.nilp
                            (List.map AV.toPV (nth (Blk.box []) r.snd 0).toCs) 3).toInt,
                      AV.int IntKind.i64
                        (nth PV.nilp
                            (List.map AV.toPV (nth (Blk.box []) r.snd 0).toCs) 4).toInt,
                      AV.sl 2
                        (nth PV.nilp
                            (List.map AV.toPV (nth (Blk.box []) r.snd 0).toCs) 5).toEs]] })))
      Option.none := (lp_unfold ..).trans (by kernel_rfl)

/-- dynpos/sector.run, the loop of block 2 -/
theorem r28_2b (F : Fun) (low2 : Int) (high3 : Int) (b0_0 : Int) (b0_1 : Int) (b0_2 : Int) (b0_3 : Int) (b0_4 : Int) (b0_5 : List (List PV)) (b1_0 : Int) : lp E F 28 2 [AV.fn 31 [TV.ptr 0 0, TV.ptr 1 0]] 2
  { vals := [AV.int IntKind.i64 low2, AV.int IntKind.i64 high3],
    blks :=
      [Blk.box
          [AV.int IntKind.i64 b0_0, AV.int IntKind.i64 b0_1, AV.int IntKind.i64 b0_2,
            AV.int IntKind.i64 b0_3, AV.int IntKind.i64 b0_4, AV.sl 2 b0_5],
        Blk.box [AV.int IntKind.i64 b1_0]] } =
  bnd
    (F 31
      [AV.int IntKind.i64 (IntKind.i64.wrap (high3 + 1)), AV.t (TV.ptr 0 0),
        AV.t (TV.ptr 1 0)]
      [Blk.box
          [AV.int IntKind.i64 b0_0, AV.int IntKind.i64 b0_1, AV.int IntKind.i64 b0_2,
            AV.int IntKind.i64 b0_3, AV.int IntKind.i64 b0_4, AV.sl 2 b0_5],
        Blk.box [AV.int IntKind.i64 b1_0]])
    fun (r : Res) =>
    ctl
      (okR [RSh.one Sh.bool] r.fst &&
        okB
          [Sum.inl
              [Sh.int IntKind.i64, Sh.int IntKind.i64, Sh.int IntKind.i64,
                Sh.int IntKind.i64, Sh.int IntKind.i64, Sh.sl 2],
            Sum.inl [Sh.int IntKind.i64]]
          r.snd)
      (ctl (nth (RV.p PV.nilp) r.fst 0).toPV.toBool
        (lp E F 28 2 [AV.fn 31 [TV.ptr 0 0, TV.ptr 1 0]] 2
          { vals := [AV.int IntKind.i64 low2, AV.int IntKind.i64 (IntKind.i64.wrap (high3 + 1))],
            blks :=
              [Blk.box
                  [AV.int IntKind.i64
                      (nth PV.nilp
                          (List.map AV.toPV (nth (Blk.box []) r.snd 0).toCs) 0).toInt,
                    AV.int IntKind.i64
                      (nth PV.nilp
                          (List.map AV.toPV (nth (Blk.box []) r.snd 0).toCs) 1).toInt,
                    AV.int IntKind.i64
                      (nth PV.nilp
                          (List.map AV.toPV (nth (Blk.box []) r.snd 0).toCs) 2).toInt,
                    AV.int IntKind.i64
                      (nth PV.nilp
                          (List.map AV.toPV (nth (Blk.box []) r.snd 0).toCs) 3).toInt,
                    AV.int IntKind.i64
                      (nth PV.nilp
                          (List.map AV.toPV (nth (Blk.box []) r.snd 0).toCs) 4).toInt,
                    AV.sl 2
                      (nth PV.nilp
                          (List.map AV.toPV (nth (Blk.box []) r.snd 0).toCs) 5).toEs],
                Blk.box
                  [AV.int IntKind.i64
                      (nth PV.nilp
                          (List.map AV.toPV (nth (Blk.box []) r.snd 1).toCs) 0).toInt]] })
        (Option.some
          (Ex.exit 2,
            { vals := [AV.int IntKind.i64 low2, AV.int IntKind.i64 high3],
              blks :=
                [Blk.box
                    [AV.int IntKind.i64
                        (nth PV.nilp
                            (List.map AV.toPV (nth (Blk.box []) r.snd 0).toCs) 0).toInt,
                      AV.int IntKind.i64
                        (nth PV.nilp
                            (List.map AV.toPV (nth (Blk.box []) r.snd 0).toCs) 1).toInt,
                      AV.int IntKind.i64
                        (nth PV.nilp
                            (List.map AV.toPV (nth (Blk.box []) r.snd 0).toCs) 2).toInt,
                      AV.int IntKind.i64
                        (nth PV.nilp
                            (List.map AV.toPV (nth (Blk.box []) r.snd 0).toCs) 3).toInt,
                      AV.int IntKind.i64
                        (nth PV.nilp
                            (List.map AV.toPV (nth (Blk.box []) r.snd 0).toCs) 4).toInt,
                      AV.sl 2
                        (nth PV.nilp
                            (List.map AV.toPV (nth (Blk.box []) r.snd 0).toCs) 5).toEs],
                  Blk.box
                    [AV.int IntKind.i64
                        (nth PV.nilp
                            (List.map AV.toPV (nth (Blk.box []) r.snd 1).toCs) 0).toInt]] })))
      Option.none := (lp_unfold ..).trans (by kernel_rfl)

/-- dynpos/sector.run -/
theorem r28a (F : Fun) (k0_0 : Int) (k0_1 : Int) (k0_2 : Int) (k0_3 : Int) (k0_4 : Int) (k0_5 : List (List PV)) : funK E F 28 [AV.fn 29 [TV.ptr 0 0]] [Blk.box
    [AV.int IntKind.i64 k0_0, AV.int IntKind.i64 k0_1, AV.int IntKind.i64 k0_2,
      AV.int IntKind.i64 k0_3, AV.int IntKind.i64 k0_4, AV.sl 2 k0_5]] =
  bnd
    (F 29 [AV.int IntKind.i64 0, AV.t (TV.ptr 0 0)]
      [Blk.box
          [AV.int IntKind.i64 k0_0, AV.int IntKind.i64 k0_1, AV.int IntKind.i64 k0_2,
            AV.int IntKind.i64 k0_3, AV.int IntKind.i64 k0_4, AV.sl 2 k0_5]])
    fun (r : Res) =>
    ctl
      (okR [RSh.one Sh.bool] r.fst &&
        okB
          [Sum.inl
              [Sh.int IntKind.i64, Sh.int IntKind.i64, Sh.int IntKind.i64,
                Sh.int IntKind.i64, Sh.int IntKind.i64, Sh.sl 2]]
          r.snd)
      (ctl (!(nth (RV.p PV.nilp) r.fst 0).toPV.toBool)
        (Option.some
          ([RV.p (PV.int IntKind.i64 0), RV.p (PV.int IntKind.i64 0)],
            [Blk.box
                [AV.int IntKind.i64
                    (nth PV.nilp
                        (List.map AV.toPV (nth (Blk.box []) r.snd 0).toCs) 0).toInt,
                  AV.int IntKind.i64
                    (nth PV.nilp
                        (List.map AV.toPV (nth (Blk.box []) r.snd 0).toCs) 1).toInt,
                  AV.int IntKind.i64
                    (nth PV.nilp
                        (List.map AV.toPV (nth (Blk.box []) r.snd 0).toCs) 2).toInt,
                  AV.int IntKind.i64
                    (nth PV.nilp
                        (List.map AV.toPV (nth (Blk.box []) r.snd 0).toCs) 3).toInt,
                  AV.int IntKind.i64
                    (nth PV.nilp
                        (List.map AV.toPV (nth (Blk.box []) r.snd 0).toCs) 4).toInt,
                  AV.sl 2
                    (nth PV.nilp
                        (List.map AV.toPV (nth (Blk.box []) r.snd 0).toCs) 5).toEs]]))
        (bnd
          (lp E F 28 1 [AV.fn 29 [TV.ptr 0 0]] 0
            { vals := [AV.int IntKind.i64 0, AV.int IntKind.i64 0],
              blks :=
                [Blk.box
                    [AV.int IntKind.i64
                        (nth PV.nilp
                            (List.map AV.toPV (nth (Blk.box []) r.snd 0).toCs) 0).toInt,
                      AV.int IntKind.i64
                        (nth PV.nilp
                            (List.map AV.toPV (nth (Blk.box []) r.snd 0).toCs) 1).toInt,
                      AV.int IntKind.i64
                        (nth PV.nilp
                            (List.map AV.toPV (nth (Blk.box []) r.snd 0).toCs) 2).toInt,
                      AV.int IntKind.i64
                        (nth PV.nilp
                            (List.map AV.toPV (nth (Blk.box []) r.snd 0).toCs) 3).toInt,
                      AV.int IntKind.i64
                        (nth PV.nilp
                            (List.map AV.toPV (nth (Blk.box []) r.snd 0).toCs) 4).toInt,
                      AV.sl 2
                        (nth PV.nilp
                            (List.map AV.toPV (nth (Blk.box []) r.snd 0).toCs) 5).toEs]] })
          fun (p : Ex × Pack) =>
          ctl (p.fst.eqb (Ex.exit 0))
            (ctl
              (okPack
                {
                  slots :=
                    [(0, Sum.inr (Sum.inr (AV.fn 29 [TV.ptr 0 0]))), (2, Sum.inl (Sh.int IntKind.i64)),
                      (3, Sum.inl (Sh.int IntKind.i64))],
                  blks :=
                    [Sum.inl
                        [Sum.inl (Sh.int IntKind.i64), Sum.inl (Sh.int IntKind.i64), Sum.inl (Sh.int IntKind.i64),
                          Sum.inl (Sh.int IntKind.i64), Sum.inl (Sh.int IntKind.i64), Sum.inl (Sh.sl 2)]] }
                p.snd)
              (bnd
                (lp E F 28 1 [AV.fn 29 [TV.ptr 0 0]] 2
                  {
                    vals :=
                      [AV.int IntKind.i64 (nth AV.undef p.snd.vals 0).toPV.toInt,
                        AV.int IntKind.i64 (nth AV.undef p.snd.vals 1).toPV.toInt],
                    blks :=
                      [Blk.box
                          [AV.int IntKind.i64
                              (nth AV.undef (nth (Blk.box []) p.snd.blks 0).toCs 0).toPV.toInt,
                            AV.int IntKind.i64
                              (nth AV.undef (nth (Blk.box []) p.snd.blks 0).toCs 1).toPV.toInt,
                            AV.int IntKind.i64
                              (nth AV.undef (nth (Blk.box []) p.snd.blks 0).toCs 2).toPV.toInt,
                            AV.int IntKind.i64
                              (nth AV.undef (nth (Blk.box []) p.snd.blks 0).toCs 3).toPV.toInt,
                            AV.int IntKind.i64
                              (nth AV.undef (nth (Blk.box []) p.snd.blks 0).toCs 4).toPV.toInt,
                            AV.sl 2
                              (nth AV.undef (nth (Blk.box []) p.snd.blks 0).toCs 5).toPV.toEs]] })
                fun (p : Ex × Pack) =>
                ctl (p.fst.eqb (Ex.exit 2))
                  (ctl
                    (okPack
                      { slots := [(2, Sum.inl (Sh.int IntKind.i64)), (3, Sum.inl (Sh.int IntKind.i64))],
                        blks :=
                          [Sum.inl
                              [Sum.inl (Sh.int IntKind.i64), Sum.inl (Sh.int IntKind.i64), Sum.inl (Sh.int IntKind.i64),
                                Sum.inl (Sh.int IntKind.i64), Sum.inl (Sh.int IntKind.i64), Sum.inl (Sh.sl 2)]] }
                      p.snd)
                    (Option.some
                      ([RV.p (PV.int IntKind.i64 (nth AV.undef p.snd.vals 0).toPV.toInt),
                          RV.p (PV.int IntKind.i64 (nth AV.undef p.snd.vals 1).toPV.toInt)],
                        [Blk.box
                            [AV.int IntKind.i64
                                (nth AV.undef (nth (Blk.box []) p.snd.blks 0).toCs 0).toPV.toInt,
                              AV.int IntKind.i64
                                (nth AV.undef (nth (Blk.box []) p.snd.blks 0).toCs 1).toPV.toInt,
                              AV.int IntKind.i64
                                (nth AV.undef (nth (Blk.box []) p.snd.blks 0).toCs 2).toPV.toInt,
                              AV.int IntKind.i64
                                (nth AV.undef (nth (Blk.box []) p.snd.blks 0).toCs 3).toPV.toInt,
                              AV.int IntKind.i64
                                (nth AV.undef (nth (Blk.box []) p.snd.blks 0).toCs 4).toPV.toInt,
                              AV.sl 2
                                (nth AV.undef (nth (Blk.box []) p.snd.blks 0).toCs
                                      5).toPV.toEs]]))
                    Option.none)
                  Option.none)
              Option.none)
            Option.none))
      Option.none := by kernel_rfl

/-- dynpos/sector.run -/
theorem r28b (F : Fun) (k0_0 : Int) (k0_1 : Int) (k0_2 : Int) (k0_3 : Int) (k0_4 : Int) (k0_5 : List (List PV)) (k1_0 : Int) : funK E F 28 [AV.fn 31 [TV.ptr 0 0, TV.ptr 1 0]] [Blk.box
    [AV.int IntKind.i64 k0_0, AV.int IntKind.i64 k0_1, AV.int IntKind.i64 k0_2,
      AV.int IntKind.i64 k0_3, AV.int IntKind.i64 k0_4, AV.sl 2 k0_5],
  Blk.box [AV.int IntKind.i64 k1_0]] =
  bnd
    (F 31
      [AV.int IntKind.i64 0, AV.t (TV.ptr 0 0),
        AV.t (TV.ptr 1 0)]
      [Blk.box
          [AV.int IntKind.i64 k0_0, AV.int IntKind.i64 k0_1, AV.int IntKind.i64 k0_2,
            AV.int IntKind.i64 k0_3, AV.int IntKind.i64 k0_4, AV.sl 2 k0_5],
        Blk.box [AV.int IntKind.i64 k1_0]])
    fun (r : Res) =>
    ctl
      (okR [RSh.one Sh.bool] r.fst &&
        okB
          [Sum.inl
              [Sh.int IntKind.i64, Sh.int IntKind.i64, Sh.int IntKind.i64,
                Sh.int IntKind.i64, Sh.int IntKind.i64, Sh.sl 2],
            Sum.inl [Sh.int IntKind.i64]]
          r.snd)
      (ctl (!(nth (RV.p PV.nilp) r.fst 0).toPV.toBool)
        (Option.some
          ([RV.p (PV.int IntKind.i64 0), RV.p (PV.int IntKind.i64 0)],
            [Blk.box
                [AV.int IntKind.i64
                    (nth PV.nilp
                        (List.map AV.toPV (nth (Blk.box []) r.snd 0).toCs) 0).toInt,
                  AV.int IntKind.i64
                    (nth PV.nilp
                        (List.map AV.toPV (nth (Blk.box []) r.snd 0).toCs) 1).toInt,
                  AV.int IntKind.i64
                    (nth PV.nilp
                        (List.map AV.toPV (nth (Blk.box []) r.snd 0).toCs) 2).toInt,
                  AV.int IntKind.i64
                    (nth PV.nilp
                        (List.map AV.toPV (nth (Blk.box []) r.snd 0).toCs) 3).toInt,
                  AV.int IntKind.i64
                    (nth PV.nilp
                        (List.map AV.toPV (nth (Blk.box []) r.snd 0).toCs) 4).toInt,
                  AV.sl 2
                    (nth PV.nilp
                        (List.map AV.toPV (nth (Blk.box []) r.snd 0).toCs) 5).toEs],
              Blk.box
                [AV.int IntKind.i64
                    (nth PV.nilp
                        (List.map AV.toPV (nth (Blk.box []) r.snd 1).toCs) 0).toInt]]))
        (bnd
          (lp E F 28 2 [AV.fn 31 [TV.ptr 0 0, TV.ptr 1 0]] 0
            { vals := [AV.int IntKind.i64 0, AV.int IntKind.i64 0],
              blks :=
                [Blk.box
                    [AV.int IntKind.i64
                        (nth PV.nilp
                            (List.map AV.toPV (nth (Blk.box []) r.snd 0).toCs) 0).toInt,
                      AV.int IntKind.i64
                        (nth PV.nilp
                            (List.map AV.toPV (nth (Blk.box []) r.snd 0).toCs) 1).toInt,
                      AV.int IntKind.i64
                        (nth PV.nilp
                            (List.map AV.toPV (nth (Blk.box []) r.snd 0).toCs) 2).toInt,
                      AV.int IntKind.i64
                        (nth PV.nilp
                            (List.map AV.toPV (nth (Blk.box []) r.snd 0).toCs) 3).toInt,
                      AV.int IntKind.i64
                        (nth PV.nilp
                            (List.map AV.toPV (nth (Blk.box []) r.snd 0).toCs) 4).toInt,
                      AV.sl 2
                        (nth PV.nilp
                            (List.map AV.toPV (nth (Blk.box []) r.snd 0).toCs) 5).toEs],
                  Blk.box
                    [AV.int IntKind.i64
                        (nth PV.nilp
                            (List.map AV.toPV (nth (Blk.box []) r.snd 1).toCs) 0).toInt]] })
          fun (p : Ex × Pack) =>
          ctl (p.fst.eqb (Ex.exit 0))
            (ctl
              (okPack
                {
                  slots :=
                    [(0, Sum.inr (Sum.inr (AV.fn 31 [TV.ptr 0 0, TV.ptr 1 0]))),
                      (2, Sum.inl (Sh.int IntKind.i64)), (3, Sum.inl (Sh.int IntKind.i64))],
                  blks :=
                    [Sum.inl
                        [Sum.inl (Sh.int IntKind.i64), Sum.inl (Sh.int IntKind.i64), Sum.inl (Sh.int IntKind.i64),
                          Sum.inl (Sh.int IntKind.i64), Sum.inl (Sh.int IntKind.i64), Sum.inl (Sh.sl 2)],
                      Sum.inl [Sum.inl (Sh.int IntKind.i64)]] }
                p.snd)
              (bnd
                (lp E F 28 2 [AV.fn 31 [TV.ptr 0 0, TV.ptr 1 0]] 2
                  {
                    vals :=
                      [AV.int IntKind.i64 (nth AV.undef p.snd.vals 0).toPV.toInt,
                        AV.int IntKind.i64 (nth AV.undef p.snd.vals 1).toPV.toInt],
                    blks :=
                      [Blk.box
                          [AV.int IntKind.i64
                              (nth AV.undef (nth (Blk.box []) p.snd.blks 0).toCs 0).toPV.toInt,
                            AV.int IntKind.i64
                              (nth AV.undef (nth (Blk.box []) p.snd.blks 0).toCs 1).toPV.toInt,
                            AV.int IntKind.i64
                              (nth AV.undef (nth (Blk.box []) p.snd.blks 0).toCs 2).toPV.toInt,
                            AV.int IntKind.i64
                              (nth AV.undef (nth (Blk.box []) p.snd.blks 0).toCs 3).toPV.toInt,
                            AV.int IntKind.i64
                              (nth AV.undef (nth (Blk.box []) p.snd.blks 0).toCs 4).toPV.toInt,
                            AV.sl 2
                              (nth AV.undef (nth (Blk.box []) p.snd.blks 0).toCs 5).toPV.toEs],
                        Blk.box
                          [AV.int IntKind.i64
                              (nth AV.undef (nth (Blk.box []) p.snd.blks 1).toCs
                                    0).toPV.toInt]] })
                fun (p : Ex × Pack) =>
                ctl (p.fst.eqb (Ex.exit 2))
                  (ctl
                    (okPack
                      { slots := [(2, Sum.inl (Sh.int IntKind.i64)), (3, Sum.inl (Sh.int IntKind.i64))],
                        blks :=
                          [Sum.inl
                              [Sum.inl (Sh.int IntKind.i64), Sum.inl (Sh.int IntKind.i64), Sum.inl (Sh.int IntKind.i64),
                                Sum.inl (Sh.int IntKind.i64), Sum.inl (Sh.int IntKind.i64), Sum.inl (Sh.sl 2)],
                            Sum.inl [Sum.inl (Sh.int IntKind.i64)]] }
                      p.snd)
                    (Option.some
                      ([RV.p (PV.int IntKind.i64 (nth AV.undef p.snd.vals 0).toPV.toInt),
                          RV.p (PV.int IntKind.i64 (nth AV.undef p.snd.vals 1).toPV.toInt)],
                        [Blk.box
                            [AV.int IntKind.i64
                                (nth AV.undef (nth (Blk.box []) p.snd.blks 0).toCs 0).toPV.toInt,
                              AV.int IntKind.i64
                                (nth AV.undef (nth (Blk.box []) p.snd.blks 0).toCs 1).toPV.toInt,
                              AV.int IntKind.i64
                                (nth AV.undef (nth (Blk.box []) p.snd.blks 0).toCs 2).toPV.toInt,
                              AV.int IntKind.i64
                                (nth AV.undef (nth (Blk.box []) p.snd.blks 0).toCs 3).toPV.toInt,
                              AV.int IntKind.i64
                                (nth AV.undef (nth (Blk.box []) p.snd.blks 0).toCs 4).toPV.toInt,
                              AV.sl 2
                                (nth AV.undef (nth (Blk.box []) p.snd.blks 0).toCs 5).toPV.toEs],
                          Blk.box
                            [AV.int IntKind.i64
                                (nth AV.undef (nth (Blk.box []) p.snd.blks 1).toCs
                                      0).toPV.toInt]]))
                    Option.none)
                  Option.none)
              Option.none)
            Option.none))
      Option.none := by kernel_rfl

/-- dynpos/sector.Lateral$1 -/
theorem r29 (F : Fun) (y : Int) (k0_0 : Int) (k0_1 : Int) (k0_2 : Int) (k0_3 : Int) (k0_4 : Int) (k0_5 : List (List PV)) : funK E F 29 [AV.int IntKind.i64 y, AV.t (TV.ptr 0 0)] [Blk.box
    [AV.int IntKind.i64 k0_0, AV.int IntKind.i64 k0_1, AV.int IntKind.i64 k0_2,
      AV.int IntKind.i64 k0_3, AV.int IntKind.i64 k0_4, AV.sl 2 k0_5]] =
  bnd
    (F 30
      [AV.agg
          [PV.int IntKind.i64 k0_0, PV.int IntKind.i64 k0_1, PV.int IntKind.i64 k0_2,
            PV.int IntKind.i64 k0_3, PV.int IntKind.i64 k0_4, PV.sl 2 k0_5],
        AV.int IntKind.i64 0, AV.int IntKind.i64 y]
      [])
    fun (r : Res) =>
    ctl (okR [RSh.one Sh.bool] r.fst && okB [] r.snd)
      (Option.some
        ([RV.p (PV.bool (nth (RV.p PV.nilp) r.fst 0).toPV.toBool)],
          [Blk.box
              [AV.int IntKind.i64 k0_0, AV.int IntKind.i64 k0_1, AV.int IntKind.i64 k0_2,
                AV.int IntKind.i64 k0_3, AV.int IntKind.i64 k0_4, AV.sl 2 k0_5]]))
      Option.none := by kernel_rfl

/-- dynpos/sector.allowed -/
theorem r30 (F : Fun) (t0 : Int) (t1 : Int) (t2 : Int) (t3 : Int) (t4 : Int) (t5 : List (List PV)) (x : Int) (y : Int) : funK E F 30 [AV.agg
    [PV.int IntKind.i64 t0, PV.int IntKind.i64 t1, PV.int IntKind.i64 t2,
      PV.int IntKind.i64 t3, PV.int IntKind.i64 t4, PV.sl 2 t5],
  AV.int IntKind.i64 x, AV.int IntKind.i64 y] [] =
  bnd
    (ctl (!ltB t2 (maxI y x))
      (Option.some (ltB (minI y x) (IntKind.i64.wrap (0 - t2)))) (Option.some Bool.true))
    fun (v : Bool) =>
    bnd
      (ctl (!v) (Option.some (ltB (IntKind.i64.wrap (t2 * t2)) (IntKind.i64.wrap (IntKind.i64.wrap (x * x) + IntKind.i64.wrap (y * y)))))
        (Option.some Bool.true))
      fun (v : Bool) =>
      bnd (ctl (!v) (ctl (t0 == 1) (Option.some (x != 0)) (Option.some Bool.false)) (Option.some Bool.true)) fun (v : Bool) =>
        bnd (ctl (!v) (ctl (t0 == 2) (Option.some (y != 0)) (Option.some Bool.false)) (Option.some Bool.true)) fun (v : Bool) =>
          ctl v (Option.some ([RV.p (PV.bool Bool.false)], []))
            (bnd
              (F 33 [AV.sl 2 t5, AV.fn 40 [TV.ptr 0 0, TV.ptr 1 0]]
                [Blk.box [AV.int IntKind.i64 x], Blk.box [AV.int IntKind.i64 y]])
              fun (r : Res) =>
              ctl
                (okR [RSh.one Sh.bool] r.fst &&
                  okB [Sum.inl [Sh.int IntKind.i64], Sum.inl [Sh.int IntKind.i64]] r.snd)
                (Option.some
                  ([RV.p
                        (PV.bool !(nth (RV.p PV.nilp) r.fst 0).toPV.toBool)],
                    []))
                Option.none) := by kernel_rfl

/-- dynpos/sector.Longitudinal$1 -/
theorem r31 (F : Fun) (x : Int) (k0_0 : Int) (k0_1 : Int) (k0_2 : Int) (k0_3 : Int) (k0_4 : Int) (k0_5 : List (List PV)) (k1_0 : Int) : funK E F 31 [AV.int IntKind.i64 x, AV.t (TV.ptr 0 0), AV.t (TV.ptr 1 0)] [Blk.box
    [AV.int IntKind.i64 k0_0, AV.int IntKind.i64 k0_1, AV.int IntKind.i64 k0_2,
      AV.int IntKind.i64 k0_3, AV.int IntKind.i64 k0_4, AV.sl 2 k0_5],
  Blk.box [AV.int IntKind.i64 k1_0]] =
  bnd
    (F 30
      [AV.agg
          [PV.int IntKind.i64 k0_0, PV.int IntKind.i64 k0_1, PV.int IntKind.i64 k0_2,
            PV.int IntKind.i64 k0_3, PV.int IntKind.i64 k0_4, PV.sl 2 k0_5],
        AV.int IntKind.i64 x, AV.int IntKind.i64 k1_0]
      [])
    fun (r : Res) =>
    ctl (okR [RSh.one Sh.bool] r.fst && okB [] r.snd)
      (Option.some
        ([RV.p (PV.bool (nth (RV.p PV.nilp) r.fst 0).toPV.toBool)],
          [Blk.box
              [AV.int IntKind.i64 k0_0, AV.int IntKind.i64 k0_1, AV.int IntKind.i64 k0_2,
                AV.int IntKind.i64 k0_3, AV.int IntKind.i64 k0_4, AV.sl 2 k0_5],
            Blk.box [AV.int IntKind.i64 k1_0]]))
      Option.none := by kernel_rfl

/-- dynpos/sector.in -/
theorem r32 (F : Fun) (n : Int) (low : Int) (high : Int) : funK E F 32 [AV.int IntKind.i64 n, AV.int IntKind.i64 low, AV.int IntKind.i64 high] [] =
  bnd (ctl (leB low n) (Option.some (leB n high)) (Option.some Bool.false)) fun (v : Bool) =>
    Option.some ([RV.p (PV.bool v)], []) := by kernel_rfl

/-- slices.ContainsFunc[[]dynpos/api.Arc,dynpos/api.Arc] -/
theorem r33a (F : Fun) (s : List (List PV)) : funK E F 33 [AV.sl 2 s, AV.fn 34 []] [] =
  bnd (F 42 [AV.sl 2 s, AV.fn 34 []] []) fun (r : Res) =>
    ctl
      (okR [RSh.one (Sh.int IntKind.i64)] r.fst && okB [] r.snd)
      (Option.some
        ([RV.p
              (PV.bool
                (leB 0 (nth (RV.p PV.nilp) r.fst 0).toPV.toInt))],
          []))
      Option.none := by kernel_rfl

/-- slices.ContainsFunc[[]dynpos/api.Arc,dynpos/api.Arc] -/
theorem r33b (F : Fun) (s : List (List PV)) (k0_0 : Int) (k1_0 : Int) : funK E F 33 [AV.sl 2 s, AV.fn 40 [TV.ptr 0 0, TV.ptr 1 0]] [Blk.box [AV.int IntKind.i64 k0_0], Blk.box [AV.int IntKind.i64 k1_0]] =
  bnd
    (F 42 [AV.sl 2 s, AV.fn 40 [TV.ptr 0 0, TV.ptr 1 0]]
      [Blk.box [AV.int IntKind.i64 k0_0], Blk.box [AV.int IntKind.i64 k1_0]])
    fun (r : Res) =>
    ctl
      (okR [RSh.one (Sh.int IntKind.i64)] r.fst &&
        okB [Sum.inl [Sh.int IntKind.i64], Sum.inl [Sh.int IntKind.i64]] r.snd)
      (Option.some
        ([RV.p
              (PV.bool
                (leB 0 (nth (RV.p PV.nilp) r.fst 0).toPV.toInt))],
          [Blk.box
              [AV.int IntKind.i64
                  (nth PV.nilp
                      (List.map AV.toPV (nth (Blk.box []) r.snd 0).toCs) 0).toInt],
            Blk.box
              [AV.int IntKind.i64
                  (nth PV.nilp
                      (List.map AV.toPV (nth (Blk.box []) r.snd 1).toCs) 0).toInt]]))
      Option.none := by kernel_rfl

/-- dynpos/sector.Valid$1 -/
theorem r34 (F : Fun) (x0 : Int) (x1 : Int) : funK E F 34 [AV.agg [PV.int IntKind.i64 x0, PV.int IntKind.i64 x1]] [] =
  bnd (F 35 [AV.agg [PV.int IntKind.i64 x0, PV.int IntKind.i64 x1]] [])
    fun (r : Res) =>
    ctl (okR [RSh.one Sh.bool] r.fst && okB [] r.snd)
      (Option.some
        ([RV.p
              (PV.bool !(nth (RV.p PV.nilp) r.fst 0).toPV.toBool)],
          []))
      Option.none := by kernel_rfl

/-- dynpos/angle.Valid -/
theorem r35 (F : Fun) (x0 : Int) (x1 : Int) : funK E F 35 [AV.agg [PV.int IntKind.i64 x0, PV.int IntKind.i64 x1]] [] =
  bnd (F 43 [AV.int IntKind.i64 x0] []) fun (r : Res) =>
    ctl (okR [RSh.one Sh.bool] r.fst && okB [] r.snd)
      (ctl (nth (RV.p PV.nilp) r.fst 0).toPV.toBool
        (bnd (F 43 [AV.int IntKind.i64 x1] []) fun (r : Res) =>
          ctl (okR [RSh.one Sh.bool] r.fst && okB [] r.snd)
            (bnd
              (ctl (nth (RV.p PV.nilp) r.fst 0).toPV.toBool
                (bnd (F 44 [AV.agg [PV.int IntKind.i64 x0, PV.int IntKind.i64 x1]] [])
                  fun (r : Res) =>
                  ctl
                    (okR [RSh.one (Sh.int IntKind.i64)] r.fst && okB [] r.snd)
                    (Option.some (ltB (nth (RV.p PV.nilp) r.fst 0).toPV.toInt 1800)) Option.none)
                (Option.some Bool.false))
              fun (v : Bool) => Option.some ([RV.p (PV.bool v)], []))
            Option.none)
        (Option.some ([RV.p (PV.bool Bool.false)], [])))
      Option.none := by kernel_rfl

/-- dynpos/dynposlaw11.azimuth -/
theorem r36 (F : Fun) : funK E F 36 [] [] =
  Option.some
    ([RV.agg
          [PV.int IntKind.i64 3, PV.int IntKind.i64 0, PV.int IntKind.i64 100,
            PV.int IntKind.i64 0, PV.int IntKind.i64 1,
            PV.sl 2 [[PV.int IntKind.i64 800, PV.int IntKind.i64 1000]]]],
      []) := by kernel_rfl

/-- dynpos/dynposref02.Valid -/
theorem r37 (F : Fun) (x0 : Int) (x1 : Int) : funK E F 37 [AV.agg [PV.int IntKind.i64 x0, PV.int IntKind.i64 x1]] [] =
  bnd (ctl (leB 0 x0) (Option.some (ltB x0 3600)) (Option.some Bool.false)) fun (v : Bool) =>
    bnd (ctl v (Option.some (leB 0 x1)) (Option.some Bool.false)) fun (v : Bool) =>
      bnd (ctl v (Option.some (ltB x1 3600)) (Option.some Bool.false)) fun (v : Bool) =>
        bnd
          (ctl v
            (bnd (F 45 [AV.agg [PV.int IntKind.i64 x0, PV.int IntKind.i64 x1]] [])
              fun (r : Res) =>
              ctl
                (okR [RSh.one (Sh.int IntKind.i64)] r.fst && okB [] r.snd)
                (Option.some (leB (nth (RV.p PV.nilp) r.fst 0).toPV.toInt 1799)) Option.none)
            (Option.some Bool.false))
          fun (v : Bool) => Option.some ([RV.p (PV.bool v)], []) := by kernel_rfl

/-- dynpos/dynposref02.Within -/
theorem r38 (F : Fun) (x0 : Int) (x1 : Int) (px : Int) (py : Int) : funK E F 38 [AV.agg [PV.int IntKind.i64 x0, PV.int IntKind.i64 x1], AV.int IntKind.i64 px,
  AV.int IntKind.i64 py] [] =
  bnd (F 37 [AV.agg [PV.int IntKind.i64 x0, PV.int IntKind.i64 x1]] [])
    fun (r : Res) =>
    ctl (okR [RSh.one Sh.bool] r.fst && okB [] r.snd)
      (bnd
        (ctl (!!(nth (RV.p PV.nilp) r.fst 0).toPV.toBool)
          (bnd (F 46 [AV.int IntKind.i64 px, AV.int IntKind.i64 py] []) fun (r : Res) =>
            ctl (okR [RSh.one Sh.bool] r.fst && okB [] r.snd)
              (Option.some !(nth (RV.p PV.nilp) r.fst 0).toPV.toBool) Option.none)
          (Option.some Bool.true))
        fun (v : Bool) =>
        bnd (ctl (!v) (ctl (px == 0) (Option.some (py == 0)) (Option.some Bool.false)) (Option.some Bool.true)) fun (v : Bool) =>
          ctl v (Option.some ([RV.p (PV.bool Bool.false)], []))
            (bnd
              (F 47 [AV.int IntKind.i64 x0, AV.int IntKind.i64 px, AV.int IntKind.i64 py] [])
              fun (r : Res) =>
              ctl
                (okR [RSh.one (Sh.int IntKind.i64)] r.fst && okB [] r.snd)
                (bnd
                  (F 47 [AV.int IntKind.i64 x1, AV.int IntKind.i64 px, AV.int IntKind.i64 py] [])
                  fun (r_1 : Res) =>
                  ctl
                    (okR [RSh.one (Sh.int IntKind.i64)] r_1.fst && okB [] r_1.snd)
                    (bnd
                      (ctl
                        (leB 0 (nth (RV.p PV.nilp) r.fst 0).toPV.toInt)
                        (Option.some (leB (nth (RV.p PV.nilp) r_1.fst 0).toPV.toInt 0))
                        (Option.some Bool.false))
                      fun (v : Bool) =>
                      bnd
                        (ctl v
                          (ctl
                            (!ltB 0 (nth (RV.p PV.nilp) r.fst 0).toPV.toInt)
                            (bnd (F 48 [AV.int IntKind.i64 x0] []) fun (r : Res) =>
                              ctl
                                (okR [RSh.one (Sh.int IntKind.i64)] r.fst && okB [] r.snd)
                                (bnd (F 49 [AV.int IntKind.i64 x0] []) fun (r_2 : Res) =>
                                  ctl
                                    (okR [RSh.one (Sh.int IntKind.i64)] r_2.fst &&
                                      okB [] r_2.snd)
                                    (Option.some
                                      (ltB 0
                                        (IntKind.i64.wrap
                                          (IntKind.i64.wrap ((nth (RV.p PV.nilp) r.fst 0).toPV.toInt * px) +
                                            IntKind.i64.wrap ((nth (RV.p PV.nilp) r_2.fst 0).toPV.toInt * py)))))
                                    Option.none)
                                Option.none)
                            (Option.some Bool.true))
                          (Option.some Bool.false))
                        fun (v : Bool) => Option.some ([RV.p (PV.bool v)], []))
                    Option.none)
                Option.none))
      Option.none := by kernel_rfl

/-- dynpos/dynposmake.Mod -/
theorem r39 (F : Fun) (x : Int) (n : Int) : funK E F 39 [AV.int IntKind.i64 x, AV.int IntKind.i64 n] [] =
  ctl (ltB n 1) (Option.some ([RV.p (PV.int IntKind.i64 0)], []))
    (ctl (Bool.true && neB n 0)
      (ctl (Bool.true && neB n 0)
        (Option.some ([RV.p (PV.int IntKind.i64 ((IntKind.i64.wrap (x.tmod n + n)).tmod n))], [])) Option.none)
      Option.none) := by kernel_rfl

/-- dynpos/sector.allowed$1 -/
theorem r40 (F : Fun) (a0 : Int) (a1 : Int) (k0_0 : Int) (k1_0 : Int) : funK E F 40 [AV.agg [PV.int IntKind.i64 a0, PV.int IntKind.i64 a1],
  AV.t (TV.ptr 0 0), AV.t (TV.ptr 1 0)] [Blk.box [AV.int IntKind.i64 k0_0], Blk.box [AV.int IntKind.i64 k1_0]] =
  bnd
    (F 41
      [AV.agg [PV.int IntKind.i64 a0, PV.int IntKind.i64 a1], AV.int IntKind.i64 k0_0,
        AV.int IntKind.i64 k1_0]
      [])
    fun (r : Res) =>
    ctl (okR [RSh.one Sh.bool] r.fst && okB [] r.snd)
      (Option.some
        ([RV.p (PV.bool (nth (RV.p PV.nilp) r.fst 0).toPV.toBool)],
          [Blk.box [AV.int IntKind.i64 k0_0], Blk.box [AV.int IntKind.i64 k1_0]]))
      Option.none := by kernel_rfl

/-- dynpos/angle.Within -/
theorem r41 (F : Fun) (x0 : Int) (x1 : Int) (px : Int) (py : Int) : funK E F 41 [AV.agg [PV.int IntKind.i64 x0, PV.int IntKind.i64 x1], AV.int IntKind.i64 px,
  AV.int IntKind.i64 py] [] =
  bnd (F 35 [AV.agg [PV.int IntKind.i64 x0, PV.int IntKind.i64 x1]] [])
    fun (r : Res) =>
    ctl (okR [RSh.one Sh.bool] r.fst && okB [] r.snd)
      (bnd
        (ctl (!!(nth (RV.p PV.nilp) r.fst 0).toPV.toBool)
          (ctl (px == 0) (Option.some (py == 0)) (Option.some Bool.false)) (Option.some Bool.true))
        fun (v : Bool) =>
        bnd
          (ctl (!v)
            (bnd (F 50 [AV.int IntKind.i64 px, AV.int IntKind.i64 py] []) fun (r : Res) =>
              ctl (okR [RSh.one Sh.bool] r.fst && okB [] r.snd)
                (Option.some !(nth (RV.p PV.nilp) r.fst 0).toPV.toBool) Option.none)
            (Option.some Bool.true))
          fun (v : Bool) =>
          ctl v (Option.some ([RV.p (PV.bool Bool.false)], []))
            (bnd
              (F 51 [AV.int IntKind.i64 x0, AV.int IntKind.i64 px, AV.int IntKind.i64 py] [])
              fun (r : Res) =>
              ctl
                (okR [RSh.one (Sh.int IntKind.i64)] r.fst && okB [] r.snd)
                (bnd
                  (ctl
                    (!ltB 0 (nth (RV.p PV.nilp) r.fst 0).toPV.toInt)
                    (bnd (F 52 [AV.int IntKind.i64 x0] []) fun (r : Res) =>
                      ctl
                        (okR [RSh.one (Sh.int IntKind.i64)] r.fst && okB [] r.snd)
                        (bnd (F 53 [AV.int IntKind.i64 x0] []) fun (r_1 : Res) =>
                          ctl
                            (okR [RSh.one (Sh.int IntKind.i64)] r_1.fst && okB [] r_1.snd)
                            (Option.some
                              (ltB 0
                                (IntKind.i64.wrap
                                  (IntKind.i64.wrap ((nth (RV.p PV.nilp) r.fst 0).toPV.toInt * px) +
                                    IntKind.i64.wrap ((nth (RV.p PV.nilp) r_1.fst 0).toPV.toInt * py)))))
                            Option.none)
                        Option.none)
                    (Option.some Bool.true))
                  fun (v : Bool) =>
                  bnd
                    (ctl
                      (leB 0 (nth (RV.p PV.nilp) r.fst 0).toPV.toInt)
                      (bnd
                        (F 51 [AV.int IntKind.i64 x1, AV.int IntKind.i64 px, AV.int IntKind.i64 py] [])
                        fun (r : Res) =>
                        ctl
                          (okR [RSh.one (Sh.int IntKind.i64)] r.fst && okB [] r.snd)
                          (Option.some (leB (nth (RV.p PV.nilp) r.fst 0).toPV.toInt 0))
                          Option.none)
                      (Option.some Bool.false))
                    fun (v_1 : Bool) =>
                    bnd (ctl v_1 (Option.some v) (Option.some Bool.false)) fun (v : Bool) =>
                      Option.some ([RV.p (PV.bool v)], []))
                Option.none))
      Option.none := by kernel_rfl

/-- slices.IndexFunc[[]dynpos/api.Arc,dynpos/api.Arc], the loop of block 0 -/
theorem r42_0a (F : Fun) (s0 : List (List PV)) (x7 : Int) (x8 : Int) : lp E F 42 0 [AV.undef, AV.fn 34 []] 0
  { vals := [AV.sl 2 s0, AV.int IntKind.i64 x7, AV.int IntKind.i64 x8], blks := [] } =
  ctl (ltB x8 x7)
    (getE s0 x8 fun (c : List PV) =>
      ctl (okCs [Sh.int IntKind.i64, Sh.int IntKind.i64] c)
        (bnd
          (F 34
            [AV.agg
                [PV.int IntKind.i64 (nth PV.nilp c 0).toInt,
                  PV.int IntKind.i64 (nth PV.nilp c 1).toInt]]
            [])
          fun (r : Res) =>
          ctl (okR [RSh.one Sh.bool] r.fst && okB [] r.snd)
            (ctl (nth (RV.p PV.nilp) r.fst 0).toPV.toBool
              (Option.some (Ex.ret, { vals := [AV.int IntKind.i64 x8], blks := [] }))
              (lp E F 42 0 [AV.undef, AV.fn 34 []] 0
                { vals := [AV.sl 2 s0, AV.int IntKind.i64 x7, AV.int IntKind.i64 (IntKind.i64.wrap (x8 + 1))],
                  blks := [] }))
            Option.none)
        Option.none)
    (Option.some (Ex.exit 0, { vals := [], blks := [] })) := (lp_unfold ..).trans (by kernel_rfl)

/-- slices.IndexFunc[[]dynpos/api.Arc,dynpos/api.Arc], the loop of block 0 -/
theorem r42_0b (F : Fun) (s0 : List (List PV)) (x7 : Int) (x8 : Int) (b0_0 : Int) (b1_0 : Int) : lp E F 42 2
  [AV.undef, AV.fn 40 [TV.ptr 0 0, TV.ptr 1 0]] 0
  { vals := [AV.sl 2 s0, AV.int IntKind.i64 x7, AV.int IntKind.i64 x8],
    blks := [Blk.box [AV.int IntKind.i64 b0_0], Blk.box [AV.int IntKind.i64 b1_0]] } =
  ctl (ltB x8 x7)
    (getE s0 x8 fun (c : List PV) =>
      ctl (okCs [Sh.int IntKind.i64, Sh.int IntKind.i64] c)
        (bnd
          (F 40
            [AV.agg
                [PV.int IntKind.i64 (nth PV.nilp c 0).toInt,
                  PV.int IntKind.i64 (nth PV.nilp c 1).toInt],
              AV.t (TV.ptr 0 0), AV.t (TV.ptr 1 0)]
            [Blk.box [AV.int IntKind.i64 b0_0], Blk.box [AV.int IntKind.i64 b1_0]])
          fun (r : Res) =>
          ctl
            (okR [RSh.one Sh.bool] r.fst &&
              okB [Sum.inl [Sh.int IntKind.i64], Sum.inl [Sh.int IntKind.i64]] r.snd)
            (ctl (nth (RV.p PV.nilp) r.fst 0).toPV.toBool
              (Option.some
                (Ex.ret,
                  { vals := [AV.int IntKind.i64 x8],
                    blks :=
                      [Blk.box
                          [AV.int IntKind.i64
                              (nth PV.nilp
                                  (List.map AV.toPV (nth (Blk.box []) r.snd 0).toCs) 0).toInt],
                        Blk.box
                          [AV.int IntKind.i64
                              (nth PV.nilp
                                  (List.map AV.toPV (nth (Blk.box []) r.snd 1).toCs) 0).toInt]] }))
              (lp E F 42 2
                [AV.undef, AV.fn 40 [TV.ptr 0 0, TV.ptr 1 0]] 0
                { vals := [AV.sl 2 s0, AV.int IntKind.i64 x7, AV.int IntKind.i64 (IntKind.i64.wrap (x8 + 1))],
                  blks :=
                    [Blk.box
                        [AV.int IntKind.i64
                            (nth PV.nilp
                                (List.map AV.toPV (nth (Blk.box []) r.snd 0).toCs) 0).toInt],
                      Blk.box
                        [AV.int IntKind.i64
                            (nth PV.nilp
                                (List.map AV.toPV (nth (Blk.box []) r.snd 1).toCs) 0).toInt]] }))
            Option.none)
        Option.none)
    (Option.some
      (Ex.exit 0,
        { vals := [],
          blks := [Blk.box [AV.int IntKind.i64 b0_0], Blk.box [AV.int IntKind.i64 b1_0]] })) := (lp_unfold ..).trans (by kernel_rfl)

/-- slices.IndexFunc[[]dynpos/api.Arc,dynpos/api.Arc] -/
theorem r42a (F : Fun) (s : List (List PV)) : funK E F 42 [AV.sl 2 s, AV.fn 34 []] [] =
  bnd
    (lp E F 42 0 [AV.undef, AV.fn 34 []] 0
      { vals := [AV.sl 2 s, AV.int IntKind.i64 (↑s.length : Int), AV.int IntKind.i64 0], blks := [] })
    fun (p : Ex × Pack) =>
    ctl (p.fst.eqb (Ex.exit 0)) (Option.some ([RV.p (PV.int IntKind.i64 (-1))], []))
      (ctl (p.fst.eqb Ex.ret)
        (ctl (okPack { slots := [(4, Sum.inl (Sh.int IntKind.i64))], blks := [] } p.snd)
          (Option.some
            ([RV.p (PV.int IntKind.i64 (nth AV.undef p.snd.vals 0).toPV.toInt)], []))
          Option.none)
        Option.none) := by kernel_rfl

/-- slices.IndexFunc[[]dynpos/api.Arc,dynpos/api.Arc] -/
theorem r42b (F : Fun) (s : List (List PV)) (k0_0 : Int) (k1_0 : Int) : funK E F 42 [AV.sl 2 s, AV.fn 40 [TV.ptr 0 0, TV.ptr 1 0]] [Blk.box [AV.int IntKind.i64 k0_0], Blk.box [AV.int IntKind.i64 k1_0]] =
  bnd
    (lp E F 42 2
      [AV.undef, AV.fn 40 [TV.ptr 0 0, TV.ptr 1 0]] 0
      { vals := [AV.sl 2 s, AV.int IntKind.i64 (↑s.length : Int), AV.int IntKind.i64 0],
        blks := [Blk.box [AV.int IntKind.i64 k0_0], Blk.box [AV.int IntKind.i64 k1_0]] })
    fun (p : Ex × Pack) =>
    ctl (p.fst.eqb (Ex.exit 0))
      (ctl
        (okPack { slots := [], blks := [Sum.inl [Sum.inl (Sh.int IntKind.i64)], Sum.inl [Sum.inl (Sh.int IntKind.i64)]] }
          p.snd)
        (Option.some
          ([RV.p (PV.int IntKind.i64 (-1))],
            [Blk.box
                [AV.int IntKind.i64
                    (nth AV.undef (nth (Blk.box []) p.snd.blks 0).toCs 0).toPV.toInt],
              Blk.box
                [AV.int IntKind.i64
                    (nth AV.undef (nth (Blk.box []) p.snd.blks 1).toCs 0).toPV.toInt]]))
        Option.none)
      (ctl (p.fst.eqb Ex.ret)
        (ctl
          (okPack
            { slots := [(4, Sum.inl (Sh.int IntKind.i64))],
              blks := [Sum.inl [Sum.inl (Sh.int IntKind.i64)], Sum.inl [Sum.inl (Sh.int IntKind.i64)]] }
            p.snd)
          (Option.some
            ([RV.p (PV.int IntKind.i64 (nth AV.undef p.snd.vals 0).toPV.toInt)],
              [Blk.box
                  [AV.int IntKind.i64
                      (nth AV.undef (nth (Blk.box []) p.snd.blks 0).toCs 0).toPV.toInt],
                Blk.box
                  [AV.int IntKind.i64
                      (nth AV.undef (nth (Blk.box []) p.snd.blks 1).toCs 0).toPV.toInt]]))
          Option.none)
        Option.none) := by kernel_rfl

/-- dynpos/angle.Valid$1 -/
theorem r43 (F : Fun) (a : Int) : funK E F 43 [AV.int IntKind.i64 a] [] =
  bnd (ctl (leB 0 a) (Option.some (ltB a 3600)) (Option.some Bool.false)) fun (v : Bool) =>
    Option.some ([RV.p (PV.bool v)], []) := by kernel_rfl

/-- dynpos/angle.Width -/
theorem r44 (F : Fun) (x0 : Int) (x1 : Int) : funK E F 44 [AV.agg [PV.int IntKind.i64 x0, PV.int IntKind.i64 x1]] [] =
  bnd (F 54 [AV.int IntKind.i64 (IntKind.i64.wrap (x1 - x0))] []) fun (r : Res) =>
    ctl
      (okR [RSh.one (Sh.int IntKind.i64)] r.fst && okB [] r.snd)
      (Option.some
        ([RV.p
              (PV.int IntKind.i64 (nth (RV.p PV.nilp) r.fst 0).toPV.toInt)],
          []))
      Option.none := by kernel_rfl

/-- dynpos/dynposref02.Width -/
theorem r45 (F : Fun) (x0 : Int) (x1 : Int) : funK E F 45 [AV.agg [PV.int IntKind.i64 x0, PV.int IntKind.i64 x1]] [] =
  bnd (F 55 [AV.int IntKind.i64 (IntKind.i64.wrap (x1 - x0))] []) fun (r : Res) =>
    ctl
      (okR [RSh.one (Sh.int IntKind.i64)] r.fst && okB [] r.snd)
      (Option.some
        ([RV.p
              (PV.int IntKind.i64 (nth (RV.p PV.nilp) r.fst 0).toPV.toInt)],
          []))
      Option.none := by kernel_rfl

/-- dynpos/dynposref02.small -/
theorem r46 (F : Fun) (x : Int) (y : Int) : funK E F 46 [AV.int IntKind.i64 x, AV.int IntKind.i64 y] [] =
  bnd (ctl (leB (-1000000000) x) (Option.some (leB x 1000000000)) (Option.some Bool.false))
    fun (v : Bool) =>
    bnd (ctl v (Option.some (leB (-1000000000) y)) (Option.some Bool.false)) fun (v : Bool) =>
      bnd (ctl v (Option.some (leB y 1000000000)) (Option.some Bool.false)) fun (v : Bool) =>
        Option.some ([RV.p (PV.bool v)], []) := by kernel_rfl

/-- dynpos/dynposref02.Cross -/
theorem r47 (F : Fun) (a : Int) (x : Int) (y : Int) : funK E F 47 [AV.int IntKind.i64 a, AV.int IntKind.i64 x, AV.int IntKind.i64 y] [] =
  bnd (F 46 [AV.int IntKind.i64 x, AV.int IntKind.i64 y] []) fun (r : Res) =>
    ctl (okR [RSh.one Sh.bool] r.fst && okB [] r.snd)
      (ctl (!(nth (RV.p PV.nilp) r.fst 0).toPV.toBool)
        (Option.some ([RV.p (PV.int IntKind.i64 0)], []))
        (bnd (F 48 [AV.int IntKind.i64 a] []) fun (r : Res) =>
          ctl
            (okR [RSh.one (Sh.int IntKind.i64)] r.fst && okB [] r.snd)
            (bnd (F 49 [AV.int IntKind.i64 a] []) fun (r_1 : Res) =>
              ctl
                (okR [RSh.one (Sh.int IntKind.i64)] r_1.fst && okB [] r_1.snd)
                (Option.some
                  ([RV.p
                        (PV.int IntKind.i64
                          (IntKind.i64.wrap
                            (IntKind.i64.wrap ((nth (RV.p PV.nilp) r.fst 0).toPV.toInt * y) -
                              IntKind.i64.wrap ((nth (RV.p PV.nilp) r_1.fst 0).toPV.toInt * x))))],
                    []))
                Option.none)
            Option.none))
      Option.none := by kernel_rfl

/-- dynpos/dynposref02.Cos -/
theorem r48 (F : Fun) (a : Int) : funK E F 48 [AV.int IntKind.i64 a] [] =
  bnd (F 55 [AV.int IntKind.i64 a] []) fun (r : Res) =>
    ctl
      (okR [RSh.one (Sh.int IntKind.i64)] r.fst && okB [] r.snd)
      (bnd
        (F 49
          [AV.int IntKind.i64
              (IntKind.i64.wrap ((nth (RV.p PV.nilp) r.fst 0).toPV.toInt + 900))]
          [])
        fun (r : Res) =>
        ctl
          (okR [RSh.one (Sh.int IntKind.i64)] r.fst && okB [] r.snd)
          (Option.some
            ([RV.p
                  (PV.int IntKind.i64 (nth (RV.p PV.nilp) r.fst 0).toPV.toInt)],
              []))
          Option.none)
      Option.none := by kernel_rfl

/-- dynpos/dynposref02.Sin -/
theorem r49 (F : Fun) (a : Int) : funK E F 49 [AV.int IntKind.i64 a] [] =
  bnd (F 55 [AV.int IntKind.i64 a] []) fun (r : Res) =>
    ctl
      (okR [RSh.one (Sh.int IntKind.i64)] r.fst && okB [] r.snd)
      (ctl (ltB 1800 (nth (RV.p PV.nilp) r.fst 0).toPV.toInt)
        (bnd
          (F 49
            [AV.int IntKind.i64
                (IntKind.i64.wrap ((nth (RV.p PV.nilp) r.fst 0).toPV.toInt - 1800))]
            [])
          fun (r : Res) =>
          ctl
            (okR [RSh.one (Sh.int IntKind.i64)] r.fst && okB [] r.snd)
            (Option.some
              ([RV.p
                    (PV.int IntKind.i64
                      (IntKind.i64.wrap (0 - (nth (RV.p PV.nilp) r.fst 0).toPV.toInt)))],
                []))
            Option.none)
        (bnd
          (F 56
            [AV.int IntKind.i64
                (IntKind.i64.wrap
                  (40000 *
                    IntKind.i64.wrap
                      ((nth (RV.p PV.nilp) r.fst 0).toPV.toInt *
                        IntKind.i64.wrap (1800 - (nth (RV.p PV.nilp) r.fst 0).toPV.toInt)))),
              AV.int IntKind.i64
                (IntKind.i64.wrap
                  (4050000 -
                    IntKind.i64.wrap
                      ((nth (RV.p PV.nilp) r.fst 0).toPV.toInt *
                        IntKind.i64.wrap (1800 - (nth (RV.p PV.nilp) r.fst 0).toPV.toInt))))]
            [])
          fun (r : Res) =>
          ctl
            (okR
                [RSh.one (Sh.int IntKind.i64), RSh.one (Sh.int IntKind.i64)] r.fst &&
              okB [] r.snd)
            (Option.some
              ([RV.p
                    (PV.int IntKind.i64 (nth (RV.p PV.nilp) r.fst 0).toPV.toInt)],
                []))
            Option.none))
      Option.none := by kernel_rfl

/-- dynpos/angle.small -/
theorem r50 (F : Fun) (x : Int) (y : Int) : funK E F 50 [AV.int IntKind.i64 x, AV.int IntKind.i64 y] [] =
  bnd
    (ctl (leB (maxI y x) 1000000000)
      (Option.some (leB (-1000000000) (minI y x))) (Option.some Bool.false))
    fun (v : Bool) => Option.some ([RV.p (PV.bool v)], []) := by kernel_rfl

/-- dynpos/angle.Cross -/
theorem r51 (F : Fun) (a : Int) (x : Int) (y : Int) : funK E F 51 [AV.int IntKind.i64 a, AV.int IntKind.i64 x, AV.int IntKind.i64 y] [] =
  bnd (F 50 [AV.int IntKind.i64 x, AV.int IntKind.i64 y] []) fun (r : Res) =>
    ctl (okR [RSh.one Sh.bool] r.fst && okB [] r.snd)
      (ctl (!(nth (RV.p PV.nilp) r.fst 0).toPV.toBool)
        (Option.some ([RV.p (PV.int IntKind.i64 0)], []))
        (bnd (F 52 [AV.int IntKind.i64 a] []) fun (r : Res) =>
          ctl
            (okR [RSh.one (Sh.int IntKind.i64)] r.fst && okB [] r.snd)
            (bnd (F 53 [AV.int IntKind.i64 a] []) fun (r_1 : Res) =>
              ctl
                (okR [RSh.one (Sh.int IntKind.i64)] r_1.fst && okB [] r_1.snd)
                (Option.some
                  ([RV.p
                        (PV.int IntKind.i64
                          (IntKind.i64.wrap
                            (IntKind.i64.wrap ((nth (RV.p PV.nilp) r.fst 0).toPV.toInt * y) -
                              IntKind.i64.wrap ((nth (RV.p PV.nilp) r_1.fst 0).toPV.toInt * x))))],
                    []))
                Option.none)
            Option.none))
      Option.none := by kernel_rfl

/-- dynpos/angle.Cos -/
theorem r52 (F : Fun) (a : Int) : funK E F 52 [AV.int IntKind.i64 a] [] =
  bnd (F 54 [AV.int IntKind.i64 a] []) fun (r : Res) =>
    ctl
      (okR [RSh.one (Sh.int IntKind.i64)] r.fst && okB [] r.snd)
      (bnd
        (F 53
          [AV.int IntKind.i64
              (IntKind.i64.wrap ((nth (RV.p PV.nilp) r.fst 0).toPV.toInt + 900))]
          [])
        fun (r : Res) =>
        ctl
          (okR [RSh.one (Sh.int IntKind.i64)] r.fst && okB [] r.snd)
          (Option.some
            ([RV.p
                  (PV.int IntKind.i64 (nth (RV.p PV.nilp) r.fst 0).toPV.toInt)],
              []))
          Option.none)
      Option.none := by kernel_rfl

/-- dynpos/angle.Sin -/
theorem r53 (F : Fun) (a : Int) : funK E F 53 [AV.int IntKind.i64 a] [] =
  bnd (F 54 [AV.int IntKind.i64 a] []) fun (r : Res) =>
    ctl
      (okR [RSh.one (Sh.int IntKind.i64)] r.fst && okB [] r.snd)
      (ctl (ltB 1800 (nth (RV.p PV.nilp) r.fst 0).toPV.toInt)
        (bnd
          (F 57
            [AV.int IntKind.i64
                (IntKind.i64.wrap
                  (40000 *
                    IntKind.i64.wrap
                      (IntKind.i64.wrap ((nth (RV.p PV.nilp) r.fst 0).toPV.toInt - 1800) *
                        IntKind.i64.wrap (1800 - IntKind.i64.wrap ((nth (RV.p PV.nilp) r.fst 0).toPV.toInt - 1800))))),
              AV.int IntKind.i64
                (IntKind.i64.wrap
                  (4050000 -
                    IntKind.i64.wrap
                      (IntKind.i64.wrap ((nth (RV.p PV.nilp) r.fst 0).toPV.toInt - 1800) *
                        IntKind.i64.wrap (1800 - IntKind.i64.wrap ((nth (RV.p PV.nilp) r.fst 0).toPV.toInt - 1800)))))]
            [])
          fun (r : Res) =>
          ctl
            (okR
                [RSh.one (Sh.int IntKind.i64), RSh.one (Sh.int IntKind.i64)] r.fst &&
              okB [] r.snd)
            (Option.some
              ([RV.p
                    (PV.int IntKind.i64
                      (IntKind.i64.wrap (-1 * (nth (RV.p PV.nilp) r.fst 0).toPV.toInt)))],
                []))
            Option.none)
        (bnd
          (F 57
            [AV.int IntKind.i64
                (IntKind.i64.wrap
                  (40000 *
                    IntKind.i64.wrap
                      ((nth (RV.p PV.nilp) r.fst 0).toPV.toInt *
                        IntKind.i64.wrap (1800 - (nth (RV.p PV.nilp) r.fst 0).toPV.toInt)))),
              AV.int IntKind.i64
                (IntKind.i64.wrap
                  (4050000 -
                    IntKind.i64.wrap
                      ((nth (RV.p PV.nilp) r.fst 0).toPV.toInt *
                        IntKind.i64.wrap (1800 - (nth (RV.p PV.nilp) r.fst 0).toPV.toInt))))]
            [])
          fun (r : Res) =>
          ctl
            (okR
                [RSh.one (Sh.int IntKind.i64), RSh.one (Sh.int IntKind.i64)] r.fst &&
              okB [] r.snd)
            (Option.some
              ([RV.p
                    (PV.int IntKind.i64
                      (IntKind.i64.wrap (1 * (nth (RV.p PV.nilp) r.fst 0).toPV.toInt)))],
                []))
            Option.none))
      Option.none := by kernel_rfl

/-- dynpos/angle.Norm -/
theorem r54 (F : Fun) (a : Int) : funK E F 54 [AV.int IntKind.i64 a] [] =
  ctl (ltB (a.tmod 3600) 0)
    (Option.some ([RV.p (PV.int IntKind.i64 (IntKind.i64.wrap (a.tmod 3600 + 3600)))], []))
    (Option.some ([RV.p (PV.int IntKind.i64 (a.tmod 3600))], [])) := by kernel_rfl

/-- dynpos/dynposref02.Norm -/
theorem r55 (F : Fun) (a : Int) : funK E F 55 [AV.int IntKind.i64 a] [] =
  Option.some ([RV.p (PV.int IntKind.i64 ((IntKind.i64.wrap (a.tmod 3600 + 3600)).tmod 3600))], []) := by kernel_rfl

/-- dynpos/dynposref01.Half -/
theorem r56 (F : Fun) (n : Int) (d : Int) : funK E F 56 [AV.int IntKind.i64 n, AV.int IntKind.i64 d] [] =
  bnd (F 58 [AV.int IntKind.i64 n, AV.int IntKind.i64 d] []) fun (r : Res) =>
    ctl (okR [RSh.one Sh.bool] r.fst && okB [] r.snd)
      (ctl (!(nth (RV.p PV.nilp) r.fst 0).toPV.toBool)
        (Option.some ([RV.p (PV.int IntKind.i64 0), RV.p (PV.int IntKind.i64 1)], []))
        (bnd
          (F 59 [AV.int IntKind.i64 (IntKind.i64.wrap (IntKind.i64.wrap (2 * n) + d)), AV.int IntKind.i64 (IntKind.i64.wrap (2 * d))] [])
          fun (r : Res) =>
          ctl
            (okR [RSh.one (Sh.int IntKind.i64)] r.fst && okB [] r.snd)
            (Option.some
              ([RV.p
                    (PV.int IntKind.i64 (nth (RV.p PV.nilp) r.fst 0).toPV.toInt),
                  RV.p (PV.int IntKind.i64 0)],
                []))
            Option.none))
      Option.none := by kernel_rfl

/-- dynpos/arith.Half -/
theorem r57 (F : Fun) (n : Int) (d : Int) : funK E F 57 [AV.int IntKind.i64 n, AV.int IntKind.i64 d] [] =
  bnd (F 60 [AV.int IntKind.i64 n, AV.int IntKind.i64 d, AV.fn 61 []] [])
    fun (r : Res) =>
    ctl
      (okR
          [RSh.one (Sh.int IntKind.i64), RSh.one (Sh.int IntKind.i64)] r.fst &&
        okB [] r.snd)
      (Option.some
        ([RV.p
              (PV.int IntKind.i64 (nth (RV.p PV.nilp) r.fst 0).toPV.toInt),
            RV.p
              (PV.int IntKind.i64 (nth (RV.p PV.nilp) r.fst 1).toPV.toInt)],
          []))
      Option.none := by kernel_rfl

/-- dynpos/dynposref01.fits -/
theorem r58 (F : Fun) (n : Int) (d : Int) : funK E F 58 [AV.int IntKind.i64 n, AV.int IntKind.i64 d] [] =
  bnd (F 63 [AV.int IntKind.i64 n, AV.int IntKind.i64 1000000000000000000] [])
    fun (r : Res) =>
    ctl (okR [RSh.one Sh.bool] r.fst && okB [] r.snd)
      (bnd
        (ctl (nth (RV.p PV.nilp) r.fst 0).toPV.toBool
          (Option.some (leB 1 d)) (Option.some Bool.false))
        fun (v : Bool) =>
        bnd (ctl v (Option.some (leB d 1000000000)) (Option.some Bool.false)) fun (v : Bool) =>
          Option.some ([RV.p (PV.bool v)], []))
      Option.none := by kernel_rfl

/-- dynpos/dynposref01.floor -/
theorem r59 (F : Fun) (n : Int) (d : Int) : funK E F 59 [AV.int IntKind.i64 n, AV.int IntKind.i64 d] [] =
  ctl (Bool.true && neB d 0)
    (ctl (Bool.true && neB d 0)
      (ctl (ltB (n.tmod d) 0)
        (Option.some ([RV.p (PV.int IntKind.i64 (IntKind.i64.wrap (IntKind.i64.wrap (n.tdiv d) - 1)))], []))
        (Option.some ([RV.p (PV.int IntKind.i64 (IntKind.i64.wrap (n.tdiv d)))], [])))
      Option.none)
    Option.none := by kernel_rfl

/-- dynpos/arith.divide -/
theorem r60a (F : Fun) (n : Int) (d : Int) : funK E F 60 [AV.int IntKind.i64 n, AV.int IntKind.i64 d, AV.fn 61 []] [] =
  bnd
    (ctl (!ltB n (-1000000000000000000)) (Option.some (ltB 1000000000000000000 n)) (Option.some Bool.true)) fun (v : Bool) =>
    bnd (ctl (!v) (Option.some (ltB d 1)) (Option.some Bool.true)) fun (v : Bool) =>
      bnd (ctl (!v) (Option.some (ltB 1000000000 d)) (Option.some Bool.true)) fun (v : Bool) =>
        ctl v
          (Option.some ([RV.p (PV.int IntKind.i64 0), RV.p (PV.int IntKind.i64 1)], []))
          (bnd (F 61 [AV.int IntKind.i64 n, AV.int IntKind.i64 d] []) fun (r : Res) =>
            ctl
              (okR [RSh.one (Sh.int IntKind.i64)] r.fst && okB [] r.snd)
              (Option.some
                ([RV.p
                      (PV.int IntKind.i64 (nth (RV.p PV.nilp) r.fst 0).toPV.toInt),
                    RV.p (PV.int IntKind.i64 0)],
                  []))
              Option.none) := by kernel_rfl

/-- dynpos/arith.Half$1 -/
theorem r61 (F : Fun) (n : Int) (d : Int) : funK E F 61 [AV.int IntKind.i64 n, AV.int IntKind.i64 d] [] =
  bnd
    (F 62 [AV.int IntKind.i64 (IntKind.i64.wrap (IntKind.i64.wrap (2 * n) + d)), AV.int IntKind.i64 (IntKind.i64.wrap (2 * d))] [])
    fun (r : Res) =>
    ctl
      (okR [RSh.one (Sh.int IntKind.i64)] r.fst && okB [] r.snd)
      (Option.some
        ([RV.p
              (PV.int IntKind.i64 (nth (RV.p PV.nilp) r.fst 0).toPV.toInt)],
          []))
      Option.none := by kernel_rfl

/-- dynpos/arith.floor -/
theorem r62 (F : Fun) (n : Int) (d : Int) : funK E F 62 [AV.int IntKind.i64 n, AV.int IntKind.i64 d] [] =
  ctl (Bool.true && neB d 0)
    (ctl (Bool.true && neB d 0)
      (ctl (ltB (n.tmod d) 0)
        (Option.some ([RV.p (PV.int IntKind.i64 (IntKind.i64.wrap (IntKind.i64.wrap (n.tdiv d) - 1)))], []))
        (Option.some ([RV.p (PV.int IntKind.i64 (IntKind.i64.wrap (n.tdiv d)))], [])))
      Option.none)
    Option.none := by kernel_rfl

/-- dynpos/dynposref01.in -/
theorem r63 (F : Fun) (x : Int) (m : Int) : funK E F 63 [AV.int IntKind.i64 x, AV.int IntKind.i64 m] [] =
  bnd (ctl (leB (IntKind.i64.wrap (0 - m)) x) (Option.some (leB x m)) (Option.some Bool.false))
    fun (v : Bool) => Option.some ([RV.p (PV.bool v)], []) := by kernel_rfl

/-- dynpos/dynposlaw11.sane -/
theorem r14 (F : Fun) : funK E F 14 [] [] =
  bnd (F 36 [] []) fun (r : Res) =>
    ctl
      (okR
          [RSh.agg
              [Sh.int IntKind.i64, Sh.int IntKind.i64, Sh.int IntKind.i64,
                Sh.int IntKind.i64, Sh.int IntKind.i64, Sh.sl 2]]
          r.fst &&
        okB [] r.snd)
      (bnd
        (F 10
          [AV.agg
              [PV.int IntKind.i64
                  (nth PV.nilp (nth (RV.p PV.nilp) r.fst 0).toCs
                      0).toInt,
                PV.int IntKind.i64
                  (nth PV.nilp (nth (RV.p PV.nilp) r.fst 0).toCs
                      1).toInt,
                PV.int IntKind.i64
                  (nth PV.nilp (nth (RV.p PV.nilp) r.fst 0).toCs
                      2).toInt,
                PV.int IntKind.i64
                  (nth PV.nilp (nth (RV.p PV.nilp) r.fst 0).toCs
                      3).toInt,
                PV.int IntKind.i64
                  (nth PV.nilp (nth (RV.p PV.nilp) r.fst 0).toCs
                      4).toInt,
                PV.sl 2
                  (nth PV.nilp (nth (RV.p PV.nilp) r.fst 0).toCs
                      5).toEs]]
          [])
        fun (r : Res) =>
        ctl
          (okR
              [RSh.one (Sh.int IntKind.i64), RSh.one (Sh.int IntKind.i64)] r.fst &&
            okB [] r.snd)
          (bnd (F 36 [] []) fun (r_1 : Res) =>
            ctl
              (okR
                  [RSh.agg
                      [Sh.int IntKind.i64, Sh.int IntKind.i64, Sh.int IntKind.i64,
                        Sh.int IntKind.i64, Sh.int IntKind.i64, Sh.sl 2]]
                  r_1.fst &&
                okB [] r_1.snd)
              (bnd
                (F 12
                  [AV.agg
                      [PV.int IntKind.i64
                          (nth PV.nilp
                              (nth (RV.p PV.nilp) r_1.fst 0).toCs 0).toInt,
                        PV.int IntKind.i64
                          (nth PV.nilp
                              (nth (RV.p PV.nilp) r_1.fst 0).toCs 1).toInt,
                        PV.int IntKind.i64
                          (nth PV.nilp
                              (nth (RV.p PV.nilp) r_1.fst 0).toCs 2).toInt,
                        PV.int IntKind.i64
                          (nth PV.nilp
                              (nth (RV.p PV.nilp) r_1.fst 0).toCs 3).toInt,
                        PV.int IntKind.i64
                          (nth PV.nilp
                              (nth (RV.p PV.nilp) r_1.fst 0).toCs 4).toInt,
                        PV.sl 2
                          (nth PV.nilp
                              (nth (RV.p PV.nilp) r_1.fst 0).toCs 5).toEs],
                    AV.int IntKind.i64 (-60)]
                  [])
                fun (r_2 : Res) =>
                ctl
                  (okR
                      [RSh.one (Sh.int IntKind.i64), RSh.one (Sh.int IntKind.i64)]
                      r_2.fst &&
                    okB [] r_2.snd)
                  (bnd
                    (F 23
                      [AV.int IntKind.i64 (-10), AV.int IntKind.i64 10, AV.int IntKind.i64 20,
                        AV.int IntKind.i64 5]
                      [])
                    fun (r_3 : Res) =>
                    ctl
                      (okR
                          [RSh.one (Sh.int IntKind.i64), RSh.one (Sh.int IntKind.i64)]
                          r_3.fst &&
                        okB [] r_3.snd)
                      (bnd
                        (ctl ((nth (RV.p PV.nilp) r.fst 0).toPV.toInt == -100)
                          (Option.some ((nth (RV.p PV.nilp) r.fst 1).toPV.toInt == 0)) (Option.some Bool.false))
                        fun (v : Bool) =>
                        bnd
                          (ctl v (Option.some ((nth (RV.p PV.nilp) r_2.fst 0).toPV.toInt == -80))
                            (Option.some Bool.false))
                          fun (v : Bool) =>
                          bnd
                            (ctl v (Option.some ((nth (RV.p PV.nilp) r_2.fst 1).toPV.toInt == 80))
                              (Option.some Bool.false))
                            fun (v : Bool) =>
                            bnd
                              (ctl v
                                (Option.some ((nth (RV.p PV.nilp) r_3.fst 0).toPV.toInt == 10)) (Option.some Bool.false))
                              fun (v : Bool) =>
                              bnd
                                (ctl v
                                  (Option.some ((nth (RV.p PV.nilp) r_3.fst 1).toPV.toInt == 10)) (Option.some Bool.false))
                                fun (v : Bool) =>
                                bnd
                                  (ctl v
                                    (bnd (F 36 [] []) fun (r : Res) =>
                                      ctl
                                        (okR
                                            [RSh.agg
                                                [Sh.int IntKind.i64, Sh.int IntKind.i64, Sh.int IntKind.i64,
                                                  Sh.int IntKind.i64, Sh.int IntKind.i64, Sh.sl 2]]
                                            r.fst &&
                                          okB [] r.snd)
                                        (bnd
                                          (F 13
                                            [AV.agg
                                                [PV.int IntKind.i64
                                                    (nth PV.nilp
                                                        (nth (RV.p PV.nilp) r.fst 0).toCs 0).toInt,
                                                  PV.int IntKind.i64
                                                    (nth PV.nilp
                                                        (nth (RV.p PV.nilp) r.fst 0).toCs 1).toInt,
                                                  PV.int IntKind.i64
                                                    (nth PV.nilp
                                                        (nth (RV.p PV.nilp) r.fst 0).toCs 2).toInt,
                                                  PV.int IntKind.i64
                                                    (nth PV.nilp
                                                        (nth (RV.p PV.nilp) r.fst 0).toCs 3).toInt,
                                                  PV.int IntKind.i64
                                                    (nth PV.nilp
                                                        (nth (RV.p PV.nilp) r.fst 0).toCs 4).toInt,
                                                  PV.sl 2
                                                    (nth PV.nilp
                                                        (nth (RV.p PV.nilp) r.fst 0).toCs 5).toEs]]
                                            [])
                                          fun (r : Res) =>
                                          ctl
                                            (okR [RSh.one Sh.bool] r.fst && okB [] r.snd)
                                            (Option.some (nth (RV.p PV.nilp) r.fst 0).toPV.toBool) Option.none)
                                        Option.none)
                                    (Option.some Bool.false))
                                  fun (v : Bool) =>
                                  bnd
                                    (ctl v
                                      (bnd (F 36 [] []) fun (r : Res) =>
                                        ctl
                                          (okR
                                              [RSh.agg
                                                  [Sh.int IntKind.i64, Sh.int IntKind.i64, Sh.int IntKind.i64,
                                                    Sh.int IntKind.i64, Sh.int IntKind.i64, Sh.sl 2]]
                                              r.fst &&
                                            okB [] r.snd)
                                          (bnd
                                            (F 20
                                              [AV.agg
                                                  [PV.int IntKind.i64
                                                      (nth PV.nilp
                                                          (nth (RV.p PV.nilp) r.fst 0).toCs 0).toInt,
                                                    PV.int IntKind.i64
                                                      (nth PV.nilp
                                                          (nth (RV.p PV.nilp) r.fst 0).toCs 1).toInt,
                                                    PV.int IntKind.i64
                                                      (nth PV.nilp
                                                          (nth (RV.p PV.nilp) r.fst 0).toCs 2).toInt,
                                                    PV.int IntKind.i64
                                                      (nth PV.nilp
                                                          (nth (RV.p PV.nilp) r.fst 0).toCs 3).toInt,
                                                    PV.int IntKind.i64
                                                      (nth PV.nilp
                                                          (nth (RV.p PV.nilp) r.fst 0).toCs 4).toInt,
                                                    PV.sl 2
                                                      (nth PV.nilp
                                                          (nth (RV.p PV.nilp) r.fst 0).toCs 5).toEs],
                                                AV.int IntKind.i64 0, AV.int IntKind.i64 0]
                                              [])
                                            fun (r : Res) =>
                                            ctl
                                              (okR [RSh.one Sh.bool] r.fst && okB [] r.snd)
                                              (Option.some (nth (RV.p PV.nilp) r.fst 0).toPV.toBool) Option.none)
                                          Option.none)
                                      (Option.some Bool.false))
                                    fun (v : Bool) =>
                                    bnd
                                      (ctl v
                                        (bnd (F 36 [] []) fun (r : Res) =>
                                          ctl
                                            (okR
                                                [RSh.agg
                                                    [Sh.int IntKind.i64, Sh.int IntKind.i64, Sh.int IntKind.i64,
                                                      Sh.int IntKind.i64, Sh.int IntKind.i64, Sh.sl 2]]
                                                r.fst &&
                                              okB [] r.snd)
                                            (bnd
                                              (F 20
                                                [AV.agg
                                                    [PV.int IntKind.i64
                                                        (nth PV.nilp
                                                            (nth (RV.p PV.nilp) r.fst 0).toCs 0).toInt,
                                                      PV.int IntKind.i64
                                                        (nth PV.nilp
                                                            (nth (RV.p PV.nilp) r.fst 0).toCs 1).toInt,
                                                      PV.int IntKind.i64
                                                        (nth PV.nilp
                                                            (nth (RV.p PV.nilp) r.fst 0).toCs 2).toInt,
                                                      PV.int IntKind.i64
                                                        (nth PV.nilp
                                                            (nth (RV.p PV.nilp) r.fst 0).toCs 3).toInt,
                                                      PV.int IntKind.i64
                                                        (nth PV.nilp
                                                            (nth (RV.p PV.nilp) r.fst 0).toCs 4).toInt,
                                                      PV.sl 2
                                                        (nth PV.nilp
                                                            (nth (RV.p PV.nilp) r.fst 0).toCs 5).toEs],
                                                  AV.int IntKind.i64 0, AV.int IntKind.i64 1]
                                                [])
                                              fun (r : Res) =>
                                              ctl
                                                (okR [RSh.one Sh.bool] r.fst && okB [] r.snd)
                                                (Option.some !(nth (RV.p PV.nilp) r.fst 0).toPV.toBool) Option.none)
                                            Option.none)
                                        (Option.some Bool.false))
                                      fun (v : Bool) => Option.some ([RV.p (PV.bool v)], []))
                      Option.none)
                  Option.none)
              Option.none)
          Option.none)
      Option.none := by kernel_rfl

end Go.Proofs.Ytldeniedmbgnaaa.Vm
