/- The raw theorems, by program: what each function and each loop comes to. -/
import Derived.Test.YtcopadohnlcheaaDoorEnv
import Derived.Test.YtcopadohnlcheaaDoorVm34
import Derived.KernelRfl
namespace Go.Proofs.YtcopadohnlcheaaDoor.Vm
open Go
set_option maxRecDepth 100000
set_option linter.unusedVariables false

/-- dynpos/dynposlaw06.SignalExact, the loop of block 0 -/
theorem r4_0 (F : Fun) (t0 : List (List PV)) (text3 : List UInt8) (n4 : Int) (x45 : List (List PV)) (x46 : Int) (x47 : Int) (b0_0 : Int) (b0_1 : Int) (b0_2 : Int) (b0_3 : Int) (b0_4 : Int) (b0_5 : Int) (b1_0 : List (List PV)) : lp E F 4 0 [] 0
  {
    vals :=
      [AV.sl 1 t0, AV.str text3, AV.int IntKind.i64 n4, AV.sl 1 x45,
        AV.int IntKind.i64 x46, AV.int IntKind.i64 x47],
    blks :=
      [Blk.box
          [AV.int IntKind.i64 b0_0, AV.int IntKind.i64 b0_1, AV.int IntKind.i64 b0_2,
            AV.int IntKind.i64 b0_3, AV.int IntKind.i64 b0_4, AV.int IntKind.i64 b0_5],
        Blk.box [AV.sl 1 b1_0]] } =
  ctl (ltB x47 x46)
    (getE x45 x47 fun (c : List PV) =>
      ctl (okCs [Sh.str] c)
        (ctl (ltB 60 (↑(nth PV.nilp c 0).toStr.length : Int))
          (bnd (F 10 [] []) fun (r : Res) =>
            ctl
              (okR [RSh.one Sh.bool] r.fst && okB [] r.snd)
              (Option.some
                (Ex.ret,
                  { vals := [AV.bool (nth (RV.p PV.nilp) r.fst 0).toPV.toBool],
                    blks := [] }))
              Option.none)
          (lp E F 4 0 [] 0
            {
              vals :=
                [AV.sl 1 t0, AV.str text3, AV.int IntKind.i64 n4, AV.sl 1 x45,
                  AV.int IntKind.i64 x46, AV.int IntKind.i64 (IntKind.i64.wrap (x47 + 1))],
              blks :=
                [Blk.box
                    [AV.int IntKind.i64 b0_0, AV.int IntKind.i64 b0_1, AV.int IntKind.i64 b0_2,
                      AV.int IntKind.i64 b0_3, AV.int IntKind.i64 b0_4, AV.int IntKind.i64 b0_5],
                  Blk.box [AV.sl 1 b1_0]] }))
        Option.none)
    (Option.some
      (Ex.exit 0,
        { vals := [AV.sl 1 t0, AV.str text3, AV.int IntKind.i64 n4],
          blks :=
            [Blk.box
                [AV.int IntKind.i64 b0_0, AV.int IntKind.i64 b0_1, AV.int IntKind.i64 b0_2,
                  AV.int IntKind.i64 b0_3, AV.int IntKind.i64 b0_4, AV.int IntKind.i64 b0_5],
              Blk.box [AV.sl 1 b1_0]] })) := (lp_unfold ..).trans (by kernel_rfl)

/-- dynpos/dynposlaw06.SignalExact, the loop of block 2 -/
theorem r4_2 (F : Fun) (text3 : List UInt8) (n4 : Int) (x65_0 : Int) (x65_1 : Int) (x65_2 : Int) (x65_3 : Int) (x65_4 : Int) (x65_5 : Int) (x65_6 : Int) (x65_7 : Int) (x65_8 : Int) (x65_9 : Int) (x65_10 : Int) (x65_11 : Int) (x65_12 : Int) (x65_13 : Int) (x65_14 : Int) (x65_15 : Int) (x65_16 : Int) (x65_17 : Int) (x66 : Int) (b0_0 : List (List PV)) (b1_0 : List (List PV)) (b1_1 : Int) : lp E F 4 0 [] 2
  {
    vals :=
      [AV.str text3, AV.int IntKind.i64 n4,
        AV.agg
          [PV.int IntKind.i64 x65_0, PV.int IntKind.i64 x65_1, PV.int IntKind.i64 x65_2,
            PV.int IntKind.i64 x65_3, PV.int IntKind.i64 x65_4, PV.int IntKind.i64 x65_5,
            PV.int IntKind.i64 x65_6, PV.int IntKind.i64 x65_7, PV.int IntKind.i64 x65_8,
            PV.int IntKind.i64 x65_9, PV.int IntKind.i64 x65_10, PV.int IntKind.i64 x65_11,
            PV.int IntKind.i64 x65_12, PV.int IntKind.i64 x65_13, PV.int IntKind.i64 x65_14,
            PV.int IntKind.i64 x65_15, PV.int IntKind.i64 x65_16, PV.int IntKind.i64 x65_17],
        AV.int IntKind.i64 x66],
    blks :=
      [Blk.box [AV.sl 1 b0_0],
        Blk.box [AV.sl 1 b1_0, AV.int IntKind.i64 b1_1]] } =
  ctl (ltB x66 3)
    (getE
      [[PV.int IntKind.i64 x65_0, PV.int IntKind.i64 x65_1, PV.int IntKind.i64 x65_2,
          PV.int IntKind.i64 x65_3, PV.int IntKind.i64 x65_4, PV.int IntKind.i64 x65_5],
        [PV.int IntKind.i64 x65_6, PV.int IntKind.i64 x65_7, PV.int IntKind.i64 x65_8,
          PV.int IntKind.i64 x65_9, PV.int IntKind.i64 x65_10, PV.int IntKind.i64 x65_11],
        [PV.int IntKind.i64 x65_12, PV.int IntKind.i64 x65_13, PV.int IntKind.i64 x65_14,
          PV.int IntKind.i64 x65_15, PV.int IntKind.i64 x65_16, PV.int IntKind.i64 x65_17]]
      x66 fun (c : List PV) =>
      ctl
        (okCs
          [Sh.int IntKind.i64, Sh.int IntKind.i64, Sh.int IntKind.i64,
            Sh.int IntKind.i64, Sh.int IntKind.i64, Sh.int IntKind.i64]
          c)
        (bnd
          (F 9
            [AV.agg
                [PV.int IntKind.i64 (nth PV.nilp c 0).toInt,
                  PV.int IntKind.i64 (nth PV.nilp c 1).toInt,
                  PV.int IntKind.i64 (nth PV.nilp c 2).toInt,
                  PV.int IntKind.i64 (nth PV.nilp c 3).toInt,
                  PV.int IntKind.i64 (nth PV.nilp c 4).toInt,
                  PV.int IntKind.i64 (nth PV.nilp c 5).toInt]]
            [])
          fun (r : Res) =>
          ctl
            (okR
                [RSh.agg [Sh.sl 1], RSh.one (Sh.int IntKind.i64)] r.fst &&
              okB [] r.snd)
            (bnd
              (F 12
                [AV.agg
                    [PV.int IntKind.i64 (nth PV.nilp c 0).toInt,
                      PV.int IntKind.i64 (nth PV.nilp c 1).toInt,
                      PV.int IntKind.i64 (nth PV.nilp c 2).toInt,
                      PV.int IntKind.i64 (nth PV.nilp c 3).toInt,
                      PV.int IntKind.i64 (nth PV.nilp c 4).toInt,
                      PV.int IntKind.i64 (nth PV.nilp c 5).toInt]]
                [])
              fun (r_1 : Res) =>
              ctl
                (okR
                    [RSh.agg [Sh.sl 1], RSh.one (Sh.int IntKind.i64)]
                    r_1.fst &&
                  okB [] r_1.snd)
                (bnd
                  (F 13
                    [AV.agg
                        [PV.int IntKind.i64 (nth PV.nilp c 0).toInt,
                          PV.int IntKind.i64 (nth PV.nilp c 1).toInt,
                          PV.int IntKind.i64 (nth PV.nilp c 2).toInt,
                          PV.int IntKind.i64 (nth PV.nilp c 3).toInt,
                          PV.int IntKind.i64 (nth PV.nilp c 4).toInt,
                          PV.int IntKind.i64 (nth PV.nilp c 5).toInt]]
                    [])
                  fun (r_2 : Res) =>
                  ctl
                    (okR [RSh.one Sh.bool] r_2.fst && okB [] r_2.snd)
                    (bnd
                      (F 14
                        [AV.agg
                            [PV.int IntKind.i64 (nth PV.nilp c 0).toInt,
                              PV.int IntKind.i64 (nth PV.nilp c 1).toInt,
                              PV.int IntKind.i64 (nth PV.nilp c 2).toInt,
                              PV.int IntKind.i64 (nth PV.nilp c 3).toInt,
                              PV.int IntKind.i64 (nth PV.nilp c 4).toInt,
                              PV.int IntKind.i64 (nth PV.nilp c 5).toInt]]
                        [])
                      fun (r_3 : Res) =>
                      ctl
                        (okR [RSh.one Sh.bool] r_3.fst && okB [] r_3.snd)
                        (bnd
                          (ctl
                            (!!(nth (RV.p PV.nilp) r_2.fst 0).toPV.toBool ==
                                  (nth (RV.p PV.nilp) r_3.fst 0).toPV.toBool)
                            (bnd
                              (F 15
                                [AV.agg
                                    [PV.sl 1
                                        (nth PV.nilp
                                            (nth (RV.p PV.nilp) r.fst 0).toCs 0).toEs],
                                  AV.agg
                                    [PV.sl 1
                                        (nth PV.nilp
                                            (nth (RV.p PV.nilp) r_1.fst 0).toCs 0).toEs]]
                                [])
                              fun (r : Res) =>
                              ctl
                                (okR [RSh.one Sh.bool] r.fst && okB [] r.snd)
                                (Option.some !(nth (RV.p PV.nilp) r.fst 0).toPV.toBool) Option.none)
                            (Option.some Bool.true))
                          fun (v : Bool) =>
                          bnd
                            (ctl (!v)
                              (Option.some
                                ((nth (RV.p PV.nilp) r.fst 1).toPV.toInt !=
                                  (nth (RV.p PV.nilp) r_1.fst 1).toPV.toInt))
                              (Option.some Bool.true))
                            fun (v : Bool) =>
                            ctl v (Option.some (Ex.ret, { vals := [AV.bool Bool.false], blks := [] }))
                              (ctl
                                (leN
                                  ((nth PV.nilp
                                          (nth (RV.p PV.nilp) r_1.fst 0).toCs 0).toEs.length *
                                    16)
                                  140737488355328)
                                (ctl
                                  (ltB 0
                                    (↑(nth PV.nilp
                                              (nth (RV.p PV.nilp) r_1.fst 0).toCs 0).toEs.length :
                                      Int))
                                  (bnd
                                    (F 17
                                      [AV.t (TV.ptr 0 0),
                                        AV.int IntKind.i64
                                          (↑(nth PV.nilp
                                                    (nth (RV.p PV.nilp) r_1.fst 0).toCs 0).toEs.length :
                                            Int)]
                                      [Blk.box [AV.sl 1 b1_0, AV.int IntKind.i64 b1_1]])
                                    fun (r : Res) =>
                                    ctl
                                      (okR [RSh.one (Sh.int IntKind.i64)] r.fst &&
                                        okB [Sum.inl [Sh.sl 1, Sh.int IntKind.i64]] r.snd)
                                      (bnd
                                        (F 16
                                          [AV.t (TV.ptr 0 0),
                                            AV.sl 1
                                              [[PV.str []], [PV.str [45, 48]], [PV.str [48, 48, 55]],
                                                [PV.str [70, 73, 88]], [PV.str [71, 69, 78]], [PV.str [45, 49]],
                                                [PV.str [57, 57, 57, 57, 57, 57, 57, 57, 57, 57, 57]], [PV.str [120]],
                                                [PV.str [51, 53, 57, 57]]]]
                                          [Blk.box
                                              [AV.sl 1
                                                  (nth PV.nilp
                                                      (List.map AV.toPV (nth (Blk.box []) r.snd 0).toCs) 0).toEs,
                                                AV.int IntKind.i64
                                                  (nth PV.nilp
                                                      (List.map AV.toPV (nth (Blk.box []) r.snd 0).toCs) 1).toInt]])
                                        fun (r_4 : Res) =>
                                        ctl
                                          (okR [RSh.one Sh.str] r_4.fst &&
                                            okB [Sum.inl [Sh.sl 1, Sh.int IntKind.i64]] r_4.snd)
                                          (ctl
                                            (leB 0
                                                (nth (RV.p PV.nilp) r.fst 0).toPV.toInt &&
                                              ltB
                                                (nth (RV.p PV.nilp) r.fst 0).toPV.toInt
                                                (↑(nth PV.nilp
                                                          (nth (RV.p PV.nilp) r_1.fst 0).toCs 0).toEs.length :
                                                  Int))
                                            (bnd
                                              (lp E F 4 0 [] 4
                                                {
                                                  vals :=
                                                    [AV.str text3, AV.int IntKind.i64 n4,
                                                      AV.agg
                                                        [PV.int IntKind.i64 x65_0, PV.int IntKind.i64 x65_1,
                                                          PV.int IntKind.i64 x65_2, PV.int IntKind.i64 x65_3,
                                                          PV.int IntKind.i64 x65_4, PV.int IntKind.i64 x65_5,
                                                          PV.int IntKind.i64 x65_6, PV.int IntKind.i64 x65_7,
                                                          PV.int IntKind.i64 x65_8, PV.int IntKind.i64 x65_9,
                                                          PV.int IntKind.i64 x65_10, PV.int IntKind.i64 x65_11,
                                                          PV.int IntKind.i64 x65_12, PV.int IntKind.i64 x65_13,
                                                          PV.int IntKind.i64 x65_14, PV.int IntKind.i64 x65_15,
                                                          PV.int IntKind.i64 x65_16, PV.int IntKind.i64 x65_17],
                                                      AV.int IntKind.i64 x66,
                                                      AV.agg
                                                        [PV.sl 1
                                                            (nth PV.nilp
                                                                (nth (RV.p PV.nilp) r_1.fst 0).toCs 0).toEs,
                                                          PV.sl 1
                                                            (setEs
                                                              (nth PV.nilp
                                                                  (nth (RV.p PV.nilp) r_1.fst 0).toCs 0).toEs
                                                              (nth (RV.p PV.nilp) r.fst 0).toPV.toInt.toNat 0
                                                              [PV.str
                                                                  (nth (RV.p PV.nilp) r_4.fst 0).toPV.toStr]),
                                                          PV.sl 1 b0_0],
                                                      AV.int IntKind.i64 0],
                                                  blks :=
                                                    [Blk.box [AV.sl 1 b0_0],
                                                      Blk.box
                                                        [AV.sl 1
                                                            (nth PV.nilp
                                                                (List.map AV.toPV (nth (Blk.box []) r_4.snd 0).toCs)
                                                                0).toEs,
                                                          AV.int IntKind.i64
                                                            (nth PV.nilp
                                                                (List.map AV.toPV (nth (Blk.box []) r_4.snd 0).toCs)
                                                                1).toInt]] })
                                              fun (p : Ex × Pack) =>
                                              ctl (p.fst.eqb (Ex.exit 4))
                                                (ctl
                                                  (okPack
                                                    {
                                                      slots :=
                                                        [(3, Sum.inl Sh.str), (4, Sum.inl (Sh.int IntKind.i64)),
                                                          (7, Sum.inr (Sum.inr (AV.t (TV.ptr 0 0)))),
                                                          (13, Sum.inr (Sum.inr (AV.t (TV.ptr 1 0)))),
                                                          (65,
                                                            Sum.inr
                                                              (Sum.inl
                                                                [Sh.int IntKind.i64, Sh.int IntKind.i64,
                                                                  Sh.int IntKind.i64, Sh.int IntKind.i64,
                                                                  Sh.int IntKind.i64, Sh.int IntKind.i64,
                                                                  Sh.int IntKind.i64, Sh.int IntKind.i64,
                                                                  Sh.int IntKind.i64, Sh.int IntKind.i64,
                                                                  Sh.int IntKind.i64, Sh.int IntKind.i64,
                                                                  Sh.int IntKind.i64, Sh.int IntKind.i64,
                                                                  Sh.int IntKind.i64, Sh.int IntKind.i64,
                                                                  Sh.int IntKind.i64, Sh.int IntKind.i64])),
                                                          (66, Sum.inl (Sh.int IntKind.i64))],
                                                      blks :=
                                                        [Sum.inl [Sum.inl (Sh.sl 1)],
                                                          Sum.inl [Sum.inl (Sh.sl 1), Sum.inl (Sh.int IntKind.i64)]] }
                                                    p.snd)
                                                  (lp E F 4 0 [] 2
                                                    {
                                                      vals :=
                                                        [AV.str (nth AV.undef p.snd.vals 0).toPV.toStr,
                                                          AV.int IntKind.i64
                                                            (nth AV.undef p.snd.vals 1).toPV.toInt,
                                                          AV.agg
                                                            [PV.int IntKind.i64
                                                                (nth PV.nilp
                                                                    (nth AV.undef p.snd.vals 2).toCs 0).toInt,
                                                              PV.int IntKind.i64
                                                                (nth PV.nilp
                                                                    (nth AV.undef p.snd.vals 2).toCs 1).toInt,
                                                              PV.int IntKind.i64
                                                                (nth PV.nilp
                                                                    (nth AV.undef p.snd.vals 2).toCs 2).toInt,
                                                              PV.int IntKind.i64
                                                                (nth PV.nilp
                                                                    (nth AV.undef p.snd.vals 2).toCs 3).toInt,
                                                              PV.int IntKind.i64
                                                                (nth PV.nilp
                                                                    (nth AV.undef p.snd.vals 2).toCs 4).toInt,
                                                              PV.int IntKind.i64
                                                                (nth PV.nilp
                                                                    (nth AV.undef p.snd.vals 2).toCs 5).toInt,
                                                              PV.int IntKind.i64
                                                                (nth PV.nilp
                                                                    (nth AV.undef p.snd.vals 2).toCs 6).toInt,
                                                              PV.int IntKind.i64
                                                                (nth PV.nilp
                                                                    (nth AV.undef p.snd.vals 2).toCs 7).toInt,
                                                              PV.int IntKind.i64
                                                                (nth PV.nilp
                                                                    (nth AV.undef p.snd.vals 2).toCs 8).toInt,
                                                              PV.int IntKind.i64
                                                                (nth PV.nilp
                                                                    (nth AV.undef p.snd.vals 2).toCs 9).toInt,
                                                              PV.int IntKind.i64
                                                                (nth PV.nilp
                                                                    (nth AV.undef p.snd.vals 2).toCs 10).toInt,
                                                              PV.int IntKind.i64
                                                                (nth PV.nilp
                                                                    (nth AV.undef p.snd.vals 2).toCs 11).toInt,
                                                              PV.int IntKind.i64
                                                                (nth PV.nilp
                                                                    (nth AV.undef p.snd.vals 2).toCs 12).toInt,
                                                              PV.int IntKind.i64
                                                                (nth PV.nilp
                                                                    (nth AV.undef p.snd.vals 2).toCs 13).toInt,
                                                              PV.int IntKind.i64
                                                                (nth PV.nilp
                                                                    (nth AV.undef p.snd.vals 2).toCs 14).toInt,
                                                              PV.int IntKind.i64
                                                                (nth PV.nilp
                                                                    (nth AV.undef p.snd.vals 2).toCs 15).toInt,
                                                              PV.int IntKind.i64
                                                                (nth PV.nilp
                                                                    (nth AV.undef p.snd.vals 2).toCs 16).toInt,
                                                              PV.int IntKind.i64
                                                                (nth PV.nilp
                                                                    (nth AV.undef p.snd.vals 2).toCs 17).toInt],
                                                          AV.int IntKind.i64
                                                            (IntKind.i64.wrap ((nth AV.undef p.snd.vals 3).toPV.toInt + 1))],
                                                      blks :=
                                                        [Blk.box
                                                            [AV.sl 1
                                                                (nth AV.undef
                                                                      (nth (Blk.box []) p.snd.blks 0).toCs 0).toPV.toEs],
                                                          Blk.box
                                                            [AV.sl 1
                                                                (nth AV.undef
                                                                      (nth (Blk.box []) p.snd.blks 1).toCs 0).toPV.toEs,
                                                              AV.int IntKind.i64
                                                                (nth AV.undef
                                                                      (nth (Blk.box []) p.snd.blks 1).toCs 1).toPV.toInt]] })
                                                  Option.none)
                                                (ctl (p.fst.eqb Ex.ret)
                                                  (ctl
                                                    (okPack { slots := [(10, Sum.inl Sh.bool)], blks := [] } p.snd)
                                                    (Option.some
                                                      (Ex.ret,
                                                        { vals := [AV.bool (nth AV.undef p.snd.vals 0).toPV.toBool],
                                                          blks := [] }))
                                                    Option.none)
                                                  Option.none))
                                            Option.none)
                                          Option.none)
                                      Option.none)
                                  (bnd
                                    (lp E F 4 0 [] 4
                                      {
                                        vals :=
                                          [AV.str text3, AV.int IntKind.i64 n4,
                                            AV.agg
                                              [PV.int IntKind.i64 x65_0, PV.int IntKind.i64 x65_1,
                                                PV.int IntKind.i64 x65_2, PV.int IntKind.i64 x65_3,
                                                PV.int IntKind.i64 x65_4, PV.int IntKind.i64 x65_5,
                                                PV.int IntKind.i64 x65_6, PV.int IntKind.i64 x65_7,
                                                PV.int IntKind.i64 x65_8, PV.int IntKind.i64 x65_9,
                                                PV.int IntKind.i64 x65_10, PV.int IntKind.i64 x65_11,
                                                PV.int IntKind.i64 x65_12, PV.int IntKind.i64 x65_13,
                                                PV.int IntKind.i64 x65_14, PV.int IntKind.i64 x65_15,
                                                PV.int IntKind.i64 x65_16, PV.int IntKind.i64 x65_17],
                                            AV.int IntKind.i64 x66,
                                            AV.agg
                                              [PV.sl 1
                                                  (nth PV.nilp
                                                      (nth (RV.p PV.nilp) r_1.fst 0).toCs 0).toEs,
                                                PV.sl 1
                                                  (nth PV.nilp
                                                      (nth (RV.p PV.nilp) r_1.fst 0).toCs 0).toEs,
                                                PV.sl 1 b0_0],
                                            AV.int IntKind.i64 0],
                                        blks :=
                                          [Blk.box [AV.sl 1 b0_0],
                                            Blk.box [AV.sl 1 b1_0, AV.int IntKind.i64 b1_1]] })
                                    fun (p : Ex × Pack) =>
                                    ctl (p.fst.eqb (Ex.exit 4))
                                      (ctl
                                        (okPack
                                          {
                                            slots :=
                                              [(3, Sum.inl Sh.str), (4, Sum.inl (Sh.int IntKind.i64)),
                                                (7, Sum.inr (Sum.inr (AV.t (TV.ptr 0 0)))),
                                                (13, Sum.inr (Sum.inr (AV.t (TV.ptr 1 0)))),
                                                (65,
                                                  Sum.inr
                                                    (Sum.inl
                                                      [Sh.int IntKind.i64, Sh.int IntKind.i64,
                                                        Sh.int IntKind.i64, Sh.int IntKind.i64,
                                                        Sh.int IntKind.i64, Sh.int IntKind.i64,
                                                        Sh.int IntKind.i64, Sh.int IntKind.i64,
                                                        Sh.int IntKind.i64, Sh.int IntKind.i64,
                                                        Sh.int IntKind.i64, Sh.int IntKind.i64,
                                                        Sh.int IntKind.i64, Sh.int IntKind.i64,
                                                        Sh.int IntKind.i64, Sh.int IntKind.i64,
                                                        Sh.int IntKind.i64, Sh.int IntKind.i64])),
                                                (66, Sum.inl (Sh.int IntKind.i64))],
                                            blks :=
                                              [Sum.inl [Sum.inl (Sh.sl 1)],
                                                Sum.inl [Sum.inl (Sh.sl 1), Sum.inl (Sh.int IntKind.i64)]] }
                                          p.snd)
                                        (lp E F 4 0 [] 2
                                          {
                                            vals :=
                                              [AV.str (nth AV.undef p.snd.vals 0).toPV.toStr,
                                                AV.int IntKind.i64 (nth AV.undef p.snd.vals 1).toPV.toInt,
                                                AV.agg
                                                  [PV.int IntKind.i64
                                                      (nth PV.nilp
                                                          (nth AV.undef p.snd.vals 2).toCs 0).toInt,
                                                    PV.int IntKind.i64
                                                      (nth PV.nilp
                                                          (nth AV.undef p.snd.vals 2).toCs 1).toInt,
                                                    PV.int IntKind.i64
                                                      (nth PV.nilp
                                                          (nth AV.undef p.snd.vals 2).toCs 2).toInt,
                                                    PV.int IntKind.i64
                                                      (nth PV.nilp
                                                          (nth AV.undef p.snd.vals 2).toCs 3).toInt,
                                                    PV.int IntKind.i64
                                                      (nth PV.nilp
                                                          (nth AV.undef p.snd.vals 2).toCs 4).toInt,
                                                    PV.int IntKind.i64
                                                      (nth PV.nilp
                                                          (nth AV.undef p.snd.vals 2).toCs 5).toInt,
                                                    PV.int IntKind.i64
                                                      (nth PV.nilp
                                                          (nth AV.undef p.snd.vals 2).toCs 6).toInt,
                                                    PV.int IntKind.i64
                                                      (nth PV.nilp
                                                          (nth AV.undef p.snd.vals 2).toCs 7).toInt,
                                                    PV.int IntKind.i64
                                                      (nth PV.nilp
                                                          (nth AV.undef p.snd.vals 2).toCs 8).toInt,
                                                    PV.int IntKind.i64
                                                      (nth PV.nilp
                                                          (nth AV.undef p.snd.vals 2).toCs 9).toInt,
                                                    PV.int IntKind.i64
                                                      (nth PV.nilp
                                                          (nth AV.undef p.snd.vals 2).toCs 10).toInt,
                                                    PV.int IntKind.i64
                                                      (nth PV.nilp
                                                          (nth AV.undef p.snd.vals 2).toCs 11).toInt,
                                                    PV.int IntKind.i64
                                                      (nth PV.nilp
                                                          (nth AV.undef p.snd.vals 2).toCs 12).toInt,
                                                    PV.int IntKind.i64
                                                      (nth PV.nilp
                                                          (nth AV.undef p.snd.vals 2).toCs 13).toInt,
                                                    PV.int IntKind.i64
                                                      (nth PV.nilp
                                                          (nth AV.undef p.snd.vals 2).toCs 14).toInt,
                                                    PV.int IntKind.i64
                                                      (nth PV.nilp
                                                          (nth AV.undef p.snd.vals 2).toCs 15).toInt,
                                                    PV.int IntKind.i64
                                                      (nth PV.nilp
                                                          (nth AV.undef p.snd.vals 2).toCs 16).toInt,
                                                    PV.int IntKind.i64
                                                      (nth PV.nilp
                                                          (nth AV.undef p.snd.vals 2).toCs 17).toInt],
                                                AV.int IntKind.i64
                                                  (IntKind.i64.wrap ((nth AV.undef p.snd.vals 3).toPV.toInt + 1))],
                                            blks :=
                                              [Blk.box
                                                  [AV.sl 1
                                                      (nth AV.undef
                                                            (nth (Blk.box []) p.snd.blks 0).toCs 0).toPV.toEs],
                                                Blk.box
                                                  [AV.sl 1
                                                      (nth AV.undef
                                                            (nth (Blk.box []) p.snd.blks 1).toCs 0).toPV.toEs,
                                                    AV.int IntKind.i64
                                                      (nth AV.undef
                                                            (nth (Blk.box []) p.snd.blks 1).toCs 1).toPV.toInt]] })
                                        Option.none)
                                      (ctl (p.fst.eqb Ex.ret)
                                        (ctl (okPack { slots := [(10, Sum.inl Sh.bool)], blks := [] } p.snd)
                                          (Option.some
                                            (Ex.ret,
                                              { vals := [AV.bool (nth AV.undef p.snd.vals 0).toPV.toBool],
                                                blks := [] }))
                                          Option.none)
                                        Option.none)))
                                Option.none))
                        Option.none)
                    Option.none)
                Option.none)
            Option.none)
        Option.none)
    (Option.some
      (Ex.exit 2,
        { vals := [AV.str text3, AV.int IntKind.i64 n4],
          blks := [Blk.box [AV.sl 1 b1_0, AV.int IntKind.i64 b1_1]] })) := (lp_unfold ..).trans (by kernel_rfl)

/-- dynpos/dynposlaw06.SignalExact, the loop of block 4 -/
theorem r4_4 (F : Fun) (text3 : List UInt8) (n4 : Int) (x65_0 : Int) (x65_1 : Int) (x65_2 : Int) (x65_3 : Int) (x65_4 : Int) (x65_5 : Int) (x65_6 : Int) (x65_7 : Int) (x65_8 : Int) (x65_9 : Int) (x65_10 : Int) (x65_11 : Int) (x65_12 : Int) (x65_13 : Int) (x65_14 : Int) (x65_15 : Int) (x65_16 : Int) (x65_17 : Int) (x66 : Int) (x117_0 : List (List PV)) (x117_1 : List (List PV)) (x117_2 : List (List PV)) (x118 : Int) (b0_0 : List (List PV)) (b1_0 : List (List PV)) (b1_1 : Int) : lp E F 4 0 [] 4
  {
    vals :=
      [AV.str text3, AV.int IntKind.i64 n4,
        AV.agg
          [PV.int IntKind.i64 x65_0, PV.int IntKind.i64 x65_1, PV.int IntKind.i64 x65_2,
            PV.int IntKind.i64 x65_3, PV.int IntKind.i64 x65_4, PV.int IntKind.i64 x65_5,
            PV.int IntKind.i64 x65_6, PV.int IntKind.i64 x65_7, PV.int IntKind.i64 x65_8,
            PV.int IntKind.i64 x65_9, PV.int IntKind.i64 x65_10, PV.int IntKind.i64 x65_11,
            PV.int IntKind.i64 x65_12, PV.int IntKind.i64 x65_13, PV.int IntKind.i64 x65_14,
            PV.int IntKind.i64 x65_15, PV.int IntKind.i64 x65_16, PV.int IntKind.i64 x65_17],
        AV.int IntKind.i64 x66,
        AV.agg [PV.sl 1 x117_0, PV.sl 1 x117_1, PV.sl 1 x117_2],
        AV.int IntKind.i64 x118],
    blks :=
      [Blk.box [AV.sl 1 b0_0],
        Blk.box [AV.sl 1 b1_0, AV.int IntKind.i64 b1_1]] } =
  ctl (ltB x118 3)
    (getE [[PV.sl 1 x117_0], [PV.sl 1 x117_1], [PV.sl 1 x117_2]] x118
      fun (c : List PV) =>
      ctl (okCs [Sh.sl 1] c)
        (bnd
          (F 18 [AV.agg [PV.sl 1 (nth PV.nilp c 0).toEs]] [])
          fun (r : Res) =>
          ctl
            (okR
                [RSh.agg
                    [Sh.int IntKind.i64, Sh.int IntKind.i64, Sh.int IntKind.i64,
                      Sh.int IntKind.i64, Sh.int IntKind.i64, Sh.int IntKind.i64],
                  RSh.one (Sh.int IntKind.i64)]
                r.fst &&
              okB [] r.snd)
            (bnd
              (F 19 [AV.agg [PV.sl 1 (nth PV.nilp c 0).toEs]] [])
              fun (r_1 : Res) =>
              ctl
                (okR
                    [RSh.agg
                        [Sh.int IntKind.i64, Sh.int IntKind.i64, Sh.int IntKind.i64,
                          Sh.int IntKind.i64, Sh.int IntKind.i64, Sh.int IntKind.i64],
                      RSh.one (Sh.int IntKind.i64)]
                    r_1.fst &&
                  okB [] r_1.snd)
                (bnd
                  (ctl
                    (!!((nth PV.nilp
                                (nth (RV.p PV.nilp) r.fst 0).toCs 0).toInt ==
                            (nth PV.nilp
                                (nth (RV.p PV.nilp) r_1.fst 0).toCs 0).toInt &&
                          ((nth PV.nilp
                                  (nth (RV.p PV.nilp) r.fst 0).toCs 1).toInt ==
                              (nth PV.nilp
                                  (nth (RV.p PV.nilp) r_1.fst 0).toCs 1).toInt &&
                            ((nth PV.nilp
                                    (nth (RV.p PV.nilp) r.fst 0).toCs 2).toInt ==
                                (nth PV.nilp
                                    (nth (RV.p PV.nilp) r_1.fst 0).toCs 2).toInt &&
                              ((nth PV.nilp
                                      (nth (RV.p PV.nilp) r.fst 0).toCs 3).toInt ==
                                  (nth PV.nilp
                                      (nth (RV.p PV.nilp) r_1.fst 0).toCs 3).toInt &&
                                ((nth PV.nilp
                                        (nth (RV.p PV.nilp) r.fst 0).toCs 4).toInt ==
                                    (nth PV.nilp
                                        (nth (RV.p PV.nilp) r_1.fst 0).toCs 4).toInt &&
                                  ((nth PV.nilp
                                          (nth (RV.p PV.nilp) r.fst 0).toCs 5).toInt ==
                                      (nth PV.nilp
                                          (nth (RV.p PV.nilp) r_1.fst 0).toCs 5).toInt &&
                                    Bool.true)))))))
                    (Option.some
                      ((nth (RV.p PV.nilp) r.fst 1).toPV.toInt !=
                        (nth (RV.p PV.nilp) r_1.fst 1).toPV.toInt))
                    (Option.some Bool.true))
                  fun (v : Bool) =>
                  ctl v (Option.some (Ex.ret, { vals := [AV.bool Bool.false], blks := [] }))
                    (lp E F 4 0 [] 4
                      {
                        vals :=
                          [AV.str text3, AV.int IntKind.i64 n4,
                            AV.agg
                              [PV.int IntKind.i64 x65_0, PV.int IntKind.i64 x65_1, PV.int IntKind.i64 x65_2,
                                PV.int IntKind.i64 x65_3, PV.int IntKind.i64 x65_4,
                                PV.int IntKind.i64 x65_5, PV.int IntKind.i64 x65_6,
                                PV.int IntKind.i64 x65_7, PV.int IntKind.i64 x65_8,
                                PV.int IntKind.i64 x65_9, PV.int IntKind.i64 x65_10,
                                PV.int IntKind.i64 x65_11, PV.int IntKind.i64 x65_12,
                                PV.int IntKind.i64 x65_13, PV.int IntKind.i64 x65_14,
                                PV.int IntKind.i64 x65_15, PV.int IntKind.i64 x65_16,
                                PV.int IntKind.i64 x65_17],
                            AV.int IntKind.i64 x66,
                            AV.agg
                              [PV.sl 1 x117_0, PV.sl 1 x117_1, PV.sl 1 x117_2],
                            AV.int IntKind.i64 (IntKind.i64.wrap (x118 + 1))],
                        blks :=
                          [Blk.box [AV.sl 1 b0_0],
                            Blk.box [AV.sl 1 b1_0, AV.int IntKind.i64 b1_1]] }))
                Option.none)
            Option.none)
        Option.none)
    (Option.some
      (Ex.exit 4,
        {
          vals :=
            [AV.str text3, AV.int IntKind.i64 n4,
              AV.agg
                [PV.int IntKind.i64 x65_0, PV.int IntKind.i64 x65_1, PV.int IntKind.i64 x65_2,
                  PV.int IntKind.i64 x65_3, PV.int IntKind.i64 x65_4, PV.int IntKind.i64 x65_5,
                  PV.int IntKind.i64 x65_6, PV.int IntKind.i64 x65_7, PV.int IntKind.i64 x65_8,
                  PV.int IntKind.i64 x65_9, PV.int IntKind.i64 x65_10, PV.int IntKind.i64 x65_11,
                  PV.int IntKind.i64 x65_12, PV.int IntKind.i64 x65_13, PV.int IntKind.i64 x65_14,
                  PV.int IntKind.i64 x65_15, PV.int IntKind.i64 x65_16, PV.int IntKind.i64 x65_17],
              AV.int IntKind.i64 x66],
          blks :=
            [Blk.box [AV.sl 1 b0_0],
              Blk.box [AV.sl 1 b1_0, AV.int IntKind.i64 b1_1]] })) := (lp_unfold ..).trans (by kernel_rfl)

/-- dynpos/dynposlaw06.SignalExact, the loop of block 6 -/
theorem r4_6 (F : Fun) (n4 : Int) (x147_0 : List UInt8) (x147_1 : List UInt8) (x147_2 : List UInt8) (x147_3 : List UInt8) (x148 : Int) : lp E F 4 0 [] 6
  {
    vals :=
      [AV.int IntKind.i64 n4,
        AV.agg
          [PV.str x147_0, PV.str x147_1, PV.str x147_2, PV.str x147_3],
        AV.int IntKind.i64 x148],
    blks := [] } =
  ctl (ltB x148 4)
    (getE
      [[PV.str x147_0], [PV.str x147_1], [PV.str x147_2], [PV.str x147_3]] x148
      fun (c : List PV) =>
      ctl (okCs [Sh.str] c)
        (bnd (F 21 [AV.str (nth PV.nilp c 0).toStr] [])
          fun (r : Res) =>
          ctl
            (okR
                [RSh.one (Sh.int IntKind.i64), RSh.one Sh.bool] r.fst &&
              okB [] r.snd)
            (bnd (F 22 [AV.str (nth PV.nilp c 0).toStr] [])
              fun (r_1 : Res) =>
              ctl
                (okR
                    [RSh.one (Sh.int IntKind.i64), RSh.one Sh.bool] r_1.fst &&
                  okB [] r_1.snd)
                (bnd
                  (ctl
                    (!(nth (RV.p PV.nilp) r.fst 0).toPV.toInt !=
                        (nth (RV.p PV.nilp) r_1.fst 0).toPV.toInt)
                    (Option.some
                      !(nth (RV.p PV.nilp) r.fst 1).toPV.toBool ==
                          (nth (RV.p PV.nilp) r_1.fst 1).toPV.toBool)
                    (Option.some Bool.true))
                  fun (v : Bool) =>
                  ctl v (Option.some (Ex.ret, { vals := [AV.bool Bool.false], blks := [] }))
                    (lp E F 4 0 [] 6
                      {
                        vals :=
                          [AV.int IntKind.i64 n4,
                            AV.agg
                              [PV.str x147_0, PV.str x147_1, PV.str x147_2,
                                PV.str x147_3],
                            AV.int IntKind.i64 (IntKind.i64.wrap (x148 + 1))],
                        blks := [] }))
                Option.none)
            Option.none)
        Option.none)
    (Option.some (Ex.exit 6, { vals := [AV.int IntKind.i64 n4], blks := [] })) := (lp_unfold ..).trans (by kernel_rfl)

/-- dynpos/dynposlaw06.SignalExact -/
theorem r4 (F : Fun) (t : List (List PV)) (raw0 : Int) (raw1 : Int) (raw2 : Int) (raw3 : Int) (raw4 : Int) (raw5 : Int) (odd0 : List (List PV)) (text : List UInt8) (n : Int) : funK E F 4 [AV.sl 1 t,
  AV.agg
    [PV.int IntKind.i64 raw0, PV.int IntKind.i64 raw1, PV.int IntKind.i64 raw2,
      PV.int IntKind.i64 raw3, PV.int IntKind.i64 raw4, PV.int IntKind.i64 raw5],
  AV.agg [PV.sl 1 odd0], AV.str text, AV.int IntKind.i64 n] [] =
  bnd
    (ctl (!ltB 20 (↑odd0.length : Int)) (Option.some (ltB 60 (↑text.length : Int))) (Option.some Bool.true))
    fun (v : Bool) =>
    ctl v
      (bnd (F 10 [] []) fun (r : Res) =>
        ctl
          (okR [RSh.one Sh.bool] r.fst && okB [] r.snd)
          (Option.some
            ([RV.p
                  (PV.bool (nth (RV.p PV.nilp) r.fst 0).toPV.toBool)],
              []))
          Option.none)
      (bnd
        (lp E F 4 0 [] 0
          {
            vals :=
              [AV.sl 1 t, AV.str text, AV.int IntKind.i64 n, AV.sl 1 odd0,
                AV.int IntKind.i64 (↑odd0.length : Int), AV.int IntKind.i64 0],
            blks :=
              [Blk.box
                  [AV.int IntKind.i64 raw0, AV.int IntKind.i64 raw1, AV.int IntKind.i64 raw2,
                    AV.int IntKind.i64 raw3, AV.int IntKind.i64 raw4, AV.int IntKind.i64 raw5],
                Blk.box [AV.sl 1 odd0]] })
        fun (p : Ex × Pack) =>
        ctl (p.fst.eqb (Ex.exit 0))
          (ctl
            (okPack
              {
                slots :=
                  [(0, Sum.inl (Sh.sl 1)), (3, Sum.inl Sh.str), (4, Sum.inl (Sh.int IntKind.i64)),
                    (6, Sum.inr (Sum.inr (AV.t (TV.ptr 0 0)))),
                    (7, Sum.inr (Sum.inr (AV.t (TV.ptr 1 0))))],
                blks :=
                  [Sum.inl
                      [Sum.inl (Sh.int IntKind.i64), Sum.inl (Sh.int IntKind.i64),
                        Sum.inl (Sh.int IntKind.i64), Sum.inl (Sh.int IntKind.i64),
                        Sum.inl (Sh.int IntKind.i64), Sum.inl (Sh.int IntKind.i64)],
                    Sum.inl [Sum.inl (Sh.sl 1)]] }
              p.snd)
            (bnd (F 7 [AV.sl 1 (nth AV.undef p.snd.vals 0).toPV.toEs] [])
              fun (r : Res) =>
              ctl
                (okR [RSh.ownp [Sh.sl 1, Sh.int IntKind.i64]] r.fst &&
                  okB [] r.snd)
                (bnd
                  (F 8 [AV.t (TV.ptr 0 0)]
                    [Blk.box
                        [AV.sl 1
                            (nth PV.nilp
                                (nth (RV.p PV.nilp) r.fst 0).toCs 0).toEs,
                          AV.int IntKind.i64
                            (nth PV.nilp
                                (nth (RV.p PV.nilp) r.fst 0).toCs 1).toInt]])
                  fun (r : Res) =>
                  ctl
                    (okR
                        [RSh.agg
                            [Sh.int IntKind.i64, Sh.int IntKind.i64, Sh.int IntKind.i64,
                              Sh.int IntKind.i64, Sh.int IntKind.i64, Sh.int IntKind.i64]]
                        r.fst &&
                      okB [Sum.inl [Sh.sl 1, Sh.int IntKind.i64]] r.snd)
                    (bnd
                      (F 11
                        [AV.t (TV.ptr 0 0),
                          AV.agg
                            [PV.int IntKind.i64
                                (nth PV.nilp
                                    (nth (RV.p PV.nilp) r.fst 0).toCs 0).toInt,
                              PV.int IntKind.i64
                                (nth PV.nilp
                                    (nth (RV.p PV.nilp) r.fst 0).toCs 1).toInt,
                              PV.int IntKind.i64
                                (nth PV.nilp
                                    (nth (RV.p PV.nilp) r.fst 0).toCs 2).toInt,
                              PV.int IntKind.i64
                                (nth PV.nilp
                                    (nth (RV.p PV.nilp) r.fst 0).toCs 3).toInt,
                              PV.int IntKind.i64
                                (nth PV.nilp
                                    (nth (RV.p PV.nilp) r.fst 0).toCs 4).toInt,
                              PV.int IntKind.i64
                                (nth PV.nilp
                                    (nth (RV.p PV.nilp) r.fst 0).toCs 5).toInt]]
                        [Blk.box
                            [AV.sl 1
                                (nth PV.nilp
                                    (List.map AV.toPV (nth (Blk.box []) r.snd 0).toCs) 0).toEs,
                              AV.int IntKind.i64
                                (nth PV.nilp
                                    (List.map AV.toPV (nth (Blk.box []) r.snd 0).toCs) 1).toInt]])
                      fun (r_1 : Res) =>
                      ctl
                        (okR
                            [RSh.agg
                                [Sh.int IntKind.i64, Sh.int IntKind.i64, Sh.int IntKind.i64,
                                  Sh.int IntKind.i64, Sh.int IntKind.i64, Sh.int IntKind.i64]]
                            r_1.fst &&
                          okB [Sum.inl [Sh.sl 1, Sh.int IntKind.i64]] r_1.snd)
                        (bnd
                          (lp E F 4 0 [] 2
                            {
                              vals :=
                                [AV.str (nth AV.undef p.snd.vals 1).toPV.toStr,
                                  AV.int IntKind.i64 (nth AV.undef p.snd.vals 2).toPV.toInt,
                                  AV.agg
                                    [PV.int IntKind.i64
                                        (nth PV.nilp
                                            (nth (RV.p PV.nilp) r.fst 0).toCs 0).toInt,
                                      PV.int IntKind.i64
                                        (nth PV.nilp
                                            (nth (RV.p PV.nilp) r.fst 0).toCs 1).toInt,
                                      PV.int IntKind.i64
                                        (nth PV.nilp
                                            (nth (RV.p PV.nilp) r.fst 0).toCs 2).toInt,
                                      PV.int IntKind.i64
                                        (nth PV.nilp
                                            (nth (RV.p PV.nilp) r.fst 0).toCs 3).toInt,
                                      PV.int IntKind.i64
                                        (nth PV.nilp
                                            (nth (RV.p PV.nilp) r.fst 0).toCs 4).toInt,
                                      PV.int IntKind.i64
                                        (nth PV.nilp
                                            (nth (RV.p PV.nilp) r.fst 0).toCs 5).toInt,
                                      PV.int IntKind.i64
                                        (nth PV.nilp
                                            (nth (RV.p PV.nilp) r_1.fst 0).toCs 0).toInt,
                                      PV.int IntKind.i64
                                        (nth PV.nilp
                                            (nth (RV.p PV.nilp) r_1.fst 0).toCs 1).toInt,
                                      PV.int IntKind.i64
                                        (nth PV.nilp
                                            (nth (RV.p PV.nilp) r_1.fst 0).toCs 2).toInt,
                                      PV.int IntKind.i64
                                        (nth PV.nilp
                                            (nth (RV.p PV.nilp) r_1.fst 0).toCs 3).toInt,
                                      PV.int IntKind.i64
                                        (nth PV.nilp
                                            (nth (RV.p PV.nilp) r_1.fst 0).toCs 4).toInt,
                                      PV.int IntKind.i64
                                        (nth PV.nilp
                                            (nth (RV.p PV.nilp) r_1.fst 0).toCs 5).toInt,
                                      PV.int IntKind.i64
                                        (nth AV.undef
                                              (nth (Blk.box []) p.snd.blks 0).toCs 0).toPV.toInt,
                                      PV.int IntKind.i64
                                        (nth AV.undef
                                              (nth (Blk.box []) p.snd.blks 0).toCs 1).toPV.toInt,
                                      PV.int IntKind.i64
                                        (nth AV.undef
                                              (nth (Blk.box []) p.snd.blks 0).toCs 2).toPV.toInt,
                                      PV.int IntKind.i64
                                        (nth AV.undef
                                              (nth (Blk.box []) p.snd.blks 0).toCs 3).toPV.toInt,
                                      PV.int IntKind.i64
                                        (nth AV.undef
                                              (nth (Blk.box []) p.snd.blks 0).toCs 4).toPV.toInt,
                                      PV.int IntKind.i64
                                        (nth AV.undef
                                              (nth (Blk.box []) p.snd.blks 0).toCs 5).toPV.toInt],
                                  AV.int IntKind.i64 0],
                              blks :=
                                [Blk.box
                                    [AV.sl 1
                                        (nth AV.undef
                                              (nth (Blk.box []) p.snd.blks 1).toCs 0).toPV.toEs],
                                  Blk.box
                                    [AV.sl 1
                                        (nth PV.nilp
                                            (List.map AV.toPV (nth (Blk.box []) r_1.snd 0).toCs) 0).toEs,
                                      AV.int IntKind.i64
                                        (nth PV.nilp
                                            (List.map AV.toPV (nth (Blk.box []) r_1.snd 0).toCs) 1).toInt]] })
                          fun (p : Ex × Pack) =>
                          ctl (p.fst.eqb (Ex.exit 2))
                            (ctl
                              (okPack
                                {
                                  slots :=
                                    [(3, Sum.inl Sh.str), (4, Sum.inl (Sh.int IntKind.i64)),
                                      (13, Sum.inr (Sum.inr (AV.t (TV.ptr 0 0))))],
                                  blks := [Sum.inl [Sum.inl (Sh.sl 1), Sum.inl (Sh.int IntKind.i64)]] }
                                p.snd)
                              (bnd
                                (F 16
                                  [AV.t (TV.ptr 0 0),
                                    AV.sl 1
                                      [[PV.str [45]], [PV.str [48]], [PV.str [45, 48]],
                                        [PV.str [48, 48]], [PV.str [49, 50, 51, 52, 53, 54, 55, 56, 57, 48]],
                                        [PV.str [49, 50, 51, 52, 53, 54, 55, 56, 57, 48, 49]], [PV.str [45, 53]],
                                        [PV.str [43, 53]]]]
                                  [Blk.box
                                      [AV.sl 1
                                          (nth AV.undef
                                                (nth (Blk.box []) p.snd.blks 0).toCs 0).toPV.toEs,
                                        AV.int IntKind.i64
                                          (nth AV.undef
                                                (nth (Blk.box []) p.snd.blks 0).toCs 1).toPV.toInt]])
                                fun (r : Res) =>
                                ctl
                                  (okR [RSh.one Sh.str] r.fst &&
                                    okB [Sum.inl [Sh.sl 1, Sh.int IntKind.i64]] r.snd)
                                  (bnd
                                    (F 20 [AV.int IntKind.i64 (nth AV.undef p.snd.vals 1).toPV.toInt] [])
                                    fun (r_2 : Res) =>
                                    ctl
                                      (okR [RSh.one Sh.str] r_2.fst &&
                                        okB [] r_2.snd)
                                      (bnd
                                        (lp E F 4 0 [] 6
                                          {
                                            vals :=
                                              [AV.int IntKind.i64 (nth AV.undef p.snd.vals 1).toPV.toInt,
                                                AV.agg
                                                  [PV.str (nth AV.undef p.snd.vals 0).toPV.toStr,
                                                    PV.str
                                                      (nth (RV.p PV.nilp) r.fst 0).toPV.toStr,
                                                    PV.str
                                                      (nth (RV.p PV.nilp) r_2.fst 0).toPV.toStr,
                                                    PV.str []],
                                                AV.int IntKind.i64 0],
                                            blks := [] })
                                        fun (p : Ex × Pack) =>
                                        ctl (p.fst.eqb (Ex.exit 6))
                                          (ctl
                                            (okPack { slots := [(4, Sum.inl (Sh.int IntKind.i64))], blks := [] } p.snd)
                                            (bnd
                                              (F 20 [AV.int IntKind.i64 (nth AV.undef p.snd.vals 0).toPV.toInt]
                                                [])
                                              fun (r : Res) =>
                                              ctl
                                                (okR [RSh.one Sh.str] r.fst &&
                                                  okB [] r.snd)
                                                (bnd
                                                  (F 23
                                                    [AV.int IntKind.i64 (nth AV.undef p.snd.vals 0).toPV.toInt]
                                                    [])
                                                  fun (r_3 : Res) =>
                                                  ctl
                                                    (okR [RSh.one Sh.str] r_3.fst &&
                                                      okB [] r_3.snd)
                                                    (bnd
                                                      (ctl
                                                        ((nth (RV.p PV.nilp) r.fst 0).toPV.toStr ==
                                                          (nth (RV.p PV.nilp) r_3.fst 0).toPV.toStr)
                                                        (bnd (F 10 [] []) fun (r : Res) =>
                                                          ctl
                                                            (okR [RSh.one Sh.bool] r.fst &&
                                                              okB [] r.snd)
                                                            (Option.some (nth (RV.p PV.nilp) r.fst 0).toPV.toBool)
                                                            Option.none)
                                                        (Option.some Bool.false))
                                                      fun (v : Bool) => Option.some ([RV.p (PV.bool v)], []))
                                                    Option.none)
                                                Option.none)
                                            Option.none)
                                          (ctl (p.fst.eqb Ex.ret)
                                            (ctl (okPack { slots := [(10, Sum.inl Sh.bool)], blks := [] } p.snd)
                                              (Option.some
                                                ([RV.p
                                                      (PV.bool (nth AV.undef p.snd.vals 0).toPV.toBool)],
                                                  []))
                                              Option.none)
                                            Option.none))
                                      Option.none)
                                  Option.none)
                              Option.none)
                            (ctl (p.fst.eqb Ex.ret)
                              (ctl (okPack { slots := [(10, Sum.inl Sh.bool)], blks := [] } p.snd)
                                (Option.some
                                  ([RV.p
                                        (PV.bool (nth AV.undef p.snd.vals 0).toPV.toBool)],
                                    []))
                                Option.none)
                              Option.none))
                        Option.none)
                    Option.none)
                Option.none)
            Option.none)
          (ctl (p.fst.eqb Ex.ret)
            (ctl (okPack { slots := [(10, Sum.inl Sh.bool)], blks := [] } p.snd)
              (Option.some
                ([RV.p (PV.bool (nth AV.undef p.snd.vals 0).toPV.toBool)], []))
              Option.none)
            Option.none)) := by kernel_rfl

end Go.Proofs.YtcopadohnlcheaaDoor.Vm
