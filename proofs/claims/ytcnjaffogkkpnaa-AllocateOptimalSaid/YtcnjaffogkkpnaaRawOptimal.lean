/- The raw theorems, by program: what each function and each loop comes to. -/
import Derived.Test.YtcnjaffogkkpnaaEnv
import Derived.Test.YtcnjaffogkkpnaaVm34
import Derived.KernelRfl
namespace Go.Proofs.Ytcnjaffogkkpnaa.Vm
open Go
set_option maxRecDepth 100000
set_option linter.unusedVariables false

/-- dynpos/dynposlaw14.AllocateOptimal, the loop of block 0 -/
theorem r7_0 (F : Fun) (m5 : List (List PV)) (last6 : List (List PV)) (x61 : List (List PV)) (x62 : Int) (x63 : Int) (b0_0 : Int) (b0_1 : Int) (b0_2 : List (List PV)) (b1_0 : Int) (b1_1 : Int) (b1_2 : Int) (b2_0 : List (List PV)) (b2_1 : Int) (b2_2 : Int) (b2_3 : Int) (b2_4 : Int) (b2_5 : Int) (b2_6 : Int) : lp E F 7 0 [] 0
  {
    vals :=
      [AV.sl 1 m5, AV.sl 2 last6, AV.sl 2 x61, AV.int IntKind.i64 x62,
        AV.int IntKind.i64 x63],
    blks :=
      [Blk.box [AV.int IntKind.i64 b0_0, AV.int IntKind.i64 b0_1, AV.sl 6 b0_2],
        Blk.box
          [AV.int IntKind.i64 b1_0, AV.int IntKind.i64 b1_1, AV.int IntKind.i64 b1_2],
        Blk.box
          [AV.sl 2 b2_0, AV.int IntKind.i64 b2_1, AV.int IntKind.i64 b2_2,
            AV.int IntKind.i64 b2_3, AV.int IntKind.i64 b2_4, AV.int IntKind.i64 b2_5,
            AV.int IntKind.i64 b2_6]] } =
  ctl (ltB x63 x62)
    (getE x61 x63 fun (c : List PV) =>
      ctl (okCs [Sh.int IntKind.i64, Sh.int IntKind.i64] c)
        (getE b0_2 x63 fun (c_1 : List PV) =>
          ctl
            (okCs
              [Sh.int IntKind.i64, Sh.int IntKind.i64, Sh.int IntKind.i64,
                Sh.int IntKind.i64, Sh.int IntKind.i64, Sh.sl 2]
              c_1)
            (getE m5 x63 fun (c_2 : List PV) =>
              ctl (okCs [Sh.int IntKind.i64] c_2)
                (bnd
                  (F 15
                    [AV.agg
                        [PV.int IntKind.i64 (nth PV.nilp c_1 0).toInt,
                          PV.int IntKind.i64 (nth PV.nilp c_1 1).toInt,
                          PV.int IntKind.i64 (nth PV.nilp c_1 2).toInt,
                          PV.int IntKind.i64 (nth PV.nilp c_1 3).toInt,
                          PV.int IntKind.i64 (nth PV.nilp c_1 4).toInt,
                          PV.sl 2 (nth PV.nilp c_1 5).toEs],
                      AV.int IntKind.i64 (nth PV.nilp c_2 0).toInt]
                    [])
                  fun (r : Res) =>
                  ctl
                    (okR
                        [RSh.agg
                            [Sh.int IntKind.i64, Sh.int IntKind.i64, Sh.int IntKind.i64,
                              Sh.int IntKind.i64, Sh.int IntKind.i64, Sh.sl 2]]
                        r.fst &&
                      okB [] r.snd)
                    (bnd
                      (F 22
                        [AV.agg
                            [PV.int IntKind.i64
                                (nth PV.nilp
                                    (nth (RV.p PV.nilp) r.fst 0).toCs 0).toInt,
                              PV.int IntKind.i64
                                (nth PV.nilp
                                    (nth (RV.p PV.nilp) r.fst 0).toCs 1).toInt,
                              PV.int IntKind.i64
                                (nth PV.nilp
                                    (nth (RV.p PV.nilp) r.fst 0).toCs 2).toInt,
                              PV.int IntKind.i64
                                (nth PV.nilp
                                    (nth (RV.p PV.nilp) r.fst 0).toCs 3).toInt,
                              PV.int IntKind.i64
                                (nth PV.nilp
                                    (nth (RV.p PV.nilp) r.fst 0).toCs 4).toInt,
                              PV.sl 2
                                (nth PV.nilp
                                    (nth (RV.p PV.nilp) r.fst 0).toCs 5).toEs],
                          AV.int IntKind.i64 (nth PV.nilp c 0).toInt,
                          AV.int IntKind.i64 (nth PV.nilp c 1).toInt]
                        [])
                      fun (r : Res) =>
                      ctl
                        (okR [RSh.one Sh.bool] r.fst && okB [] r.snd)
                        (ctl (!(nth (RV.p PV.nilp) r.fst 0).toPV.toBool)
                          (Option.some (Ex.ret, { vals := [AV.bool Bool.false], blks := [] }))
                          (lp E F 7 0 [] 0
                            {
                              vals :=
                                [AV.sl 1 m5, AV.sl 2 last6, AV.sl 2 x61,
                                  AV.int IntKind.i64 x62, AV.int IntKind.i64 (IntKind.i64.wrap (x63 + 1))],
                              blks :=
                                [Blk.box
                                    [AV.int IntKind.i64 b0_0, AV.int IntKind.i64 b0_1, AV.sl 6 b0_2],
                                  Blk.box
                                    [AV.int IntKind.i64 b1_0, AV.int IntKind.i64 b1_1, AV.int IntKind.i64 b1_2],
                                  Blk.box
                                    [AV.sl 2 b2_0, AV.int IntKind.i64 b2_1, AV.int IntKind.i64 b2_2,
                                      AV.int IntKind.i64 b2_3, AV.int IntKind.i64 b2_4, AV.int IntKind.i64 b2_5,
                                      AV.int IntKind.i64 b2_6]] }))
                        Option.none)
                    Option.none)
                Option.none)
            Option.none)
        Option.none)
    (Option.some
      (Ex.exit 0,
        { vals := [AV.sl 1 m5, AV.sl 2 last6],
          blks :=
            [Blk.box [AV.int IntKind.i64 b0_0, AV.int IntKind.i64 b0_1, AV.sl 6 b0_2],
              Blk.box
                [AV.int IntKind.i64 b1_0, AV.int IntKind.i64 b1_1, AV.int IntKind.i64 b1_2],
              Blk.box
                [AV.sl 2 b2_0, AV.int IntKind.i64 b2_1, AV.int IntKind.i64 b2_2,
                  AV.int IntKind.i64 b2_3, AV.int IntKind.i64 b2_4, AV.int IntKind.i64 b2_5,
                  AV.int IntKind.i64 b2_6]] })) := (lp_unfold ..).trans (by kernel_rfl)

/-- dynpos/dynposlaw14.AllocateOptimal, the loop of block 2 -/
theorem r7_2 (F : Fun) (m5 : List (List PV)) (last6 : List (List PV)) (x126_0 : Int) (x126_1 : Int) (x127 : Int) (b0_0 : Int) (b0_1 : Int) (b0_2 : List (List PV)) (b1_0 : Int) (b1_1 : Int) (b1_2 : Int) : lp E F 7 0 [] 2
  {
    vals :=
      [AV.sl 1 m5, AV.sl 2 last6,
        AV.agg [PV.int IntKind.i64 x126_0, PV.int IntKind.i64 x126_1],
        AV.int IntKind.i64 x127],
    blks :=
      [Blk.box [AV.int IntKind.i64 b0_0, AV.int IntKind.i64 b0_1, AV.sl 6 b0_2],
        Blk.box
          [AV.int IntKind.i64 b1_0, AV.int IntKind.i64 b1_1, AV.int IntKind.i64 b1_2]] } =
  ctl (ltB x127 2)
    (getE [[PV.int IntKind.i64 x126_0], [PV.int IntKind.i64 x126_1]] x127
      fun (c : List PV) =>
      ctl (okCs [Sh.int IntKind.i64] c)
        (bnd
          (F 24
            [AV.agg [PV.int IntKind.i64 b0_0, PV.int IntKind.i64 b0_1, PV.sl 6 b0_2],
              AV.sl 1 m5, AV.sl 2 last6, AV.int IntKind.i64 x127]
            [])
          fun (r : Res) =>
          ctl
            (okR
                [RSh.one (Sh.sl 3), RSh.one (Sh.int IntKind.i64)] r.fst &&
              okB [] r.snd)
            (bnd
              (F 25 [AV.sl 3 (nth (RV.p PV.nilp) r.fst 0).toPV.toEs] [])
              fun (r_1 : Res) =>
              ctl
                (okR
                    [RSh.one (Sh.int IntKind.i64), RSh.one (Sh.int IntKind.i64),
                      RSh.one (Sh.int IntKind.i64)]
                    r_1.fst &&
                  okB [] r_1.snd)
                (getE [[PV.int IntKind.i64 b1_1], [PV.int IntKind.i64 b1_2]] x127
                  fun (c_1 : List PV) =>
                  ctl (okCs [Sh.int IntKind.i64] c_1)
                    (bnd
                      (ctl (!(nth (RV.p PV.nilp) r.fst 1).toPV.toInt != 0)
                        (Option.some ((nth (RV.p PV.nilp) r_1.fst 2).toPV.toInt != 0)) (Option.some Bool.true))
                      fun (v : Bool) =>
                      bnd
                        (ctl (!v)
                          (ctl
                            (leB (nth (RV.p PV.nilp) r_1.fst 0).toPV.toInt
                              (nth PV.nilp c_1 0).toInt)
                            (Option.some
                              !((nth PV.nilp c 0).toInt == 0) ==
                                  leB (nth PV.nilp c_1 0).toInt
                                    (nth (RV.p PV.nilp) r_1.fst 1).toPV.toInt)
                            (Option.some !((nth PV.nilp c 0).toInt == 0) == Bool.false))
                          (Option.some Bool.true))
                        fun (v : Bool) =>
                        ctl v (Option.some (Ex.ret, { vals := [AV.bool Bool.false], blks := [] }))
                          (lp E F 7 0 [] 2
                            {
                              vals :=
                                [AV.sl 1 m5, AV.sl 2 last6,
                                  AV.agg [PV.int IntKind.i64 x126_0, PV.int IntKind.i64 x126_1],
                                  AV.int IntKind.i64 (IntKind.i64.wrap (x127 + 1))],
                              blks :=
                                [Blk.box
                                    [AV.int IntKind.i64 b0_0, AV.int IntKind.i64 b0_1, AV.sl 6 b0_2],
                                  Blk.box
                                    [AV.int IntKind.i64 b1_0, AV.int IntKind.i64 b1_1, AV.int IntKind.i64 b1_2]] }))
                    Option.none)
                Option.none)
            Option.none)
        Option.none)
    (Option.some (Ex.exit 2, { vals := [], blks := [] })) := (lp_unfold ..).trans (by kernel_rfl)

/-- dynpos/dynposlaw14.AllocateOptimal -/
theorem r7 (F : Fun) (t : List (List PV)) : funK E F 7 [AV.sl 1 t] [] =
  bnd (F 8 [AV.sl 1 t] []) fun (r : Res) =>
    ctl
      (okR [RSh.ownp [Sh.sl 1, Sh.int IntKind.i64]] r.fst &&
        okB [] r.snd)
      (bnd
        (F 9 [AV.t (TV.ptr 0 0)]
          [Blk.box
              [AV.sl 1
                  (nth PV.nilp (nth (RV.p PV.nilp) r.fst 0).toCs
                      0).toEs,
                AV.int IntKind.i64
                  (nth PV.nilp (nth (RV.p PV.nilp) r.fst 0).toCs
                      1).toInt]])
        fun (r : Res) =>
        ctl
          (okR
              [RSh.agg [Sh.int IntKind.i64, Sh.int IntKind.i64, Sh.sl 6],
                RSh.one (Sh.sl 1), RSh.one (Sh.sl 2),
                RSh.agg [Sh.int IntKind.i64, Sh.int IntKind.i64, Sh.int IntKind.i64]]
              r.fst &&
            okB [Sum.inl [Sh.sl 1, Sh.int IntKind.i64]] r.snd)
          (bnd
            (F 10
              [AV.agg
                  [PV.int IntKind.i64
                      (nth PV.nilp
                          (nth (RV.p PV.nilp) r.fst 0).toCs 0).toInt,
                    PV.int IntKind.i64
                      (nth PV.nilp
                          (nth (RV.p PV.nilp) r.fst 0).toCs 1).toInt,
                    PV.sl 6
                      (nth PV.nilp
                          (nth (RV.p PV.nilp) r.fst 0).toCs 2).toEs],
                AV.sl 1 (nth (RV.p PV.nilp) r.fst 1).toPV.toEs,
                AV.sl 2 (nth (RV.p PV.nilp) r.fst 2).toPV.toEs,
                AV.agg
                  [PV.int IntKind.i64
                      (nth PV.nilp
                          (nth (RV.p PV.nilp) r.fst 3).toCs 0).toInt,
                    PV.int IntKind.i64
                      (nth PV.nilp
                          (nth (RV.p PV.nilp) r.fst 3).toCs 1).toInt,
                    PV.int IntKind.i64
                      (nth PV.nilp
                          (nth (RV.p PV.nilp) r.fst 3).toCs 2).toInt]]
              [])
            fun (r_1 : Res) =>
            ctl
              (okR
                  [RSh.agg
                      [Sh.sl 2, Sh.int IntKind.i64, Sh.int IntKind.i64,
                        Sh.int IntKind.i64, Sh.int IntKind.i64, Sh.int IntKind.i64,
                        Sh.int IntKind.i64],
                    RSh.one (Sh.int IntKind.i64)]
                  r_1.fst &&
                okB [] r_1.snd)
              (bnd
                (ctl (!(nth (RV.p PV.nilp) r_1.fst 1).toPV.toInt != 0)
                  (Option.some
                    ((↑(nth PV.nilp
                                (nth (RV.p PV.nilp) r_1.fst 0).toCs 0).toEs.length :
                        Int) !=
                      (↑(nth PV.nilp
                                (nth (RV.p PV.nilp) r.fst 0).toCs 2).toEs.length :
                        Int)))
                  (Option.some Bool.true))
                fun (v : Bool) =>
                bnd
                  (ctl (!v)
                    (bnd
                      (F 21
                        [AV.agg
                            [PV.int IntKind.i64
                                (nth PV.nilp
                                    (nth (RV.p PV.nilp) r.fst 0).toCs 0).toInt,
                              PV.int IntKind.i64
                                (nth PV.nilp
                                    (nth (RV.p PV.nilp) r.fst 0).toCs 1).toInt,
                              PV.sl 6
                                (nth PV.nilp
                                    (nth (RV.p PV.nilp) r.fst 0).toCs 2).toEs],
                          AV.sl 1 (nth (RV.p PV.nilp) r.fst 1).toPV.toEs,
                          AV.sl 2 (nth (RV.p PV.nilp) r.fst 2).toPV.toEs,
                          AV.agg
                            [PV.int IntKind.i64
                                (nth PV.nilp
                                    (nth (RV.p PV.nilp) r.fst 3).toCs 0).toInt,
                              PV.int IntKind.i64
                                (nth PV.nilp
                                    (nth (RV.p PV.nilp) r.fst 3).toCs 1).toInt,
                              PV.int IntKind.i64
                                (nth PV.nilp
                                    (nth (RV.p PV.nilp) r.fst 3).toCs 2).toInt],
                          AV.agg
                            [PV.sl 2
                                (nth PV.nilp
                                    (nth (RV.p PV.nilp) r_1.fst 0).toCs 0).toEs,
                              PV.int IntKind.i64
                                (nth PV.nilp
                                    (nth (RV.p PV.nilp) r_1.fst 0).toCs 1).toInt,
                              PV.int IntKind.i64
                                (nth PV.nilp
                                    (nth (RV.p PV.nilp) r_1.fst 0).toCs 2).toInt,
                              PV.int IntKind.i64
                                (nth PV.nilp
                                    (nth (RV.p PV.nilp) r_1.fst 0).toCs 3).toInt,
                              PV.int IntKind.i64
                                (nth PV.nilp
                                    (nth (RV.p PV.nilp) r_1.fst 0).toCs 4).toInt,
                              PV.int IntKind.i64
                                (nth PV.nilp
                                    (nth (RV.p PV.nilp) r_1.fst 0).toCs 5).toInt,
                              PV.int IntKind.i64
                                (nth PV.nilp
                                    (nth (RV.p PV.nilp) r_1.fst 0).toCs 6).toInt]]
                        [])
                      fun (r : Res) =>
                      ctl
                        (okR [RSh.one Sh.bool] r.fst && okB [] r.snd)
                        (Option.some !(nth (RV.p PV.nilp) r.fst 0).toPV.toBool) Option.none)
                    (Option.some Bool.true))
                  fun (v : Bool) =>
                  ctl v (Option.some ([RV.p (PV.bool Bool.false)], []))
                    (bnd
                      (lp E F 7 0 [] 0
                        {
                          vals :=
                            [AV.sl 1 (nth (RV.p PV.nilp) r.fst 1).toPV.toEs,
                              AV.sl 2 (nth (RV.p PV.nilp) r.fst 2).toPV.toEs,
                              AV.sl 2
                                (nth PV.nilp
                                    (nth (RV.p PV.nilp) r_1.fst 0).toCs 0).toEs,
                              AV.int IntKind.i64
                                (↑(nth PV.nilp
                                          (nth (RV.p PV.nilp) r_1.fst 0).toCs 0).toEs.length :
                                  Int),
                              AV.int IntKind.i64 0],
                          blks :=
                            [Blk.box
                                [AV.int IntKind.i64
                                    (nth PV.nilp
                                        (nth (RV.p PV.nilp) r.fst 0).toCs 0).toInt,
                                  AV.int IntKind.i64
                                    (nth PV.nilp
                                        (nth (RV.p PV.nilp) r.fst 0).toCs 1).toInt,
                                  AV.sl 6
                                    (nth PV.nilp
                                        (nth (RV.p PV.nilp) r.fst 0).toCs 2).toEs],
                              Blk.box
                                [AV.int IntKind.i64
                                    (nth PV.nilp
                                        (nth (RV.p PV.nilp) r.fst 3).toCs 0).toInt,
                                  AV.int IntKind.i64
                                    (nth PV.nilp
                                        (nth (RV.p PV.nilp) r.fst 3).toCs 1).toInt,
                                  AV.int IntKind.i64
                                    (nth PV.nilp
                                        (nth (RV.p PV.nilp) r.fst 3).toCs 2).toInt],
                              Blk.box
                                [AV.sl 2
                                    (nth PV.nilp
                                        (nth (RV.p PV.nilp) r_1.fst 0).toCs 0).toEs,
                                  AV.int IntKind.i64
                                    (nth PV.nilp
                                        (nth (RV.p PV.nilp) r_1.fst 0).toCs 1).toInt,
                                  AV.int IntKind.i64
                                    (nth PV.nilp
                                        (nth (RV.p PV.nilp) r_1.fst 0).toCs 2).toInt,
                                  AV.int IntKind.i64
                                    (nth PV.nilp
                                        (nth (RV.p PV.nilp) r_1.fst 0).toCs 3).toInt,
                                  AV.int IntKind.i64
                                    (nth PV.nilp
                                        (nth (RV.p PV.nilp) r_1.fst 0).toCs 4).toInt,
                                  AV.int IntKind.i64
                                    (nth PV.nilp
                                        (nth (RV.p PV.nilp) r_1.fst 0).toCs 5).toInt,
                                  AV.int IntKind.i64
                                    (nth PV.nilp
                                        (nth (RV.p PV.nilp) r_1.fst 0).toCs 6).toInt]] })
                      fun (p : Ex × Pack) =>
                      ctl (p.fst.eqb (Ex.exit 0))
                        (ctl
                          (okPack
                            {
                              slots :=
                                [(4, Sum.inr (Sum.inr (AV.t (TV.ptr 0 0)))), (5, Sum.inl (Sh.sl 1)),
                                  (6, Sum.inl (Sh.sl 2)), (7, Sum.inr (Sum.inr (AV.t (TV.ptr 1 0)))),
                                  (8, Sum.inr (Sum.inr (AV.t (TV.ptr 2 0))))],
                              blks :=
                                [Sum.inl [Sum.inl (Sh.int IntKind.i64), Sum.inl (Sh.int IntKind.i64), Sum.inl (Sh.sl 6)],
                                  Sum.inl
                                    [Sum.inl (Sh.int IntKind.i64), Sum.inl (Sh.int IntKind.i64),
                                      Sum.inl (Sh.int IntKind.i64)],
                                  Sum.inl
                                    [Sum.inl (Sh.sl 2), Sum.inl (Sh.int IntKind.i64), Sum.inl (Sh.int IntKind.i64),
                                      Sum.inl (Sh.int IntKind.i64), Sum.inl (Sh.int IntKind.i64),
                                      Sum.inl (Sh.int IntKind.i64), Sum.inl (Sh.int IntKind.i64)]] }
                            p.snd)
                          (bnd
                            (F 23
                              [AV.agg
                                  [PV.int IntKind.i64
                                      (nth AV.undef (nth (Blk.box []) p.snd.blks 0).toCs
                                            0).toPV.toInt,
                                    PV.int IntKind.i64
                                      (nth AV.undef (nth (Blk.box []) p.snd.blks 0).toCs
                                            1).toPV.toInt,
                                    PV.sl 6
                                      (nth AV.undef (nth (Blk.box []) p.snd.blks 0).toCs
                                            2).toPV.toEs],
                                AV.sl 2
                                  (nth AV.undef (nth (Blk.box []) p.snd.blks 2).toCs 0).toPV.toEs]
                              [])
                            fun (r : Res) =>
                            ctl
                              (okR
                                  [RSh.agg
                                      [Sh.int IntKind.i64, Sh.int IntKind.i64, Sh.int IntKind.i64],
                                    RSh.one (Sh.int IntKind.i64)]
                                  r.fst &&
                                okB [] r.snd)
                              (bnd
                                (ctl (!(nth (RV.p PV.nilp) r.fst 1).toPV.toInt != 0)
                                  (Option.some
                                    !((nth AV.undef (nth (Blk.box []) p.snd.blks 2).toCs
                                                1).toPV.toInt ==
                                          (nth PV.nilp
                                              (nth (RV.p PV.nilp) r.fst 0).toCs 0).toInt &&
                                        ((nth AV.undef (nth (Blk.box []) p.snd.blks 2).toCs
                                                  2).toPV.toInt ==
                                            (nth PV.nilp
                                                (nth (RV.p PV.nilp) r.fst 0).toCs 1).toInt &&
                                          ((nth AV.undef (nth (Blk.box []) p.snd.blks 2).toCs
                                                    3).toPV.toInt ==
                                              (nth PV.nilp
                                                  (nth (RV.p PV.nilp) r.fst 0).toCs 2).toInt &&
                                            Bool.true))))
                                  (Option.some Bool.true))
                                fun (v : Bool) =>
                                bnd
                                  (ctl (!v)
                                    (Option.some
                                      !((nth AV.undef (nth (Blk.box []) p.snd.blks 2).toCs
                                                  4).toPV.toInt ==
                                            IntKind.i64.wrap
                                              ((nth AV.undef (nth (Blk.box []) p.snd.blks 1).toCs
                                                      0).toPV.toInt -
                                                (nth PV.nilp
                                                    (nth (RV.p PV.nilp) r.fst 0).toCs 0).toInt) &&
                                          ((nth AV.undef (nth (Blk.box []) p.snd.blks 2).toCs
                                                    5).toPV.toInt ==
                                              IntKind.i64.wrap
                                                ((nth AV.undef
                                                        (nth (Blk.box []) p.snd.blks 1).toCs 1).toPV.toInt -
                                                  (nth PV.nilp
                                                      (nth (RV.p PV.nilp) r.fst 0).toCs 1).toInt) &&
                                            ((nth AV.undef (nth (Blk.box []) p.snd.blks 2).toCs
                                                      6).toPV.toInt ==
                                                IntKind.i64.wrap
                                                  ((nth AV.undef
                                                          (nth (Blk.box []) p.snd.blks 1).toCs 2).toPV.toInt -
                                                    (nth PV.nilp
                                                        (nth (RV.p PV.nilp) r.fst 0).toCs 2).toInt) &&
                                              Bool.true))))
                                    (Option.some Bool.true))
                                  fun (v : Bool) =>
                                  ctl v (Option.some ([RV.p (PV.bool Bool.false)], []))
                                    (bnd
                                      (lp E F 7 0 [] 2
                                        {
                                          vals :=
                                            [AV.sl 1 (nth AV.undef p.snd.vals 0).toPV.toEs,
                                              AV.sl 2 (nth AV.undef p.snd.vals 1).toPV.toEs,
                                              AV.agg
                                                [PV.int IntKind.i64
                                                    (IntKind.i64.wrap
                                                      ((nth AV.undef
                                                              (nth (Blk.box []) p.snd.blks 1).toCs 1).toPV.toInt -
                                                        (nth PV.nilp
                                                            (nth (RV.p PV.nilp) r.fst 0).toCs 1).toInt)),
                                                  PV.int IntKind.i64
                                                    (IntKind.i64.wrap
                                                      ((nth AV.undef
                                                              (nth (Blk.box []) p.snd.blks 1).toCs 2).toPV.toInt -
                                                        (nth PV.nilp
                                                            (nth (RV.p PV.nilp) r.fst 0).toCs 2).toInt))],
                                              AV.int IntKind.i64 0],
                                          blks :=
                                            [Blk.box
                                                [AV.int IntKind.i64
                                                    (nth AV.undef
                                                          (nth (Blk.box []) p.snd.blks 0).toCs 0).toPV.toInt,
                                                  AV.int IntKind.i64
                                                    (nth AV.undef
                                                          (nth (Blk.box []) p.snd.blks 0).toCs 1).toPV.toInt,
                                                  AV.sl 6
                                                    (nth AV.undef
                                                          (nth (Blk.box []) p.snd.blks 0).toCs 2).toPV.toEs],
                                              Blk.box
                                                [AV.int IntKind.i64
                                                    (nth AV.undef
                                                          (nth (Blk.box []) p.snd.blks 1).toCs 0).toPV.toInt,
                                                  AV.int IntKind.i64
                                                    (nth AV.undef
                                                          (nth (Blk.box []) p.snd.blks 1).toCs 1).toPV.toInt,
                                                  AV.int IntKind.i64
                                                    (nth AV.undef
                                                          (nth (Blk.box []) p.snd.blks 1).toCs 2).toPV.toInt]] })
                                      fun (p : Ex × Pack) =>
                                      ctl (p.fst.eqb (Ex.exit 2))
                                        (bnd (F 11 [] []) fun (r : Res) =>
                                          ctl
                                            (okR [RSh.one Sh.bool] r.fst && okB [] r.snd)
                                            (Option.some
                                              ([RV.p
                                                    (PV.bool
                                                      (nth (RV.p PV.nilp) r.fst 0).toPV.toBool)],
                                                []))
                                            Option.none)
                                        (ctl (p.fst.eqb Ex.ret)
                                          (ctl (okPack { slots := [(2, Sum.inl Sh.bool)], blks := [] } p.snd)
                                            (Option.some
                                              ([RV.p
                                                    (PV.bool (nth AV.undef p.snd.vals 0).toPV.toBool)],
                                                []))
                                            Option.none)
                                          Option.none)))
                              Option.none)
                          Option.none)
                        (ctl (p.fst.eqb Ex.ret)
                          (ctl (okPack { slots := [(2, Sum.inl Sh.bool)], blks := [] } p.snd)
                            (Option.some
                              ([RV.p (PV.bool (nth AV.undef p.snd.vals 0).toPV.toBool)], []))
                            Option.none)
                          Option.none)))
              Option.none)
          Option.none)
      Option.none := by kernel_rfl

/-- dynpos/allocate.Check, the loop of block 0 -/
theorem r21_0 (F : Fun) (x56 : List (List PV)) (x57 : Int) (x58 : Int) (b0_0 : Int) (b0_1 : Int) (b0_2 : Int) (b1_0 : List (List PV)) (b1_1 : List (List PV)) (c2 : List (List PV)) (c4 : List (List PV)) : lp E F 21 0 [] 0
  { vals := [AV.sl 2 x56, AV.int IntKind.i64 x57, AV.int IntKind.i64 x58],
    blks :=
      [Blk.box
          [AV.int IntKind.i64 b0_0, AV.int IntKind.i64 b0_1, AV.int IntKind.i64 b0_2],
        Blk.box [AV.sl 6 b1_0, AV.sl 2 b1_1], Blk.arr 1 c2,
        Blk.box [AV.t (TV.hsl 4)], Blk.arr 1 c4] } =
  ctl (ltB x58 x57)
    (getE x56 x58 fun (c : List PV) =>
      ctl (okCs [Sh.int IntKind.i64, Sh.int IntKind.i64] c)
        (ctl (leN ((c2.length + 1) * 8) 140737488355328)
          (ctl (leN ((c4.length + 1) * 8) 140737488355328)
            (lp E F 21 0 [] 0
              { vals := [AV.sl 2 x56, AV.int IntKind.i64 x57, AV.int IntKind.i64 (IntKind.i64.wrap (x58 + 1))],
                blks :=
                  [Blk.box
                      [AV.int IntKind.i64 b0_0, AV.int IntKind.i64 b0_1, AV.int IntKind.i64 b0_2],
                    Blk.box [AV.sl 6 b1_0, AV.sl 2 b1_1],
                    Blk.arr 1 (c2 ++ [[PV.int IntKind.i64 (nth PV.nilp c 0).toInt]]),
                    Blk.box [AV.t (TV.hsl 4)],
                    Blk.arr 1 (c4 ++ [[PV.int IntKind.i64 (nth PV.nilp c 1).toInt]])] })
            Option.none)
          Option.none)
        Option.none)
    (Option.some
      (Ex.exit 0,
        { vals := [],
          blks :=
            [Blk.box
                [AV.int IntKind.i64 b0_0, AV.int IntKind.i64 b0_1, AV.int IntKind.i64 b0_2],
              Blk.box [AV.sl 6 b1_0, AV.sl 2 b1_1], Blk.arr 1 c2,
              Blk.box [AV.sl 1 c4]] })) := (lp_unfold ..).trans (by kernel_rfl)

/-- dynpos/allocate.Check -/
theorem r21 (F : Fun) (s0 : Int) (s1 : Int) (s2 : List (List PV)) (max : List (List PV)) (last : List (List PV)) (d0 : Int) (d1 : Int) (d2 : Int) (a0 : List (List PV)) (a1 : Int) (a2 : Int) (a3 : Int) (a4 : Int) (a5 : Int) (a6 : Int) : funK E F 21 [AV.agg [PV.int IntKind.i64 s0, PV.int IntKind.i64 s1, PV.sl 6 s2],
  AV.sl 1 max, AV.sl 2 last,
  AV.agg [PV.int IntKind.i64 d0, PV.int IntKind.i64 d1, PV.int IntKind.i64 d2],
  AV.agg
    [PV.sl 2 a0, PV.int IntKind.i64 a1, PV.int IntKind.i64 a2, PV.int IntKind.i64 a3,
      PV.int IntKind.i64 a4, PV.int IntKind.i64 a5, PV.int IntKind.i64 a6]] [] =
  bnd
    (F 29
      [AV.agg [PV.int IntKind.i64 s0, PV.int IntKind.i64 s1, PV.sl 6 s2],
        AV.sl 1 max, AV.sl 2 last,
        AV.agg [PV.int IntKind.i64 d0, PV.int IntKind.i64 d1, PV.int IntKind.i64 d2]]
      [])
    fun (r : Res) =>
    ctl
      (okR
          [RSh.agg [Sh.sl 6, Sh.sl 2],
            RSh.one (Sh.int IntKind.i64)]
          r.fst &&
        okB [] r.snd)
      (bnd
        (F 33
          [AV.agg [PV.int IntKind.i64 s0, PV.int IntKind.i64 s1, PV.sl 6 s2],
            AV.sl 2 a0]
          [])
        fun (r_1 : Res) =>
        ctl
          (okR
              [RSh.agg [Sh.int IntKind.i64, Sh.int IntKind.i64, Sh.int IntKind.i64],
                RSh.one (Sh.int IntKind.i64)]
              r_1.fst &&
            okB [] r_1.snd)
          (bnd
            (ctl (!(nth (RV.p PV.nilp) r.fst 1).toPV.toInt != 0)
              (Option.some ((nth (RV.p PV.nilp) r_1.fst 1).toPV.toInt != 0)) (Option.some Bool.true))
            fun (v : Bool) =>
            bnd
              (ctl (!v)
                (Option.some
                  !(a1 ==
                        (nth PV.nilp
                            (nth (RV.p PV.nilp) r_1.fst 0).toCs 0).toInt &&
                      (a2 ==
                          (nth PV.nilp
                              (nth (RV.p PV.nilp) r_1.fst 0).toCs 1).toInt &&
                        (a3 ==
                            (nth PV.nilp
                                (nth (RV.p PV.nilp) r_1.fst 0).toCs 2).toInt &&
                          Bool.true))))
                (Option.some Bool.true))
              fun (v : Bool) =>
              bnd
                (ctl (!v)
                  (bnd
                    (F 34
                      [AV.agg
                          [PV.int IntKind.i64 d0, PV.int IntKind.i64 d1, PV.int IntKind.i64 d2],
                        AV.agg
                          [PV.int IntKind.i64
                              (nth PV.nilp
                                  (nth (RV.p PV.nilp) r_1.fst 0).toCs 0).toInt,
                            PV.int IntKind.i64
                              (nth PV.nilp
                                  (nth (RV.p PV.nilp) r_1.fst 0).toCs 1).toInt,
                            PV.int IntKind.i64
                              (nth PV.nilp
                                  (nth (RV.p PV.nilp) r_1.fst 0).toCs 2).toInt]]
                      [])
                    fun (r : Res) =>
                    ctl
                      (okR
                          [RSh.agg
                              [Sh.int IntKind.i64, Sh.int IntKind.i64, Sh.int IntKind.i64]]
                          r.fst &&
                        okB [] r.snd)
                      (Option.some
                        !(a4 ==
                              (nth PV.nilp
                                  (nth (RV.p PV.nilp) r.fst 0).toCs 0).toInt &&
                            (a5 ==
                                (nth PV.nilp
                                    (nth (RV.p PV.nilp) r.fst 0).toCs 1).toInt &&
                              (a6 ==
                                  (nth PV.nilp
                                      (nth (RV.p PV.nilp) r.fst 0).toCs 2).toInt &&
                                Bool.true))))
                      Option.none)
                  (Option.some Bool.true))
                fun (v : Bool) =>
                ctl v (Option.some ([RV.p (PV.bool Bool.false)], []))
                  (bnd
                    (lp E F 21 0 [] 0
                      { vals := [AV.sl 2 a0, AV.int IntKind.i64 (↑a0.length : Int), AV.int IntKind.i64 0],
                        blks :=
                          [Blk.box
                              [AV.int IntKind.i64 d0, AV.int IntKind.i64 d1, AV.int IntKind.i64 d2],
                            Blk.box
                              [AV.sl 6
                                  (nth PV.nilp
                                      (nth (RV.p PV.nilp) r.fst 0).toCs 0).toEs,
                                AV.sl 2
                                  (nth PV.nilp
                                      (nth (RV.p PV.nilp) r.fst 0).toCs 1).toEs],
                            Blk.arr 1 [], Blk.box [AV.t (TV.hsl 4)],
                            Blk.arr 1 []] })
                    fun (p : Ex × Pack) =>
                    ctl (p.fst.eqb (Ex.exit 0))
                      (ctl
                        (okPack
                          {
                            slots :=
                              [(8, Sum.inr (Sum.inr (AV.t (TV.ptr 0 0)))),
                                (11, Sum.inr (Sum.inr (AV.t (TV.ptr 1 0)))),
                                (15, Sum.inr (Sum.inr (AV.t (TV.hsl 2)))),
                                (16, Sum.inr (Sum.inr (AV.t (TV.ptr 3 0))))],
                            blks :=
                              [Sum.inl
                                  [Sum.inl (Sh.int IntKind.i64), Sum.inl (Sh.int IntKind.i64),
                                    Sum.inl (Sh.int IntKind.i64)],
                                Sum.inl [Sum.inl (Sh.sl 6), Sum.inl (Sh.sl 2)], Sum.inr 1, Sum.inl [Sum.inl (Sh.sl 1)]] }
                          p.snd)
                        (bnd
                          (F 31
                            [AV.agg
                                [PV.sl 6
                                    (nth AV.undef (nth (Blk.box []) p.snd.blks 1).toCs
                                          0).toPV.toEs,
                                  PV.sl 2
                                    (nth AV.undef (nth (Blk.box []) p.snd.blks 1).toCs
                                          1).toPV.toEs],
                              AV.int IntKind.i64 0]
                            [])
                          fun (r : Res) =>
                          ctl
                            (okR [RSh.one (Sh.sl 3)] r.fst && okB [] r.snd)
                            (bnd
                              (F 40
                                [AV.int IntKind.i64 0, AV.t (TV.ptr 0 0),
                                  AV.t (TV.ptr 1 0)]
                                [Blk.box
                                    [AV.sl 1
                                        (nth AV.undef (nth (Blk.box []) p.snd.blks 3).toCs
                                              0).toPV.toEs],
                                  Blk.box
                                    [AV.sl 6
                                        (nth AV.undef (nth (Blk.box []) p.snd.blks 1).toCs
                                              0).toPV.toEs,
                                      AV.sl 2
                                        (nth AV.undef (nth (Blk.box []) p.snd.blks 1).toCs
                                              1).toPV.toEs]])
                              fun (r_2 : Res) =>
                              ctl
                                (okR [RSh.one (Sh.sl 1)] r_2.fst &&
                                  okB [Sum.inl [Sh.sl 1], Sum.inl [Sh.sl 6, Sh.sl 2]] r_2.snd)
                                (bnd
                                  (F 42
                                    [AV.sl 3 (nth (RV.p PV.nilp) r.fst 0).toPV.toEs,
                                      AV.int IntKind.i64
                                        (nth AV.undef (nth (Blk.box []) p.snd.blks 0).toCs
                                              1).toPV.toInt,
                                      AV.sl 1 (nth (RV.p PV.nilp) r_2.fst 0).toPV.toEs]
                                    [])
                                  fun (r : Res) =>
                                  ctl
                                    (okR [RSh.one Sh.bool] r.fst && okB [] r.snd)
                                    (ctl (nth (RV.p PV.nilp) r.fst 0).toPV.toBool
                                      (bnd
                                        (F 31
                                          [AV.agg
                                              [PV.sl 6
                                                  (nth PV.nilp
                                                      (List.map AV.toPV (nth (Blk.box []) r_2.snd 1).toCs) 0).toEs,
                                                PV.sl 2
                                                  (nth PV.nilp
                                                      (List.map AV.toPV (nth (Blk.box []) r_2.snd 1).toCs) 1).toEs],
                                            AV.int IntKind.i64 1]
                                          [])
                                        fun (r : Res) =>
                                        ctl
                                          (okR [RSh.one (Sh.sl 3)] r.fst && okB [] r.snd)
                                          (bnd
                                            (F 40
                                              [AV.int IntKind.i64 1, AV.t (TV.ptr 0 0),
                                                AV.t (TV.ptr 1 0)]
                                              [Blk.box
                                                  [AV.sl 1
                                                      (nth PV.nilp
                                                          (List.map AV.toPV (nth (Blk.box []) r_2.snd 0).toCs) 0).toEs],
                                                Blk.box
                                                  [AV.sl 6
                                                      (nth PV.nilp
                                                          (List.map AV.toPV (nth (Blk.box []) r_2.snd 1).toCs) 0).toEs,
                                                    AV.sl 2
                                                      (nth PV.nilp
                                                          (List.map AV.toPV (nth (Blk.box []) r_2.snd 1).toCs) 1).toEs]])
                                            fun (r_3 : Res) =>
                                            ctl
                                              (okR [RSh.one (Sh.sl 1)] r_3.fst &&
                                                okB
                                                  [Sum.inl [Sh.sl 1], Sum.inl [Sh.sl 6, Sh.sl 2]] r_3.snd)
                                              (bnd
                                                (F 42
                                                  [AV.sl 3 (nth (RV.p PV.nilp) r.fst 0).toPV.toEs,
                                                    AV.int IntKind.i64
                                                      (nth AV.undef
                                                            (nth (Blk.box []) p.snd.blks 0).toCs 2).toPV.toInt,
                                                    AV.sl 1
                                                      (nth (RV.p PV.nilp) r_3.fst 0).toPV.toEs]
                                                  [])
                                                fun (r : Res) =>
                                                ctl
                                                  (okR [RSh.one Sh.bool] r.fst && okB [] r.snd)
                                                  (ctl (nth (RV.p PV.nilp) r.fst 0).toPV.toBool
                                                    (bnd
                                                      (F 32
                                                        [AV.agg
                                                            [PV.sl 6
                                                                (nth PV.nilp
                                                                    (List.map AV.toPV (nth (Blk.box []) r_3.snd 1).toCs) 0).toEs,
                                                              PV.sl 2
                                                                (nth PV.nilp
                                                                    (List.map AV.toPV (nth (Blk.box []) r_3.snd 1).toCs)
                                                                    1).toEs],
                                                          AV.sl 1
                                                            (nth PV.nilp
                                                                (List.map AV.toPV (nth (Blk.box []) r_3.snd 0).toCs) 0).toEs]
                                                        [])
                                                      fun (r : Res) =>
                                                      ctl (okR [RSh.own 3] r.fst && okB [] r.snd)
                                                        (bnd
                                                          (F 42
                                                            [AV.sl 3
                                                                (nth (RV.p PV.nilp) r.fst 0).toEs,
                                                              AV.int IntKind.i64
                                                                (nth AV.undef
                                                                      (nth (Blk.box []) p.snd.blks 0).toCs 0).toPV.toInt,
                                                              AV.sl 1 (nth (Blk.box []) p.snd.blks 2).toEs]
                                                            [])
                                                          fun (r : Res) =>
                                                          ctl
                                                            (okR [RSh.one Sh.bool] r.fst &&
                                                                okB [] r.snd &&
                                                              (noslR r.fst && noslB r.snd))
                                                            (Option.some
                                                              ([RV.p
                                                                    (PV.bool
                                                                      (nth (RV.p PV.nilp) r.fst 0).toPV.toBool)],
                                                                []))
                                                            Option.none)
                                                        Option.none)
                                                    (Option.some ([RV.p (PV.bool Bool.false)], [])))
                                                  Option.none)
                                              Option.none)
                                          Option.none)
                                      (Option.some ([RV.p (PV.bool Bool.false)], [])))
                                    Option.none)
                                Option.none)
                            Option.none)
                        Option.none)
                      Option.none))
          Option.none)
      Option.none := by kernel_rfl

/-- dynpos/allocate.Check$1, the loop of block 0 -/
theorem r40_0 (F : Fun) (station0 : Int) (x11 : List (List PV)) (x12 : Int) (x13 : Int) (b0_0 : List (List PV)) (b1_0 : List (List PV)) (b1_1 : List (List PV)) (c2 : List (List PV)) : lp E F 40 2 [] 0
  {
    vals :=
      [AV.int IntKind.i64 station0, AV.sl 6 x11, AV.int IntKind.i64 x12,
        AV.int IntKind.i64 x13],
    blks :=
      [Blk.box [AV.sl 1 b0_0],
        Blk.box [AV.sl 6 b1_0, AV.sl 2 b1_1], Blk.arr 1 c2] } =
  ctl (ltB x13 x12)
    (getE x11 x13 fun (c : List PV) =>
      ctl
        (okCs
          [Sh.int IntKind.i64, Sh.int IntKind.i64, Sh.int IntKind.i64,
            Sh.int IntKind.i64, Sh.int IntKind.i64, Sh.sl 2]
          c)
        (ctl ((nth PV.nilp c 1).toInt != station0)
          (ctl (leB 0 x13 && ltB x13 (↑c2.length : Int))
            (lp E F 40 2 [] 0
              {
                vals :=
                  [AV.int IntKind.i64 station0, AV.sl 6 x11, AV.int IntKind.i64 x12,
                    AV.int IntKind.i64 (IntKind.i64.wrap (x13 + 1))],
                blks :=
                  [Blk.box [AV.sl 1 b0_0],
                    Blk.box [AV.sl 6 b1_0, AV.sl 2 b1_1],
                    Blk.arr 1 (setEs c2 x13.toNat 0 [PV.int IntKind.i64 0])] })
            Option.none)
          (lp E F 40 2 [] 0
            {
              vals :=
                [AV.int IntKind.i64 station0, AV.sl 6 x11, AV.int IntKind.i64 x12,
                  AV.int IntKind.i64 (IntKind.i64.wrap (x13 + 1))],
              blks :=
                [Blk.box [AV.sl 1 b0_0],
                  Blk.box [AV.sl 6 b1_0, AV.sl 2 b1_1], Blk.arr 1 c2] }))
        Option.none)
    (Option.some
      (Ex.exit 0,
        { vals := [],
          blks :=
            [Blk.box [AV.sl 1 b0_0],
              Blk.box [AV.sl 6 b1_0, AV.sl 2 b1_1], Blk.arr 1 c2] })) := (lp_unfold ..).trans (by kernel_rfl)

/-- dynpos/allocate.Check$1 -/
theorem r40 (F : Fun) (station : Int) (k0_0 : List (List PV)) (k1_0 : List (List PV)) (k1_1 : List (List PV)) : funK E F 40 [AV.int IntKind.i64 station, AV.t (TV.ptr 0 0),
  AV.t (TV.ptr 1 0)] [Blk.box [AV.sl 1 k0_0], Blk.box [AV.sl 6 k1_0, AV.sl 2 k1_1]] =
  bnd (F 41 [AV.sl 1 k0_0] []) fun (r : Res) =>
    ctl (okR [RSh.own 1] r.fst && okB [] r.snd)
      (bnd
        (lp E F 40 2 [] 0
          {
            vals :=
              [AV.int IntKind.i64 station, AV.sl 6 k1_0, AV.int IntKind.i64 (↑k1_0.length : Int),
                AV.int IntKind.i64 0],
            blks :=
              [Blk.box [AV.sl 1 k0_0],
                Blk.box [AV.sl 6 k1_0, AV.sl 2 k1_1],
                Blk.arr 1 (nth (RV.p PV.nilp) r.fst 0).toEs] })
        fun (p : Ex × Pack) =>
        ctl (p.fst.eqb (Ex.exit 0))
          (ctl
            (okPack
              { slots := [(5, Sum.inr (Sum.inr (AV.t (TV.hsl 2))))],
                blks := [Sum.inl [Sum.inl (Sh.sl 1)], Sum.inl [Sum.inl (Sh.sl 6), Sum.inl (Sh.sl 2)], Sum.inr 1] }
              p.snd)
            (Option.some
              ([RV.p (PV.sl 1 (nth (Blk.box []) p.snd.blks 2).toEs)],
                [Blk.box
                    [AV.sl 1
                        (nth AV.undef (nth (Blk.box []) p.snd.blks 0).toCs 0).toPV.toEs],
                  Blk.box
                    [AV.sl 6
                        (nth AV.undef (nth (Blk.box []) p.snd.blks 1).toCs 0).toPV.toEs,
                      AV.sl 2
                        (nth AV.undef (nth (Blk.box []) p.snd.blks 1).toCs 1).toPV.toEs]]))
            Option.none)
          Option.none)
      Option.none := by kernel_rfl

/-- dynpos/share.Check, the loop of block 0 -/
theorem r42_0 (F : Fun) (l0 : List (List PV)) (total1 : Int) (x2 : List (List PV)) (least7 : Int) (most8 : Int) (sum10 : Int) (x26 : List (List PV)) (x27 : Int) (x28 : Int) : lp E F 42 0 [] 0
  {
    vals :=
      [AV.sl 3 l0, AV.int IntKind.i64 total1, AV.sl 1 x2, AV.int IntKind.i64 least7,
        AV.int IntKind.i64 most8, AV.int IntKind.i64 sum10, AV.sl 1 x26,
        AV.int IntKind.i64 x27, AV.int IntKind.i64 x28],
    blks := [] } =
  ctl (ltB x28 x27)
    (getE x26 x28 fun (c : List PV) =>
      ctl (okCs [Sh.int IntKind.i64] c)
        (lp E F 42 0 [] 0
          {
            vals :=
              [AV.sl 3 l0, AV.int IntKind.i64 total1, AV.sl 1 x2, AV.int IntKind.i64 least7,
                AV.int IntKind.i64 most8,
                AV.int IntKind.i64 (IntKind.i64.wrap (sum10 + (nth PV.nilp c 0).toInt)),
                AV.sl 1 x26, AV.int IntKind.i64 x27, AV.int IntKind.i64 (IntKind.i64.wrap (x28 + 1))],
            blks := [] })
        Option.none)
    (Option.some
      (Ex.exit 0,
        {
          vals :=
            [AV.sl 3 l0, AV.int IntKind.i64 total1, AV.sl 1 x2, AV.int IntKind.i64 least7,
              AV.int IntKind.i64 most8, AV.int IntKind.i64 sum10],
          blks := [] })) := (lp_unfold ..).trans (by kernel_rfl)

/-- dynpos/share.Check -/
theorem r42 (F : Fun) (l : List (List PV)) (total : Int) (x : List (List PV)) : funK E F 42 [AV.sl 3 l, AV.int IntKind.i64 total, AV.sl 1 x] [] =
  bnd (F 70 [AV.sl 3 l, AV.sl 1 x] []) fun (r : Res) =>
    ctl (okR [RSh.one Sh.bool] r.fst && okB [] r.snd)
      (ctl (!(nth (RV.p PV.nilp) r.fst 0).toPV.toBool)
        (Option.some ([RV.p (PV.bool Bool.false)], []))
        (bnd (F 51 [AV.sl 3 l] []) fun (r : Res) =>
          ctl
            (okR
                [RSh.one (Sh.int IntKind.i64), RSh.one (Sh.int IntKind.i64),
                  RSh.one (Sh.int IntKind.i64)]
                r.fst &&
              okB [] r.snd)
            (bnd
              (lp E F 42 0 [] 0
                {
                  vals :=
                    [AV.sl 3 l, AV.int IntKind.i64 total, AV.sl 1 x,
                      AV.int IntKind.i64 (nth (RV.p PV.nilp) r.fst 0).toPV.toInt,
                      AV.int IntKind.i64 (nth (RV.p PV.nilp) r.fst 1).toPV.toInt,
                      AV.int IntKind.i64 0, AV.sl 1 x, AV.int IntKind.i64 (↑x.length : Int),
                      AV.int IntKind.i64 0],
                  blks := [] })
              fun (p : Ex × Pack) =>
              ctl (p.fst.eqb (Ex.exit 0))
                (ctl
                  (okPack
                    {
                      slots :=
                        [(0, Sum.inl (Sh.sl 3)), (1, Sum.inl (Sh.int IntKind.i64)), (2, Sum.inl (Sh.sl 1)),
                          (7, Sum.inl (Sh.int IntKind.i64)), (8, Sum.inl (Sh.int IntKind.i64)),
                          (10, Sum.inl (Sh.int IntKind.i64))],
                      blks := [] }
                    p.snd)
                  (bnd
                    (F 71
                      [AV.sl 3 (nth AV.undef p.snd.vals 0).toPV.toEs,
                        AV.sl 1 (nth AV.undef p.snd.vals 2).toPV.toEs]
                      [])
                    fun (r : Res) =>
                    ctl
                      (okR
                          [RSh.one (Sh.int IntKind.i64), RSh.one (Sh.int IntKind.i64),
                            RSh.one Sh.bool]
                          r.fst &&
                        okB [] r.snd)
                      (bnd
                        (F 52
                          [AV.int IntKind.i64 (nth AV.undef p.snd.vals 1).toPV.toInt,
                            AV.int IntKind.i64 (nth AV.undef p.snd.vals 3).toPV.toInt,
                            AV.int IntKind.i64 (nth AV.undef p.snd.vals 4).toPV.toInt]
                          [])
                        fun (r_1 : Res) =>
                        ctl
                          (okR [RSh.one (Sh.int IntKind.i64)] r_1.fst && okB [] r_1.snd)
                          (bnd
                            (ctl
                              ((nth AV.undef p.snd.vals 5).toPV.toInt ==
                                (nth (RV.p PV.nilp) r_1.fst 0).toPV.toInt)
                              (ctl (!!(nth (RV.p PV.nilp) r.fst 2).toPV.toBool)
                                (Option.some
                                  (leB (nth (RV.p PV.nilp) r.fst 0).toPV.toInt
                                    (nth (RV.p PV.nilp) r.fst 1).toPV.toInt))
                                (Option.some Bool.true))
                              (Option.some Bool.false))
                            fun (v : Bool) => Option.some ([RV.p (PV.bool v)], []))
                          Option.none)
                      Option.none)
                  Option.none)
                Option.none)
            Option.none))
      Option.none := by kernel_rfl

end Go.Proofs.Ytcnjaffogkkpnaa.Vm
