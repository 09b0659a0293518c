/- The raw theorems, by program: what each function and each loop comes to. -/
import Derived.Test.YtldeniedmbgnaaaEnv
import Derived.Test.YtldeniedmbgnaaaVm34
import Derived.KernelRfl
namespace Go.Proofs.Ytldeniedmbgnaaa.Vm
open Go
set_option maxRecDepth 100000
set_option linter.unusedVariables false

/-- dynpos/dynposlaw11.SectorExact, the loop of block 0 -/
theorem r4_0 (F : Fun) (x2 : Int) (y3 : Int) (low4 : Int) (high5 : Int) (last6 : Int) (rate7 : Int) (x46_0 : Int) (x46_1 : Int) (x46_2 : Int) (x46_3 : Int) (x46_4 : Int) (x46_5 : List (List PV)) (x46_6 : Int) (x46_7 : Int) (x46_8 : Int) (x46_9 : Int) (x46_10 : Int) (x46_11 : List (List PV)) (x46_12 : Int) (x46_13 : Int) (x46_14 : Int) (x46_15 : Int) (x46_16 : Int) (x46_17 : List (List PV)) (x47 : Int) (b0_0 : List (List PV)) (b0_1 : Int) : lp E F 4 0 [] 0
  {
    vals :=
      [AV.int IntKind.i64 x2, AV.int IntKind.i64 y3, AV.int IntKind.i64 low4,
        AV.int IntKind.i64 high5, AV.int IntKind.i64 last6, AV.int IntKind.i64 rate7,
        AV.agg
          [PV.int IntKind.i64 x46_0, PV.int IntKind.i64 x46_1, PV.int IntKind.i64 x46_2,
            PV.int IntKind.i64 x46_3, PV.int IntKind.i64 x46_4, PV.sl 2 x46_5,
            PV.int IntKind.i64 x46_6, PV.int IntKind.i64 x46_7, PV.int IntKind.i64 x46_8,
            PV.int IntKind.i64 x46_9, PV.int IntKind.i64 x46_10, PV.sl 2 x46_11,
            PV.int IntKind.i64 x46_12, PV.int IntKind.i64 x46_13, PV.int IntKind.i64 x46_14,
            PV.int IntKind.i64 x46_15, PV.int IntKind.i64 x46_16, PV.sl 2 x46_17],
        AV.int IntKind.i64 x47],
    blks := [Blk.box [AV.sl 1 b0_0, AV.int IntKind.i64 b0_1]] } =
  ctl (ltB x47 3)
    (getE
      [[PV.int IntKind.i64 x46_0, PV.int IntKind.i64 x46_1, PV.int IntKind.i64 x46_2,
          PV.int IntKind.i64 x46_3, PV.int IntKind.i64 x46_4, PV.sl 2 x46_5],
        [PV.int IntKind.i64 x46_6, PV.int IntKind.i64 x46_7, PV.int IntKind.i64 x46_8,
          PV.int IntKind.i64 x46_9, PV.int IntKind.i64 x46_10, PV.sl 2 x46_11],
        [PV.int IntKind.i64 x46_12, PV.int IntKind.i64 x46_13, PV.int IntKind.i64 x46_14,
          PV.int IntKind.i64 x46_15, PV.int IntKind.i64 x46_16, PV.sl 2 x46_17]]
      x47 fun (c : List PV) =>
      ctl
        (okCs
          [Sh.int IntKind.i64, Sh.int IntKind.i64, Sh.int IntKind.i64,
            Sh.int IntKind.i64, Sh.int IntKind.i64, Sh.sl 2]
          c)
        (bnd
          (F 13
            [AV.agg
                [PV.int IntKind.i64 (nth PV.nilp c 0).toInt,
                  PV.int IntKind.i64 (nth PV.nilp c 1).toInt,
                  PV.int IntKind.i64 (nth PV.nilp c 2).toInt,
                  PV.int IntKind.i64 (nth PV.nilp c 3).toInt,
                  PV.int IntKind.i64 (nth PV.nilp c 4).toInt,
                  PV.sl 2 (nth PV.nilp c 5).toEs]]
            [])
          fun (r : Res) =>
          ctl (okR [RSh.one Sh.bool] r.fst && okB [] r.snd)
            (bnd
              (F 17
                [AV.agg
                    [PV.int IntKind.i64 (nth PV.nilp c 0).toInt,
                      PV.int IntKind.i64 (nth PV.nilp c 1).toInt,
                      PV.int IntKind.i64 (nth PV.nilp c 2).toInt,
                      PV.int IntKind.i64 (nth PV.nilp c 3).toInt,
                      PV.int IntKind.i64 (nth PV.nilp c 4).toInt,
                      PV.sl 2 (nth PV.nilp c 5).toEs]]
                [])
              fun (r_1 : Res) =>
              ctl (okR [RSh.one Sh.bool] r_1.fst && okB [] r_1.snd)
                (ctl
                  (!(nth (RV.p PV.nilp) r.fst 0).toPV.toBool ==
                      (nth (RV.p PV.nilp) r_1.fst 0).toPV.toBool)
                  (Option.some (Ex.ret, { vals := [AV.bool Bool.false], blks := [] }))
                  (bnd
                    (F 10
                      [AV.agg
                          [PV.int IntKind.i64 (nth PV.nilp c 0).toInt,
                            PV.int IntKind.i64 (nth PV.nilp c 1).toInt,
                            PV.int IntKind.i64 (nth PV.nilp c 2).toInt,
                            PV.int IntKind.i64 (nth PV.nilp c 3).toInt,
                            PV.int IntKind.i64 (nth PV.nilp c 4).toInt,
                            PV.sl 2 (nth PV.nilp c 5).toEs]]
                      [])
                    fun (r : Res) =>
                    ctl
                      (okR
                          [RSh.one (Sh.int IntKind.i64), RSh.one (Sh.int IntKind.i64)]
                          r.fst &&
                        okB [] r.snd)
                      (bnd
                        (F 18
                          [AV.agg
                              [PV.int IntKind.i64 (nth PV.nilp c 0).toInt,
                                PV.int IntKind.i64 (nth PV.nilp c 1).toInt,
                                PV.int IntKind.i64 (nth PV.nilp c 2).toInt,
                                PV.int IntKind.i64 (nth PV.nilp c 3).toInt,
                                PV.int IntKind.i64 (nth PV.nilp c 4).toInt,
                                PV.sl 2 (nth PV.nilp c 5).toEs]]
                          [])
                        fun (r_2 : Res) =>
                        ctl
                          (okR
                              [RSh.one (Sh.int IntKind.i64), RSh.one (Sh.int IntKind.i64)]
                              r_2.fst &&
                            okB [] r_2.snd)
                          (bnd
                            (ctl
                              (!(nth (RV.p PV.nilp) r.fst 0).toPV.toInt !=
                                  (nth (RV.p PV.nilp) r_2.fst 0).toPV.toInt)
                              (Option.some
                                ((nth (RV.p PV.nilp) r.fst 1).toPV.toInt !=
                                  (nth (RV.p PV.nilp) r_2.fst 1).toPV.toInt))
                              (Option.some Bool.true))
                            fun (v : Bool) =>
                            ctl v (Option.some (Ex.ret, { vals := [AV.bool Bool.false], blks := [] }))
                              (bnd
                                (F 11
                                  [AV.t (TV.ptr 0 0), AV.int IntKind.i64 (-40),
                                    AV.int IntKind.i64 40]
                                  [Blk.box [AV.sl 1 b0_0, AV.int IntKind.i64 b0_1]])
                                fun (r : Res) =>
                                ctl
                                  (okR [RSh.one (Sh.int IntKind.i64)] r.fst &&
                                    okB [Sum.inl [Sh.sl 1, Sh.int IntKind.i64]] r.snd)
                                  (bnd
                                    (F 11
                                      [AV.t (TV.ptr 0 0), AV.int IntKind.i64 (-40),
                                        AV.int IntKind.i64 40]
                                      [Blk.box
                                          [AV.sl 1
                                              (nth PV.nilp
                                                  (List.map AV.toPV (nth (Blk.box []) r.snd 0).toCs) 0).toEs,
                                            AV.int IntKind.i64
                                              (nth PV.nilp
                                                  (List.map AV.toPV (nth (Blk.box []) r.snd 0).toCs) 1).toInt]])
                                    fun (r_3 : Res) =>
                                    ctl
                                      (okR [RSh.one (Sh.int IntKind.i64)] r_3.fst &&
                                        okB [Sum.inl [Sh.sl 1, Sh.int IntKind.i64]] r_3.snd)
                                      (bnd
                                        (F 19 [AV.t (TV.ptr 0 0)]
                                          [Blk.box
                                              [AV.sl 1
                                                  (nth PV.nilp
                                                      (List.map AV.toPV (nth (Blk.box []) r_3.snd 0).toCs) 0).toEs,
                                                AV.int IntKind.i64
                                                  (nth PV.nilp
                                                      (List.map AV.toPV (nth (Blk.box []) r_3.snd 0).toCs) 1).toInt]])
                                        fun (r_4 : Res) =>
                                        ctl
                                          (okR [RSh.one (Sh.int IntKind.i64)] r_4.fst &&
                                            okB [Sum.inl [Sh.sl 1, Sh.int IntKind.i64]] r_4.snd)
                                          (bnd
                                            (F 19 [AV.t (TV.ptr 0 0)]
                                              [Blk.box
                                                  [AV.sl 1
                                                      (nth PV.nilp
                                                          (List.map AV.toPV (nth (Blk.box []) r_4.snd 0).toCs) 0).toEs,
                                                    AV.int IntKind.i64
                                                      (nth PV.nilp
                                                          (List.map AV.toPV (nth (Blk.box []) r_4.snd 0).toCs) 1).toInt]])
                                            fun (r_5 : Res) =>
                                            ctl
                                              (okR [RSh.one (Sh.int IntKind.i64)] r_5.fst &&
                                                okB [Sum.inl [Sh.sl 1, Sh.int IntKind.i64]] r_5.snd)
                                              (bnd
                                                (lp E F 4 0 [] 2
                                                  {
                                                    vals :=
                                                      [AV.int IntKind.i64 x2, AV.int IntKind.i64 y3,
                                                        AV.int IntKind.i64 low4, AV.int IntKind.i64 high5,
                                                        AV.int IntKind.i64 last6, AV.int IntKind.i64 rate7,
                                                        AV.agg
                                                          [PV.int IntKind.i64 x46_0, PV.int IntKind.i64 x46_1,
                                                            PV.int IntKind.i64 x46_2, PV.int IntKind.i64 x46_3,
                                                            PV.int IntKind.i64 x46_4, PV.sl 2 x46_5,
                                                            PV.int IntKind.i64 x46_6, PV.int IntKind.i64 x46_7,
                                                            PV.int IntKind.i64 x46_8, PV.int IntKind.i64 x46_9,
                                                            PV.int IntKind.i64 x46_10, PV.sl 2 x46_11,
                                                            PV.int IntKind.i64 x46_12, PV.int IntKind.i64 x46_13,
                                                            PV.int IntKind.i64 x46_14, PV.int IntKind.i64 x46_15,
                                                            PV.int IntKind.i64 x46_16, PV.sl 2 x46_17],
                                                        AV.int IntKind.i64 x47,
                                                        AV.agg
                                                          [PV.int IntKind.i64 x2, PV.int IntKind.i64 y3,
                                                            PV.int IntKind.i64
                                                              (nth (RV.p PV.nilp) r.fst 0).toPV.toInt,
                                                            PV.int IntKind.i64
                                                              (nth (RV.p PV.nilp) r_3.fst 0).toPV.toInt,
                                                            PV.int IntKind.i64 0,
                                                            PV.int IntKind.i64
                                                              (nth (RV.p PV.nilp) r_4.fst 0).toPV.toInt,
                                                            PV.int IntKind.i64
                                                              (nth (RV.p PV.nilp) r_5.fst 0).toPV.toInt,
                                                            PV.int IntKind.i64 3],
                                                        AV.int IntKind.i64 0],
                                                    blks :=
                                                      [Blk.box
                                                          [AV.sl 1
                                                              (nth PV.nilp
                                                                  (List.map AV.toPV (nth (Blk.box []) r_5.snd 0).toCs) 0).toEs,
                                                            AV.int IntKind.i64
                                                              (nth PV.nilp
                                                                  (List.map AV.toPV (nth (Blk.box []) r_5.snd 0).toCs) 1).toInt],
                                                        Blk.box
                                                          [AV.int IntKind.i64 (nth PV.nilp c 0).toInt,
                                                            AV.int IntKind.i64 (nth PV.nilp c 1).toInt,
                                                            AV.int IntKind.i64 (nth PV.nilp c 2).toInt,
                                                            AV.int IntKind.i64 (nth PV.nilp c 3).toInt,
                                                            AV.int IntKind.i64 (nth PV.nilp c 4).toInt,
                                                            AV.sl 2 (nth PV.nilp c 5).toEs]] })
                                                fun (p : Ex × Pack) =>
                                                ctl (p.fst.eqb (Ex.exit 2))
                                                  (ctl
                                                    (okPack
                                                      {
                                                        slots :=
                                                          [(2, Sum.inl (Sh.int IntKind.i64)), (3, Sum.inl (Sh.int IntKind.i64)),
                                                            (4, Sum.inl (Sh.int IntKind.i64)), (5, Sum.inl (Sh.int IntKind.i64)),
                                                            (6, Sum.inl (Sh.int IntKind.i64)), (7, Sum.inl (Sh.int IntKind.i64)),
                                                            (17, Sum.inr (Sum.inr (AV.t (TV.ptr 0 0)))),
                                                            (46,
                                                              Sum.inr
                                                                (Sum.inl
                                                                  [Sh.int IntKind.i64, Sh.int IntKind.i64,
                                                                    Sh.int IntKind.i64, Sh.int IntKind.i64,
                                                                    Sh.int IntKind.i64, Sh.sl 2, Sh.int IntKind.i64,
                                                                    Sh.int IntKind.i64, Sh.int IntKind.i64,
                                                                    Sh.int IntKind.i64, Sh.int IntKind.i64, Sh.sl 2,
                                                                    Sh.int IntKind.i64, Sh.int IntKind.i64,
                                                                    Sh.int IntKind.i64, Sh.int IntKind.i64,
                                                                    Sh.int IntKind.i64, Sh.sl 2])),
                                                            (47, Sum.inl (Sh.int IntKind.i64))],
                                                        blks := [Sum.inl [Sum.inl (Sh.sl 1), Sum.inl (Sh.int IntKind.i64)]] }
                                                      p.snd)
                                                    (lp E F 4 0 [] 0
                                                      {
                                                        vals :=
                                                          [AV.int IntKind.i64 (nth AV.undef p.snd.vals 0).toPV.toInt,
                                                            AV.int IntKind.i64 (nth AV.undef p.snd.vals 1).toPV.toInt,
                                                            AV.int IntKind.i64 (nth AV.undef p.snd.vals 2).toPV.toInt,
                                                            AV.int IntKind.i64 (nth AV.undef p.snd.vals 3).toPV.toInt,
                                                            AV.int IntKind.i64 (nth AV.undef p.snd.vals 4).toPV.toInt,
                                                            AV.int IntKind.i64 (nth AV.undef p.snd.vals 5).toPV.toInt,
                                                            AV.agg
                                                              [PV.int IntKind.i64
                                                                  (nth PV.nilp
                                                                      (nth AV.undef p.snd.vals 6).toCs 0).toInt,
                                                                PV.int IntKind.i64
                                                                  (nth PV.nilp
                                                                      (nth AV.undef p.snd.vals 6).toCs 1).toInt,
                                                                PV.int IntKind.i64
                                                                  (nth PV.nilp
                                                                      (nth AV.undef p.snd.vals 6).toCs 2).toInt,
                                                                PV.int IntKind.i64
                                                                  (nth PV.nilp
                                                                      (nth AV.undef p.snd.vals 6).toCs 3).toInt,
                                                                PV.int IntKind.i64
                                                                  (nth PV.nilp
                                                                      (nth AV.undef p.snd.vals 6).toCs 4).toInt,
                                                                PV.sl 2
                                                                  (nth PV.nilp
                                                                      (nth AV.undef p.snd.vals 6).toCs 5).toEs,
                                                                PV.int IntKind.i64
                                                                  (nth PV.nilp
                                                                      (nth AV.undef p.snd.vals 6).toCs 6).toInt,
                                                                PV.int IntKind.i64
                                                                  (nth PV.nilp
                                                                      (nth AV.undef p.snd.vals 6).toCs 7).toInt,
                                                                PV.int IntKind.i64
                                                                  (nth PV.nilp
                                                                      (nth AV.undef p.snd.vals 6).toCs 8).toInt,
                                                                PV.int IntKind.i64
                                                                  (nth PV.nilp
                                                                      (nth AV.undef p.snd.vals 6).toCs 9).toInt,
                                                                PV.int IntKind.i64
                                                                  (nth PV.nilp
                                                                      (nth AV.undef p.snd.vals 6).toCs 10).toInt,
                                                                PV.sl 2
                                                                  (nth PV.nilp
                                                                      (nth AV.undef p.snd.vals 6).toCs 11).toEs,
                                                                PV.int IntKind.i64
                                                                  (nth PV.nilp
                                                                      (nth AV.undef p.snd.vals 6).toCs 12).toInt,
                                                                PV.int IntKind.i64
                                                                  (nth PV.nilp
                                                                      (nth AV.undef p.snd.vals 6).toCs 13).toInt,
                                                                PV.int IntKind.i64
                                                                  (nth PV.nilp
                                                                      (nth AV.undef p.snd.vals 6).toCs 14).toInt,
                                                                PV.int IntKind.i64
                                                                  (nth PV.nilp
                                                                      (nth AV.undef p.snd.vals 6).toCs 15).toInt,
                                                                PV.int IntKind.i64
                                                                  (nth PV.nilp
                                                                      (nth AV.undef p.snd.vals 6).toCs 16).toInt,
                                                                PV.sl 2
                                                                  (nth PV.nilp
                                                                      (nth AV.undef p.snd.vals 6).toCs 17).toEs],
                                                            AV.int IntKind.i64
                                                              (IntKind.i64.wrap ((nth AV.undef p.snd.vals 7).toPV.toInt + 1))],
                                                        blks :=
                                                          [Blk.box
                                                              [AV.sl 1
                                                                  (nth AV.undef
                                                                        (nth (Blk.box []) p.snd.blks 0).toCs 0).toPV.toEs,
                                                                AV.int IntKind.i64
                                                                  (nth AV.undef
                                                                        (nth (Blk.box []) p.snd.blks 0).toCs 1).toPV.toInt]] })
                                                    Option.none)
                                                  (ctl (p.fst.eqb Ex.ret)
                                                    (ctl (okPack { slots := [(16, Sum.inl Sh.bool)], blks := [] } p.snd)
                                                      (Option.some
                                                        (Ex.ret,
                                                          { vals := [AV.bool (nth AV.undef p.snd.vals 0).toPV.toBool],
                                                            blks := [] }))
                                                      Option.none)
                                                    Option.none))
                                              Option.none)
                                          Option.none)
                                      Option.none)
                                  Option.none))
                          Option.none)
                      Option.none))
                Option.none)
            Option.none)
        Option.none)
    (Option.some
      (Ex.exit 0,
        {
          vals :=
            [AV.int IntKind.i64 low4, AV.int IntKind.i64 high5, AV.int IntKind.i64 last6,
              AV.int IntKind.i64 rate7],
          blks := [Blk.box [AV.sl 1 b0_0, AV.int IntKind.i64 b0_1]] })) := (lp_unfold ..).trans (by kernel_rfl)

/-- dynpos/dynposlaw11.SectorExact, the loop of block 2 -/
theorem r4_2 (F : Fun) (x2 : Int) (y3 : Int) (low4 : Int) (high5 : Int) (last6 : Int) (rate7 : Int) (x46_0 : Int) (x46_1 : Int) (x46_2 : Int) (x46_3 : Int) (x46_4 : Int) (x46_5 : List (List PV)) (x46_6 : Int) (x46_7 : Int) (x46_8 : Int) (x46_9 : Int) (x46_10 : Int) (x46_11 : List (List PV)) (x46_12 : Int) (x46_13 : Int) (x46_14 : Int) (x46_15 : Int) (x46_16 : Int) (x46_17 : List (List PV)) (x47 : Int) (x87_0 : Int) (x87_1 : Int) (x87_2 : Int) (x87_3 : Int) (x87_4 : Int) (x87_5 : Int) (x87_6 : Int) (x87_7 : Int) (x88 : Int) (b0_0 : List (List PV)) (b0_1 : Int) (b1_0 : Int) (b1_1 : Int) (b1_2 : Int) (b1_3 : Int) (b1_4 : Int) (b1_5 : List (List PV)) : lp E F 4 0 [] 2
  {
    vals :=
      [AV.int IntKind.i64 x2, AV.int IntKind.i64 y3, AV.int IntKind.i64 low4,
        AV.int IntKind.i64 high5, AV.int IntKind.i64 last6, AV.int IntKind.i64 rate7,
        AV.agg
          [PV.int IntKind.i64 x46_0, PV.int IntKind.i64 x46_1, PV.int IntKind.i64 x46_2,
            PV.int IntKind.i64 x46_3, PV.int IntKind.i64 x46_4, PV.sl 2 x46_5,
            PV.int IntKind.i64 x46_6, PV.int IntKind.i64 x46_7, PV.int IntKind.i64 x46_8,
            PV.int IntKind.i64 x46_9, PV.int IntKind.i64 x46_10, PV.sl 2 x46_11,
            PV.int IntKind.i64 x46_12, PV.int IntKind.i64 x46_13, PV.int IntKind.i64 x46_14,
            PV.int IntKind.i64 x46_15, PV.int IntKind.i64 x46_16, PV.sl 2 x46_17],
        AV.int IntKind.i64 x47,
        AV.agg
          [PV.int IntKind.i64 x87_0, PV.int IntKind.i64 x87_1, PV.int IntKind.i64 x87_2,
            PV.int IntKind.i64 x87_3, PV.int IntKind.i64 x87_4, PV.int IntKind.i64 x87_5,
            PV.int IntKind.i64 x87_6, PV.int IntKind.i64 x87_7],
        AV.int IntKind.i64 x88],
    blks :=
      [Blk.box [AV.sl 1 b0_0, AV.int IntKind.i64 b0_1],
        Blk.box
          [AV.int IntKind.i64 b1_0, AV.int IntKind.i64 b1_1, AV.int IntKind.i64 b1_2,
            AV.int IntKind.i64 b1_3, AV.int IntKind.i64 b1_4, AV.sl 2 b1_5]] } =
  ctl (ltB x88 4)
    (getE
      [[PV.int IntKind.i64 x87_0, PV.int IntKind.i64 x87_1],
        [PV.int IntKind.i64 x87_2, PV.int IntKind.i64 x87_3],
        [PV.int IntKind.i64 x87_4, PV.int IntKind.i64 x87_5],
        [PV.int IntKind.i64 x87_6, PV.int IntKind.i64 x87_7]]
      x88 fun (c : List PV) =>
      ctl (okCs [Sh.int IntKind.i64, Sh.int IntKind.i64] c)
        (bnd
          (F 20
            [AV.agg
                [PV.int IntKind.i64 b1_0, PV.int IntKind.i64 b1_1, PV.int IntKind.i64 b1_2,
                  PV.int IntKind.i64 b1_3, PV.int IntKind.i64 b1_4, PV.sl 2 b1_5],
              AV.int IntKind.i64 (nth PV.nilp c 0).toInt,
              AV.int IntKind.i64 (nth PV.nilp c 1).toInt]
            [])
          fun (r : Res) =>
          ctl (okR [RSh.one Sh.bool] r.fst && okB [] r.snd)
            (bnd
              (F 21
                [AV.agg
                    [PV.int IntKind.i64 b1_0, PV.int IntKind.i64 b1_1, PV.int IntKind.i64 b1_2,
                      PV.int IntKind.i64 b1_3, PV.int IntKind.i64 b1_4, PV.sl 2 b1_5],
                  AV.int IntKind.i64 (nth PV.nilp c 0).toInt,
                  AV.int IntKind.i64 (nth PV.nilp c 1).toInt]
                [])
              fun (r_1 : Res) =>
              ctl (okR [RSh.one Sh.bool] r_1.fst && okB [] r_1.snd)
                (ctl
                  (!(nth (RV.p PV.nilp) r.fst 0).toPV.toBool ==
                      (nth (RV.p PV.nilp) r_1.fst 0).toPV.toBool)
                  (Option.some (Ex.ret, { vals := [AV.bool Bool.false], blks := [] }))
                  (bnd
                    (F 12
                      [AV.agg
                          [PV.int IntKind.i64 b1_0, PV.int IntKind.i64 b1_1, PV.int IntKind.i64 b1_2,
                            PV.int IntKind.i64 b1_3, PV.int IntKind.i64 b1_4, PV.sl 2 b1_5],
                        AV.int IntKind.i64 (nth PV.nilp c 1).toInt]
                      [])
                    fun (r : Res) =>
                    ctl
                      (okR
                          [RSh.one (Sh.int IntKind.i64), RSh.one (Sh.int IntKind.i64)]
                          r.fst &&
                        okB [] r.snd)
                      (bnd
                        (F 22
                          [AV.agg
                              [PV.int IntKind.i64 b1_0, PV.int IntKind.i64 b1_1, PV.int IntKind.i64 b1_2,
                                PV.int IntKind.i64 b1_3, PV.int IntKind.i64 b1_4, PV.sl 2 b1_5],
                            AV.int IntKind.i64 (nth PV.nilp c 1).toInt]
                          [])
                        fun (r_2 : Res) =>
                        ctl
                          (okR
                              [RSh.one (Sh.int IntKind.i64), RSh.one (Sh.int IntKind.i64)]
                              r_2.fst &&
                            okB [] r_2.snd)
                          (bnd
                            (ctl
                              (!(nth (RV.p PV.nilp) r.fst 0).toPV.toInt !=
                                  (nth (RV.p PV.nilp) r_2.fst 0).toPV.toInt)
                              (Option.some
                                ((nth (RV.p PV.nilp) r.fst 1).toPV.toInt !=
                                  (nth (RV.p PV.nilp) r_2.fst 1).toPV.toInt))
                              (Option.some Bool.true))
                            fun (v : Bool) =>
                            ctl v (Option.some (Ex.ret, { vals := [AV.bool Bool.false], blks := [] }))
                              (lp E F 4 0 [] 2
                                {
                                  vals :=
                                    [AV.int IntKind.i64 x2, AV.int IntKind.i64 y3, AV.int IntKind.i64 low4,
                                      AV.int IntKind.i64 high5, AV.int IntKind.i64 last6, AV.int IntKind.i64 rate7,
                                      AV.agg
                                        [PV.int IntKind.i64 x46_0, PV.int IntKind.i64 x46_1, PV.int IntKind.i64 x46_2,
                                          PV.int IntKind.i64 x46_3, PV.int IntKind.i64 x46_4, PV.sl 2 x46_5,
                                          PV.int IntKind.i64 x46_6, PV.int IntKind.i64 x46_7, PV.int IntKind.i64 x46_8,
                                          PV.int IntKind.i64 x46_9, PV.int IntKind.i64 x46_10, PV.sl 2 x46_11,
                                          PV.int IntKind.i64 x46_12, PV.int IntKind.i64 x46_13,
                                          PV.int IntKind.i64 x46_14, PV.int IntKind.i64 x46_15,
                                          PV.int IntKind.i64 x46_16, PV.sl 2 x46_17],
                                      AV.int IntKind.i64 x47,
                                      AV.agg
                                        [PV.int IntKind.i64 x87_0, PV.int IntKind.i64 x87_1, PV.int IntKind.i64 x87_2,
                                          PV.int IntKind.i64 x87_3, PV.int IntKind.i64 x87_4, PV.int IntKind.i64 x87_5,
                                          PV.int IntKind.i64 x87_6, PV.int IntKind.i64 x87_7],
                                      AV.int IntKind.i64 (IntKind.i64.wrap (x88 + 1))],
                                  blks :=
                                    [Blk.box [AV.sl 1 b0_0, AV.int IntKind.i64 b0_1],
                                      Blk.box
                                        [AV.int IntKind.i64 b1_0, AV.int IntKind.i64 b1_1, AV.int IntKind.i64 b1_2,
                                          AV.int IntKind.i64 b1_3, AV.int IntKind.i64 b1_4, AV.sl 2 b1_5]] }))
                          Option.none)
                      Option.none))
                Option.none)
            Option.none)
        Option.none)
    (Option.some
      (Ex.exit 2,
        {
          vals :=
            [AV.int IntKind.i64 x2, AV.int IntKind.i64 y3, AV.int IntKind.i64 low4,
              AV.int IntKind.i64 high5, AV.int IntKind.i64 last6, AV.int IntKind.i64 rate7,
              AV.agg
                [PV.int IntKind.i64 x46_0, PV.int IntKind.i64 x46_1, PV.int IntKind.i64 x46_2,
                  PV.int IntKind.i64 x46_3, PV.int IntKind.i64 x46_4, PV.sl 2 x46_5,
                  PV.int IntKind.i64 x46_6, PV.int IntKind.i64 x46_7, PV.int IntKind.i64 x46_8,
                  PV.int IntKind.i64 x46_9, PV.int IntKind.i64 x46_10, PV.sl 2 x46_11,
                  PV.int IntKind.i64 x46_12, PV.int IntKind.i64 x46_13, PV.int IntKind.i64 x46_14,
                  PV.int IntKind.i64 x46_15, PV.int IntKind.i64 x46_16, PV.sl 2 x46_17],
              AV.int IntKind.i64 x47],
          blks := [Blk.box [AV.sl 1 b0_0, AV.int IntKind.i64 b0_1]] })) := (lp_unfold ..).trans (by kernel_rfl)

/-- dynpos/dynposlaw11.SectorExact, the loop of block 4 -/
theorem r4_4 (F : Fun) (x151_0 : Int) (x151_1 : Int) (x151_2 : Int) (x151_3 : Int) (x151_4 : Int) (x151_5 : Int) (x151_6 : Int) (x151_7 : Int) (x151_8 : Int) (x151_9 : Int) (x151_10 : Int) (x151_11 : Int) (x152 : Int) : lp E F 4 0 [] 4
  {
    vals :=
      [AV.agg
          [PV.int IntKind.i64 x151_0, PV.int IntKind.i64 x151_1, PV.int IntKind.i64 x151_2,
            PV.int IntKind.i64 x151_3, PV.int IntKind.i64 x151_4, PV.int IntKind.i64 x151_5,
            PV.int IntKind.i64 x151_6, PV.int IntKind.i64 x151_7, PV.int IntKind.i64 x151_8,
            PV.int IntKind.i64 x151_9, PV.int IntKind.i64 x151_10, PV.int IntKind.i64 x151_11],
        AV.int IntKind.i64 x152],
    blks := [] } =
  ctl (ltB x152 3)
    (getE
      [[PV.int IntKind.i64 x151_0, PV.int IntKind.i64 x151_1, PV.int IntKind.i64 x151_2,
          PV.int IntKind.i64 x151_3],
        [PV.int IntKind.i64 x151_4, PV.int IntKind.i64 x151_5, PV.int IntKind.i64 x151_6,
          PV.int IntKind.i64 x151_7],
        [PV.int IntKind.i64 x151_8, PV.int IntKind.i64 x151_9, PV.int IntKind.i64 x151_10,
          PV.int IntKind.i64 x151_11]]
      x152 fun (c : List PV) =>
      ctl
        (okCs
          [Sh.int IntKind.i64, Sh.int IntKind.i64, Sh.int IntKind.i64,
            Sh.int IntKind.i64]
          c)
        (bnd
          (F 23
            [AV.int IntKind.i64 (nth PV.nilp c 0).toInt,
              AV.int IntKind.i64 (nth PV.nilp c 1).toInt,
              AV.int IntKind.i64 (nth PV.nilp c 2).toInt,
              AV.int IntKind.i64 (nth PV.nilp c 3).toInt]
            [])
          fun (r : Res) =>
          ctl
            (okR
                [RSh.one (Sh.int IntKind.i64), RSh.one (Sh.int IntKind.i64)] r.fst &&
              okB [] r.snd)
            (bnd
              (F 24
                [AV.int IntKind.i64 (nth PV.nilp c 0).toInt,
                  AV.int IntKind.i64 (nth PV.nilp c 1).toInt,
                  AV.int IntKind.i64 (nth PV.nilp c 2).toInt,
                  AV.int IntKind.i64 (nth PV.nilp c 3).toInt]
                [])
              fun (r_1 : Res) =>
              ctl
                (okR
                    [RSh.one (Sh.int IntKind.i64), RSh.one (Sh.int IntKind.i64)] r_1.fst &&
                  okB [] r_1.snd)
                (bnd
                  (ctl
                    (!(nth (RV.p PV.nilp) r.fst 0).toPV.toInt !=
                        (nth (RV.p PV.nilp) r_1.fst 0).toPV.toInt)
                    (Option.some
                      ((nth (RV.p PV.nilp) r.fst 1).toPV.toInt !=
                        (nth (RV.p PV.nilp) r_1.fst 1).toPV.toInt))
                    (Option.some Bool.true))
                  fun (v : Bool) =>
                  ctl v (Option.some (Ex.ret, { vals := [AV.bool Bool.false], blks := [] }))
                    (lp E F 4 0 [] 4
                      {
                        vals :=
                          [AV.agg
                              [PV.int IntKind.i64 x151_0, PV.int IntKind.i64 x151_1, PV.int IntKind.i64 x151_2,
                                PV.int IntKind.i64 x151_3, PV.int IntKind.i64 x151_4, PV.int IntKind.i64 x151_5,
                                PV.int IntKind.i64 x151_6, PV.int IntKind.i64 x151_7, PV.int IntKind.i64 x151_8,
                                PV.int IntKind.i64 x151_9, PV.int IntKind.i64 x151_10, PV.int IntKind.i64 x151_11],
                            AV.int IntKind.i64 (IntKind.i64.wrap (x152 + 1))],
                        blks := [] }))
                Option.none)
            Option.none)
        Option.none)
    (Option.some (Ex.exit 4, { vals := [], blks := [] })) := (lp_unfold ..).trans (by kernel_rfl)

/-- dynpos/dynposlaw11.SectorExact -/
theorem r4 (F : Fun) (t : List (List PV)) (raw0 : Int) (raw1 : Int) (raw2 : Int) (raw3 : Int) (raw4 : Int) (raw5 : List (List PV)) (x : Int) (y : Int) (low : Int) (high : Int) (last : Int) (rate : Int) : funK E F 4 [AV.sl 1 t,
  AV.agg
    [PV.int IntKind.i64 raw0, PV.int IntKind.i64 raw1, PV.int IntKind.i64 raw2,
      PV.int IntKind.i64 raw3, PV.int IntKind.i64 raw4, PV.sl 2 raw5],
  AV.int IntKind.i64 x, AV.int IntKind.i64 y, AV.int IntKind.i64 low,
  AV.int IntKind.i64 high, AV.int IntKind.i64 last, AV.int IntKind.i64 rate] [] =
  bnd
    (F 15
      [AV.agg
          [PV.int IntKind.i64 raw0, PV.int IntKind.i64 raw1, PV.int IntKind.i64 raw2,
            PV.int IntKind.i64 raw3, PV.int IntKind.i64 raw4, PV.sl 2 raw5]]
      [])
    fun (r : Res) =>
    ctl (okR [RSh.one Sh.bool] r.fst && okB [] r.snd)
      (ctl (!(nth (RV.p PV.nilp) r.fst 0).toPV.toBool)
        (bnd (F 14 [] []) fun (r : Res) =>
          ctl (okR [RSh.one Sh.bool] r.fst && okB [] r.snd)
            (Option.some
              ([RV.p
                    (PV.bool (nth (RV.p PV.nilp) r.fst 0).toPV.toBool)],
                []))
            Option.none)
        (bnd (F 8 [AV.sl 1 t] []) fun (r : Res) =>
          ctl
            (okR [RSh.ownp [Sh.sl 1, Sh.int IntKind.i64]] r.fst &&
              okB [] r.snd)
            (bnd
              (F 9 [AV.t (TV.ptr 0 0)]
                [Blk.box
                    [AV.sl 1
                        (nth PV.nilp
                            (nth (RV.p PV.nilp) r.fst 0).toCs 0).toEs,
                      AV.int IntKind.i64
                        (nth PV.nilp
                            (nth (RV.p PV.nilp) r.fst 0).toCs 1).toInt]])
              fun (r : Res) =>
              ctl
                (okR
                    [RSh.agg
                        [Sh.int IntKind.i64, Sh.int IntKind.i64, Sh.int IntKind.i64,
                          Sh.int IntKind.i64, Sh.int IntKind.i64, Sh.sl 2]]
                    r.fst &&
                  okB [Sum.inl [Sh.sl 1, Sh.int IntKind.i64]] r.snd)
                (bnd
                  (F 16
                    [AV.t (TV.ptr 0 0),
                      AV.agg
                        [PV.int IntKind.i64
                            (nth PV.nilp
                                (nth (RV.p PV.nilp) r.fst 0).toCs 0).toInt,
                          PV.int IntKind.i64
                            (nth PV.nilp
                                (nth (RV.p PV.nilp) r.fst 0).toCs 1).toInt,
                          PV.int IntKind.i64
                            (nth PV.nilp
                                (nth (RV.p PV.nilp) r.fst 0).toCs 2).toInt,
                          PV.int IntKind.i64
                            (nth PV.nilp
                                (nth (RV.p PV.nilp) r.fst 0).toCs 3).toInt,
                          PV.int IntKind.i64
                            (nth PV.nilp
                                (nth (RV.p PV.nilp) r.fst 0).toCs 4).toInt,
                          PV.sl 2
                            (nth PV.nilp
                                (nth (RV.p PV.nilp) r.fst 0).toCs 5).toEs]]
                    [Blk.box
                        [AV.sl 1
                            (nth PV.nilp
                                (List.map AV.toPV (nth (Blk.box []) r.snd 0).toCs) 0).toEs,
                          AV.int IntKind.i64
                            (nth PV.nilp
                                (List.map AV.toPV (nth (Blk.box []) r.snd 0).toCs) 1).toInt]])
                  fun (r_1 : Res) =>
                  ctl
                    (okR
                        [RSh.agg
                            [Sh.int IntKind.i64, Sh.int IntKind.i64, Sh.int IntKind.i64,
                              Sh.int IntKind.i64, Sh.int IntKind.i64, Sh.sl 2]]
                        r_1.fst &&
                      okB [Sum.inl [Sh.sl 1, Sh.int IntKind.i64]] r_1.snd)
                    (bnd
                      (lp E F 4 0 [] 0
                        {
                          vals :=
                            [AV.int IntKind.i64 x, AV.int IntKind.i64 y, AV.int IntKind.i64 low,
                              AV.int IntKind.i64 high, AV.int IntKind.i64 last, AV.int IntKind.i64 rate,
                              AV.agg
                                [PV.int IntKind.i64
                                    (nth PV.nilp
                                        (nth (RV.p PV.nilp) r.fst 0).toCs 0).toInt,
                                  PV.int IntKind.i64
                                    (nth PV.nilp
                                        (nth (RV.p PV.nilp) r.fst 0).toCs 1).toInt,
                                  PV.int IntKind.i64
                                    (nth PV.nilp
                                        (nth (RV.p PV.nilp) r.fst 0).toCs 2).toInt,
                                  PV.int IntKind.i64
                                    (nth PV.nilp
                                        (nth (RV.p PV.nilp) r.fst 0).toCs 3).toInt,
                                  PV.int IntKind.i64
                                    (nth PV.nilp
                                        (nth (RV.p PV.nilp) r.fst 0).toCs 4).toInt,
                                  PV.sl 2
                                    (nth PV.nilp
                                        (nth (RV.p PV.nilp) r.fst 0).toCs 5).toEs,
                                  PV.int IntKind.i64
                                    (nth PV.nilp
                                        (nth (RV.p PV.nilp) r_1.fst 0).toCs 0).toInt,
                                  PV.int IntKind.i64
                                    (nth PV.nilp
                                        (nth (RV.p PV.nilp) r_1.fst 0).toCs 1).toInt,
                                  PV.int IntKind.i64
                                    (nth PV.nilp
                                        (nth (RV.p PV.nilp) r_1.fst 0).toCs 2).toInt,
                                  PV.int IntKind.i64
                                    (nth PV.nilp
                                        (nth (RV.p PV.nilp) r_1.fst 0).toCs 3).toInt,
                                  PV.int IntKind.i64
                                    (nth PV.nilp
                                        (nth (RV.p PV.nilp) r_1.fst 0).toCs 4).toInt,
                                  PV.sl 2
                                    (nth PV.nilp
                                        (nth (RV.p PV.nilp) r_1.fst 0).toCs 5).toEs,
                                  PV.int IntKind.i64 raw0, PV.int IntKind.i64 raw1, PV.int IntKind.i64 raw2,
                                  PV.int IntKind.i64 raw3, PV.int IntKind.i64 raw4, PV.sl 2 raw5],
                              AV.int IntKind.i64 0],
                          blks :=
                            [Blk.box
                                [AV.sl 1
                                    (nth PV.nilp
                                        (List.map AV.toPV (nth (Blk.box []) r_1.snd 0).toCs) 0).toEs,
                                  AV.int IntKind.i64
                                    (nth PV.nilp
                                        (List.map AV.toPV (nth (Blk.box []) r_1.snd 0).toCs) 1).toInt]] })
                      fun (p : Ex × Pack) =>
                      ctl (p.fst.eqb (Ex.exit 0))
                        (ctl
                          (okPack
                            {
                              slots :=
                                [(4, Sum.inl (Sh.int IntKind.i64)), (5, Sum.inl (Sh.int IntKind.i64)),
                                  (6, Sum.inl (Sh.int IntKind.i64)), (7, Sum.inl (Sh.int IntKind.i64)),
                                  (17, Sum.inr (Sum.inr (AV.t (TV.ptr 0 0))))],
                              blks := [Sum.inl [Sum.inl (Sh.sl 1), Sum.inl (Sh.int IntKind.i64)]] }
                            p.snd)
                          (bnd
                            (F 11
                              [AV.t (TV.ptr 0 0), AV.int IntKind.i64 (-9),
                                AV.int IntKind.i64 9]
                              [Blk.box
                                  [AV.sl 1
                                      (nth AV.undef (nth (Blk.box []) p.snd.blks 0).toCs
                                            0).toPV.toEs,
                                    AV.int IntKind.i64
                                      (nth AV.undef (nth (Blk.box []) p.snd.blks 0).toCs
                                            1).toPV.toInt]])
                            fun (r : Res) =>
                            ctl
                              (okR [RSh.one (Sh.int IntKind.i64)] r.fst &&
                                okB [Sum.inl [Sh.sl 1, Sh.int IntKind.i64]] r.snd)
                              (bnd
                                (F 11
                                  [AV.t (TV.ptr 0 0), AV.int IntKind.i64 (-9),
                                    AV.int IntKind.i64 20]
                                  [Blk.box
                                      [AV.sl 1
                                          (nth PV.nilp
                                              (List.map AV.toPV (nth (Blk.box []) r.snd 0).toCs) 0).toEs,
                                        AV.int IntKind.i64
                                          (nth PV.nilp
                                              (List.map AV.toPV (nth (Blk.box []) r.snd 0).toCs) 1).toInt]])
                                fun (r_2 : Res) =>
                                ctl
                                  (okR [RSh.one (Sh.int IntKind.i64)] r_2.fst &&
                                    okB [Sum.inl [Sh.sl 1, Sh.int IntKind.i64]] r_2.snd)
                                  (bnd
                                    (F 11
                                      [AV.t (TV.ptr 0 0), AV.int IntKind.i64 (-30),
                                        AV.int IntKind.i64 30]
                                      [Blk.box
                                          [AV.sl 1
                                              (nth PV.nilp
                                                  (List.map AV.toPV (nth (Blk.box []) r_2.snd 0).toCs) 0).toEs,
                                            AV.int IntKind.i64
                                              (nth PV.nilp
                                                  (List.map AV.toPV (nth (Blk.box []) r_2.snd 0).toCs) 1).toInt]])
                                    fun (r_3 : Res) =>
                                    ctl
                                      (okR [RSh.one (Sh.int IntKind.i64)] r_3.fst &&
                                        okB [Sum.inl [Sh.sl 1, Sh.int IntKind.i64]] r_3.snd)
                                      (bnd
                                        (F 11
                                          [AV.t (TV.ptr 0 0), AV.int IntKind.i64 (-1),
                                            AV.int IntKind.i64 9]
                                          [Blk.box
                                              [AV.sl 1
                                                  (nth PV.nilp
                                                      (List.map AV.toPV (nth (Blk.box []) r_3.snd 0).toCs) 0).toEs,
                                                AV.int IntKind.i64
                                                  (nth PV.nilp
                                                      (List.map AV.toPV (nth (Blk.box []) r_3.snd 0).toCs) 1).toInt]])
                                        fun (r_4 : Res) =>
                                        ctl
                                          (okR [RSh.one (Sh.int IntKind.i64)] r_4.fst &&
                                            okB [Sum.inl [Sh.sl 1, Sh.int IntKind.i64]] r_4.snd)
                                          (bnd
                                            (F 19 [AV.t (TV.ptr 0 0)]
                                              [Blk.box
                                                  [AV.sl 1
                                                      (nth PV.nilp
                                                          (List.map AV.toPV (nth (Blk.box []) r_4.snd 0).toCs) 0).toEs,
                                                    AV.int IntKind.i64
                                                      (nth PV.nilp
                                                          (List.map AV.toPV (nth (Blk.box []) r_4.snd 0).toCs) 1).toInt]])
                                            fun (r_5 : Res) =>
                                            ctl
                                              (okR [RSh.one (Sh.int IntKind.i64)] r_5.fst &&
                                                okB [Sum.inl [Sh.sl 1, Sh.int IntKind.i64]] r_5.snd)
                                              (bnd
                                                (F 19 [AV.t (TV.ptr 0 0)]
                                                  [Blk.box
                                                      [AV.sl 1
                                                          (nth PV.nilp
                                                              (List.map AV.toPV (nth (Blk.box []) r_5.snd 0).toCs) 0).toEs,
                                                        AV.int IntKind.i64
                                                          (nth PV.nilp
                                                              (List.map AV.toPV (nth (Blk.box []) r_5.snd 0).toCs) 1).toInt]])
                                                fun (r_6 : Res) =>
                                                ctl
                                                  (okR [RSh.one (Sh.int IntKind.i64)] r_6.fst &&
                                                    okB [Sum.inl [Sh.sl 1, Sh.int IntKind.i64]] r_6.snd)
                                                  (bnd
                                                    (F 19 [AV.t (TV.ptr 0 0)]
                                                      [Blk.box
                                                          [AV.sl 1
                                                              (nth PV.nilp
                                                                  (List.map AV.toPV (nth (Blk.box []) r_6.snd 0).toCs) 0).toEs,
                                                            AV.int IntKind.i64
                                                              (nth PV.nilp
                                                                  (List.map AV.toPV (nth (Blk.box []) r_6.snd 0).toCs)
                                                                  1).toInt]])
                                                    fun (r_7 : Res) =>
                                                    ctl
                                                      (okR [RSh.one (Sh.int IntKind.i64)] r_7.fst &&
                                                        okB [Sum.inl [Sh.sl 1, Sh.int IntKind.i64]] r_7.snd)
                                                      (bnd
                                                        (F 19 [AV.t (TV.ptr 0 0)]
                                                          [Blk.box
                                                              [AV.sl 1
                                                                  (nth PV.nilp
                                                                      (List.map AV.toPV (nth (Blk.box []) r_7.snd 0).toCs)
                                                                      0).toEs,
                                                                AV.int IntKind.i64
                                                                  (nth PV.nilp
                                                                      (List.map AV.toPV (nth (Blk.box []) r_7.snd 0).toCs)
                                                                      1).toInt]])
                                                        fun (r_8 : Res) =>
                                                        ctl
                                                          (okR [RSh.one (Sh.int IntKind.i64)] r_8.fst &&
                                                            okB [Sum.inl [Sh.sl 1, Sh.int IntKind.i64]] r_8.snd)
                                                          (bnd
                                                            (lp E F 4 0 [] 4
                                                              {
                                                                vals :=
                                                                  [AV.agg
                                                                      [PV.int IntKind.i64
                                                                          (nth AV.undef p.snd.vals 0).toPV.toInt,
                                                                        PV.int IntKind.i64
                                                                          (nth AV.undef p.snd.vals 1).toPV.toInt,
                                                                        PV.int IntKind.i64
                                                                          (nth AV.undef p.snd.vals 2).toPV.toInt,
                                                                        PV.int IntKind.i64
                                                                          (nth AV.undef p.snd.vals 3).toPV.toInt,
                                                                        PV.int IntKind.i64
                                                                          (nth (RV.p PV.nilp) r.fst 0).toPV.toInt,
                                                                        PV.int IntKind.i64
                                                                          (nth (RV.p PV.nilp) r_2.fst 0).toPV.toInt,
                                                                        PV.int IntKind.i64
                                                                          (nth (RV.p PV.nilp) r_3.fst 0).toPV.toInt,
                                                                        PV.int IntKind.i64
                                                                          (nth (RV.p PV.nilp) r_4.fst 0).toPV.toInt,
                                                                        PV.int IntKind.i64
                                                                          (nth (RV.p PV.nilp) r_5.fst 0).toPV.toInt,
                                                                        PV.int IntKind.i64
                                                                          (nth (RV.p PV.nilp) r_6.fst 0).toPV.toInt,
                                                                        PV.int IntKind.i64
                                                                          (nth (RV.p PV.nilp) r_7.fst 0).toPV.toInt,
                                                                        PV.int IntKind.i64
                                                                          (nth (RV.p PV.nilp) r_8.fst 0).toPV.toInt],
                                                                    AV.int IntKind.i64 0],
                                                                blks := [] })
                                                            fun (p : Ex × Pack) =>
                                                            ctl (p.fst.eqb (Ex.exit 4))
                                                              (bnd (F 14 [] []) fun (r : Res) =>
                                                                ctl
                                                                  (okR [RSh.one Sh.bool] r.fst &&
                                                                    okB [] r.snd)
                                                                  (Option.some
                                                                    ([RV.p
                                                                          (PV.bool
                                                                            (nth (RV.p PV.nilp) r.fst 0).toPV.toBool)],
                                                                      []))
                                                                  Option.none)
                                                              (ctl (p.fst.eqb Ex.ret)
                                                                (ctl
                                                                  (okPack { slots := [(16, Sum.inl Sh.bool)], blks := [] } p.snd)
                                                                  (Option.some
                                                                    ([RV.p
                                                                          (PV.bool (nth AV.undef p.snd.vals 0).toPV.toBool)],
                                                                      []))
                                                                  Option.none)
                                                                Option.none))
                                                          Option.none)
                                                      Option.none)
                                                  Option.none)
                                              Option.none)
                                          Option.none)
                                      Option.none)
                                  Option.none)
                              Option.none)
                          Option.none)
                        (ctl (p.fst.eqb Ex.ret)
                          (ctl (okPack { slots := [(16, Sum.inl Sh.bool)], blks := [] } p.snd)
                            (Option.some
                              ([RV.p (PV.bool (nth AV.undef p.snd.vals 0).toPV.toBool)], []))
                            Option.none)
                          Option.none))
                    Option.none)
                Option.none)
            Option.none))
      Option.none := by kernel_rfl

end Go.Proofs.Ytldeniedmbgnaaa.Vm
