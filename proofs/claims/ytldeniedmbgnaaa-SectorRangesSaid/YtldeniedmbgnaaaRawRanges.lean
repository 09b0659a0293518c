/- The raw theorems, by program: what each function and each loop comes to. -/
import Derived.Test.YtldeniedmbgnaaaEnv
import Derived.Test.YtldeniedmbgnaaaVm34
import Derived.KernelRfl
namespace Go.Proofs.Ytldeniedmbgnaaa.Vm
open Go
set_option maxRecDepth 100000
set_option linter.unusedVariables false

/-- dynpos/dynposlaw11.SectorRanges, the loop of block 0 -/
theorem r5_0 (F : Fun) (low5 : Int) (high6 : Int) (k7 : Int) (b0_0 : List (List PV)) (b0_1 : Int) (b1_0 : Int) (b1_1 : Int) (b1_2 : Int) (b1_3 : Int) (b1_4 : Int) (b1_5 : List (List PV)) : lp E F 5 0 [] 0
  { vals := [AV.int IntKind.i64 low5, AV.int IntKind.i64 high6, AV.int IntKind.i64 k7],
    blks :=
      [Blk.box [AV.sl 1 b0_0, AV.int IntKind.i64 b0_1],
        Blk.box
          [AV.int IntKind.i64 b1_0, AV.int IntKind.i64 b1_1, AV.int IntKind.i64 b1_2,
            AV.int IntKind.i64 b1_3, AV.int IntKind.i64 b1_4, AV.sl 2 b1_5]] } =
  ctl (ltB k7 4)
    (bnd
      (F 11 [AV.t (TV.ptr 0 0), AV.int IntKind.i64 low5, AV.int IntKind.i64 high6]
        [Blk.box [AV.sl 1 b0_0, AV.int IntKind.i64 b0_1]])
      fun (r : Res) =>
      ctl
        (okR [RSh.one (Sh.int IntKind.i64)] r.fst &&
          okB [Sum.inl [Sh.sl 1, Sh.int IntKind.i64]] r.snd)
        (bnd
          (F 12
            [AV.agg
                [PV.int IntKind.i64 b1_0, PV.int IntKind.i64 b1_1, PV.int IntKind.i64 b1_2,
                  PV.int IntKind.i64 b1_3, PV.int IntKind.i64 b1_4, PV.sl 2 b1_5],
              AV.int IntKind.i64 (nth (RV.p PV.nilp) r.fst 0).toPV.toInt]
            [])
          fun (r_1 : Res) =>
          ctl
            (okR
                [RSh.one (Sh.int IntKind.i64), RSh.one (Sh.int IntKind.i64)] r_1.fst &&
              okB [] r_1.snd)
            (bnd
              (ctl
                (!ltB 0 (nth (RV.p PV.nilp) r_1.fst 0).toPV.toInt)
                (Option.some (ltB (nth (RV.p PV.nilp) r_1.fst 1).toPV.toInt 0))
                (Option.some Bool.true))
              fun (v : Bool) =>
              bnd
                (ctl (!v)
                  (bnd
                    (F 20
                      [AV.agg
                          [PV.int IntKind.i64 b1_0, PV.int IntKind.i64 b1_1, PV.int IntKind.i64 b1_2,
                            PV.int IntKind.i64 b1_3, PV.int IntKind.i64 b1_4, PV.sl 2 b1_5],
                        AV.int IntKind.i64
                          (IntKind.i64.wrap ((nth (RV.p PV.nilp) r_1.fst 0).toPV.toInt - 1)),
                        AV.int IntKind.i64 (nth (RV.p PV.nilp) r.fst 0).toPV.toInt]
                      [])
                    fun (r : Res) =>
                    ctl
                      (okR [RSh.one Sh.bool] r.fst && okB [] r.snd)
                      (Option.some (nth (RV.p PV.nilp) r.fst 0).toPV.toBool) Option.none)
                  (Option.some Bool.true))
                fun (v : Bool) =>
                bnd
                  (ctl (!v)
                    (bnd
                      (F 20
                        [AV.agg
                            [PV.int IntKind.i64 b1_0, PV.int IntKind.i64 b1_1, PV.int IntKind.i64 b1_2,
                              PV.int IntKind.i64 b1_3, PV.int IntKind.i64 b1_4, PV.sl 2 b1_5],
                          AV.int IntKind.i64
                            (IntKind.i64.wrap ((nth (RV.p PV.nilp) r_1.fst 1).toPV.toInt + 1)),
                          AV.int IntKind.i64 (nth (RV.p PV.nilp) r.fst 0).toPV.toInt]
                        [])
                      fun (r : Res) =>
                      ctl
                        (okR [RSh.one Sh.bool] r.fst && okB [] r.snd)
                        (Option.some (nth (RV.p PV.nilp) r.fst 0).toPV.toBool) Option.none)
                    (Option.some Bool.true))
                  fun (v : Bool) =>
                  bnd
                    (ctl (!v)
                      (Option.some
                        (ltB 10001
                          (IntKind.i64.wrap
                            ((nth (RV.p PV.nilp) r_1.fst 1).toPV.toInt -
                              (nth (RV.p PV.nilp) r_1.fst 0).toPV.toInt))))
                      (Option.some Bool.true))
                    fun (v : Bool) =>
                    ctl v (Option.some (Ex.ret, { vals := [AV.bool Bool.false], blks := [] }))
                      (bnd
                        (lp E F 5 0 [] 2
                          {
                            vals :=
                              [AV.int IntKind.i64 low5, AV.int IntKind.i64 high6, AV.int IntKind.i64 k7,
                                AV.int IntKind.i64 (nth (RV.p PV.nilp) r.fst 0).toPV.toInt,
                                AV.int IntKind.i64 (nth (RV.p PV.nilp) r_1.fst 1).toPV.toInt,
                                AV.int IntKind.i64 (nth (RV.p PV.nilp) r_1.fst 0).toPV.toInt],
                            blks :=
                              [Blk.box
                                  [AV.sl 1
                                      (nth PV.nilp
                                          (List.map AV.toPV (nth (Blk.box []) r.snd 0).toCs) 0).toEs,
                                    AV.int IntKind.i64
                                      (nth PV.nilp
                                          (List.map AV.toPV (nth (Blk.box []) r.snd 0).toCs) 1).toInt],
                                Blk.box
                                  [AV.int IntKind.i64 b1_0, AV.int IntKind.i64 b1_1, AV.int IntKind.i64 b1_2,
                                    AV.int IntKind.i64 b1_3, AV.int IntKind.i64 b1_4, AV.sl 2 b1_5]] })
                        fun (p : Ex × Pack) =>
                        ctl (p.fst.eqb (Ex.exit 2))
                          (ctl
                            (okPack
                              {
                                slots :=
                                  [(3, Sum.inr (Sum.inr (AV.t (TV.ptr 0 0)))),
                                    (4, Sum.inr (Sum.inr (AV.t (TV.ptr 1 0)))), (5, Sum.inl (Sh.int IntKind.i64)),
                                    (6, Sum.inl (Sh.int IntKind.i64)), (7, Sum.inl (Sh.int IntKind.i64))],
                                blks :=
                                  [Sum.inl [Sum.inl (Sh.sl 1), Sum.inl (Sh.int IntKind.i64)],
                                    Sum.inl
                                      [Sum.inl (Sh.int IntKind.i64), Sum.inl (Sh.int IntKind.i64),
                                        Sum.inl (Sh.int IntKind.i64), Sum.inl (Sh.int IntKind.i64),
                                        Sum.inl (Sh.int IntKind.i64), Sum.inl (Sh.sl 2)]] }
                              p.snd)
                            (lp E F 5 0 [] 0
                              {
                                vals :=
                                  [AV.int IntKind.i64 (nth AV.undef p.snd.vals 0).toPV.toInt,
                                    AV.int IntKind.i64 (nth AV.undef p.snd.vals 1).toPV.toInt,
                                    AV.int IntKind.i64 (IntKind.i64.wrap ((nth AV.undef p.snd.vals 2).toPV.toInt + 1))],
                                blks :=
                                  [Blk.box
                                      [AV.sl 1
                                          (nth AV.undef (nth (Blk.box []) p.snd.blks 0).toCs
                                                0).toPV.toEs,
                                        AV.int IntKind.i64
                                          (nth AV.undef (nth (Blk.box []) p.snd.blks 0).toCs
                                                1).toPV.toInt],
                                    Blk.box
                                      [AV.int IntKind.i64
                                          (nth AV.undef (nth (Blk.box []) p.snd.blks 1).toCs
                                                0).toPV.toInt,
                                        AV.int IntKind.i64
                                          (nth AV.undef (nth (Blk.box []) p.snd.blks 1).toCs
                                                1).toPV.toInt,
                                        AV.int IntKind.i64
                                          (nth AV.undef (nth (Blk.box []) p.snd.blks 1).toCs
                                                2).toPV.toInt,
                                        AV.int IntKind.i64
                                          (nth AV.undef (nth (Blk.box []) p.snd.blks 1).toCs
                                                3).toPV.toInt,
                                        AV.int IntKind.i64
                                          (nth AV.undef (nth (Blk.box []) p.snd.blks 1).toCs
                                                4).toPV.toInt,
                                        AV.sl 2
                                          (nth AV.undef (nth (Blk.box []) p.snd.blks 1).toCs
                                                5).toPV.toEs]] })
                            Option.none)
                          (ctl (p.fst.eqb Ex.ret)
                            (ctl (okPack { slots := [(2, Sum.inl Sh.bool)], blks := [] } p.snd)
                              (Option.some
                                (Ex.ret,
                                  { vals := [AV.bool (nth AV.undef p.snd.vals 0).toPV.toBool], blks := [] }))
                              Option.none)
                            Option.none)))
            Option.none)
        Option.none)
    (Option.some (Ex.exit 0, { vals := [], blks := [] })) := (lp_unfold ..).trans (by kernel_rfl)

/-- dynpos/dynposlaw11.SectorRanges, the loop of block 2 -/
theorem r5_2 (F : Fun) (low5 : Int) (high6 : Int) (k7 : Int) (y8 : Int) (b10 : Int) (x11 : Int) (b0_0 : List (List PV)) (b0_1 : Int) (b1_0 : Int) (b1_1 : Int) (b1_2 : Int) (b1_3 : Int) (b1_4 : Int) (b1_5 : List (List PV)) : lp E F 5 0 [] 2
  {
    vals :=
      [AV.int IntKind.i64 low5, AV.int IntKind.i64 high6, AV.int IntKind.i64 k7,
        AV.int IntKind.i64 y8, AV.int IntKind.i64 b10, AV.int IntKind.i64 x11],
    blks :=
      [Blk.box [AV.sl 1 b0_0, AV.int IntKind.i64 b0_1],
        Blk.box
          [AV.int IntKind.i64 b1_0, AV.int IntKind.i64 b1_1, AV.int IntKind.i64 b1_2,
            AV.int IntKind.i64 b1_3, AV.int IntKind.i64 b1_4, AV.sl 2 b1_5]] } =
  ctl (leB x11 b10)
    (bnd
      (F 20
        [AV.agg
            [PV.int IntKind.i64 b1_0, PV.int IntKind.i64 b1_1, PV.int IntKind.i64 b1_2,
              PV.int IntKind.i64 b1_3, PV.int IntKind.i64 b1_4, PV.sl 2 b1_5],
          AV.int IntKind.i64 x11, AV.int IntKind.i64 y8]
        [])
      fun (r : Res) =>
      ctl (okR [RSh.one Sh.bool] r.fst && okB [] r.snd)
        (bnd
          (ctl (!!(nth (RV.p PV.nilp) r.fst 0).toPV.toBool)
            (Option.some (ltB (IntKind.i64.wrap (b1_2 * b1_2)) (IntKind.i64.wrap (IntKind.i64.wrap (x11 * x11) + IntKind.i64.wrap (y8 * y8))))) (Option.some Bool.true))
          fun (v : Bool) =>
          ctl v (Option.some (Ex.ret, { vals := [AV.bool Bool.false], blks := [] }))
            (lp E F 5 0 [] 2
              {
                vals :=
                  [AV.int IntKind.i64 low5, AV.int IntKind.i64 high6, AV.int IntKind.i64 k7,
                    AV.int IntKind.i64 y8, AV.int IntKind.i64 b10, AV.int IntKind.i64 (IntKind.i64.wrap (x11 + 1))],
                blks :=
                  [Blk.box [AV.sl 1 b0_0, AV.int IntKind.i64 b0_1],
                    Blk.box
                      [AV.int IntKind.i64 b1_0, AV.int IntKind.i64 b1_1, AV.int IntKind.i64 b1_2,
                        AV.int IntKind.i64 b1_3, AV.int IntKind.i64 b1_4, AV.sl 2 b1_5]] }))
        Option.none)
    (Option.some
      (Ex.exit 2,
        { vals := [AV.int IntKind.i64 low5, AV.int IntKind.i64 high6, AV.int IntKind.i64 k7],
          blks :=
            [Blk.box [AV.sl 1 b0_0, AV.int IntKind.i64 b0_1],
              Blk.box
                [AV.int IntKind.i64 b1_0, AV.int IntKind.i64 b1_1, AV.int IntKind.i64 b1_2,
                  AV.int IntKind.i64 b1_3, AV.int IntKind.i64 b1_4, AV.sl 2 b1_5]] })) := (lp_unfold ..).trans (by kernel_rfl)

/-- dynpos/dynposlaw11.SectorRanges -/
theorem r5 (F : Fun) (t : List (List PV)) : funK E F 5 [AV.sl 1 t] [] =
  bnd (F 8 [AV.sl 1 t] []) fun (r : Res) =>
    ctl
      (okR [RSh.ownp [Sh.sl 1, Sh.int IntKind.i64]] r.fst &&
        okB [] r.snd)
      (bnd
        (F 9 [AV.t (TV.ptr 0 0)]
          [Blk.box
              [AV.sl 1
                  (nth PV.nilp (nth (RV.p PV.nilp) r.fst 0).toCs
                      0).toEs,
                AV.int IntKind.i64
                  (nth PV.nilp (nth (RV.p PV.nilp) r.fst 0).toCs
                      1).toInt]])
        fun (r : Res) =>
        ctl
          (okR
              [RSh.agg
                  [Sh.int IntKind.i64, Sh.int IntKind.i64, Sh.int IntKind.i64,
                    Sh.int IntKind.i64, Sh.int IntKind.i64, Sh.sl 2]]
              r.fst &&
            okB [Sum.inl [Sh.sl 1, Sh.int IntKind.i64]] r.snd)
          (bnd
            (F 10
              [AV.agg
                  [PV.int IntKind.i64
                      (nth PV.nilp
                          (nth (RV.p PV.nilp) r.fst 0).toCs 0).toInt,
                    PV.int IntKind.i64
                      (nth PV.nilp
                          (nth (RV.p PV.nilp) r.fst 0).toCs 1).toInt,
                    PV.int IntKind.i64
                      (nth PV.nilp
                          (nth (RV.p PV.nilp) r.fst 0).toCs 2).toInt,
                    PV.int IntKind.i64
                      (nth PV.nilp
                          (nth (RV.p PV.nilp) r.fst 0).toCs 3).toInt,
                    PV.int IntKind.i64
                      (nth PV.nilp
                          (nth (RV.p PV.nilp) r.fst 0).toCs 4).toInt,
                    PV.sl 2
                      (nth PV.nilp
                          (nth (RV.p PV.nilp) r.fst 0).toCs 5).toEs]]
              [])
            fun (r_1 : Res) =>
            ctl
              (okR
                  [RSh.one (Sh.int IntKind.i64), RSh.one (Sh.int IntKind.i64)] r_1.fst &&
                okB [] r_1.snd)
              (bnd
                (ctl
                  (!ltB 0 (nth (RV.p PV.nilp) r_1.fst 0).toPV.toInt)
                  (Option.some (ltB (nth (RV.p PV.nilp) r_1.fst 1).toPV.toInt 0))
                  (Option.some Bool.true))
                fun (v : Bool) =>
                bnd
                  (ctl (!v)
                    (bnd
                      (F 20
                        [AV.agg
                            [PV.int IntKind.i64
                                (nth PV.nilp
                                    (nth (RV.p PV.nilp) r.fst 0).toCs 0).toInt,
                              PV.int IntKind.i64
                                (nth PV.nilp
                                    (nth (RV.p PV.nilp) r.fst 0).toCs 1).toInt,
                              PV.int IntKind.i64
                                (nth PV.nilp
                                    (nth (RV.p PV.nilp) r.fst 0).toCs 2).toInt,
                              PV.int IntKind.i64
                                (nth PV.nilp
                                    (nth (RV.p PV.nilp) r.fst 0).toCs 3).toInt,
                              PV.int IntKind.i64
                                (nth PV.nilp
                                    (nth (RV.p PV.nilp) r.fst 0).toCs 4).toInt,
                              PV.sl 2
                                (nth PV.nilp
                                    (nth (RV.p PV.nilp) r.fst 0).toCs 5).toEs],
                          AV.int IntKind.i64 0,
                          AV.int IntKind.i64
                            (IntKind.i64.wrap ((nth (RV.p PV.nilp) r_1.fst 0).toPV.toInt - 1))]
                        [])
                      fun (r : Res) =>
                      ctl
                        (okR [RSh.one Sh.bool] r.fst && okB [] r.snd)
                        (Option.some (nth (RV.p PV.nilp) r.fst 0).toPV.toBool) Option.none)
                    (Option.some Bool.true))
                  fun (v : Bool) =>
                  bnd
                    (ctl (!v)
                      (bnd
                        (F 20
                          [AV.agg
                              [PV.int IntKind.i64
                                  (nth PV.nilp
                                      (nth (RV.p PV.nilp) r.fst 0).toCs 0).toInt,
                                PV.int IntKind.i64
                                  (nth PV.nilp
                                      (nth (RV.p PV.nilp) r.fst 0).toCs 1).toInt,
                                PV.int IntKind.i64
                                  (nth PV.nilp
                                      (nth (RV.p PV.nilp) r.fst 0).toCs 2).toInt,
                                PV.int IntKind.i64
                                  (nth PV.nilp
                                      (nth (RV.p PV.nilp) r.fst 0).toCs 3).toInt,
                                PV.int IntKind.i64
                                  (nth PV.nilp
                                      (nth (RV.p PV.nilp) r.fst 0).toCs 4).toInt,
                                PV.sl 2
                                  (nth PV.nilp
                                      (nth (RV.p PV.nilp) r.fst 0).toCs 5).toEs],
                            AV.int IntKind.i64 0,
                            AV.int IntKind.i64
                              (IntKind.i64.wrap ((nth (RV.p PV.nilp) r_1.fst 1).toPV.toInt + 1))]
                          [])
                        fun (r : Res) =>
                        ctl
                          (okR [RSh.one Sh.bool] r.fst && okB [] r.snd)
                          (Option.some (nth (RV.p PV.nilp) r.fst 0).toPV.toBool) Option.none)
                      (Option.some Bool.true))
                    fun (v : Bool) =>
                    ctl v (Option.some ([RV.p (PV.bool Bool.false)], []))
                      (bnd
                        (lp E F 5 0 [] 0
                          {
                            vals :=
                              [AV.int IntKind.i64 (nth (RV.p PV.nilp) r_1.fst 0).toPV.toInt,
                                AV.int IntKind.i64 (nth (RV.p PV.nilp) r_1.fst 1).toPV.toInt,
                                AV.int IntKind.i64 0],
                            blks :=
                              [Blk.box
                                  [AV.sl 1
                                      (nth PV.nilp
                                          (List.map AV.toPV (nth (Blk.box []) r.snd 0).toCs) 0).toEs,
                                    AV.int IntKind.i64
                                      (nth PV.nilp
                                          (List.map AV.toPV (nth (Blk.box []) r.snd 0).toCs) 1).toInt],
                                Blk.box
                                  [AV.int IntKind.i64
                                      (nth PV.nilp
                                          (nth (RV.p PV.nilp) r.fst 0).toCs 0).toInt,
                                    AV.int IntKind.i64
                                      (nth PV.nilp
                                          (nth (RV.p PV.nilp) r.fst 0).toCs 1).toInt,
                                    AV.int IntKind.i64
                                      (nth PV.nilp
                                          (nth (RV.p PV.nilp) r.fst 0).toCs 2).toInt,
                                    AV.int IntKind.i64
                                      (nth PV.nilp
                                          (nth (RV.p PV.nilp) r.fst 0).toCs 3).toInt,
                                    AV.int IntKind.i64
                                      (nth PV.nilp
                                          (nth (RV.p PV.nilp) r.fst 0).toCs 4).toInt,
                                    AV.sl 2
                                      (nth PV.nilp
                                          (nth (RV.p PV.nilp) r.fst 0).toCs 5).toEs]] })
                        fun (p : Ex × Pack) =>
                        ctl (p.fst.eqb (Ex.exit 0))
                          (bnd (F 14 [] []) fun (r : Res) =>
                            ctl
                              (okR [RSh.one Sh.bool] r.fst && okB [] r.snd)
                              (Option.some
                                ([RV.p
                                      (PV.bool (nth (RV.p PV.nilp) r.fst 0).toPV.toBool)],
                                  []))
                              Option.none)
                          (ctl (p.fst.eqb Ex.ret)
                            (ctl (okPack { slots := [(2, Sum.inl Sh.bool)], blks := [] } p.snd)
                              (Option.some
                                ([RV.p (PV.bool (nth AV.undef p.snd.vals 0).toPV.toBool)], []))
                              Option.none)
                            Option.none)))
              Option.none)
          Option.none)
      Option.none := by kernel_rfl

end Go.Proofs.Ytldeniedmbgnaaa.Vm
