/- The raw theorems, by program: what each function and each loop comes to. -/
import Derived.Test.YtaekifnmofjhhaaEnv
import Derived.Test.YtaekifnmofjhhaaVm34
import Derived.KernelRfl
namespace Go.Proofs.Ytaekifnmofjhhaa.Vm
open Go
set_option maxRecDepth 100000
set_option linter.unusedVariables false

/-- dynpos/dynposlaw25.CapabilityWithout, the loop of block 0 -/
theorem r5_0 (F : Fun) (a5 : List (List PV)) (l6 : List (List PV)) (b7 : List (List PV)) (x40 : Int) (x41 : Int) (b0_0 : List (List PV)) (b0_1 : Int) (b1_0 : Int) (b1_1 : Int) (b1_2 : List (List PV)) : lp E F 5 0 [] 0
  {
    vals :=
      [AV.sl 1 a5, AV.sl 1 l6, AV.sl 1 b7, AV.int IntKind.i64 x40,
        AV.int IntKind.i64 x41],
    blks :=
      [Blk.box [AV.sl 1 b0_0, AV.int IntKind.i64 b0_1],
        Blk.box [AV.int IntKind.i64 b1_0, AV.int IntKind.i64 b1_1, AV.sl 6 b1_2]] } =
  ctl (ltB x41 x40)
    (getE a5 x41 fun (c : List PV) =>
      ctl (okCs [Sh.int IntKind.i64] c)
        (bnd (F 20 [AV.sl 1 l6, AV.int IntKind.i64 x41] []) fun (r : Res) =>
          ctl (okR [RSh.one Sh.bool] r.fst && okB [] r.snd)
            (bnd
              (ctl (nth (RV.p PV.nilp) r.fst 0).toPV.toBool
                (getE b7 x41 fun (c : List PV) =>
                  ctl (okCs [Sh.int IntKind.i64] c)
                    (Option.some ((nth PV.nilp c 0).toInt != 0)) Option.none)
                (Option.some Bool.false))
              fun (v : Bool) =>
              bnd
                (ctl (!v)
                  (bnd (F 20 [AV.sl 1 l6, AV.int IntKind.i64 x41] []) fun (r : Res) =>
                    ctl
                      (okR [RSh.one Sh.bool] r.fst && okB [] r.snd)
                      (ctl (!(nth (RV.p PV.nilp) r.fst 0).toPV.toBool)
                        (getE b7 x41 fun (c_1 : List PV) =>
                          ctl (okCs [Sh.int IntKind.i64] c_1)
                            (Option.some ((nth PV.nilp c_1 0).toInt != (nth PV.nilp c 0).toInt))
                            Option.none)
                        (Option.some Bool.false))
                      Option.none)
                  (Option.some Bool.true))
                fun (v : Bool) =>
                ctl v (Option.some (Ex.ret, { vals := [AV.bool Bool.false], blks := [] }))
                  (lp E F 5 0 [] 0
                    {
                      vals :=
                        [AV.sl 1 a5, AV.sl 1 l6, AV.sl 1 b7, AV.int IntKind.i64 x40,
                          AV.int IntKind.i64 (IntKind.i64.wrap (x41 + 1))],
                      blks :=
                        [Blk.box [AV.sl 1 b0_0, AV.int IntKind.i64 b0_1],
                          Blk.box
                            [AV.int IntKind.i64 b1_0, AV.int IntKind.i64 b1_1, AV.sl 6 b1_2]] }))
            Option.none)
        Option.none)
    (Option.some
      (Ex.exit 0,
        { vals := [AV.sl 1 a5, AV.sl 1 l6, AV.sl 1 b7],
          blks :=
            [Blk.box [AV.sl 1 b0_0, AV.int IntKind.i64 b0_1],
              Blk.box [AV.int IntKind.i64 b1_0, AV.int IntKind.i64 b1_1, AV.sl 6 b1_2]] })) := (lp_unfold ..).trans (by kernel_rfl)

/-- dynpos/dynposlaw25.CapabilityWithout -/
theorem r5 (F : Fun) (t : List (List PV)) : funK E F 5 [AV.sl 1 t] [] =
  ctl (ltB 600 (↑t.length : Int))
    (bnd (F 8 [] []) fun (r : Res) =>
      ctl (okR [RSh.one Sh.bool] r.fst && okB [] r.snd)
        (Option.some
          ([RV.p
                (PV.bool (nth (RV.p PV.nilp) r.fst 0).toPV.toBool)],
            []))
        Option.none)
    (bnd (F 9 [AV.sl 1 t] []) fun (r : Res) =>
      ctl
        (okR [RSh.ownp [Sh.sl 1, Sh.int IntKind.i64]] r.fst &&
          okB [] r.snd)
        (bnd
          (F 10 [AV.t (TV.ptr 0 0), AV.int IntKind.i64 3]
            [Blk.box
                [AV.sl 1
                    (nth PV.nilp (nth (RV.p PV.nilp) r.fst 0).toCs
                        0).toEs,
                  AV.int IntKind.i64
                    (nth PV.nilp (nth (RV.p PV.nilp) r.fst 0).toCs
                        1).toInt]])
          fun (r : Res) =>
          ctl
            (okR
                [RSh.agg [Sh.int IntKind.i64, Sh.int IntKind.i64, Sh.sl 6]] r.fst &&
              okB [Sum.inl [Sh.sl 1, Sh.int IntKind.i64]] r.snd)
            (bnd
              (F 11
                [AV.t (TV.ptr 0 0),
                  AV.agg
                    [PV.int IntKind.i64
                        (nth PV.nilp
                            (nth (RV.p PV.nilp) r.fst 0).toCs 0).toInt,
                      PV.int IntKind.i64
                        (nth PV.nilp
                            (nth (RV.p PV.nilp) r.fst 0).toCs 1).toInt,
                      PV.sl 6
                        (nth PV.nilp
                            (nth (RV.p PV.nilp) r.fst 0).toCs 2).toEs]]
                [Blk.box
                    [AV.sl 1
                        (nth PV.nilp
                            (List.map AV.toPV (nth (Blk.box []) r.snd 0).toCs) 0).toEs,
                      AV.int IntKind.i64
                        (nth PV.nilp
                            (List.map AV.toPV (nth (Blk.box []) r.snd 0).toCs) 1).toInt]])
              fun (r_1 : Res) =>
              ctl
                (okR [RSh.one (Sh.sl 1)] r_1.fst &&
                  okB [Sum.inl [Sh.sl 1, Sh.int IntKind.i64]] r_1.snd)
                (bnd
                  (F 18
                    [AV.t (TV.ptr 0 0),
                      AV.int IntKind.i64
                        (↑(nth (RV.p PV.nilp) r_1.fst 0).toPV.toEs.length : Int),
                      AV.int IntKind.i64 2]
                    [Blk.box
                        [AV.sl 1
                            (nth PV.nilp
                                (List.map AV.toPV (nth (Blk.box []) r_1.snd 0).toCs) 0).toEs,
                          AV.int IntKind.i64
                            (nth PV.nilp
                                (List.map AV.toPV (nth (Blk.box []) r_1.snd 0).toCs) 1).toInt]])
                  fun (r_2 : Res) =>
                  ctl
                    (okR [RSh.one (Sh.sl 1)] r_2.fst &&
                      okB [Sum.inl [Sh.sl 1, Sh.int IntKind.i64]] r_2.snd)
                    (bnd
                      (F 19
                        [AV.sl 1 (nth (RV.p PV.nilp) r_1.fst 0).toPV.toEs,
                          AV.sl 1 (nth (RV.p PV.nilp) r_2.fst 0).toPV.toEs]
                        [])
                      fun (r_3 : Res) =>
                      ctl
                        (okR [RSh.one (Sh.sl 1)] r_3.fst && okB [] r_3.snd)
                        (ctl
                          ((↑(nth (RV.p PV.nilp) r_3.fst 0).toPV.toEs.length : Int) !=
                            (↑(nth (RV.p PV.nilp) r_1.fst 0).toPV.toEs.length : Int))
                          (Option.some ([RV.p (PV.bool Bool.false)], []))
                          (bnd
                            (lp E F 5 0 [] 0
                              {
                                vals :=
                                  [AV.sl 1 (nth (RV.p PV.nilp) r_1.fst 0).toPV.toEs,
                                    AV.sl 1 (nth (RV.p PV.nilp) r_2.fst 0).toPV.toEs,
                                    AV.sl 1 (nth (RV.p PV.nilp) r_3.fst 0).toPV.toEs,
                                    AV.int IntKind.i64
                                      (↑(nth (RV.p PV.nilp) r_1.fst 0).toPV.toEs.length : Int),
                                    AV.int IntKind.i64 0],
                                blks :=
                                  [Blk.box
                                      [AV.sl 1
                                          (nth PV.nilp
                                              (List.map AV.toPV (nth (Blk.box []) r_2.snd 0).toCs) 0).toEs,
                                        AV.int IntKind.i64
                                          (nth PV.nilp
                                              (List.map AV.toPV (nth (Blk.box []) r_2.snd 0).toCs) 1).toInt],
                                    Blk.box
                                      [AV.int IntKind.i64
                                          (nth PV.nilp
                                              (nth (RV.p PV.nilp) r.fst 0).toCs 0).toInt,
                                        AV.int IntKind.i64
                                          (nth PV.nilp
                                              (nth (RV.p PV.nilp) r.fst 0).toCs 1).toInt,
                                        AV.sl 6
                                          (nth PV.nilp
                                              (nth (RV.p PV.nilp) r.fst 0).toCs 2).toEs]] })
                            fun (p : Ex × Pack) =>
                            ctl (p.fst.eqb (Ex.exit 0))
                              (ctl
                                (okPack
                                  {
                                    slots :=
                                      [(3, Sum.inr (Sum.inr (AV.t (TV.ptr 0 0)))),
                                        (4, Sum.inr (Sum.inr (AV.t (TV.ptr 1 0)))), (5, Sum.inl (Sh.sl 1)),
                                        (6, Sum.inl (Sh.sl 1)), (7, Sum.inl (Sh.sl 1))],
                                    blks :=
                                      [Sum.inl [Sum.inl (Sh.sl 1), Sum.inl (Sh.int IntKind.i64)],
                                        Sum.inl
                                          [Sum.inl (Sh.int IntKind.i64), Sum.inl (Sh.int IntKind.i64),
                                            Sum.inl (Sh.sl 6)]] }
                                  p.snd)
                                (bnd
                                  (F 12 [AV.t (TV.ptr 0 0)]
                                    [Blk.box
                                        [AV.sl 1
                                            (nth AV.undef (nth (Blk.box []) p.snd.blks 0).toCs
                                                  0).toPV.toEs,
                                          AV.int IntKind.i64
                                            (nth AV.undef (nth (Blk.box []) p.snd.blks 0).toCs
                                                  1).toPV.toInt]])
                                  fun (r : Res) =>
                                  ctl
                                    (okR
                                        [RSh.agg
                                            [Sh.int IntKind.i64, Sh.int IntKind.i64, Sh.int IntKind.i64]]
                                        r.fst &&
                                      okB [Sum.inl [Sh.sl 1, Sh.int IntKind.i64]] r.snd)
                                    (bnd
                                      (F 19
                                        [AV.sl 1 (nth AV.undef p.snd.vals 0).toPV.toEs,
                                          AV.sl 1
                                            [[PV.int IntKind.i64 0], [PV.int IntKind.i64 1], [PV.int IntKind.i64 2]]]
                                        [])
                                      fun (r_4 : Res) =>
                                      ctl
                                        (okR [RSh.one (Sh.sl 1)] r_4.fst && okB [] r_4.snd)
                                        (bnd
                                          (F 16
                                            [AV.agg
                                                [PV.int IntKind.i64
                                                    (nth AV.undef
                                                          (nth (Blk.box []) p.snd.blks 1).toCs 0).toPV.toInt,
                                                  PV.int IntKind.i64
                                                    (nth AV.undef
                                                          (nth (Blk.box []) p.snd.blks 1).toCs 1).toPV.toInt,
                                                  PV.sl 6
                                                    (nth AV.undef
                                                          (nth (Blk.box []) p.snd.blks 1).toCs 2).toPV.toEs],
                                              AV.agg
                                                [PV.int IntKind.i64
                                                    (nth PV.nilp
                                                        (nth (RV.p PV.nilp) r.fst 0).toCs 0).toInt,
                                                  PV.int IntKind.i64
                                                    (nth PV.nilp
                                                        (nth (RV.p PV.nilp) r.fst 0).toCs 1).toInt,
                                                  PV.int IntKind.i64
                                                    (nth PV.nilp
                                                        (nth (RV.p PV.nilp) r.fst 0).toCs 2).toInt]]
                                            [])
                                          fun (r_5 : Res) =>
                                          ctl
                                            (okR
                                                [RSh.agg
                                                    [Sh.int IntKind.i64, Sh.int IntKind.i64, Sh.int IntKind.i64],
                                                  RSh.one (Sh.int IntKind.i64)]
                                                r_5.fst &&
                                              okB [] r_5.snd)
                                            (bnd
                                              (F 17
                                                [AV.agg
                                                    [PV.int IntKind.i64
                                                        (nth AV.undef
                                                              (nth (Blk.box []) p.snd.blks 1).toCs 0).toPV.toInt,
                                                      PV.int IntKind.i64
                                                        (nth AV.undef
                                                              (nth (Blk.box []) p.snd.blks 1).toCs 1).toPV.toInt,
                                                      PV.sl 6
                                                        (nth AV.undef
                                                              (nth (Blk.box []) p.snd.blks 1).toCs 2).toPV.toEs],
                                                  AV.sl 1
                                                    (nth (RV.p PV.nilp) r_4.fst 0).toPV.toEs,
                                                  AV.agg
                                                    [PV.int IntKind.i64
                                                        (nth PV.nilp
                                                            (nth (RV.p PV.nilp) r.fst 0).toCs 0).toInt,
                                                      PV.int IntKind.i64
                                                        (nth PV.nilp
                                                            (nth (RV.p PV.nilp) r.fst 0).toCs 1).toInt,
                                                      PV.int IntKind.i64
                                                        (nth PV.nilp
                                                            (nth (RV.p PV.nilp) r.fst 0).toCs 2).toInt]]
                                                [])
                                              fun (r : Res) =>
                                              ctl
                                                (okR
                                                    [RSh.agg
                                                        [Sh.int IntKind.i64, Sh.int IntKind.i64, Sh.int IntKind.i64],
                                                      RSh.one (Sh.int IntKind.i64)]
                                                    r.fst &&
                                                  okB [] r.snd)
                                                (bnd
                                                  (ctl
                                                    ((nth (RV.p PV.nilp) r_5.fst 1).toPV.toInt == 0)
                                                    (Option.some ((nth (RV.p PV.nilp) r.fst 1).toPV.toInt == 0))
                                                    (Option.some Bool.false))
                                                  fun (v : Bool) =>
                                                  bnd
                                                    (ctl v
                                                      (Option.some
                                                        ((nth PV.nilp
                                                                (nth (RV.p PV.nilp) r.fst 0).toCs 0).toInt ==
                                                            (nth PV.nilp
                                                                (nth (RV.p PV.nilp) r_5.fst 0).toCs 0).toInt &&
                                                          ((nth PV.nilp
                                                                  (nth (RV.p PV.nilp) r.fst 0).toCs 1).toInt ==
                                                              (nth PV.nilp
                                                                  (nth (RV.p PV.nilp) r_5.fst 0).toCs 1).toInt &&
                                                            ((nth PV.nilp
                                                                    (nth (RV.p PV.nilp) r.fst 0).toCs 2).toInt ==
                                                                (nth PV.nilp
                                                                    (nth (RV.p PV.nilp) r_5.fst 0).toCs 2).toInt &&
                                                              Bool.true))))
                                                      (Option.some Bool.false))
                                                    fun (v : Bool) =>
                                                    ctl v
                                                      (bnd
                                                        (F 19
                                                          [AV.sl 1 (nth AV.undef p.snd.vals 2).toPV.toEs,
                                                            AV.sl 1 (nth AV.undef p.snd.vals 1).toPV.toEs]
                                                          [])
                                                        fun (r : Res) =>
                                                        ctl
                                                          (okR [RSh.one (Sh.sl 1)] r.fst &&
                                                            okB [] r.snd)
                                                          (bnd
                                                            (bnd
                                                              (F 21
                                                                [AV.sl 1
                                                                    (nth (RV.p PV.nilp) r.fst 0).toPV.toEs,
                                                                  AV.sl 1 (nth AV.undef p.snd.vals 2).toPV.toEs]
                                                                [])
                                                              fun (r : Res) =>
                                                              ctl
                                                                (okR [RSh.one Sh.bool] r.fst &&
                                                                  okB [] r.snd)
                                                                (Option.some (nth (RV.p PV.nilp) r.fst 0).toPV.toBool)
                                                                Option.none)
                                                            fun (v : Bool) =>
                                                            bnd
                                                              (ctl v
                                                                (bnd (F 8 [] []) fun (r : Res) =>
                                                                  ctl
                                                                    (okR [RSh.one Sh.bool] r.fst &&
                                                                      okB [] r.snd)
                                                                    (Option.some (nth (RV.p PV.nilp) r.fst 0).toPV.toBool)
                                                                    Option.none)
                                                                (Option.some Bool.false))
                                                              fun (v : Bool) => Option.some ([RV.p (PV.bool v)], []))
                                                          Option.none)
                                                      (Option.some ([RV.p (PV.bool Bool.false)], [])))
                                                Option.none)
                                            Option.none)
                                        Option.none)
                                    Option.none)
                                Option.none)
                              (ctl (p.fst.eqb Ex.ret)
                                (ctl (okPack { slots := [(2, Sum.inl Sh.bool)], blks := [] } p.snd)
                                  (Option.some
                                    ([RV.p (PV.bool (nth AV.undef p.snd.vals 0).toPV.toBool)],
                                      []))
                                  Option.none)
                                Option.none)))
                        Option.none)
                    Option.none)
                Option.none)
            Option.none)
        Option.none) := by kernel_rfl

end Go.Proofs.Ytaekifnmofjhhaa.Vm
