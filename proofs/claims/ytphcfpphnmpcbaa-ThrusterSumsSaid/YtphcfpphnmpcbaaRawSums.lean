/- The raw theorems, by program: what each function and each loop comes to. -/
import Derived.Test.YtphcfpphnmpcbaaEnv
import Derived.Test.YtphcfpphnmpcbaaVm34
import Derived.KernelRfl
namespace Go.Proofs.Ytphcfpphnmpcbaa.Vm
open Go
set_option maxRecDepth 100000
set_option linter.unusedVariables false

/-- dynpos/dynposlaw12.ThrusterSums, the loop of block 0 -/
theorem r5_0 (F : Fun) (l5 : List (List PV)) (x25 : List (List PV)) (x26 : Int) (x27 : Int) (b0_0 : Int) (b0_1 : Int) (b0_2 : List (List PV)) (c1 : List (List PV)) (b2_0 : Int) (b2_1 : Int) (b2_2 : Int) : lp E F 5 0 [] 0
  { vals := [AV.sl 2 l5, AV.sl 2 x25, AV.int IntKind.i64 x26, AV.int IntKind.i64 x27],
    blks :=
      [Blk.box [AV.int IntKind.i64 b0_0, AV.int IntKind.i64 b0_1, AV.sl 6 b0_2],
        Blk.arr 2 c1,
        Blk.box
          [AV.int IntKind.i64 b2_0, AV.int IntKind.i64 b2_1, AV.int IntKind.i64 b2_2]] } =
  ctl (ltB x27 x26)
    (getE x25 x27 fun (c : List PV) =>
      ctl (okCs [Sh.int IntKind.i64, Sh.int IntKind.i64] c)
        (ctl (leN ((c1.length + 1) * 16) 140737488355328)
          (getE b0_2 x27 fun (c_1 : List PV) =>
            ctl
              (okCs
                [Sh.int IntKind.i64, Sh.int IntKind.i64, Sh.int IntKind.i64,
                  Sh.int IntKind.i64, Sh.int IntKind.i64, Sh.sl 2]
                c_1)
              (ctl ((nth PV.nilp c_1 1).toInt == 1)
                (lp E F 5 0 [] 0
                  {
                    vals :=
                      [AV.sl 2 l5, AV.sl 2 x25, AV.int IntKind.i64 x26,
                        AV.int IntKind.i64 (IntKind.i64.wrap (x27 + 1))],
                    blks :=
                      [Blk.box
                          [AV.int IntKind.i64 b0_0, AV.int IntKind.i64 b0_1, AV.sl 6 b0_2],
                        Blk.arr 2
                          (c1 ++
                            [[PV.int IntKind.i64 (IntKind.i64.wrap (0 - (nth PV.nilp c 0).toInt)),
                                PV.int IntKind.i64 (IntKind.i64.wrap (0 - (nth PV.nilp c 1).toInt))]]),
                        Blk.box
                          [AV.int IntKind.i64 (IntKind.i64.wrap (b2_0 + (nth PV.nilp c 0).toInt)),
                            AV.int IntKind.i64 (IntKind.i64.wrap (b2_1 + (nth PV.nilp c 1).toInt)),
                            AV.int IntKind.i64
                              (IntKind.i64.wrap (b2_2 + IntKind.i64.wrap (IntKind.i64.wrap (0 - b0_1) * (nth PV.nilp c 1).toInt)))]] })
                (lp E F 5 0 [] 0
                  {
                    vals :=
                      [AV.sl 2 l5, AV.sl 2 x25, AV.int IntKind.i64 x26,
                        AV.int IntKind.i64 (IntKind.i64.wrap (x27 + 1))],
                    blks :=
                      [Blk.box
                          [AV.int IntKind.i64 b0_0, AV.int IntKind.i64 b0_1, AV.sl 6 b0_2],
                        Blk.arr 2
                          (c1 ++
                            [[PV.int IntKind.i64 (IntKind.i64.wrap (0 - (nth PV.nilp c 0).toInt)),
                                PV.int IntKind.i64 (IntKind.i64.wrap (0 - (nth PV.nilp c 1).toInt))]]),
                        Blk.box
                          [AV.int IntKind.i64 (IntKind.i64.wrap (b2_0 + (nth PV.nilp c 0).toInt)),
                            AV.int IntKind.i64 (IntKind.i64.wrap (b2_1 + (nth PV.nilp c 1).toInt)),
                            AV.int IntKind.i64
                              (IntKind.i64.wrap (b2_2 + IntKind.i64.wrap (b0_0 * (nth PV.nilp c 1).toInt)))]] }))
              Option.none)
          Option.none)
        Option.none)
    (Option.some
      (Ex.exit 0,
        { vals := [AV.sl 2 l5],
          blks :=
            [Blk.box [AV.int IntKind.i64 b0_0, AV.int IntKind.i64 b0_1, AV.sl 6 b0_2],
              Blk.arr 2 c1,
              Blk.box
                [AV.int IntKind.i64 b2_0, AV.int IntKind.i64 b2_1, AV.int IntKind.i64 b2_2]] })) := (lp_unfold ..).trans (by kernel_rfl)

/-- dynpos/dynposlaw12.ThrusterSums -/
theorem r5 (F : Fun) (t : List (List PV)) : funK E F 5 [AV.sl 1 t] [] =
  bnd (F 6 [AV.sl 1 t] []) fun (r : Res) =>
    ctl
      (okR [RSh.ownp [Sh.sl 1, Sh.int IntKind.i64]] r.fst &&
        okB [] r.snd)
      (bnd
        (F 15 [AV.t (TV.ptr 0 0), AV.int IntKind.i64 5]
          [Blk.box
              [AV.sl 1
                  (nth PV.nilp (nth (RV.p PV.nilp) r.fst 0).toCs
                      0).toEs,
                AV.int IntKind.i64
                  (nth PV.nilp (nth (RV.p PV.nilp) r.fst 0).toCs
                      1).toInt]])
        fun (r : Res) =>
        ctl
          (okR
              [RSh.agg [Sh.int IntKind.i64, Sh.int IntKind.i64, Sh.sl 6]] r.fst &&
            okB [Sum.inl [Sh.sl 1, Sh.int IntKind.i64]] r.snd)
          (bnd
            (F 16
              [AV.t (TV.ptr 0 0),
                AV.agg
                  [PV.int IntKind.i64
                      (nth PV.nilp
                          (nth (RV.p PV.nilp) r.fst 0).toCs 0).toInt,
                    PV.int IntKind.i64
                      (nth PV.nilp
                          (nth (RV.p PV.nilp) r.fst 0).toCs 1).toInt,
                    PV.sl 6
                      (nth PV.nilp
                          (nth (RV.p PV.nilp) r.fst 0).toCs 2).toEs]]
              [Blk.box
                  [AV.sl 1
                      (nth PV.nilp
                          (List.map AV.toPV (nth (Blk.box []) r.snd 0).toCs) 0).toEs,
                    AV.int IntKind.i64
                      (nth PV.nilp
                          (List.map AV.toPV (nth (Blk.box []) r.snd 0).toCs) 1).toInt]])
            fun (r_1 : Res) =>
            ctl
              (okR [RSh.one (Sh.sl 2)] r_1.fst &&
                okB [Sum.inl [Sh.sl 1, Sh.int IntKind.i64]] r_1.snd)
              (bnd
                (lp E F 5 0 [] 0
                  {
                    vals :=
                      [AV.sl 2 (nth (RV.p PV.nilp) r_1.fst 0).toPV.toEs,
                        AV.sl 2 (nth (RV.p PV.nilp) r_1.fst 0).toPV.toEs,
                        AV.int IntKind.i64
                          (↑(nth (RV.p PV.nilp) r_1.fst 0).toPV.toEs.length : Int),
                        AV.int IntKind.i64 0],
                    blks :=
                      [Blk.box
                          [AV.int IntKind.i64
                              (nth PV.nilp
                                  (nth (RV.p PV.nilp) r.fst 0).toCs 0).toInt,
                            AV.int IntKind.i64
                              (nth PV.nilp
                                  (nth (RV.p PV.nilp) r.fst 0).toCs 1).toInt,
                            AV.sl 6
                              (nth PV.nilp
                                  (nth (RV.p PV.nilp) r.fst 0).toCs 2).toEs],
                        Blk.arr 2 [],
                        Blk.box
                          [AV.int IntKind.i64 0, AV.int IntKind.i64 0, AV.int IntKind.i64 0]] })
                fun (p : Ex × Pack) =>
                ctl (p.fst.eqb (Ex.exit 0))
                  (ctl
                    (okPack
                      {
                        slots :=
                          [(4, Sum.inr (Sum.inr (AV.t (TV.ptr 0 0)))), (5, Sum.inl (Sh.sl 2)),
                            (6, Sum.inr (Sum.inr (AV.t (TV.hsl 1)))),
                            (7, Sum.inr (Sum.inr (AV.t (TV.ptr 2 0))))],
                        blks :=
                          [Sum.inl [Sum.inl (Sh.int IntKind.i64), Sum.inl (Sh.int IntKind.i64), Sum.inl (Sh.sl 6)],
                            Sum.inr 2,
                            Sum.inl
                              [Sum.inl (Sh.int IntKind.i64), Sum.inl (Sh.int IntKind.i64),
                                Sum.inl (Sh.int IntKind.i64)]] }
                      p.snd)
                    (bnd
                      (F 17
                        [AV.agg
                            [PV.int IntKind.i64
                                (nth AV.undef (nth (Blk.box []) p.snd.blks 0).toCs 0).toPV.toInt,
                              PV.int IntKind.i64
                                (nth AV.undef (nth (Blk.box []) p.snd.blks 0).toCs 1).toPV.toInt,
                              PV.sl 6
                                (nth AV.undef (nth (Blk.box []) p.snd.blks 0).toCs 2).toPV.toEs],
                          AV.sl 2 (nth AV.undef p.snd.vals 0).toPV.toEs]
                        [])
                      fun (r : Res) =>
                      ctl
                        (okR
                            [RSh.agg
                                [Sh.int IntKind.i64, Sh.int IntKind.i64, Sh.int IntKind.i64],
                              RSh.one (Sh.int IntKind.i64)]
                            r.fst &&
                          okB [] r.snd)
                        (bnd
                          (F 18
                            [AV.agg
                                [PV.int IntKind.i64
                                    (nth AV.undef (nth (Blk.box []) p.snd.blks 0).toCs
                                          0).toPV.toInt,
                                  PV.int IntKind.i64
                                    (nth AV.undef (nth (Blk.box []) p.snd.blks 0).toCs
                                          1).toPV.toInt,
                                  PV.sl 6
                                    (nth AV.undef (nth (Blk.box []) p.snd.blks 0).toCs
                                          2).toPV.toEs],
                              AV.sl 2 (nth AV.undef p.snd.vals 0).toPV.toEs]
                            [])
                          fun (r_2 : Res) =>
                          ctl
                            (okR
                                [RSh.agg
                                    [Sh.int IntKind.i64, Sh.int IntKind.i64, Sh.int IntKind.i64],
                                  RSh.one (Sh.int IntKind.i64)]
                                r_2.fst &&
                              okB [] r_2.snd)
                            (bnd
                              (F 18
                                [AV.agg
                                    [PV.int IntKind.i64
                                        (nth AV.undef (nth (Blk.box []) p.snd.blks 0).toCs
                                              0).toPV.toInt,
                                      PV.int IntKind.i64
                                        (nth AV.undef (nth (Blk.box []) p.snd.blks 0).toCs
                                              1).toPV.toInt,
                                      PV.sl 6
                                        (nth AV.undef (nth (Blk.box []) p.snd.blks 0).toCs
                                              2).toPV.toEs],
                                  AV.sl 2 (nth (Blk.box []) p.snd.blks 1).toEs]
                                [])
                              fun (r_3 : Res) =>
                              ctl
                                (okR
                                      [RSh.agg
                                          [Sh.int IntKind.i64, Sh.int IntKind.i64, Sh.int IntKind.i64],
                                        RSh.one (Sh.int IntKind.i64)]
                                      r_3.fst &&
                                    okB [] r_3.snd &&
                                  (noslR r_3.fst && noslB r_3.snd))
                                (bnd
                                  (ctl ((nth (RV.p PV.nilp) r.fst 1).toPV.toInt == 0)
                                    (Option.some ((nth (RV.p PV.nilp) r_2.fst 1).toPV.toInt == 0)) (Option.some Bool.false))
                                  fun (v : Bool) =>
                                  bnd
                                    (ctl v
                                      (Option.some ((nth (RV.p PV.nilp) r_3.fst 1).toPV.toInt == 0)) (Option.some Bool.false))
                                    fun (v : Bool) =>
                                    bnd
                                      (ctl v
                                        (Option.some
                                          ((nth PV.nilp
                                                  (nth (RV.p PV.nilp) r_2.fst 0).toCs 0).toInt ==
                                              (nth AV.undef (nth (Blk.box []) p.snd.blks 2).toCs
                                                    0).toPV.toInt &&
                                            ((nth PV.nilp
                                                    (nth (RV.p PV.nilp) r_2.fst 0).toCs 1).toInt ==
                                                (nth AV.undef (nth (Blk.box []) p.snd.blks 2).toCs
                                                      1).toPV.toInt &&
                                              ((nth PV.nilp
                                                      (nth (RV.p PV.nilp) r_2.fst 0).toCs 2).toInt ==
                                                  (nth AV.undef
                                                        (nth (Blk.box []) p.snd.blks 2).toCs 2).toPV.toInt &&
                                                Bool.true))))
                                        (Option.some Bool.false))
                                      fun (v : Bool) =>
                                      ctl v
                                        (bnd
                                          (ctl
                                            ((nth PV.nilp
                                                    (nth (RV.p PV.nilp) r_3.fst 0).toCs 0).toInt ==
                                                IntKind.i64.wrap
                                                  (0 -
                                                    (nth PV.nilp
                                                        (nth (RV.p PV.nilp) r_2.fst 0).toCs 0).toInt) &&
                                              ((nth PV.nilp
                                                      (nth (RV.p PV.nilp) r_3.fst 0).toCs 1).toInt ==
                                                  IntKind.i64.wrap
                                                    (0 -
                                                      (nth PV.nilp
                                                          (nth (RV.p PV.nilp) r_2.fst 0).toCs 1).toInt) &&
                                                ((nth PV.nilp
                                                        (nth (RV.p PV.nilp) r_3.fst 0).toCs 2).toInt ==
                                                    IntKind.i64.wrap
                                                      (0 -
                                                        (nth PV.nilp
                                                            (nth (RV.p PV.nilp) r_2.fst 0).toCs 2).toInt) &&
                                                  Bool.true)))
                                            (Option.some
                                              ((nth PV.nilp
                                                    (nth (RV.p PV.nilp) r.fst 0).toCs 0).toInt ==
                                                (nth PV.nilp
                                                    (nth (RV.p PV.nilp) r_2.fst 0).toCs 0).toInt))
                                            (Option.some Bool.false))
                                          fun (v : Bool) =>
                                          bnd
                                            (ctl v
                                              (Option.some
                                                (IntKind.i64.wrap
                                                    ((nth PV.nilp
                                                          (nth (RV.p PV.nilp) r.fst 0).toCs 1).toInt +
                                                      (nth PV.nilp
                                                          (nth (RV.p PV.nilp) r.fst 0).toCs 2).toInt) ==
                                                  (nth PV.nilp
                                                      (nth (RV.p PV.nilp) r_2.fst 0).toCs 1).toInt))
                                              (Option.some Bool.false))
                                            fun (v : Bool) =>
                                            bnd
                                              (ctl v
                                                (bnd (F 12 [] []) fun (r : Res) =>
                                                  ctl
                                                    (okR [RSh.one Sh.bool] r.fst && okB [] r.snd)
                                                    (Option.some (nth (RV.p PV.nilp) r.fst 0).toPV.toBool) Option.none)
                                                (Option.some Bool.false))
                                              fun (v : Bool) => Option.some ([RV.p (PV.bool v)], []))
                                        (Option.some ([RV.p (PV.bool Bool.false)], [])))
                                Option.none)
                            Option.none)
                        Option.none)
                    Option.none)
                  Option.none)
              Option.none)
          Option.none)
      Option.none := by kernel_rfl

end Go.Proofs.Ytphcfpphnmpcbaa.Vm
