/- The raw theorems, by program: what each function and each loop comes to. -/
import Derived.Test.YtphcfpphnmpcbaaEnv
import Derived.Test.YtphcfpphnmpcbaaVm34
import Derived.KernelRfl
namespace Go.Proofs.Ytphcfpphnmpcbaa.Vm
open Go
set_option maxRecDepth 100000
set_option linter.unusedVariables false

/-- dynpos/dynposlaw12.ThrusterPower, the loop of block 0 -/
theorem r4_0 (F : Fun) (p5 : Int) (m6 : Int) (x7 : Int) (y8 : Int) (b0_0 : Int) (b0_1 : Int) (b0_2 : Int) (b0_3 : Int) (b0_4 : Int) (b0_5 : List (List PV)) : lp E F 4 0 [] 0
  {
    vals :=
      [AV.int IntKind.i64 p5, AV.int IntKind.i64 m6, AV.int IntKind.i64 x7,
        AV.int IntKind.i64 y8],
    blks :=
      [Blk.box
          [AV.int IntKind.i64 b0_0, AV.int IntKind.i64 b0_1, AV.int IntKind.i64 b0_2,
            AV.int IntKind.i64 b0_3, AV.int IntKind.i64 b0_4, AV.sl 2 b0_5]] } =
  ctl
    (leB (IntKind.i64.wrap (IntKind.i64.wrap (IntKind.i64.wrap (y8 + 1) * IntKind.i64.wrap (y8 + 1)) + IntKind.i64.wrap (x7 * x7))) (IntKind.i64.wrap (m6 * m6)))
    (lp E F 4 0 [] 0
      {
        vals :=
          [AV.int IntKind.i64 p5, AV.int IntKind.i64 m6, AV.int IntKind.i64 x7,
            AV.int IntKind.i64 (IntKind.i64.wrap (y8 + 1))],
        blks :=
          [Blk.box
              [AV.int IntKind.i64 b0_0, AV.int IntKind.i64 b0_1, AV.int IntKind.i64 b0_2,
                AV.int IntKind.i64 b0_3, AV.int IntKind.i64 b0_4, AV.sl 2 b0_5]] })
    (Option.some
      (Ex.exit 0,
        {
          vals :=
            [AV.int IntKind.i64 p5, AV.int IntKind.i64 m6, AV.int IntKind.i64 x7,
              AV.int IntKind.i64 y8],
          blks :=
            [Blk.box
                [AV.int IntKind.i64 b0_0, AV.int IntKind.i64 b0_1, AV.int IntKind.i64 b0_2,
                  AV.int IntKind.i64 b0_3, AV.int IntKind.i64 b0_4, AV.sl 2 b0_5]] })) := (lp_unfold ..).trans (by kernel_rfl)

/-- dynpos/dynposlaw12.ThrusterPower -/
theorem r4 (F : Fun) (t : List (List PV)) : funK E F 4 [AV.sl 1 t] [] =
  bnd (F 6 [AV.sl 1 t] []) fun (r : Res) =>
    ctl
      (okR [RSh.ownp [Sh.sl 1, Sh.int IntKind.i64]] r.fst &&
        okB [] r.snd)
      (bnd
        (F 7 [AV.t (TV.ptr 0 0)]
          [Blk.box
              [AV.sl 1
                  (nth PV.nilp (nth (RV.p PV.nilp) r.fst 0).toCs
                      0).toEs,
                AV.int IntKind.i64
                  (nth PV.nilp (nth (RV.p PV.nilp) r.fst 0).toCs
                      1).toInt]])
        fun (r : Res) =>
        ctl
          (okR
              [RSh.agg
                  [Sh.int IntKind.i64, Sh.int IntKind.i64, Sh.int IntKind.i64,
                    Sh.int IntKind.i64, Sh.int IntKind.i64, Sh.sl 2]]
              r.fst &&
            okB [Sum.inl [Sh.sl 1, Sh.int IntKind.i64]] r.snd)
          (bnd
            (F 13
              [AV.t (TV.ptr 0 0),
                AV.sl 1
                  [[PV.int IntKind.i64 0], [PV.int IntKind.i64 30], [PV.int IntKind.i64 200]]]
              [Blk.box
                  [AV.sl 1
                      (nth PV.nilp
                          (List.map AV.toPV (nth (Blk.box []) r.snd 0).toCs) 0).toEs,
                    AV.int IntKind.i64
                      (nth PV.nilp
                          (List.map AV.toPV (nth (Blk.box []) r.snd 0).toCs) 1).toInt]])
            fun (r_1 : Res) =>
            ctl
              (okR [RSh.one (Sh.int IntKind.i64)] r_1.fst &&
                okB [Sum.inl [Sh.sl 1, Sh.int IntKind.i64]] r_1.snd)
              (bnd
                (F 13
                  [AV.t (TV.ptr 0 0),
                    AV.sl 1
                      [[PV.int IntKind.i64 0], [PV.int IntKind.i64 1], [PV.int IntKind.i64 10],
                        [PV.int IntKind.i64 500]]]
                  [Blk.box
                      [AV.sl 1
                          (nth PV.nilp
                              (List.map AV.toPV (nth (Blk.box []) r_1.snd 0).toCs) 0).toEs,
                        AV.int IntKind.i64
                          (nth PV.nilp
                              (List.map AV.toPV (nth (Blk.box []) r_1.snd 0).toCs) 1).toInt]])
                fun (r_2 : Res) =>
                ctl
                  (okR [RSh.one (Sh.int IntKind.i64)] r_2.fst &&
                    okB [Sum.inl [Sh.sl 1, Sh.int IntKind.i64]] r_2.snd)
                  (bnd
                    (F 11
                      [AV.agg
                          [PV.int IntKind.i64
                              (nth PV.nilp
                                  (nth (RV.p PV.nilp) r.fst 0).toCs 0).toInt,
                            PV.int IntKind.i64
                              (nth PV.nilp
                                  (nth (RV.p PV.nilp) r.fst 0).toCs 1).toInt,
                            PV.int IntKind.i64 (nth (RV.p PV.nilp) r_1.fst 0).toPV.toInt,
                            PV.int IntKind.i64
                              (nth PV.nilp
                                  (nth (RV.p PV.nilp) r.fst 0).toCs 3).toInt,
                            PV.int IntKind.i64
                              (nth PV.nilp
                                  (nth (RV.p PV.nilp) r.fst 0).toCs 4).toInt,
                            PV.sl 2
                              (nth PV.nilp
                                  (nth (RV.p PV.nilp) r.fst 0).toCs 5).toEs],
                        AV.int IntKind.i64 (nth (RV.p PV.nilp) r_2.fst 0).toPV.toInt]
                      [])
                    fun (r_3 : Res) =>
                    ctl
                      (okR [RSh.one (Sh.int IntKind.i64)] r_3.fst && okB [] r_3.snd)
                      (bnd
                        (ctl
                          (!ltB (nth (RV.p PV.nilp) r_3.fst 0).toPV.toInt 0)
                          (Option.some
                            (ltB (nth (RV.p PV.nilp) r_1.fst 0).toPV.toInt
                              (nth (RV.p PV.nilp) r_3.fst 0).toPV.toInt))
                          (Option.some Bool.true))
                        fun (v : Bool) =>
                        ctl v (Option.some ([RV.p (PV.bool Bool.false)], []))
                          (bnd
                            (F 10
                              [AV.t (TV.ptr 0 0),
                                AV.int IntKind.i64
                                  (IntKind.i64.wrap (0 - (nth (RV.p PV.nilp) r_3.fst 0).toPV.toInt)),
                                AV.int IntKind.i64 (nth (RV.p PV.nilp) r_3.fst 0).toPV.toInt]
                              [Blk.box
                                  [AV.sl 1
                                      (nth PV.nilp
                                          (List.map AV.toPV (nth (Blk.box []) r_2.snd 0).toCs) 0).toEs,
                                    AV.int IntKind.i64
                                      (nth PV.nilp
                                          (List.map AV.toPV (nth (Blk.box []) r_2.snd 0).toCs) 1).toInt]])
                            fun (r_4 : Res) =>
                            ctl
                              (okR [RSh.one (Sh.int IntKind.i64)] r_4.fst &&
                                okB [Sum.inl [Sh.sl 1, Sh.int IntKind.i64]] r_4.snd)
                              (bnd
                                (lp E F 4 0 [] 0
                                  {
                                    vals :=
                                      [AV.int IntKind.i64
                                          (nth (RV.p PV.nilp) r_2.fst 0).toPV.toInt,
                                        AV.int IntKind.i64
                                          (nth (RV.p PV.nilp) r_3.fst 0).toPV.toInt,
                                        AV.int IntKind.i64
                                          (nth (RV.p PV.nilp) r_4.fst 0).toPV.toInt,
                                        AV.int IntKind.i64 0],
                                    blks :=
                                      [Blk.box
                                          [AV.int IntKind.i64
                                              (nth PV.nilp
                                                  (nth (RV.p PV.nilp) r.fst 0).toCs 0).toInt,
                                            AV.int IntKind.i64
                                              (nth PV.nilp
                                                  (nth (RV.p PV.nilp) r.fst 0).toCs 1).toInt,
                                            AV.int IntKind.i64
                                              (nth (RV.p PV.nilp) r_1.fst 0).toPV.toInt,
                                            AV.int IntKind.i64
                                              (nth PV.nilp
                                                  (nth (RV.p PV.nilp) r.fst 0).toCs 3).toInt,
                                            AV.int IntKind.i64
                                              (nth PV.nilp
                                                  (nth (RV.p PV.nilp) r.fst 0).toCs 4).toInt,
                                            AV.sl 2
                                              (nth PV.nilp
                                                  (nth (RV.p PV.nilp) r.fst 0).toCs 5).toEs]] })
                                fun (p : Ex × Pack) =>
                                ctl (p.fst.eqb (Ex.exit 0))
                                  (ctl
                                    (okPack
                                      {
                                        slots :=
                                          [(4, Sum.inr (Sum.inr (AV.t (TV.ptr 0 0)))), (5, Sum.inl (Sh.int IntKind.i64)),
                                            (6, Sum.inl (Sh.int IntKind.i64)), (7, Sum.inl (Sh.int IntKind.i64)),
                                            (8, Sum.inl (Sh.int IntKind.i64))],
                                        blks :=
                                          [Sum.inl
                                              [Sum.inl (Sh.int IntKind.i64), Sum.inl (Sh.int IntKind.i64),
                                                Sum.inl (Sh.int IntKind.i64), Sum.inl (Sh.int IntKind.i64),
                                                Sum.inl (Sh.int IntKind.i64), Sum.inl (Sh.sl 2)]] }
                                      p.snd)
                                    (bnd
                                      (F 14
                                        [AV.agg
                                            [PV.int IntKind.i64
                                                (nth AV.undef (nth (Blk.box []) p.snd.blks 0).toCs
                                                      0).toPV.toInt,
                                              PV.int IntKind.i64
                                                (nth AV.undef (nth (Blk.box []) p.snd.blks 0).toCs
                                                      1).toPV.toInt,
                                              PV.int IntKind.i64
                                                (nth AV.undef (nth (Blk.box []) p.snd.blks 0).toCs
                                                      2).toPV.toInt,
                                              PV.int IntKind.i64
                                                (nth AV.undef (nth (Blk.box []) p.snd.blks 0).toCs
                                                      3).toPV.toInt,
                                              PV.int IntKind.i64
                                                (nth AV.undef (nth (Blk.box []) p.snd.blks 0).toCs
                                                      4).toPV.toInt,
                                              PV.sl 2
                                                (nth AV.undef (nth (Blk.box []) p.snd.blks 0).toCs
                                                      5).toPV.toEs],
                                          AV.agg
                                            [PV.int IntKind.i64 (nth AV.undef p.snd.vals 2).toPV.toInt,
                                              PV.int IntKind.i64 (nth AV.undef p.snd.vals 3).toPV.toInt]]
                                        [])
                                      fun (r : Res) =>
                                      ctl
                                        (okR
                                            [RSh.one (Sh.int IntKind.i64),
                                              RSh.one (Sh.int IntKind.i64)]
                                            r.fst &&
                                          okB [] r.snd)
                                        (bnd
                                          (F 14
                                            [AV.agg
                                                [PV.int IntKind.i64
                                                    (nth AV.undef
                                                          (nth (Blk.box []) p.snd.blks 0).toCs 0).toPV.toInt,
                                                  PV.int IntKind.i64
                                                    (nth AV.undef
                                                          (nth (Blk.box []) p.snd.blks 0).toCs 1).toPV.toInt,
                                                  PV.int IntKind.i64
                                                    (nth AV.undef
                                                          (nth (Blk.box []) p.snd.blks 0).toCs 2).toPV.toInt,
                                                  PV.int IntKind.i64
                                                    (nth AV.undef
                                                          (nth (Blk.box []) p.snd.blks 0).toCs 3).toPV.toInt,
                                                  PV.int IntKind.i64
                                                    (nth AV.undef
                                                          (nth (Blk.box []) p.snd.blks 0).toCs 4).toPV.toInt,
                                                  PV.sl 2
                                                    (nth AV.undef
                                                          (nth (Blk.box []) p.snd.blks 0).toCs 5).toPV.toEs],
                                              AV.agg
                                                [PV.int IntKind.i64 (nth AV.undef p.snd.vals 1).toPV.toInt,
                                                  PV.int IntKind.i64 0]]
                                            [])
                                          fun (r_5 : Res) =>
                                          ctl
                                            (okR
                                                [RSh.one (Sh.int IntKind.i64),
                                                  RSh.one (Sh.int IntKind.i64)]
                                                r_5.fst &&
                                              okB [] r_5.snd)
                                            (bnd
                                              (F 14
                                                [AV.agg
                                                    [PV.int IntKind.i64
                                                        (nth AV.undef
                                                              (nth (Blk.box []) p.snd.blks 0).toCs 0).toPV.toInt,
                                                      PV.int IntKind.i64
                                                        (nth AV.undef
                                                              (nth (Blk.box []) p.snd.blks 0).toCs 1).toPV.toInt,
                                                      PV.int IntKind.i64
                                                        (nth AV.undef
                                                              (nth (Blk.box []) p.snd.blks 0).toCs 2).toPV.toInt,
                                                      PV.int IntKind.i64
                                                        (nth AV.undef
                                                              (nth (Blk.box []) p.snd.blks 0).toCs 3).toPV.toInt,
                                                      PV.int IntKind.i64
                                                        (nth AV.undef
                                                              (nth (Blk.box []) p.snd.blks 0).toCs 4).toPV.toInt,
                                                      PV.sl 2
                                                        (nth AV.undef
                                                              (nth (Blk.box []) p.snd.blks 0).toCs 5).toPV.toEs],
                                                  AV.agg
                                                    [PV.int IntKind.i64
                                                        (IntKind.i64.wrap ((nth AV.undef p.snd.vals 1).toPV.toInt + 1)),
                                                      PV.int IntKind.i64 0]]
                                                [])
                                              fun (r_6 : Res) =>
                                              ctl
                                                (okR
                                                    [RSh.one (Sh.int IntKind.i64),
                                                      RSh.one (Sh.int IntKind.i64)]
                                                    r_6.fst &&
                                                  okB [] r_6.snd)
                                                (bnd
                                                  (ctl
                                                    ((nth (RV.p PV.nilp) r.fst 1).toPV.toInt == 0)
                                                    (Option.some ((nth (RV.p PV.nilp) r_5.fst 1).toPV.toInt == 0))
                                                    (Option.some Bool.false))
                                                  fun (v : Bool) =>
                                                  bnd
                                                    (ctl v
                                                      (Option.some ((nth (RV.p PV.nilp) r_6.fst 1).toPV.toInt == 0))
                                                      (Option.some Bool.false))
                                                    fun (v : Bool) =>
                                                    bnd
                                                      (ctl v
                                                        (Option.some
                                                          (leB
                                                            (nth (RV.p PV.nilp) r.fst 0).toPV.toInt
                                                            (nth AV.undef p.snd.vals 0).toPV.toInt))
                                                        (Option.some Bool.false))
                                                      fun (v : Bool) =>
                                                      bnd
                                                        (ctl v
                                                          (Option.some
                                                            (leB
                                                              (nth (RV.p PV.nilp) r.fst 0).toPV.toInt
                                                              (nth (RV.p PV.nilp) r_5.fst 0).toPV.toInt))
                                                          (Option.some Bool.false))
                                                        fun (v : Bool) =>
                                                        bnd
                                                          (ctl v
                                                            (Option.some
                                                              (leB
                                                                (nth (RV.p PV.nilp) r_5.fst 0).toPV.toInt
                                                                (nth AV.undef p.snd.vals 0).toPV.toInt))
                                                            (Option.some Bool.false))
                                                          fun (v : Bool) =>
                                                          bnd
                                                            (ctl v
                                                              (ctl
                                                                (!(nth AV.undef p.snd.vals 1).toPV.toInt ==
                                                                    (nth AV.undef
                                                                          (nth (Blk.box []) p.snd.blks 0).toCs 2).toPV.toInt)
                                                                (Option.some
                                                                  (ltB (nth AV.undef p.snd.vals 0).toPV.toInt
                                                                    (nth (RV.p PV.nilp) r_6.fst 0).toPV.toInt))
                                                                (Option.some Bool.true))
                                                              (Option.some Bool.false))
                                                            fun (v : Bool) =>
                                                            bnd
                                                              (ctl v
                                                                (Option.some
                                                                  (leB
                                                                    (nth (RV.p PV.nilp) r_5.fst 0).toPV.toInt
                                                                    (nth (RV.p PV.nilp) r_6.fst 0).toPV.toInt))
                                                                (Option.some Bool.false))
                                                              fun (v : Bool) =>
                                                              bnd
                                                                (ctl v
                                                                  (bnd (F 12 [] []) fun (r : Res) =>
                                                                    ctl
                                                                      (okR [RSh.one Sh.bool] r.fst &&
                                                                        okB [] r.snd)
                                                                      (Option.some (nth (RV.p PV.nilp) r.fst 0).toPV.toBool)
                                                                      Option.none)
                                                                  (Option.some Bool.false))
                                                                fun (v : Bool) => Option.some ([RV.p (PV.bool v)], []))
                                                Option.none)
                                            Option.none)
                                        Option.none)
                                    Option.none)
                                  Option.none)
                              Option.none))
                      Option.none)
                  Option.none)
              Option.none)
          Option.none)
      Option.none := by kernel_rfl

end Go.Proofs.Ytphcfpphnmpcbaa.Vm
