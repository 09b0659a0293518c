/- The raw theorems, by program: what each function and each loop comes to. -/
import Derived.Test.YtaekifnmofjhhaaEnv
import Derived.Test.YtaekifnmofjhhaaVm34
import Derived.KernelRfl
namespace Go.Proofs.Ytaekifnmofjhhaa.Vm
open Go
set_option maxRecDepth 100000
set_option linter.unusedVariables false

/-- dynpos/dynposlaw25.CapabilityReserves, the loop of block 0 -/
theorem r3_0 (F : Fun) (a5 : List (List PV)) (n7 : Int) (q8 : Int) (b0_0 : Int) (b0_1 : Int) (b0_2 : List (List PV)) (b1_0 : Int) (b1_1 : Int) (b1_2 : Int) : lp E F 3 0 [] 0
  { vals := [AV.sl 1 a5, AV.int IntKind.i64 n7, AV.int IntKind.i64 q8],
    blks :=
      [Blk.box [AV.int IntKind.i64 b0_0, AV.int IntKind.i64 b0_1, AV.sl 6 b0_2],
        Blk.box
          [AV.int IntKind.i64 b1_0, AV.int IntKind.i64 b1_1, AV.int IntKind.i64 b1_2]] } =
  ctl (leB q8 n7)
    (bnd
      (F 15
        [AV.agg
            [PV.int IntKind.i64 b1_0, PV.int IntKind.i64 b1_1, PV.int IntKind.i64 b1_2],
          AV.int IntKind.i64 q8]
        [])
      fun (r : Res) =>
      ctl
        (okR
            [RSh.agg [Sh.int IntKind.i64, Sh.int IntKind.i64, Sh.int IntKind.i64]]
            r.fst &&
          okB [] r.snd)
        (bnd
          (F 14
            [AV.agg [PV.int IntKind.i64 b0_0, PV.int IntKind.i64 b0_1, PV.sl 6 b0_2],
              AV.sl 1 a5,
              AV.agg
                [PV.int IntKind.i64
                    (nth PV.nilp (nth (RV.p PV.nilp) r.fst 0).toCs
                        0).toInt,
                  PV.int IntKind.i64
                    (nth PV.nilp (nth (RV.p PV.nilp) r.fst 0).toCs
                        1).toInt,
                  PV.int IntKind.i64
                    (nth PV.nilp (nth (RV.p PV.nilp) r.fst 0).toCs
                        2).toInt]]
            [])
          fun (r : Res) =>
          ctl (okR [RSh.one Sh.bool] r.fst && okB [] r.snd)
            (ctl (!(nth (RV.p PV.nilp) r.fst 0).toPV.toBool)
              (Option.some (Ex.ret, { vals := [AV.bool Bool.false], blks := [] }))
              (lp E F 3 0 [] 0
                { vals := [AV.sl 1 a5, AV.int IntKind.i64 n7, AV.int IntKind.i64 (IntKind.i64.wrap (q8 + 10))],
                  blks :=
                    [Blk.box
                        [AV.int IntKind.i64 b0_0, AV.int IntKind.i64 b0_1, AV.sl 6 b0_2],
                      Blk.box
                        [AV.int IntKind.i64 b1_0, AV.int IntKind.i64 b1_1, AV.int IntKind.i64 b1_2]] }))
            Option.none)
        Option.none)
    (Option.some
      (Ex.exit 0,
        { vals := [AV.sl 1 a5, AV.int IntKind.i64 n7],
          blks :=
            [Blk.box [AV.int IntKind.i64 b0_0, AV.int IntKind.i64 b0_1, AV.sl 6 b0_2],
              Blk.box
                [AV.int IntKind.i64 b1_0, AV.int IntKind.i64 b1_1, AV.int IntKind.i64 b1_2]] })) := (lp_unfold ..).trans (by kernel_rfl)

/-- dynpos/dynposlaw25.CapabilityReserves -/
theorem r3 (F : Fun) (t : List (List PV)) : funK E F 3 [AV.sl 1 t] [] =
  ctl (ltB 600 (↑t.length : Int))
    (bnd (F 8 [] []) fun (r : Res) =>
      ctl (okR [RSh.one Sh.bool] r.fst && okB [] r.snd)
        (Option.some
          ([RV.p
                (PV.bool (nth (RV.p PV.nilp) r.fst 0).toPV.toBool)],
            []))
        Option.none)
    (bnd (F 9 [AV.sl 1 t] []) fun (r : Res) =>
      ctl
        (okR [RSh.ownp [Sh.sl 1, Sh.int IntKind.i64]] r.fst &&
          okB [] r.snd)
        (bnd
          (F 10 [AV.t (TV.ptr 0 0), AV.int IntKind.i64 3]
            [Blk.box
                [AV.sl 1
                    (nth PV.nilp (nth (RV.p PV.nilp) r.fst 0).toCs
                        0).toEs,
                  AV.int IntKind.i64
                    (nth PV.nilp (nth (RV.p PV.nilp) r.fst 0).toCs
                        1).toInt]])
          fun (r : Res) =>
          ctl
            (okR
                [RSh.agg [Sh.int IntKind.i64, Sh.int IntKind.i64, Sh.sl 6]] r.fst &&
              okB [Sum.inl [Sh.sl 1, Sh.int IntKind.i64]] r.snd)
            (bnd
              (F 11
                [AV.t (TV.ptr 0 0),
                  AV.agg
                    [PV.int IntKind.i64
                        (nth PV.nilp
                            (nth (RV.p PV.nilp) r.fst 0).toCs 0).toInt,
                      PV.int IntKind.i64
                        (nth PV.nilp
                            (nth (RV.p PV.nilp) r.fst 0).toCs 1).toInt,
                      PV.sl 6
                        (nth PV.nilp
                            (nth (RV.p PV.nilp) r.fst 0).toCs 2).toEs]]
                [Blk.box
                    [AV.sl 1
                        (nth PV.nilp
                            (List.map AV.toPV (nth (Blk.box []) r.snd 0).toCs) 0).toEs,
                      AV.int IntKind.i64
                        (nth PV.nilp
                            (List.map AV.toPV (nth (Blk.box []) r.snd 0).toCs) 1).toInt]])
              fun (r_1 : Res) =>
              ctl
                (okR [RSh.one (Sh.sl 1)] r_1.fst &&
                  okB [Sum.inl [Sh.sl 1, Sh.int IntKind.i64]] r_1.snd)
                (bnd
                  (F 12 [AV.t (TV.ptr 0 0)]
                    [Blk.box
                        [AV.sl 1
                            (nth PV.nilp
                                (List.map AV.toPV (nth (Blk.box []) r_1.snd 0).toCs) 0).toEs,
                          AV.int IntKind.i64
                            (nth PV.nilp
                                (List.map AV.toPV (nth (Blk.box []) r_1.snd 0).toCs) 1).toInt]])
                  fun (r_2 : Res) =>
                  ctl
                    (okR
                        [RSh.agg
                            [Sh.int IntKind.i64, Sh.int IntKind.i64, Sh.int IntKind.i64]]
                        r_2.fst &&
                      okB [Sum.inl [Sh.sl 1, Sh.int IntKind.i64]] r_2.snd)
                    (bnd
                      (F 13
                        [AV.agg
                            [PV.int IntKind.i64
                                (nth PV.nilp
                                    (nth (RV.p PV.nilp) r.fst 0).toCs 0).toInt,
                              PV.int IntKind.i64
                                (nth PV.nilp
                                    (nth (RV.p PV.nilp) r.fst 0).toCs 1).toInt,
                              PV.sl 6
                                (nth PV.nilp
                                    (nth (RV.p PV.nilp) r.fst 0).toCs 2).toEs],
                          AV.sl 1 (nth (RV.p PV.nilp) r_1.fst 0).toPV.toEs,
                          AV.agg
                            [PV.int IntKind.i64
                                (nth PV.nilp
                                    (nth (RV.p PV.nilp) r_2.fst 0).toCs 0).toInt,
                              PV.int IntKind.i64
                                (nth PV.nilp
                                    (nth (RV.p PV.nilp) r_2.fst 0).toCs 1).toInt,
                              PV.int IntKind.i64
                                (nth PV.nilp
                                    (nth (RV.p PV.nilp) r_2.fst 0).toCs 2).toInt]]
                        [])
                      fun (r_3 : Res) =>
                      ctl
                        (okR [RSh.one (Sh.int IntKind.i64)] r_3.fst && okB [] r_3.snd)
                        (bnd
                          (ctl
                            (!ltB (nth (RV.p PV.nilp) r_3.fst 0).toPV.toInt 0)
                            (Option.some (ltB 200 (nth (RV.p PV.nilp) r_3.fst 0).toPV.toInt))
                            (Option.some Bool.true))
                          fun (v : Bool) =>
                          bnd
                            (ctl (!v)
                              (Option.some ((nth (RV.p PV.nilp) r_3.fst 0).toPV.toInt.tmod 10 != 0)) (Option.some Bool.true))
                            fun (v : Bool) =>
                            bnd
                              (ctl (!v)
                                (ctl
                                  (leB 100 (nth (RV.p PV.nilp) r_3.fst 0).toPV.toInt)
                                  (bnd
                                    (F 14
                                      [AV.agg
                                          [PV.int IntKind.i64
                                              (nth PV.nilp
                                                  (nth (RV.p PV.nilp) r.fst 0).toCs 0).toInt,
                                            PV.int IntKind.i64
                                              (nth PV.nilp
                                                  (nth (RV.p PV.nilp) r.fst 0).toCs 1).toInt,
                                            PV.sl 6
                                              (nth PV.nilp
                                                  (nth (RV.p PV.nilp) r.fst 0).toCs 2).toEs],
                                        AV.sl 1 (nth (RV.p PV.nilp) r_1.fst 0).toPV.toEs,
                                        AV.agg
                                          [PV.int IntKind.i64
                                              (nth PV.nilp
                                                  (nth (RV.p PV.nilp) r_2.fst 0).toCs 0).toInt,
                                            PV.int IntKind.i64
                                              (nth PV.nilp
                                                  (nth (RV.p PV.nilp) r_2.fst 0).toCs 1).toInt,
                                            PV.int IntKind.i64
                                              (nth PV.nilp
                                                  (nth (RV.p PV.nilp) r_2.fst 0).toCs 2).toInt]]
                                      [])
                                    fun (r : Res) =>
                                    ctl
                                      (okR [RSh.one Sh.bool] r.fst && okB [] r.snd)
                                      (Option.some !(nth (RV.p PV.nilp) r.fst 0).toPV.toBool) Option.none)
                                  (Option.some Bool.false))
                                (Option.some Bool.true))
                              fun (v : Bool) =>
                              ctl v (Option.some ([RV.p (PV.bool Bool.false)], []))
                                (bnd
                                  (lp E F 3 0 [] 0
                                    {
                                      vals :=
                                        [AV.sl 1 (nth (RV.p PV.nilp) r_1.fst 0).toPV.toEs,
                                          AV.int IntKind.i64
                                            (nth (RV.p PV.nilp) r_3.fst 0).toPV.toInt,
                                          AV.int IntKind.i64 0],
                                      blks :=
                                        [Blk.box
                                            [AV.int IntKind.i64
                                                (nth PV.nilp
                                                    (nth (RV.p PV.nilp) r.fst 0).toCs 0).toInt,
                                              AV.int IntKind.i64
                                                (nth PV.nilp
                                                    (nth (RV.p PV.nilp) r.fst 0).toCs 1).toInt,
                                              AV.sl 6
                                                (nth PV.nilp
                                                    (nth (RV.p PV.nilp) r.fst 0).toCs 2).toEs],
                                          Blk.box
                                            [AV.int IntKind.i64
                                                (nth PV.nilp
                                                    (nth (RV.p PV.nilp) r_2.fst 0).toCs 0).toInt,
                                              AV.int IntKind.i64
                                                (nth PV.nilp
                                                    (nth (RV.p PV.nilp) r_2.fst 0).toCs 1).toInt,
                                              AV.int IntKind.i64
                                                (nth PV.nilp
                                                    (nth (RV.p PV.nilp) r_2.fst 0).toCs 2).toInt]] })
                                  fun (p : Ex × Pack) =>
                                  ctl (p.fst.eqb (Ex.exit 0))
                                    (ctl
                                      (okPack
                                        {
                                          slots :=
                                            [(4, Sum.inr (Sum.inr (AV.t (TV.ptr 0 0)))), (5, Sum.inl (Sh.sl 1)),
                                              (6, Sum.inr (Sum.inr (AV.t (TV.ptr 1 0)))), (7, Sum.inl (Sh.int IntKind.i64))],
                                          blks :=
                                            [Sum.inl
                                                [Sum.inl (Sh.int IntKind.i64), Sum.inl (Sh.int IntKind.i64),
                                                  Sum.inl (Sh.sl 6)],
                                              Sum.inl
                                                [Sum.inl (Sh.int IntKind.i64), Sum.inl (Sh.int IntKind.i64),
                                                  Sum.inl (Sh.int IntKind.i64)]] }
                                        p.snd)
                                      (bnd
                                        (ctl (!(nth AV.undef p.snd.vals 1).toPV.toInt == 200)
                                          (bnd
                                            (F 15
                                              [AV.agg
                                                  [PV.int IntKind.i64
                                                      (nth AV.undef
                                                            (nth (Blk.box []) p.snd.blks 1).toCs 0).toPV.toInt,
                                                    PV.int IntKind.i64
                                                      (nth AV.undef
                                                            (nth (Blk.box []) p.snd.blks 1).toCs 1).toPV.toInt,
                                                    PV.int IntKind.i64
                                                      (nth AV.undef
                                                            (nth (Blk.box []) p.snd.blks 1).toCs 2).toPV.toInt],
                                                AV.int IntKind.i64
                                                  (IntKind.i64.wrap ((nth AV.undef p.snd.vals 1).toPV.toInt + 10))]
                                              [])
                                            fun (r : Res) =>
                                            ctl
                                              (okR
                                                  [RSh.agg
                                                      [Sh.int IntKind.i64, Sh.int IntKind.i64, Sh.int IntKind.i64]]
                                                  r.fst &&
                                                okB [] r.snd)
                                              (bnd
                                                (F 14
                                                  [AV.agg
                                                      [PV.int IntKind.i64
                                                          (nth AV.undef
                                                                (nth (Blk.box []) p.snd.blks 0).toCs 0).toPV.toInt,
                                                        PV.int IntKind.i64
                                                          (nth AV.undef
                                                                (nth (Blk.box []) p.snd.blks 0).toCs 1).toPV.toInt,
                                                        PV.sl 6
                                                          (nth AV.undef
                                                                (nth (Blk.box []) p.snd.blks 0).toCs 2).toPV.toEs],
                                                    AV.sl 1 (nth AV.undef p.snd.vals 0).toPV.toEs,
                                                    AV.agg
                                                      [PV.int IntKind.i64
                                                          (nth PV.nilp
                                                              (nth (RV.p PV.nilp) r.fst 0).toCs 0).toInt,
                                                        PV.int IntKind.i64
                                                          (nth PV.nilp
                                                              (nth (RV.p PV.nilp) r.fst 0).toCs 1).toInt,
                                                        PV.int IntKind.i64
                                                          (nth PV.nilp
                                                              (nth (RV.p PV.nilp) r.fst 0).toCs 2).toInt]]
                                                  [])
                                                fun (r : Res) =>
                                                ctl
                                                  (okR [RSh.one Sh.bool] r.fst && okB [] r.snd)
                                                  (Option.some !(nth (RV.p PV.nilp) r.fst 0).toPV.toBool) Option.none)
                                              Option.none)
                                          (Option.some Bool.true))
                                        fun (v : Bool) =>
                                        bnd
                                          (ctl v
                                            (bnd (F 8 [] []) fun (r : Res) =>
                                              ctl
                                                (okR [RSh.one Sh.bool] r.fst && okB [] r.snd)
                                                (Option.some (nth (RV.p PV.nilp) r.fst 0).toPV.toBool) Option.none)
                                            (Option.some Bool.false))
                                          fun (v : Bool) => Option.some ([RV.p (PV.bool v)], []))
                                      Option.none)
                                    (ctl (p.fst.eqb Ex.ret)
                                      (ctl (okPack { slots := [(2, Sum.inl Sh.bool)], blks := [] } p.snd)
                                        (Option.some
                                          ([RV.p
                                                (PV.bool (nth AV.undef p.snd.vals 0).toPV.toBool)],
                                            []))
                                        Option.none)
                                      Option.none)))
                        Option.none)
                    Option.none)
                Option.none)
            Option.none)
        Option.none) := by kernel_rfl

end Go.Proofs.Ytaekifnmofjhhaa.Vm
