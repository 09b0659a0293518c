/- The raw theorems, by program: what each function and each loop comes to. -/
import Derived.Test.YtcopadohnlcheaaDoorEnv
import Derived.Test.YtcopadohnlcheaaDoorVm34
import Derived.KernelRfl
namespace Go.Proofs.YtcopadohnlcheaaDoor.Vm
open Go
set_option maxRecDepth 100000
set_option linter.unusedVariables false

/-- dynpos/dynposlaw06.SignalKinds, the loop of block 0 -/
theorem r3_0 (F : Fun) (k7 : Int) (b0_0 : Int) (b0_1 : Int) (b0_2 : Int) (b0_3 : Int) (b0_4 : Int) (b0_5 : Int) (b1_0 : List (List PV)) : lp E F 3 0 [] 0
  { vals := [AV.int IntKind.i64 k7],
    blks :=
      [Blk.box
          [AV.int IntKind.i64 b0_0, AV.int IntKind.i64 b0_1, AV.int IntKind.i64 b0_2,
            AV.int IntKind.i64 b0_3, AV.int IntKind.i64 b0_4, AV.int IntKind.i64 b0_5],
        Blk.box [AV.sl 1 b1_0]] } =
  ctl (leB k7 6)
    (bnd
      (F 9
        [AV.agg
            [PV.int IntKind.i64 k7, PV.int IntKind.i64 b0_1, PV.int IntKind.i64 b0_2,
              PV.int IntKind.i64 b0_3, PV.int IntKind.i64 b0_4, PV.int IntKind.i64 b0_5]]
        [])
      fun (r : Res) =>
      ctl
        (okR
            [RSh.agg [Sh.sl 1], RSh.one (Sh.int IntKind.i64)] r.fst &&
          okB [] r.snd)
        (bnd
          (ctl ((nth (RV.p PV.nilp) r.fst 1).toPV.toInt == 0)
            (Option.some
              (ltB 0
                (↑(nth PV.nilp
                          (nth (RV.p PV.nilp) r.fst 0).toCs 0).toEs.length :
                  Int)))
            (Option.some Bool.false))
          fun (v : Bool) =>
          bnd
            (ctl v
              (getE
                (nth PV.nilp
                    (nth (RV.p PV.nilp) r.fst 0).toCs 0).toEs
                0 fun (c : List PV) =>
                ctl (okCs [Sh.str] c)
                  (getE b1_0 0 fun (c_1 : List PV) =>
                    ctl (okCs [Sh.str] c_1)
                      (Option.some
                        !((nth PV.nilp c 0).toStr == (nth PV.nilp c_1 0).toStr) ==
                            (k7 == b0_0))
                      Option.none)
                  Option.none)
              (Option.some Bool.false))
            fun (v : Bool) =>
            ctl v (Option.some (Ex.ret, { vals := [AV.bool Bool.false], blks := [] }))
              (lp E F 3 0 [] 0
                { vals := [AV.int IntKind.i64 (IntKind.i64.wrap (k7 + 1))],
                  blks :=
                    [Blk.box
                        [AV.int IntKind.i64 b0_0, AV.int IntKind.i64 b0_1, AV.int IntKind.i64 b0_2,
                          AV.int IntKind.i64 b0_3, AV.int IntKind.i64 b0_4, AV.int IntKind.i64 b0_5],
                      Blk.box [AV.sl 1 b1_0]] }))
        Option.none)
    (Option.some
      (Ex.exit 0,
        { vals := [],
          blks :=
            [Blk.box
                [AV.int IntKind.i64 b0_0, AV.int IntKind.i64 b0_1, AV.int IntKind.i64 b0_2,
                  AV.int IntKind.i64 b0_3, AV.int IntKind.i64 b0_4, AV.int IntKind.i64 b0_5]] })) := (lp_unfold ..).trans (by kernel_rfl)

/-- dynpos/dynposlaw06.SignalKinds -/
theorem r3 (F : Fun) (t : List (List PV)) : funK E F 3 [AV.sl 1 t] [] =
  bnd (F 7 [AV.sl 1 t] []) fun (r : Res) =>
    ctl
      (okR [RSh.ownp [Sh.sl 1, Sh.int IntKind.i64]] r.fst &&
        okB [] r.snd)
      (bnd
        (F 8 [AV.t (TV.ptr 0 0)]
          [Blk.box
              [AV.sl 1
                  (nth PV.nilp
                      (nth (RV.p PV.nilp) r.fst 0).toCs 0).toEs,
                AV.int IntKind.i64
                  (nth PV.nilp
                      (nth (RV.p PV.nilp) r.fst 0).toCs 1).toInt]])
        fun (r : Res) =>
        ctl
          (okR
              [RSh.agg
                  [Sh.int IntKind.i64, Sh.int IntKind.i64, Sh.int IntKind.i64,
                    Sh.int IntKind.i64, Sh.int IntKind.i64, Sh.int IntKind.i64]]
              r.fst &&
            okB [Sum.inl [Sh.sl 1, Sh.int IntKind.i64]] r.snd)
          (bnd
            (F 9
              [AV.agg
                  [PV.int IntKind.i64
                      (nth PV.nilp
                          (nth (RV.p PV.nilp) r.fst 0).toCs 0).toInt,
                    PV.int IntKind.i64
                      (nth PV.nilp
                          (nth (RV.p PV.nilp) r.fst 0).toCs 1).toInt,
                    PV.int IntKind.i64
                      (nth PV.nilp
                          (nth (RV.p PV.nilp) r.fst 0).toCs 2).toInt,
                    PV.int IntKind.i64
                      (nth PV.nilp
                          (nth (RV.p PV.nilp) r.fst 0).toCs 3).toInt,
                    PV.int IntKind.i64
                      (nth PV.nilp
                          (nth (RV.p PV.nilp) r.fst 0).toCs 4).toInt,
                    PV.int IntKind.i64
                      (nth PV.nilp
                          (nth (RV.p PV.nilp) r.fst 0).toCs 5).toInt]]
              [])
            fun (r_1 : Res) =>
            ctl
              (okR
                  [RSh.agg [Sh.sl 1], RSh.one (Sh.int IntKind.i64)] r_1.fst &&
                okB [] r_1.snd)
              (bnd
                (ctl (!(nth (RV.p PV.nilp) r_1.fst 1).toPV.toInt != 0)
                  (Option.some
                    (ltB
                      (↑(nth PV.nilp
                                (nth (RV.p PV.nilp) r_1.fst 0).toCs 0).toEs.length :
                        Int)
                      4))
                  (Option.some Bool.true))
                fun (v : Bool) =>
                ctl v (Option.some ([RV.p (PV.bool Bool.false)], []))
                  (bnd
                    (lp E F 3 0 [] 0
                      { vals := [AV.int IntKind.i64 1],
                        blks :=
                          [Blk.box
                              [AV.int IntKind.i64
                                  (nth PV.nilp
                                      (nth (RV.p PV.nilp) r.fst 0).toCs 0).toInt,
                                AV.int IntKind.i64
                                  (nth PV.nilp
                                      (nth (RV.p PV.nilp) r.fst 0).toCs 1).toInt,
                                AV.int IntKind.i64
                                  (nth PV.nilp
                                      (nth (RV.p PV.nilp) r.fst 0).toCs 2).toInt,
                                AV.int IntKind.i64
                                  (nth PV.nilp
                                      (nth (RV.p PV.nilp) r.fst 0).toCs 3).toInt,
                                AV.int IntKind.i64
                                  (nth PV.nilp
                                      (nth (RV.p PV.nilp) r.fst 0).toCs 4).toInt,
                                AV.int IntKind.i64
                                  (nth PV.nilp
                                      (nth (RV.p PV.nilp) r.fst 0).toCs 5).toInt],
                            Blk.box
                              [AV.sl 1
                                  (nth PV.nilp
                                      (nth (RV.p PV.nilp) r_1.fst 0).toCs 0).toEs]] })
                    fun (p : Ex × Pack) =>
                    ctl (p.fst.eqb (Ex.exit 0))
                      (ctl
                        (okPack
                          { slots := [(4, Sum.inr (Sum.inr (AV.t (TV.ptr 0 0))))],
                            blks :=
                              [Sum.inl
                                  [Sum.inl (Sh.int IntKind.i64), Sum.inl (Sh.int IntKind.i64),
                                    Sum.inl (Sh.int IntKind.i64), Sum.inl (Sh.int IntKind.i64),
                                    Sum.inl (Sh.int IntKind.i64), Sum.inl (Sh.int IntKind.i64)]] }
                          p.snd)
                        (bnd
                          (ctl
                            (!(nth AV.undef (nth (Blk.box []) p.snd.blks 0).toCs
                                      0).toPV.toInt ==
                                1)
                            (Option.some
                              ((nth AV.undef (nth (Blk.box []) p.snd.blks 0).toCs
                                      0).toPV.toInt ==
                                6))
                            (Option.some Bool.true))
                          fun (v : Bool) =>
                          bnd
                            (F 9
                              [AV.agg
                                  [PV.int IntKind.i64
                                      (nth AV.undef
                                            (nth (Blk.box []) p.snd.blks 0).toCs 0).toPV.toInt,
                                    PV.int IntKind.i64
                                      (nth AV.undef
                                            (nth (Blk.box []) p.snd.blks 0).toCs 1).toPV.toInt,
                                    PV.int IntKind.i64
                                      (nth AV.undef
                                            (nth (Blk.box []) p.snd.blks 0).toCs 2).toPV.toInt,
                                    PV.int IntKind.i64
                                      (nth AV.undef
                                            (nth (Blk.box []) p.snd.blks 0).toCs 3).toPV.toInt,
                                    PV.int IntKind.i64
                                      (nth AV.undef
                                            (nth (Blk.box []) p.snd.blks 0).toCs 4).toPV.toInt,
                                    PV.int IntKind.i64 1]]
                              [])
                            fun (r : Res) =>
                            ctl
                              (okR
                                  [RSh.agg [Sh.sl 1],
                                    RSh.one (Sh.int IntKind.i64)]
                                  r.fst &&
                                okB [] r.snd)
                              (bnd
                                (ctl
                                  (((nth (RV.p PV.nilp) r.fst 1).toPV.toInt == 0) == v)
                                  (bnd (F 10 [] []) fun (r : Res) =>
                                    ctl
                                      (okR [RSh.one Sh.bool] r.fst &&
                                        okB [] r.snd)
                                      (Option.some (nth (RV.p PV.nilp) r.fst 0).toPV.toBool) Option.none)
                                  (Option.some Bool.false))
                                fun (v : Bool) => Option.some ([RV.p (PV.bool v)], []))
                              Option.none)
                        Option.none)
                      (ctl (p.fst.eqb Ex.ret)
                        (ctl (okPack { slots := [(2, Sum.inl Sh.bool)], blks := [] } p.snd)
                          (Option.some
                            ([RV.p
                                  (PV.bool (nth AV.undef p.snd.vals 0).toPV.toBool)],
                              []))
                          Option.none)
                        Option.none)))
              Option.none)
          Option.none)
      Option.none := by kernel_rfl

end Go.Proofs.YtcopadohnlcheaaDoor.Vm
