/- The raw theorems, by program: what each function and each loop comes to. -/
import Derived.Test.YtgdeaamklodkkaaDoorEnv
import Derived.Test.YtgdeaamklodkkaaDoorVm34
import Derived.KernelRfl
namespace Go.Proofs.YtgdeaamklodkkaaDoor.Vm
open Go
set_option maxRecDepth 100000
set_option linter.unusedVariables false

/-- dynpos/dynposlaw40.ReportPercents, the loop of block 0 -/
theorem r4_0 (F : Fun) (sum5 : Int) (all6 : Int) (x19_0 : Int) (x19_1 : Int) (x19_2 : Int) (x19_3 : Int) (x20 : Int) (b0_0 : Int) (b0_1 : Int) (b0_2 : Int) (b0_3 : Int) (b0_4 : Int) (b0_5 : Int) (b0_6 : Int) : lp E F 4 0 [] 0
  {
    vals :=
      [AV.int IntKind.i64 sum5, AV.int IntKind.i64 all6,
        AV.agg
          [PV.int IntKind.i64 x19_0, PV.int IntKind.i64 x19_1, PV.int IntKind.i64 x19_2,
            PV.int IntKind.i64 x19_3],
        AV.int IntKind.i64 x20],
    blks :=
      [Blk.box
          [AV.int IntKind.i64 b0_0, AV.int IntKind.i64 b0_1, AV.int IntKind.i64 b0_2,
            AV.int IntKind.i64 b0_3, AV.int IntKind.i64 b0_4, AV.int IntKind.i64 b0_5,
            AV.int IntKind.i64 b0_6]] } =
  ctl (ltB x20 4)
    (getE
      [[PV.int IntKind.i64 x19_0], [PV.int IntKind.i64 x19_1], [PV.int IntKind.i64 x19_2],
        [PV.int IntKind.i64 x19_3]]
      x20 fun (c : List PV) =>
      ctl (okCs [Sh.int IntKind.i64] c)
        (bnd
          (F 16
            [AV.agg
                [PV.int IntKind.i64 b0_0, PV.int IntKind.i64 b0_1, PV.int IntKind.i64 b0_2,
                  PV.int IntKind.i64 b0_3, PV.int IntKind.i64 b0_4, PV.int IntKind.i64 b0_5,
                  PV.int IntKind.i64 b0_6],
              AV.int IntKind.i64 x20]
            [])
          fun (r : Res) =>
          ctl
            (okR [RSh.one (Sh.int IntKind.i64)] r.fst && okB [] r.snd)
            (bnd
              (ctl
                (!ltB (nth (RV.p PV.nilp) r.fst 0).toPV.toInt 0)
                (Option.some (ltB 100 (nth (RV.p PV.nilp) r.fst 0).toPV.toInt))
                (Option.some Bool.true))
              fun (v : Bool) =>
              bnd
                (ctl (!v)
                  (ctl ((nth PV.nilp c 0).toInt == 0)
                    (Option.some ((nth (RV.p PV.nilp) r.fst 0).toPV.toInt != 0)) (Option.some Bool.false))
                  (Option.some Bool.true))
                fun (v : Bool) =>
                ctl v (Option.some (Ex.ret, { vals := [AV.bool Bool.false], blks := [] }))
                  (lp E F 4 0 [] 0
                    {
                      vals :=
                        [AV.int IntKind.i64
                            (IntKind.i64.wrap (sum5 + (nth (RV.p PV.nilp) r.fst 0).toPV.toInt)),
                          AV.int IntKind.i64 (IntKind.i64.wrap (all6 + (nth PV.nilp c 0).toInt)),
                          AV.agg
                            [PV.int IntKind.i64 x19_0, PV.int IntKind.i64 x19_1, PV.int IntKind.i64 x19_2,
                              PV.int IntKind.i64 x19_3],
                          AV.int IntKind.i64 (IntKind.i64.wrap (x20 + 1))],
                      blks :=
                        [Blk.box
                            [AV.int IntKind.i64 b0_0, AV.int IntKind.i64 b0_1, AV.int IntKind.i64 b0_2,
                              AV.int IntKind.i64 b0_3, AV.int IntKind.i64 b0_4, AV.int IntKind.i64 b0_5,
                              AV.int IntKind.i64 b0_6]] }))
            Option.none)
        Option.none)
    (Option.some (Ex.exit 0, { vals := [AV.int IntKind.i64 sum5, AV.int IntKind.i64 all6], blks := [] })) := (lp_unfold ..).trans (by kernel_rfl)

/-- dynpos/dynposlaw40.ReportPercents -/
theorem r4 (F : Fun) (t : List (List PV)) : funK E F 4 [AV.sl 1 t] [] =
  ctl (ltB 600 (↑t.length : Int))
    (bnd (F 8 [] []) fun (r : Res) =>
      ctl
        (okR [RSh.one Sh.bool] r.fst && okB [] r.snd)
        (Option.some
          ([RV.p
                (PV.bool (nth (RV.p PV.nilp) r.fst 0).toPV.toBool)],
            []))
        Option.none)
    (bnd (F 9 [AV.sl 1 t] []) fun (r : Res) =>
      ctl
        (okR [RSh.ownp [Sh.sl 1, Sh.int IntKind.i64]] r.fst &&
          okB [] r.snd)
        (bnd
          (F 15 [AV.t (TV.ptr 0 0)]
            [Blk.box
                [AV.sl 1
                    (nth PV.nilp
                        (nth (RV.p PV.nilp) r.fst 0).toCs 0).toEs,
                  AV.int IntKind.i64
                    (nth PV.nilp
                        (nth (RV.p PV.nilp) r.fst 0).toCs 1).toInt]])
          fun (r : Res) =>
          ctl
            (okR
                [RSh.agg
                    [Sh.int IntKind.i64, Sh.int IntKind.i64, Sh.int IntKind.i64,
                      Sh.int IntKind.i64, Sh.int IntKind.i64, Sh.int IntKind.i64,
                      Sh.int IntKind.i64]]
                r.fst &&
              okB [Sum.inl [Sh.sl 1, Sh.int IntKind.i64]] r.snd)
            (bnd
              (lp E F 4 0 [] 0
                {
                  vals :=
                    [AV.int IntKind.i64 0, AV.int IntKind.i64 0,
                      AV.agg
                        [PV.int IntKind.i64
                            (nth PV.nilp
                                (nth (RV.p PV.nilp) r.fst 0).toCs 0).toInt,
                          PV.int IntKind.i64
                            (nth PV.nilp
                                (nth (RV.p PV.nilp) r.fst 0).toCs 1).toInt,
                          PV.int IntKind.i64
                            (nth PV.nilp
                                (nth (RV.p PV.nilp) r.fst 0).toCs 2).toInt,
                          PV.int IntKind.i64
                            (nth PV.nilp
                                (nth (RV.p PV.nilp) r.fst 0).toCs 3).toInt],
                      AV.int IntKind.i64 0],
                  blks :=
                    [Blk.box
                        [AV.int IntKind.i64
                            (nth PV.nilp
                                (nth (RV.p PV.nilp) r.fst 0).toCs 0).toInt,
                          AV.int IntKind.i64
                            (nth PV.nilp
                                (nth (RV.p PV.nilp) r.fst 0).toCs 1).toInt,
                          AV.int IntKind.i64
                            (nth PV.nilp
                                (nth (RV.p PV.nilp) r.fst 0).toCs 2).toInt,
                          AV.int IntKind.i64
                            (nth PV.nilp
                                (nth (RV.p PV.nilp) r.fst 0).toCs 3).toInt,
                          AV.int IntKind.i64
                            (nth PV.nilp
                                (nth (RV.p PV.nilp) r.fst 0).toCs 4).toInt,
                          AV.int IntKind.i64
                            (nth PV.nilp
                                (nth (RV.p PV.nilp) r.fst 0).toCs 5).toInt,
                          AV.int IntKind.i64
                            (nth PV.nilp
                                (nth (RV.p PV.nilp) r.fst 0).toCs 6).toInt]] })
              fun (p : Ex × Pack) =>
              ctl (p.fst.eqb (Ex.exit 0))
                (ctl
                  (okPack
                    { slots := [(5, Sum.inl (Sh.int IntKind.i64)), (6, Sum.inl (Sh.int IntKind.i64))], blks := [] } p.snd)
                  (bnd
                    (ctl ((nth AV.undef p.snd.vals 1).toPV.toInt == 0)
                      (Option.some ((nth AV.undef p.snd.vals 0).toPV.toInt == 0)) (Option.some Bool.false))
                    fun (v : Bool) =>
                    bnd
                      (ctl (!v)
                        (ctl (ltB 0 (nth AV.undef p.snd.vals 1).toPV.toInt)
                          (ctl (leB 98 (nth AV.undef p.snd.vals 0).toPV.toInt)
                            (Option.some (leB (nth AV.undef p.snd.vals 0).toPV.toInt 102)) (Option.some Bool.false))
                          (Option.some Bool.false))
                        (Option.some Bool.true))
                      fun (v : Bool) =>
                      bnd
                        (ctl v
                          (bnd (F 8 [] []) fun (r : Res) =>
                            ctl
                              (okR [RSh.one Sh.bool] r.fst && okB [] r.snd)
                              (Option.some (nth (RV.p PV.nilp) r.fst 0).toPV.toBool) Option.none)
                          (Option.some Bool.false))
                        fun (v : Bool) => Option.some ([RV.p (PV.bool v)], []))
                  Option.none)
                (ctl (p.fst.eqb Ex.ret)
                  (ctl (okPack { slots := [(2, Sum.inl Sh.bool)], blks := [] } p.snd)
                    (Option.some
                      ([RV.p (PV.bool (nth AV.undef p.snd.vals 0).toPV.toBool)],
                        []))
                    Option.none)
                  Option.none))
            Option.none)
        Option.none) := by kernel_rfl

end Go.Proofs.YtgdeaamklodkkaaDoor.Vm
