/- The raw theorems, by program: what each function and each loop comes to. -/
import Derived.Test.YtcnjaffogkkpnaaEnv
import Derived.Test.YtcnjaffogkkpnaaVm34
import Derived.KernelRfl
namespace Go.Proofs.Ytcnjaffogkkpnaa.Vm
open Go
set_option maxRecDepth 100000
set_option linter.unusedVariables false

/-- dynpos/dynposlaw14.AllocateNothing, the loop of block 0 -/
theorem r3_0 (F : Fun) (x71 : Int) (x72 : Int) (b0_0 : Int) (b0_1 : Int) (b0_2 : List (List PV)) (b1_0 : List (List PV)) (b1_1 : Int) (b1_2 : Int) (b1_3 : Int) (b1_4 : Int) (b1_5 : Int) (b1_6 : Int) (b2_0 : List (List PV)) (b2_1 : Int) (b2_2 : Int) (b2_3 : Int) (b2_4 : Int) (b2_5 : Int) (b2_6 : Int) : lp E F 3 0 [] 0
  { vals := [AV.int IntKind.i64 x71, AV.int IntKind.i64 x72],
    blks :=
      [Blk.box [AV.int IntKind.i64 b0_0, AV.int IntKind.i64 b0_1, AV.sl 6 b0_2],
        Blk.box
          [AV.sl 2 b1_0, AV.int IntKind.i64 b1_1, AV.int IntKind.i64 b1_2,
            AV.int IntKind.i64 b1_3, AV.int IntKind.i64 b1_4, AV.int IntKind.i64 b1_5,
            AV.int IntKind.i64 b1_6],
        Blk.box
          [AV.sl 2 b2_0, AV.int IntKind.i64 b2_1, AV.int IntKind.i64 b2_2,
            AV.int IntKind.i64 b2_3, AV.int IntKind.i64 b2_4, AV.int IntKind.i64 b2_5,
            AV.int IntKind.i64 b2_6]] } =
  ctl (ltB x72 x71)
    (getE b1_0 x72 fun (c : List PV) =>
      ctl (okCs [Sh.int IntKind.i64, Sh.int IntKind.i64] c)
        (bnd
          (ctl
            (!!((nth PV.nilp c 0).toInt == 0 && ((nth PV.nilp c 1).toInt == 0 && Bool.true)))
            (Option.some (leB (↑b2_0.length : Int) x72)) (Option.some Bool.true))
          fun (v : Bool) =>
          ctl (!v)
            (getE b2_0 x72 fun (c : List PV) =>
              ctl (okCs [Sh.int IntKind.i64, Sh.int IntKind.i64] c)
                (ctl
                  (!((nth PV.nilp c 0).toInt == 0 && ((nth PV.nilp c 1).toInt == 0 && Bool.true)))
                  (Option.some (Ex.ret, { vals := [AV.bool Bool.false], blks := [] }))
                  (lp E F 3 0 [] 0
                    { vals := [AV.int IntKind.i64 x71, AV.int IntKind.i64 (IntKind.i64.wrap (x72 + 1))],
                      blks :=
                        [Blk.box
                            [AV.int IntKind.i64 b0_0, AV.int IntKind.i64 b0_1, AV.sl 6 b0_2],
                          Blk.box
                            [AV.sl 2 b1_0, AV.int IntKind.i64 b1_1, AV.int IntKind.i64 b1_2,
                              AV.int IntKind.i64 b1_3, AV.int IntKind.i64 b1_4, AV.int IntKind.i64 b1_5,
                              AV.int IntKind.i64 b1_6],
                          Blk.box
                            [AV.sl 2 b2_0, AV.int IntKind.i64 b2_1, AV.int IntKind.i64 b2_2,
                              AV.int IntKind.i64 b2_3, AV.int IntKind.i64 b2_4, AV.int IntKind.i64 b2_5,
                              AV.int IntKind.i64 b2_6]] }))
                Option.none)
            (Option.some (Ex.ret, { vals := [AV.bool Bool.false], blks := [] })))
        Option.none)
    (Option.some
      (Ex.exit 0,
        { vals := [],
          blks :=
            [Blk.box [AV.int IntKind.i64 b0_0, AV.int IntKind.i64 b0_1, AV.sl 6 b0_2],
              Blk.box
                [AV.sl 2 b1_0, AV.int IntKind.i64 b1_1, AV.int IntKind.i64 b1_2,
                  AV.int IntKind.i64 b1_3, AV.int IntKind.i64 b1_4, AV.int IntKind.i64 b1_5,
                  AV.int IntKind.i64 b1_6]] })) := (lp_unfold ..).trans (by kernel_rfl)

/-- dynpos/dynposlaw14.AllocateNothing -/
theorem r3 (F : Fun) (t : List (List PV)) : funK E F 3 [AV.sl 1 t] [] =
  bnd (F 8 [AV.sl 1 t] []) fun (r : Res) =>
    ctl
      (okR [RSh.ownp [Sh.sl 1, Sh.int IntKind.i64]] r.fst &&
        okB [] r.snd)
      (bnd
        (F 9 [AV.t (TV.ptr 0 0)]
          [Blk.box
              [AV.sl 1
                  (nth PV.nilp (nth (RV.p PV.nilp) r.fst 0).toCs
                      0).toEs,
                AV.int IntKind.i64
                  (nth PV.nilp (nth (RV.p PV.nilp) r.fst 0).toCs
                      1).toInt]])
        fun (r : Res) =>
        ctl
          (okR
              [RSh.agg [Sh.int IntKind.i64, Sh.int IntKind.i64, Sh.sl 6],
                RSh.one (Sh.sl 1), RSh.one (Sh.sl 2),
                RSh.agg [Sh.int IntKind.i64, Sh.int IntKind.i64, Sh.int IntKind.i64]]
              r.fst &&
            okB [Sum.inl [Sh.sl 1, Sh.int IntKind.i64]] r.snd)
          (bnd
            (F 10
              [AV.agg
                  [PV.int IntKind.i64
                      (nth PV.nilp
                          (nth (RV.p PV.nilp) r.fst 0).toCs 0).toInt,
                    PV.int IntKind.i64
                      (nth PV.nilp
                          (nth (RV.p PV.nilp) r.fst 0).toCs 1).toInt,
                    PV.sl 6
                      (nth PV.nilp
                          (nth (RV.p PV.nilp) r.fst 0).toCs 2).toEs],
                AV.sl 1 (nth (RV.p PV.nilp) r.fst 1).toPV.toEs,
                AV.sl 2 [],
                AV.agg
                  [PV.int IntKind.i64 0, PV.int IntKind.i64 0, PV.int IntKind.i64 0]]
              [])
            fun (r_1 : Res) =>
            ctl
              (okR
                  [RSh.agg
                      [Sh.sl 2, Sh.int IntKind.i64, Sh.int IntKind.i64,
                        Sh.int IntKind.i64, Sh.int IntKind.i64, Sh.int IntKind.i64,
                        Sh.int IntKind.i64],
                    RSh.one (Sh.int IntKind.i64)]
                  r_1.fst &&
                okB [] r_1.snd)
              (ctl
                (Bool.true &&
                  (leB
                      (↑(nth PV.nilp
                                (nth (RV.p PV.nilp) r.fst 0).toCs 2).toEs.length :
                        Int)
                      (↑(nth PV.nilp
                                (nth (RV.p PV.nilp) r.fst 0).toCs 2).toEs.length :
                        Int) &&
                    (leB
                        (↑(nth PV.nilp
                                  (nth (RV.p PV.nilp) r.fst 0).toCs 2).toEs.length :
                          Int)
                        9223372036854775807 &&
                      leB
                        ((↑(nth PV.nilp
                                    (nth (RV.p PV.nilp) r.fst 0).toCs 2).toEs.length :
                            Int) *
                          8)
                        140737488355328)))
                (bnd
                  (F 10
                    [AV.agg
                        [PV.int IntKind.i64
                            (nth PV.nilp
                                (nth (RV.p PV.nilp) r.fst 0).toCs 0).toInt,
                          PV.int IntKind.i64
                            (nth PV.nilp
                                (nth (RV.p PV.nilp) r.fst 0).toCs 1).toInt,
                          PV.sl 6
                            (nth PV.nilp
                                (nth (RV.p PV.nilp) r.fst 0).toCs 2).toEs],
                      AV.sl 1
                        (reps [PV.int IntKind.i64 0]
                          (↑(nth PV.nilp
                                      (nth (RV.p PV.nilp) r.fst 0).toCs 2).toEs.length :
                              Int).toNat),
                      AV.sl 2 [],
                      AV.agg
                        [PV.int IntKind.i64
                            (nth PV.nilp
                                (nth (RV.p PV.nilp) r.fst 3).toCs 0).toInt,
                          PV.int IntKind.i64
                            (nth PV.nilp
                                (nth (RV.p PV.nilp) r.fst 3).toCs 1).toInt,
                          PV.int IntKind.i64
                            (nth PV.nilp
                                (nth (RV.p PV.nilp) r.fst 3).toCs 2).toInt]]
                    [])
                  fun (r_2 : Res) =>
                  ctl
                    (okR
                        [RSh.agg
                            [Sh.sl 2, Sh.int IntKind.i64, Sh.int IntKind.i64,
                              Sh.int IntKind.i64, Sh.int IntKind.i64, Sh.int IntKind.i64,
                              Sh.int IntKind.i64],
                          RSh.one (Sh.int IntKind.i64)]
                        r_2.fst &&
                      okB [] r_2.snd)
                    (bnd
                      (ctl (!(nth (RV.p PV.nilp) r_1.fst 1).toPV.toInt != 0)
                        (Option.some ((nth (RV.p PV.nilp) r_2.fst 1).toPV.toInt != 0)) (Option.some Bool.true))
                      fun (v : Bool) =>
                      ctl (!v)
                        (ctl
                          (!!((nth PV.nilp
                                      (nth (RV.p PV.nilp) r_1.fst 0).toCs 1).toInt ==
                                  0 &&
                                ((nth PV.nilp
                                        (nth (RV.p PV.nilp) r_1.fst 0).toCs 2).toInt ==
                                    0 &&
                                  ((nth PV.nilp
                                          (nth (RV.p PV.nilp) r_1.fst 0).toCs 3).toInt ==
                                      0 &&
                                    Bool.true))))
                          (ctl
                            (!!((nth PV.nilp
                                        (nth (RV.p PV.nilp) r_1.fst 0).toCs 4).toInt ==
                                    0 &&
                                  ((nth PV.nilp
                                          (nth (RV.p PV.nilp) r_1.fst 0).toCs 5).toInt ==
                                      0 &&
                                    ((nth PV.nilp
                                            (nth (RV.p PV.nilp) r_1.fst 0).toCs 6).toInt ==
                                        0 &&
                                      Bool.true))))
                            (bnd
                              (ctl
                                (!!((nth PV.nilp
                                            (nth (RV.p PV.nilp) r_2.fst 0).toCs 1).toInt ==
                                        0 &&
                                      ((nth PV.nilp
                                              (nth (RV.p PV.nilp) r_2.fst 0).toCs 2).toInt ==
                                          0 &&
                                        ((nth PV.nilp
                                                (nth (RV.p PV.nilp) r_2.fst 0).toCs 3).toInt ==
                                            0 &&
                                          Bool.true))))
                                (Option.some
                                  !((nth PV.nilp
                                            (nth (RV.p PV.nilp) r_2.fst 0).toCs 4).toInt ==
                                        (nth PV.nilp
                                            (nth (RV.p PV.nilp) r.fst 3).toCs 0).toInt &&
                                      ((nth PV.nilp
                                              (nth (RV.p PV.nilp) r_2.fst 0).toCs 5).toInt ==
                                          (nth PV.nilp
                                              (nth (RV.p PV.nilp) r.fst 3).toCs 1).toInt &&
                                        ((nth PV.nilp
                                                (nth (RV.p PV.nilp) r_2.fst 0).toCs 6).toInt ==
                                            (nth PV.nilp
                                                (nth (RV.p PV.nilp) r.fst 3).toCs 2).toInt &&
                                          Bool.true))))
                                (Option.some Bool.true))
                              fun (v : Bool) =>
                              ctl v (Option.some ([RV.p (PV.bool Bool.false)], []))
                                (bnd
                                  (lp E F 3 0 [] 0
                                    {
                                      vals :=
                                        [AV.int IntKind.i64
                                            (↑(nth PV.nilp
                                                      (nth (RV.p PV.nilp) r_1.fst 0).toCs 0).toEs.length :
                                              Int),
                                          AV.int IntKind.i64 0],
                                      blks :=
                                        [Blk.box
                                            [AV.int IntKind.i64
                                                (nth PV.nilp
                                                    (nth (RV.p PV.nilp) r.fst 0).toCs 0).toInt,
                                              AV.int IntKind.i64
                                                (nth PV.nilp
                                                    (nth (RV.p PV.nilp) r.fst 0).toCs 1).toInt,
                                              AV.sl 6
                                                (nth PV.nilp
                                                    (nth (RV.p PV.nilp) r.fst 0).toCs 2).toEs],
                                          Blk.box
                                            [AV.sl 2
                                                (nth PV.nilp
                                                    (nth (RV.p PV.nilp) r_1.fst 0).toCs 0).toEs,
                                              AV.int IntKind.i64
                                                (nth PV.nilp
                                                    (nth (RV.p PV.nilp) r_1.fst 0).toCs 1).toInt,
                                              AV.int IntKind.i64
                                                (nth PV.nilp
                                                    (nth (RV.p PV.nilp) r_1.fst 0).toCs 2).toInt,
                                              AV.int IntKind.i64
                                                (nth PV.nilp
                                                    (nth (RV.p PV.nilp) r_1.fst 0).toCs 3).toInt,
                                              AV.int IntKind.i64
                                                (nth PV.nilp
                                                    (nth (RV.p PV.nilp) r_1.fst 0).toCs 4).toInt,
                                              AV.int IntKind.i64
                                                (nth PV.nilp
                                                    (nth (RV.p PV.nilp) r_1.fst 0).toCs 5).toInt,
                                              AV.int IntKind.i64
                                                (nth PV.nilp
                                                    (nth (RV.p PV.nilp) r_1.fst 0).toCs 6).toInt],
                                          Blk.box
                                            [AV.sl 2
                                                (nth PV.nilp
                                                    (nth (RV.p PV.nilp) r_2.fst 0).toCs 0).toEs,
                                              AV.int IntKind.i64
                                                (nth PV.nilp
                                                    (nth (RV.p PV.nilp) r_2.fst 0).toCs 1).toInt,
                                              AV.int IntKind.i64
                                                (nth PV.nilp
                                                    (nth (RV.p PV.nilp) r_2.fst 0).toCs 2).toInt,
                                              AV.int IntKind.i64
                                                (nth PV.nilp
                                                    (nth (RV.p PV.nilp) r_2.fst 0).toCs 3).toInt,
                                              AV.int IntKind.i64
                                                (nth PV.nilp
                                                    (nth (RV.p PV.nilp) r_2.fst 0).toCs 4).toInt,
                                              AV.int IntKind.i64
                                                (nth PV.nilp
                                                    (nth (RV.p PV.nilp) r_2.fst 0).toCs 5).toInt,
                                              AV.int IntKind.i64
                                                (nth PV.nilp
                                                    (nth (RV.p PV.nilp) r_2.fst 0).toCs 6).toInt]] })
                                  fun (p : Ex × Pack) =>
                                  ctl (p.fst.eqb (Ex.exit 0))
                                    (ctl
                                      (okPack
                                        {
                                          slots :=
                                            [(4, Sum.inr (Sum.inr (AV.t (TV.ptr 0 0)))),
                                              (8, Sum.inr (Sum.inr (AV.t (TV.ptr 1 0))))],
                                          blks :=
                                            [Sum.inl
                                                [Sum.inl (Sh.int IntKind.i64), Sum.inl (Sh.int IntKind.i64),
                                                  Sum.inl (Sh.sl 6)],
                                              Sum.inl
                                                [Sum.inl (Sh.sl 2), Sum.inl (Sh.int IntKind.i64),
                                                  Sum.inl (Sh.int IntKind.i64), Sum.inl (Sh.int IntKind.i64),
                                                  Sum.inl (Sh.int IntKind.i64), Sum.inl (Sh.int IntKind.i64),
                                                  Sum.inl (Sh.int IntKind.i64)]] }
                                        p.snd)
                                      (bnd
                                        (ctl
                                          ((↑(nth AV.undef (nth (Blk.box []) p.snd.blks 1).toCs
                                                        0).toPV.toEs.length :
                                              Int) ==
                                            (↑(nth AV.undef (nth (Blk.box []) p.snd.blks 0).toCs
                                                        2).toPV.toEs.length :
                                              Int))
                                          (bnd (F 11 [] []) fun (r : Res) =>
                                            ctl
                                              (okR [RSh.one Sh.bool] r.fst && okB [] r.snd)
                                              (Option.some (nth (RV.p PV.nilp) r.fst 0).toPV.toBool) Option.none)
                                          (Option.some Bool.false))
                                        fun (v : Bool) => Option.some ([RV.p (PV.bool v)], []))
                                      Option.none)
                                    (ctl (p.fst.eqb Ex.ret)
                                      (ctl (okPack { slots := [(2, Sum.inl Sh.bool)], blks := [] } p.snd)
                                        (Option.some
                                          ([RV.p
                                                (PV.bool (nth AV.undef p.snd.vals 0).toPV.toBool)],
                                            []))
                                        Option.none)
                                      Option.none)))
                            (Option.some ([RV.p (PV.bool Bool.false)], [])))
                          (Option.some ([RV.p (PV.bool Bool.false)], [])))
                        (Option.some ([RV.p (PV.bool Bool.false)], [])))
                    Option.none)
                Option.none)
              Option.none)
          Option.none)
      Option.none := by kernel_rfl

end Go.Proofs.Ytcnjaffogkkpnaa.Vm
