/- The raw theorems, by program: what each function and each loop comes to. -/
import Derived.Test.YtmlhemkadoadaaaDoorEnv
import Derived.Test.YtmlhemkadoadaaaDoorVm34
import Derived.KernelRfl
namespace Go.Proofs.YtmlhemkadoadaaaDoor.Vm
open Go
set_option maxRecDepth 100000
set_option linter.unusedVariables false

/-- dynpos/dynposlaw05.StreamPieces, the loop of block 0 -/
theorem r4_0 (F : Fun) (b6 : List (List PV)) (want8 : List (List PV)) (x33 : List (List PV)) (x34 : Int) (x35 : Int) (b0_0 : List (List PV)) (b1_0 : List (List PV)) (c2 : List (List PV)) : lp E F 4 0 [] 0
  {
    vals :=
      [AV.sl 1 b6, AV.sl 1 want8, AV.sl 1 x33, AV.int IntKind.i64 x34,
        AV.int IntKind.i64 x35],
    blks :=
      [Blk.box [AV.sl 1 b0_0], Blk.box [AV.sl 1 b1_0],
        Blk.arr 1 c2] } =
  ctl (ltB x35 x34)
    (getE x33 x35 fun (c : List PV) =>
      ctl (okCs [Sh.int IntKind.u8] c)
        (ctl
          (Bool.true &&
            (leB 0
                (minI (↑b6.length : Int) ((IntKind.i64.wrap (nth PV.nilp c 0).toInt).tmod 30)) &&
              leB
                (minI (↑b6.length : Int) ((IntKind.i64.wrap (nth PV.nilp c 0).toInt).tmod 30))
                (↑b6.length : Int)))
          (bnd
            (F 8
              [AV.agg [PV.sl 1 b1_0],
                AV.sl 1
                  (cutI b6 0
                    (minI (↑b6.length : Int) ((IntKind.i64.wrap (nth PV.nilp c 0).toInt).tmod 30)))]
              [])
            fun (r : Res) =>
            ctl
              (okR
                  [RSh.agg [Sh.sl 1], RSh.one (Sh.sl 1),
                    RSh.one (Sh.int IntKind.i64)]
                  r.fst &&
                okB [] r.snd)
              (ctl
                (leN
                  ((c2.length + (nth (RV.p PV.nilp) r.fst 1).toPV.toEs.length) * 24) 140737488355328)
                (ctl
                  (leB 0
                      (minI (↑b6.length : Int) ((IntKind.i64.wrap (nth PV.nilp c 0).toInt).tmod 30)) &&
                    (leB
                        (minI (↑b6.length : Int) ((IntKind.i64.wrap (nth PV.nilp c 0).toInt).tmod 30))
                        (↑b6.length : Int) &&
                      leB (↑b6.length : Int) (↑b6.length : Int)))
                  (lp E F 4 0 [] 0
                    {
                      vals :=
                        [AV.sl 1
                            (cutI b6
                              (minI (↑b6.length : Int) ((IntKind.i64.wrap (nth PV.nilp c 0).toInt).tmod 30))
                              (↑b6.length : Int)),
                          AV.sl 1 want8, AV.sl 1 x33, AV.int IntKind.i64 x34,
                          AV.int IntKind.i64 (IntKind.i64.wrap (x35 + 1))],
                      blks :=
                        [Blk.box [AV.sl 1 b0_0],
                          Blk.box
                            [AV.sl 1
                                (nth PV.nilp
                                    (nth (RV.p PV.nilp) r.fst 0).toCs 0).toEs],
                          Blk.arr 1
                            (c2 ++ (nth (RV.p PV.nilp) r.fst 1).toPV.toEs)] })
                  Option.none)
                Option.none)
              Option.none)
          Option.none)
        Option.none)
    (Option.some
      (Ex.exit 0,
        { vals := [AV.sl 1 b6, AV.sl 1 want8],
          blks :=
            [Blk.box [AV.sl 1 b0_0], Blk.box [AV.sl 1 b1_0],
              Blk.arr 1 c2] })) := (lp_unfold ..).trans (by kernel_rfl)

/-- dynpos/dynposlaw05.StreamPieces -/
theorem r4 (F : Fun) (t : List (List PV)) (cuts : List (List PV)) : funK E F 4 [AV.sl 1 t, AV.sl 1 cuts] [] =
  ctl (ltB 20 (↑cuts.length : Int))
    (bnd (F 10 [] []) fun (r : Res) =>
      ctl
        (okR [RSh.one Sh.bool] r.fst && okB [] r.snd)
        (Option.some
          ([RV.p
                (PV.bool (nth (RV.p PV.nilp) r.fst 0).toPV.toBool)],
            []))
        Option.none)
    (bnd (F 11 [AV.sl 1 t] []) fun (r : Res) =>
      ctl
        (okR [RSh.ownp [Sh.sl 1, Sh.int IntKind.i64]] r.fst &&
          okB [] r.snd)
        (bnd
          (F 12 [AV.t (TV.ptr 0 0)]
            [Blk.box
                [AV.sl 1
                    (nth PV.nilp
                        (nth (RV.p PV.nilp) r.fst 0).toCs 0).toEs,
                  AV.int IntKind.i64
                    (nth PV.nilp
                        (nth (RV.p PV.nilp) r.fst 0).toCs 1).toInt]])
          fun (r : Res) =>
          ctl
            (okR [RSh.one (Sh.sl 1)] r.fst &&
              okB [Sum.inl [Sh.sl 1, Sh.int IntKind.i64]] r.snd)
            (bnd
              (F 8
                [AV.agg [PV.sl 1 []],
                  AV.sl 1 (nth (RV.p PV.nilp) r.fst 0).toPV.toEs]
                [])
              fun (r_1 : Res) =>
              ctl
                (okR
                    [RSh.agg [Sh.sl 1], RSh.one (Sh.sl 1),
                      RSh.one (Sh.int IntKind.i64)]
                    r_1.fst &&
                  okB [] r_1.snd)
                (bnd
                  (lp E F 4 0 [] 0
                    {
                      vals :=
                        [AV.sl 1 (nth (RV.p PV.nilp) r.fst 0).toPV.toEs,
                          AV.sl 1 (nth (RV.p PV.nilp) r_1.fst 1).toPV.toEs,
                          AV.sl 1 cuts, AV.int IntKind.i64 (↑cuts.length : Int), AV.int IntKind.i64 0],
                      blks :=
                        [Blk.box
                            [AV.sl 1
                                (nth PV.nilp
                                    (nth (RV.p PV.nilp) r_1.fst 0).toCs 0).toEs],
                          Blk.box [AV.sl 1 []], Blk.arr 1 []] })
                  fun (p : Ex × Pack) =>
                  ctl (p.fst.eqb (Ex.exit 0))
                    (ctl
                      (okPack
                        {
                          slots :=
                            [(6, Sum.inl (Sh.sl 1)), (7, Sum.inr (Sum.inr (AV.t (TV.ptr 0 0)))),
                              (8, Sum.inl (Sh.sl 1)), (10, Sum.inr (Sum.inr (AV.t (TV.ptr 1 0)))),
                              (11, Sum.inr (Sum.inr (AV.t (TV.hsl 2))))],
                          blks := [Sum.inl [Sum.inl (Sh.sl 1)], Sum.inl [Sum.inl (Sh.sl 1)], Sum.inr 1] }
                        p.snd)
                      (bnd
                        (F 8
                          [AV.agg
                              [PV.sl 1
                                  (nth AV.undef
                                        (nth (Blk.box []) p.snd.blks 1).toCs 0).toPV.toEs],
                            AV.sl 1 (nth AV.undef p.snd.vals 0).toPV.toEs]
                          [])
                        fun (r : Res) =>
                        ctl
                          (okR
                              [RSh.agg [Sh.sl 1], RSh.one (Sh.sl 1),
                                RSh.one (Sh.int IntKind.i64)]
                              r.fst &&
                            okB [] r.snd)
                          (ctl
                            (leN
                              (((nth (Blk.box []) p.snd.blks 2).toEs.length +
                                  (nth (RV.p PV.nilp) r.fst 1).toPV.toEs.length) *
                                24)
                              140737488355328)
                            (bnd
                              (F 13
                                [AV.sl 1
                                    ((nth (Blk.box []) p.snd.blks 2).toEs ++
                                      (nth (RV.p PV.nilp) r.fst 1).toPV.toEs),
                                  AV.sl 1 (nth AV.undef p.snd.vals 1).toPV.toEs]
                                [])
                              fun (r_2 : Res) =>
                              ctl
                                (okR [RSh.one Sh.bool] r_2.fst &&
                                    okB [] r_2.snd &&
                                  (noslR r_2.fst && noslB r_2.snd))
                                (bnd
                                  (ctl (nth (RV.p PV.nilp) r_2.fst 0).toPV.toBool
                                    (bnd
                                      (F 14
                                        [AV.sl 1
                                            (nth PV.nilp
                                                (nth (RV.p PV.nilp) r.fst 0).toCs 0).toEs,
                                          AV.sl 1
                                            (nth AV.undef
                                                  (nth (Blk.box []) p.snd.blks 0).toCs 0).toPV.toEs]
                                        [])
                                      fun (r : Res) =>
                                      ctl
                                        (okR [RSh.one Sh.bool] r.fst &&
                                          okB [] r.snd)
                                        (Option.some (nth (RV.p PV.nilp) r.fst 0).toPV.toBool) Option.none)
                                    (Option.some Bool.false))
                                  fun (v : Bool) =>
                                  bnd
                                    (ctl v
                                      (Option.some
                                        (ltB
                                          (↑(nth PV.nilp
                                                    (nth (RV.p PV.nilp) r.fst 0).toCs 0).toEs.length :
                                            Int)
                                          200))
                                      (Option.some Bool.false))
                                    fun (v : Bool) =>
                                    bnd
                                      (ctl v
                                        (bnd (F 10 [] []) fun (r : Res) =>
                                          ctl
                                            (okR [RSh.one Sh.bool] r.fst &&
                                              okB [] r.snd)
                                            (Option.some (nth (RV.p PV.nilp) r.fst 0).toPV.toBool) Option.none)
                                        (Option.some Bool.false))
                                      fun (v : Bool) => Option.some ([RV.p (PV.bool v)], []))
                                Option.none)
                            Option.none)
                          Option.none)
                      Option.none)
                    Option.none)
                Option.none)
            Option.none)
        Option.none) := by kernel_rfl

end Go.Proofs.YtmlhemkadoadaaaDoor.Vm
