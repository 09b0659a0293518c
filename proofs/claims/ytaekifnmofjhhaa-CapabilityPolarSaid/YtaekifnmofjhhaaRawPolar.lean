/- The raw theorems, by program: what each function and each loop comes to. -/
import Derived.Test.YtaekifnmofjhhaaEnv
import Derived.Test.YtaekifnmofjhhaaVm34
import Derived.KernelRfl
namespace Go.Proofs.Ytaekifnmofjhhaa.Vm
open Go
set_option maxRecDepth 100000
set_option linter.unusedVariables false

/-- dynpos/dynposlaw25.CapabilityPolar, the loop of block 0 -/
theorem r7_0 (F : Fun) (x80 : List (List PV)) (x81 : Int) (x82 : Int) : lp E F 7 0 [] 0
  { vals := [AV.sl 1 x80, AV.int IntKind.i64 x81, AV.int IntKind.i64 x82], blks := [] } =
  ctl (ltB x82 x81)
    (getE x80 x82 fun (c : List PV) =>
      ctl (okCs [Sh.int IntKind.i64] c)
        (bnd
          (ctl (!ltB (nth PV.nilp c 0).toInt 0)
            (Option.some (ltB 200 (nth PV.nilp c 0).toInt)) (Option.some Bool.true))
          fun (v : Bool) =>
          ctl v (Option.some (Ex.ret, { vals := [AV.bool Bool.false], blks := [] }))
            (lp E F 7 0 [] 0
              { vals := [AV.sl 1 x80, AV.int IntKind.i64 x81, AV.int IntKind.i64 (IntKind.i64.wrap (x82 + 1))],
                blks := [] }))
        Option.none)
    (Option.some (Ex.exit 0, { vals := [], blks := [] })) := (lp_unfold ..).trans (by kernel_rfl)

/-- dynpos/dynposlaw25.CapabilityPolar -/
theorem r7 (F : Fun) (t : List (List PV)) (n : Int) : funK E F 7 [AV.sl 1 t, AV.int IntKind.u8 n] [] =
  ctl (ltB 600 (↑t.length : Int))
    (bnd (F 8 [] []) fun (r : Res) =>
      ctl (okR [RSh.one Sh.bool] r.fst && okB [] r.snd)
        (Option.some
          ([RV.p
                (PV.bool (nth (RV.p PV.nilp) r.fst 0).toPV.toBool)],
            []))
        Option.none)
    (bnd (F 9 [AV.sl 1 t] []) fun (r : Res) =>
      ctl
        (okR [RSh.ownp [Sh.sl 1, Sh.int IntKind.i64]] r.fst &&
          okB [] r.snd)
        (bnd
          (F 10 [AV.t (TV.ptr 0 0), AV.int IntKind.i64 2]
            [Blk.box
                [AV.sl 1
                    (nth PV.nilp (nth (RV.p PV.nilp) r.fst 0).toCs
                        0).toEs,
                  AV.int IntKind.i64
                    (nth PV.nilp (nth (RV.p PV.nilp) r.fst 0).toCs
                        1).toInt]])
          fun (r : Res) =>
          ctl
            (okR
                [RSh.agg [Sh.int IntKind.i64, Sh.int IntKind.i64, Sh.sl 6]] r.fst &&
              okB [Sum.inl [Sh.sl 1, Sh.int IntKind.i64]] r.snd)
            (bnd
              (F 11
                [AV.t (TV.ptr 0 0),
                  AV.agg
                    [PV.int IntKind.i64
                        (nth PV.nilp
                            (nth (RV.p PV.nilp) r.fst 0).toCs 0).toInt,
                      PV.int IntKind.i64
                        (nth PV.nilp
                            (nth (RV.p PV.nilp) r.fst 0).toCs 1).toInt,
                      PV.sl 6
                        (nth PV.nilp
                            (nth (RV.p PV.nilp) r.fst 0).toCs 2).toEs]]
                [Blk.box
                    [AV.sl 1
                        (nth PV.nilp
                            (List.map AV.toPV (nth (Blk.box []) r.snd 0).toCs) 0).toEs,
                      AV.int IntKind.i64
                        (nth PV.nilp
                            (List.map AV.toPV (nth (Blk.box []) r.snd 0).toCs) 1).toInt]])
              fun (r_1 : Res) =>
              ctl
                (okR [RSh.one (Sh.sl 1)] r_1.fst &&
                  okB [Sum.inl [Sh.sl 1, Sh.int IntKind.i64]] r_1.snd)
                (bnd
                  (F 22
                    [AV.agg
                        [PV.int IntKind.i64
                            (nth PV.nilp
                                (nth (RV.p PV.nilp) r.fst 0).toCs 0).toInt,
                          PV.int IntKind.i64
                            (nth PV.nilp
                                (nth (RV.p PV.nilp) r.fst 0).toCs 1).toInt,
                          PV.sl 6
                            (nth PV.nilp
                                (nth (RV.p PV.nilp) r.fst 0).toCs 2).toEs],
                      AV.sl 1 (nth (RV.p PV.nilp) r_1.fst 0).toPV.toEs,
                      AV.int IntKind.i64 (IntKind.i64.wrap (1 + (IntKind.i64.wrap n).tmod 60))]
                    [])
                  fun (r_2 : Res) =>
                  ctl
                    (okR [RSh.one (Sh.sl 1)] r_2.fst && okB [] r_2.snd)
                    (ctl (!(↑(nth (RV.p PV.nilp) r_2.fst 0).toPV.toEs.length : Int) != 12)
                      (getE (nth (RV.p PV.nilp) r_2.fst 0).toPV.toEs 0
                        fun (c : List PV) =>
                        ctl (okCs [Sh.int IntKind.i64] c)
                          (bnd
                            (bnd
                              (F 13
                                [AV.agg
                                    [PV.int IntKind.i64
                                        (nth PV.nilp
                                            (nth (RV.p PV.nilp) r.fst 0).toCs 0).toInt,
                                      PV.int IntKind.i64
                                        (nth PV.nilp
                                            (nth (RV.p PV.nilp) r.fst 0).toCs 1).toInt,
                                      PV.sl 6
                                        (nth PV.nilp
                                            (nth (RV.p PV.nilp) r.fst 0).toCs 2).toEs],
                                  AV.sl 1 (nth (RV.p PV.nilp) r_1.fst 0).toPV.toEs,
                                  AV.agg
                                    [PV.int IntKind.i64 (IntKind.i64.wrap (0 - IntKind.i64.wrap (1 + (IntKind.i64.wrap n).tmod 60))),
                                      PV.int IntKind.i64 0, PV.int IntKind.i64 0]]
                                [])
                              fun (r : Res) =>
                              ctl
                                (okR [RSh.one (Sh.int IntKind.i64)] r.fst && okB [] r.snd)
                                (Option.some
                                  ((nth PV.nilp c 0).toInt !=
                                    (nth (RV.p PV.nilp) r.fst 0).toPV.toInt))
                                Option.none)
                            fun (v : Bool) =>
                            ctl (!v)
                              (getE (nth (RV.p PV.nilp) r_2.fst 0).toPV.toEs 3
                                fun (c : List PV) =>
                                ctl (okCs [Sh.int IntKind.i64] c)
                                  (bnd
                                    (bnd
                                      (F 13
                                        [AV.agg
                                            [PV.int IntKind.i64
                                                (nth PV.nilp
                                                    (nth (RV.p PV.nilp) r.fst 0).toCs 0).toInt,
                                              PV.int IntKind.i64
                                                (nth PV.nilp
                                                    (nth (RV.p PV.nilp) r.fst 0).toCs 1).toInt,
                                              PV.sl 6
                                                (nth PV.nilp
                                                    (nth (RV.p PV.nilp) r.fst 0).toCs 2).toEs],
                                          AV.sl 1 (nth (RV.p PV.nilp) r_1.fst 0).toPV.toEs,
                                          AV.agg
                                            [PV.int IntKind.i64 0,
                                              PV.int IntKind.i64 (IntKind.i64.wrap (0 - IntKind.i64.wrap (1 + (IntKind.i64.wrap n).tmod 60))),
                                              PV.int IntKind.i64 0]]
                                        [])
                                      fun (r : Res) =>
                                      ctl
                                        (okR [RSh.one (Sh.int IntKind.i64)] r.fst &&
                                          okB [] r.snd)
                                        (Option.some
                                          ((nth PV.nilp c 0).toInt !=
                                            (nth (RV.p PV.nilp) r.fst 0).toPV.toInt))
                                        Option.none)
                                    fun (v : Bool) =>
                                    ctl (!v)
                                      (getE (nth (RV.p PV.nilp) r_2.fst 0).toPV.toEs 6
                                        fun (c : List PV) =>
                                        ctl (okCs [Sh.int IntKind.i64] c)
                                          (bnd
                                            (bnd
                                              (F 13
                                                [AV.agg
                                                    [PV.int IntKind.i64
                                                        (nth PV.nilp
                                                            (nth (RV.p PV.nilp) r.fst 0).toCs 0).toInt,
                                                      PV.int IntKind.i64
                                                        (nth PV.nilp
                                                            (nth (RV.p PV.nilp) r.fst 0).toCs 1).toInt,
                                                      PV.sl 6
                                                        (nth PV.nilp
                                                            (nth (RV.p PV.nilp) r.fst 0).toCs 2).toEs],
                                                  AV.sl 1
                                                    (nth (RV.p PV.nilp) r_1.fst 0).toPV.toEs,
                                                  AV.agg
                                                    [PV.int IntKind.i64 (IntKind.i64.wrap (1 + (IntKind.i64.wrap n).tmod 60)), PV.int IntKind.i64 0,
                                                      PV.int IntKind.i64 0]]
                                                [])
                                              fun (r : Res) =>
                                              ctl
                                                (okR [RSh.one (Sh.int IntKind.i64)] r.fst &&
                                                  okB [] r.snd)
                                                (Option.some
                                                  ((nth PV.nilp c 0).toInt !=
                                                    (nth (RV.p PV.nilp) r.fst 0).toPV.toInt))
                                                Option.none)
                                            fun (v : Bool) =>
                                            ctl (!v)
                                              (getE (nth (RV.p PV.nilp) r_2.fst 0).toPV.toEs 9
                                                fun (c : List PV) =>
                                                ctl (okCs [Sh.int IntKind.i64] c)
                                                  (bnd
                                                    (bnd
                                                      (F 13
                                                        [AV.agg
                                                            [PV.int IntKind.i64
                                                                (nth PV.nilp
                                                                    (nth (RV.p PV.nilp) r.fst 0).toCs 0).toInt,
                                                              PV.int IntKind.i64
                                                                (nth PV.nilp
                                                                    (nth (RV.p PV.nilp) r.fst 0).toCs 1).toInt,
                                                              PV.sl 6
                                                                (nth PV.nilp
                                                                    (nth (RV.p PV.nilp) r.fst 0).toCs 2).toEs],
                                                          AV.sl 1
                                                            (nth (RV.p PV.nilp) r_1.fst 0).toPV.toEs,
                                                          AV.agg
                                                            [PV.int IntKind.i64 0,
                                                              PV.int IntKind.i64 (IntKind.i64.wrap (1 + (IntKind.i64.wrap n).tmod 60)),
                                                              PV.int IntKind.i64 0]]
                                                        [])
                                                      fun (r : Res) =>
                                                      ctl
                                                        (okR [RSh.one (Sh.int IntKind.i64)] r.fst &&
                                                          okB [] r.snd)
                                                        (Option.some
                                                          ((nth PV.nilp c 0).toInt !=
                                                            (nth (RV.p PV.nilp) r.fst 0).toPV.toInt))
                                                        Option.none)
                                                    fun (v : Bool) =>
                                                    ctl v (Option.some ([RV.p (PV.bool Bool.false)], []))
                                                      (bnd
                                                        (lp E F 7 0 [] 0
                                                          {
                                                            vals :=
                                                              [AV.sl 1
                                                                  (nth (RV.p PV.nilp) r_2.fst 0).toPV.toEs,
                                                                AV.int IntKind.i64
                                                                  (↑(nth (RV.p PV.nilp) r_2.fst 0).toPV.toEs.length : Int),
                                                                AV.int IntKind.i64 0],
                                                            blks := [] })
                                                        fun (p : Ex × Pack) =>
                                                        ctl (p.fst.eqb (Ex.exit 0))
                                                          (bnd (F 8 [] []) fun (r : Res) =>
                                                            ctl
                                                              (okR [RSh.one Sh.bool] r.fst &&
                                                                okB [] r.snd)
                                                              (Option.some
                                                                ([RV.p
                                                                      (PV.bool
                                                                        (nth (RV.p PV.nilp) r.fst 0).toPV.toBool)],
                                                                  []))
                                                              Option.none)
                                                          (ctl (p.fst.eqb Ex.ret)
                                                            (ctl (okPack { slots := [(4, Sum.inl Sh.bool)], blks := [] } p.snd)
                                                              (Option.some
                                                                ([RV.p
                                                                      (PV.bool (nth AV.undef p.snd.vals 0).toPV.toBool)],
                                                                  []))
                                                              Option.none)
                                                            Option.none)))
                                                  Option.none)
                                              (Option.some ([RV.p (PV.bool Bool.false)], [])))
                                          Option.none)
                                      (Option.some ([RV.p (PV.bool Bool.false)], [])))
                                  Option.none)
                              (Option.some ([RV.p (PV.bool Bool.false)], [])))
                          Option.none)
                      (Option.some ([RV.p (PV.bool Bool.false)], [])))
                    Option.none)
                Option.none)
            Option.none)
        Option.none) := by kernel_rfl

end Go.Proofs.Ytaekifnmofjhhaa.Vm
