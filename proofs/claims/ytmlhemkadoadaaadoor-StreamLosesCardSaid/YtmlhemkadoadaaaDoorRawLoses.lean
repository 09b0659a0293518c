/- The raw theorems, by program: what each function and each loop comes to. -/
import Derived.Test.YtmlhemkadoadaaaDoorEnv
import Derived.Test.YtmlhemkadoadaaaDoorVm34
import Derived.KernelRfl
namespace Go.Proofs.YtmlhemkadoadaaaDoor.Vm
open Go
set_option maxRecDepth 100000
set_option linter.unusedVariables false

/-- dynpos/dynposlaw05.StreamLoses -/
theorem r5 (F : Fun) (t : List (List PV)) (cut : Int) : funK E F 5 [AV.sl 1 t, AV.int IntKind.u8 cut] [] =
  bnd (F 11 [AV.sl 1 t] []) fun (r : Res) =>
    ctl
      (okR [RSh.ownp [Sh.sl 1, Sh.int IntKind.i64]] r.fst &&
        okB [] r.snd)
      (bnd
        (F 15 [AV.t (TV.ptr 0 0)]
          [Blk.box
              [AV.sl 1
                  (nth PV.nilp
                      (nth (RV.p PV.nilp) r.fst 0).toCs 0).toEs,
                AV.int IntKind.i64
                  (nth PV.nilp
                      (nth (RV.p PV.nilp) r.fst 0).toCs 1).toInt]])
        fun (r : Res) =>
        ctl
          (okR [RSh.one (Sh.sl 1)] r.fst &&
            okB [Sum.inl [Sh.sl 1, Sh.int IntKind.i64]] r.snd)
          (bnd
            (F 15 [AV.t (TV.ptr 0 0)]
              [Blk.box
                  [AV.sl 1
                      (nth PV.nilp
                          (List.map AV.toPV (nth (Blk.box []) r.snd 0).toCs) 0).toEs,
                    AV.int IntKind.i64
                      (nth PV.nilp
                          (List.map AV.toPV (nth (Blk.box []) r.snd 0).toCs) 1).toInt]])
            fun (r_1 : Res) =>
            ctl
              (okR [RSh.one (Sh.sl 1)] r_1.fst &&
                okB [Sum.inl [Sh.sl 1, Sh.int IntKind.i64]] r_1.snd)
              (bnd
                (F 16
                  [AV.agg
                      [PV.sl 1 (nth (RV.p PV.nilp) r.fst 0).toPV.toEs]]
                  [])
                fun (r : Res) =>
                ctl
                  (okR
                      [RSh.one (Sh.sl 1), RSh.one (Sh.int IntKind.i64)]
                      r.fst &&
                    okB [] r.snd)
                  (bnd
                    (F 16
                      [AV.agg
                          [PV.sl 1 (nth (RV.p PV.nilp) r_1.fst 0).toPV.toEs]]
                      [])
                    fun (r_2 : Res) =>
                    ctl
                      (okR
                          [RSh.one (Sh.sl 1), RSh.one (Sh.int IntKind.i64)]
                          r_2.fst &&
                        okB [] r_2.snd)
                      (ctl
                        (Bool.true &&
                          neB
                            (IntKind.i64.wrap ((↑(nth (RV.p PV.nilp) r.fst 0).toPV.toEs.length : Int) - 1)) 0)
                        (ctl
                          (Bool.true &&
                            (leB 0
                                (IntKind.i64.wrap
                                  (1 +
                                    (IntKind.i64.wrap cut).tmod
                                      (IntKind.i64.wrap
                                        ((↑(nth (RV.p PV.nilp) r.fst 0).toPV.toEs.length : Int) - 1)))) &&
                              leB
                                (IntKind.i64.wrap
                                  (1 +
                                    (IntKind.i64.wrap cut).tmod
                                      (IntKind.i64.wrap
                                        ((↑(nth (RV.p PV.nilp) r.fst 0).toPV.toEs.length : Int) - 1))))
                                (↑(nth (RV.p PV.nilp) r.fst 0).toPV.toEs.length : Int)))
                          (ctl
                            (leN
                              ((cutI (nth (RV.p PV.nilp) r.fst 0).toPV.toEs 0
                                    (IntKind.i64.wrap
                                      (1 +
                                        (IntKind.i64.wrap cut).tmod
                                          (IntKind.i64.wrap
                                            ((↑(nth (RV.p PV.nilp) r.fst 0).toPV.toEs.length : Int) - 1))))).length *
                                1)
                              140737488355328)
                            (ctl
                              (leN
                                (((cutI (nth (RV.p PV.nilp) r.fst 0).toPV.toEs 0
                                        (IntKind.i64.wrap
                                          (1 +
                                            (IntKind.i64.wrap cut).tmod
                                              (IntKind.i64.wrap
                                                ((↑(nth (RV.p PV.nilp) r.fst 0).toPV.toEs.length : Int) -
                                                  1))))).length +
                                    (nth (RV.p PV.nilp) r_2.fst 0).toPV.toEs.length) *
                                  1)
                                140737488355328)
                              (bnd
                                (F 17
                                  [AV.sl 1
                                      (cutI (nth (RV.p PV.nilp) r.fst 0).toPV.toEs
                                          0
                                          (IntKind.i64.wrap
                                            (1 +
                                              (IntKind.i64.wrap cut).tmod
                                                (IntKind.i64.wrap
                                                  ((↑(nth (RV.p PV.nilp) r.fst 0).toPV.toEs.length : Int) - 1)))) ++
                                        (nth (RV.p PV.nilp) r_2.fst 0).toPV.toEs)]
                                  [])
                                fun (r_3 : Res) =>
                                ctl
                                  (okR
                                      [RSh.one (Sh.sl 1),
                                        RSh.one (Sh.int IntKind.i64)]
                                      r_3.fst &&
                                    okB [] r_3.snd)
                                  (bnd
                                    (F 13
                                      [AV.sl 1
                                          (nth (RV.p PV.nilp) r_3.fst 0).toPV.toEs,
                                        AV.sl 1
                                          [[PV.sl 1
                                                (nth (RV.p PV.nilp) r_1.fst 0).toPV.toEs]]]
                                      [])
                                    fun (r_4 : Res) =>
                                    ctl
                                      (okR [RSh.one Sh.bool] r_4.fst &&
                                          okB [] r_4.snd &&
                                        (noslR r_4.fst && noslB r_4.snd))
                                      (bnd
                                        (ctl
                                          (nth (RV.p PV.nilp) r_4.fst 0).toPV.toBool
                                          (Option.some
                                            ((nth (RV.p PV.nilp) r_3.fst 1).toPV.toInt ==
                                              IntKind.i64.wrap
                                                (1 +
                                                  (IntKind.i64.wrap cut).tmod
                                                    (IntKind.i64.wrap
                                                      ((↑(nth (RV.p PV.nilp) r.fst 0).toPV.toEs.length : Int) -
                                                        1)))))
                                          (Option.some Bool.false))
                                        fun (v : Bool) =>
                                        bnd
                                          (ctl v
                                            (bnd (F 10 [] []) fun (r : Res) =>
                                              ctl
                                                (okR [RSh.one Sh.bool] r.fst &&
                                                  okB [] r.snd)
                                                (Option.some (nth (RV.p PV.nilp) r.fst 0).toPV.toBool) Option.none)
                                            (Option.some Bool.false))
                                          fun (v : Bool) => Option.some ([RV.p (PV.bool v)], []))
                                      Option.none)
                                  Option.none)
                              Option.none)
                            Option.none)
                          Option.none)
                        Option.none)
                      Option.none)
                  Option.none)
              Option.none)
          Option.none)
      Option.none := by kernel_rfl

end Go.Proofs.YtmlhemkadoadaaaDoor.Vm
