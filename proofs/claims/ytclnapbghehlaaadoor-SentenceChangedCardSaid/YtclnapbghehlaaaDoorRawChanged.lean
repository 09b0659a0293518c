/- The raw theorems, by program: what each function and each loop comes to. -/
import Derived.Test.YtclnapbghehlaaaDoorEnv
import Derived.Test.YtclnapbghehlaaaDoorVm34
import Derived.KernelRfl
namespace Go.Proofs.YtclnapbghehlaaaDoor.Vm
open Go
set_option maxRecDepth 100000
set_option linter.unusedVariables false

/-- dynpos/dynposlaw04.SentenceChanged -/
theorem r6 (F : Fun) (t : List (List PV)) (zat : Int) (zby : Int) : funK E F 6 [AV.sl 1 t, AV.int IntKind.u8 zat, AV.int IntKind.u8 zby] [] =
  bnd (F 9 [AV.sl 1 t] []) fun (r : Res) =>
    ctl
      (okR [RSh.ownp [Sh.sl 1, Sh.int IntKind.i64]] r.fst &&
        okB [] r.snd)
      (bnd
        (F 10 [AV.t (TV.ptr 0 0)]
          [Blk.box
              [AV.sl 1
                  (nth PV.nilp
                      (nth (RV.p PV.nilp) r.fst 0).toCs 0).toEs,
                AV.int IntKind.i64
                  (nth PV.nilp
                      (nth (RV.p PV.nilp) r.fst 0).toCs 1).toInt]])
        fun (r : Res) =>
        ctl
          (okR [RSh.own 1] r.fst &&
            okB [Sum.inl [Sh.sl 1, Sh.int IntKind.i64]] r.snd)
          (bnd
            (F 16
              [AV.agg
                  [PV.sl 1 (nth (RV.p PV.nilp) r.fst 0).toEs]]
              [])
            fun (r : Res) =>
            ctl
              (okR
                  [RSh.one (Sh.sl 1), RSh.one (Sh.int IntKind.i64)] r.fst &&
                okB [] r.snd)
              (bnd
                (ctl (!(nth (RV.p PV.nilp) r.fst 1).toPV.toInt != 0)
                  (Option.some
                    (ltB (↑(nth (RV.p PV.nilp) r.fst 0).toPV.toEs.length : Int)
                      6))
                  (Option.some Bool.true))
                fun (v : Bool) =>
                ctl v (Option.some ([RV.p (PV.bool Bool.false)], []))
                  (ctl
                    (leN ((nth (RV.p PV.nilp) r.fst 0).toPV.toEs.length * 1)
                      140737488355328)
                    (ctl
                      (Bool.true &&
                        neB
                          (IntKind.i64.wrap ((↑(nth (RV.p PV.nilp) r.fst 0).toPV.toEs.length : Int) - 5)) 0)
                      (ctl
                        (leB 0
                            ((IntKind.i64.wrap zat).tmod
                              (IntKind.i64.wrap ((↑(nth (RV.p PV.nilp) r.fst 0).toPV.toEs.length : Int) - 5))) &&
                          ltB
                            ((IntKind.i64.wrap zat).tmod
                              (IntKind.i64.wrap ((↑(nth (RV.p PV.nilp) r.fst 0).toPV.toEs.length : Int) - 5)))
                            (↑(nth (RV.p PV.nilp) r.fst 0).toPV.toEs.length : Int))
                        (ctl
                          (okCs [Sh.int IntKind.u8]
                            (List.take 1
                              (List.drop 0
                                (nth [] (nth (RV.p PV.nilp) r.fst 0).toPV.toEs
                                  ((IntKind.i64.wrap zat).tmod
                                      (IntKind.i64.wrap
                                        ((↑(nth (RV.p PV.nilp) r.fst 0).toPV.toEs.length : Int) - 5))).toNat))))
                          (ctl
                            (leB 0
                                ((IntKind.i64.wrap zat).tmod
                                  (IntKind.i64.wrap
                                    ((↑(nth (RV.p PV.nilp) r.fst 0).toPV.toEs.length : Int) - 5))) &&
                              ltB
                                ((IntKind.i64.wrap zat).tmod
                                  (IntKind.i64.wrap ((↑(nth (RV.p PV.nilp) r.fst 0).toPV.toEs.length : Int) - 5)))
                                (↑(nth (RV.p PV.nilp) r.fst 0).toPV.toEs.length : Int))
                            (bnd
                              (F 23
                                [AV.sl 1
                                    (setEs (nth (RV.p PV.nilp) r.fst 0).toPV.toEs
                                      ((IntKind.i64.wrap zat).tmod
                                          (IntKind.i64.wrap
                                            ((↑(nth (RV.p PV.nilp) r.fst 0).toPV.toEs.length : Int) - 5))).toNat
                                      0
                                      [PV.int IntKind.u8
                                          (IntKind.u8.wrap
                                            (↑(BitVec.ofInt 8
                                                      (nth PV.nilp
                                                          (nth []
                                                            (nth (RV.p PV.nilp) r.fst 0).toPV.toEs
                                                            ((IntKind.i64.wrap zat).tmod
                                                                (IntKind.i64.wrap
                                                                  ((↑(nth (RV.p PV.nilp) r.fst 0).toPV.toEs.length :
                                                                      Int) -
                                                                    5))).toNat)
                                                          0).toInt ^^^
                                                    BitVec.ofInt 8 zby).toNat :
                                              Int))])]
                                [])
                              fun (r_1 : Res) =>
                              ctl
                                (okR
                                    [RSh.agg [Sh.sl 1],
                                      RSh.one (Sh.int IntKind.i64)]
                                    r_1.fst &&
                                  okB [] r_1.snd)
                                (ctl
                                  (Bool.true &&
                                    neB
                                      (↑(nth (RV.p PV.nilp) r.fst 0).toPV.toEs.length : Int) 0)
                                  (ctl
                                    (Bool.true &&
                                      (leB 0
                                          ((IntKind.i64.wrap zat).tmod
                                            (↑(nth (RV.p PV.nilp) r.fst 0).toPV.toEs.length : Int)) &&
                                        leB
                                          ((IntKind.i64.wrap zat).tmod
                                            (↑(nth (RV.p PV.nilp) r.fst 0).toPV.toEs.length : Int))
                                          (↑(nth (RV.p PV.nilp) r.fst 0).toPV.toEs.length : Int)))
                                    (bnd
                                      (F 23
                                        [AV.sl 1
                                            (cutI
                                              (nth (RV.p PV.nilp) r.fst 0).toPV.toEs 0
                                              ((IntKind.i64.wrap zat).tmod
                                                (↑(nth (RV.p PV.nilp) r.fst 0).toPV.toEs.length : Int)))]
                                        [])
                                      fun (r : Res) =>
                                      ctl
                                        (okR
                                            [RSh.agg [Sh.sl 1],
                                              RSh.one (Sh.int IntKind.i64)]
                                            r.fst &&
                                          okB [] r.snd)
                                        (bnd
                                          (ctl
                                            (((nth (RV.p PV.nilp) r_1.fst 1).toPV.toInt == 0) == (zby == 0))
                                            (Option.some ((nth (RV.p PV.nilp) r.fst 1).toPV.toInt != 0))
                                            (Option.some Bool.false))
                                          fun (v : Bool) =>
                                          bnd
                                            (ctl v
                                              (bnd (F 8 [] []) fun (r : Res) =>
                                                ctl
                                                  (okR [RSh.one Sh.bool] r.fst &&
                                                    okB [] r.snd)
                                                  (Option.some (nth (RV.p PV.nilp) r.fst 0).toPV.toBool) Option.none)
                                              (Option.some Bool.false))
                                            fun (v : Bool) => Option.some ([RV.p (PV.bool v)], []))
                                        Option.none)
                                    Option.none)
                                  Option.none)
                                Option.none)
                            Option.none)
                          Option.none)
                        Option.none)
                      Option.none)
                    Option.none))
              Option.none)
          Option.none)
      Option.none := by kernel_rfl

end Go.Proofs.YtclnapbghehlaaaDoor.Vm
