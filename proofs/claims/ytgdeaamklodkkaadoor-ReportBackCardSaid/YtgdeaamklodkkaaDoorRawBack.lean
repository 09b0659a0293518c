/- The raw theorems, by program: what each function and each loop comes to. -/
import Derived.Test.YtgdeaamklodkkaaDoorEnv
import Derived.Test.YtgdeaamklodkkaaDoorVm34
import Derived.KernelRfl
namespace Go.Proofs.YtgdeaamklodkkaaDoor.Vm
open Go
set_option maxRecDepth 100000
set_option linter.unusedVariables false

/-- dynpos/dynposlaw40.ReportBack -/
theorem r7 (F : Fun) (t : List (List PV)) (zat : Int) (zby : Int) : funK E F 7 [AV.sl 1 t, AV.int IntKind.i64 zat, AV.int IntKind.u8 zby] [] =
  ctl (ltB 600 (↑t.length : Int))
    (bnd (F 8 [] []) fun (r : Res) =>
      ctl
        (okR [RSh.one Sh.bool] r.fst && okB [] r.snd)
        (Option.some
          ([RV.p
                (PV.bool (nth (RV.p PV.nilp) r.fst 0).toPV.toBool)],
            []))
        Option.none)
    (bnd (F 9 [AV.sl 1 t] []) fun (r : Res) =>
      ctl
        (okR [RSh.ownp [Sh.sl 1, Sh.int IntKind.i64]] r.fst &&
          okB [] r.snd)
        (bnd
          (F 15 [AV.t (TV.ptr 0 0)]
            [Blk.box
                [AV.sl 1
                    (nth PV.nilp
                        (nth (RV.p PV.nilp) r.fst 0).toCs 0).toEs,
                  AV.int IntKind.i64
                    (nth PV.nilp
                        (nth (RV.p PV.nilp) r.fst 0).toCs 1).toInt]])
          fun (r : Res) =>
          ctl
            (okR
                [RSh.agg
                    [Sh.int IntKind.i64, Sh.int IntKind.i64, Sh.int IntKind.i64,
                      Sh.int IntKind.i64, Sh.int IntKind.i64, Sh.int IntKind.i64,
                      Sh.int IntKind.i64]]
                r.fst &&
              okB [Sum.inl [Sh.sl 1, Sh.int IntKind.i64]] r.snd)
            (bnd
              (F 19
                [AV.agg
                    [PV.int IntKind.i64
                        (nth PV.nilp
                            (nth (RV.p PV.nilp) r.fst 0).toCs 0).toInt,
                      PV.int IntKind.i64
                        (nth PV.nilp
                            (nth (RV.p PV.nilp) r.fst 0).toCs 1).toInt,
                      PV.int IntKind.i64
                        (nth PV.nilp
                            (nth (RV.p PV.nilp) r.fst 0).toCs 2).toInt,
                      PV.int IntKind.i64
                        (nth PV.nilp
                            (nth (RV.p PV.nilp) r.fst 0).toCs 3).toInt,
                      PV.int IntKind.i64
                        (nth PV.nilp
                            (nth (RV.p PV.nilp) r.fst 0).toCs 4).toInt,
                      PV.int IntKind.i64
                        (nth PV.nilp
                            (nth (RV.p PV.nilp) r.fst 0).toCs 5).toInt,
                      PV.int IntKind.i64
                        (nth PV.nilp
                            (nth (RV.p PV.nilp) r.fst 0).toCs 6).toInt]]
                [])
              fun (r_1 : Res) =>
              ctl
                (okR [RSh.one Sh.str] r_1.fst && okB [] r_1.snd)
                (bnd
                  (F 20 [AV.str (nth (RV.p PV.nilp) r_1.fst 0).toPV.toStr] [])
                  fun (r_2 : Res) =>
                  ctl
                    (okR
                        [RSh.agg
                            [Sh.int IntKind.i64, Sh.int IntKind.i64, Sh.int IntKind.i64,
                              Sh.int IntKind.i64, Sh.int IntKind.i64, Sh.int IntKind.i64,
                              Sh.int IntKind.i64],
                          RSh.one (Sh.int IntKind.i64)]
                        r_2.fst &&
                      okB [] r_2.snd)
                    (bnd
                      (ctl (!(nth (RV.p PV.nilp) r_2.fst 1).toPV.toInt != 0)
                        (Option.some
                          !((nth PV.nilp
                                      (nth (RV.p PV.nilp) r_2.fst 0).toCs 0).toInt ==
                                  (nth PV.nilp
                                      (nth (RV.p PV.nilp) r.fst 0).toCs 0).toInt &&
                                ((nth PV.nilp
                                        (nth (RV.p PV.nilp) r_2.fst 0).toCs 1).toInt ==
                                    (nth PV.nilp
                                        (nth (RV.p PV.nilp) r.fst 0).toCs 1).toInt &&
                                  ((nth PV.nilp
                                          (nth (RV.p PV.nilp) r_2.fst 0).toCs 2).toInt ==
                                      (nth PV.nilp
                                          (nth (RV.p PV.nilp) r.fst 0).toCs 2).toInt &&
                                    ((nth PV.nilp
                                            (nth (RV.p PV.nilp) r_2.fst 0).toCs 3).toInt ==
                                        (nth PV.nilp
                                            (nth (RV.p PV.nilp) r.fst 0).toCs 3).toInt &&
                                      Bool.true))) &&
                              ((nth PV.nilp
                                      (nth (RV.p PV.nilp) r_2.fst 0).toCs 4).toInt ==
                                  (nth PV.nilp
                                      (nth (RV.p PV.nilp) r.fst 0).toCs 4).toInt &&
                                ((nth PV.nilp
                                        (nth (RV.p PV.nilp) r_2.fst 0).toCs 5).toInt ==
                                    (nth PV.nilp
                                        (nth (RV.p PV.nilp) r.fst 0).toCs 5).toInt &&
                                  ((nth PV.nilp
                                          (nth (RV.p PV.nilp) r_2.fst 0).toCs 6).toInt ==
                                      (nth PV.nilp
                                          (nth (RV.p PV.nilp) r.fst 0).toCs 6).toInt &&
                                    Bool.true)))))
                        (Option.some Bool.true))
                      fun (v : Bool) =>
                      ctl v (Option.some ([RV.p (PV.bool Bool.false)], []))
                        (bnd
                          (F 21
                            [AV.int IntKind.i64 zat,
                              AV.int IntKind.i64
                                (↑(byteEs
                                        (nth (RV.p PV.nilp) r_1.fst 0).toPV.toStr).length :
                                  Int)]
                            [])
                          fun (r_3 : Res) =>
                          ctl
                            (okR [RSh.one (Sh.int IntKind.i64)] r_3.fst &&
                              okB [] r_3.snd)
                            (ctl
                              (leB 0 (nth (RV.p PV.nilp) r_3.fst 0).toPV.toInt &&
                                ltB (nth (RV.p PV.nilp) r_3.fst 0).toPV.toInt
                                  (↑(byteEs
                                          (nth (RV.p PV.nilp) r_1.fst 0).toPV.toStr).length :
                                    Int))
                              (ctl
                                (okCs [Sh.int IntKind.u8]
                                  (List.take 1
                                    (List.drop 0
                                      (nth []
                                        (byteEs
                                          (nth (RV.p PV.nilp) r_1.fst 0).toPV.toStr)
                                        (nth (RV.p PV.nilp) r_3.fst 0).toPV.toInt.toNat))))
                                (ctl
                                  (leB 0
                                      (nth (RV.p PV.nilp) r_3.fst 0).toPV.toInt &&
                                    ltB (nth (RV.p PV.nilp) r_3.fst 0).toPV.toInt
                                      (↑(byteEs
                                              (nth (RV.p PV.nilp) r_1.fst 0).toPV.toStr).length :
                                        Int))
                                  (ctl
                                    (bytesOk
                                      (setEs
                                        (byteEs
                                          (nth (RV.p PV.nilp) r_1.fst 0).toPV.toStr)
                                        (nth (RV.p PV.nilp) r_3.fst 0).toPV.toInt.toNat 0
                                        [PV.int IntKind.u8 zby]))
                                    (bnd
                                      (F 20
                                        [AV.str
                                            (toBytes
                                              (setEs
                                                (byteEs
                                                  (nth (RV.p PV.nilp) r_1.fst 0).toPV.toStr)
                                                (nth (RV.p PV.nilp) r_3.fst 0).toPV.toInt.toNat 0
                                                [PV.int IntKind.u8 zby]))]
                                        [])
                                      fun (r_4 : Res) =>
                                      ctl
                                        (okR
                                            [RSh.agg
                                                [Sh.int IntKind.i64, Sh.int IntKind.i64, Sh.int IntKind.i64,
                                                  Sh.int IntKind.i64, Sh.int IntKind.i64,
                                                  Sh.int IntKind.i64, Sh.int IntKind.i64],
                                              RSh.one (Sh.int IntKind.i64)]
                                            r_4.fst &&
                                          okB [] r_4.snd)
                                        (bnd
                                          (ctl
                                            ((nth (RV.p PV.nilp) r_4.fst 1).toPV.toInt == 0)
                                            (Option.some
                                              (((nth PV.nilp
                                                          (nth (RV.p PV.nilp) r_4.fst 0).toCs 0).toInt ==
                                                      (nth PV.nilp
                                                          (nth (RV.p PV.nilp) r.fst 0).toCs 0).toInt &&
                                                    ((nth PV.nilp
                                                            (nth (RV.p PV.nilp) r_4.fst 0).toCs 1).toInt ==
                                                        (nth PV.nilp
                                                            (nth (RV.p PV.nilp) r.fst 0).toCs 1).toInt &&
                                                      ((nth PV.nilp
                                                              (nth (RV.p PV.nilp) r_4.fst 0).toCs 2).toInt ==
                                                          (nth PV.nilp
                                                              (nth (RV.p PV.nilp) r.fst 0).toCs 2).toInt &&
                                                        ((nth PV.nilp
                                                                (nth (RV.p PV.nilp) r_4.fst 0).toCs 3).toInt ==
                                                            (nth PV.nilp
                                                                (nth (RV.p PV.nilp) r.fst 0).toCs 3).toInt &&
                                                          Bool.true))) &&
                                                  ((nth PV.nilp
                                                          (nth (RV.p PV.nilp) r_4.fst 0).toCs 4).toInt ==
                                                      (nth PV.nilp
                                                          (nth (RV.p PV.nilp) r.fst 0).toCs 4).toInt &&
                                                    ((nth PV.nilp
                                                            (nth (RV.p PV.nilp) r_4.fst 0).toCs 5).toInt ==
                                                        (nth PV.nilp
                                                            (nth (RV.p PV.nilp) r.fst 0).toCs 5).toInt &&
                                                      ((nth PV.nilp
                                                              (nth (RV.p PV.nilp) r_4.fst 0).toCs 6).toInt ==
                                                          (nth PV.nilp
                                                              (nth (RV.p PV.nilp) r.fst 0).toCs 6).toInt &&
                                                        Bool.true)))) ==
                                                ((nth PV.nilp
                                                      (nth []
                                                        (byteEs
                                                          (nth (RV.p PV.nilp) r_1.fst 0).toPV.toStr)
                                                        (nth (RV.p PV.nilp) r_3.fst 0).toPV.toInt.toNat)
                                                      0).toInt ==
                                                  zby)))
                                            (Option.some Bool.false))
                                          fun (v : Bool) =>
                                          ctl v
                                            (bnd
                                              (F 19
                                                [AV.agg
                                                    [PV.int IntKind.i64
                                                        (nth PV.nilp
                                                            (nth (RV.p PV.nilp) r_4.fst 0).toCs 0).toInt,
                                                      PV.int IntKind.i64
                                                        (nth PV.nilp
                                                            (nth (RV.p PV.nilp) r_4.fst 0).toCs 1).toInt,
                                                      PV.int IntKind.i64
                                                        (nth PV.nilp
                                                            (nth (RV.p PV.nilp) r_4.fst 0).toCs 2).toInt,
                                                      PV.int IntKind.i64
                                                        (nth PV.nilp
                                                            (nth (RV.p PV.nilp) r_4.fst 0).toCs 3).toInt,
                                                      PV.int IntKind.i64
                                                        (nth PV.nilp
                                                            (nth (RV.p PV.nilp) r_4.fst 0).toCs 4).toInt,
                                                      PV.int IntKind.i64
                                                        (nth PV.nilp
                                                            (nth (RV.p PV.nilp) r_4.fst 0).toCs 5).toInt,
                                                      PV.int IntKind.i64
                                                        (nth PV.nilp
                                                            (nth (RV.p PV.nilp) r_4.fst 0).toCs 6).toInt]]
                                                [])
                                              fun (r : Res) =>
                                              ctl
                                                (okR [RSh.one Sh.str] r.fst &&
                                                  okB [] r.snd)
                                                (ctl
                                                  (bytesOk
                                                    (setEs
                                                      (byteEs
                                                        (nth (RV.p PV.nilp) r_1.fst 0).toPV.toStr)
                                                      (nth (RV.p PV.nilp) r_3.fst 0).toPV.toInt.toNat 0
                                                      [PV.int IntKind.u8 zby]))
                                                  (bnd
                                                    (ctl
                                                      (!(nth (RV.p PV.nilp) r.fst 0).toPV.toStr ==
                                                          toBytes
                                                            (setEs
                                                              (byteEs
                                                                (nth (RV.p PV.nilp) r_1.fst 0).toPV.toStr)
                                                              (nth (RV.p PV.nilp) r_3.fst 0).toPV.toInt.toNat 0
                                                              [PV.int IntKind.u8 zby]))
                                                      (ctl
                                                        ((nth (RV.p PV.nilp) r_4.fst 1).toPV.toInt == 74)
                                                        (Option.some
                                                          !(nth PV.nilp
                                                                  (nth []
                                                                    (byteEs
                                                                      (nth (RV.p PV.nilp) r_1.fst 0).toPV.toStr)
                                                                    (nth (RV.p PV.nilp) r_3.fst 0).toPV.toInt.toNat)
                                                                  0).toInt ==
                                                              zby)
                                                        (Option.some Bool.false))
                                                      (Option.some Bool.true))
                                                    fun (v : Bool) =>
                                                    bnd
                                                      (ctl v
                                                        (bnd (F 8 [] []) fun (r : Res) =>
                                                          ctl
                                                            (okR [RSh.one Sh.bool] r.fst &&
                                                              okB [] r.snd)
                                                            (Option.some (nth (RV.p PV.nilp) r.fst 0).toPV.toBool)
                                                            Option.none)
                                                        (Option.some Bool.false))
                                                      fun (v : Bool) => Option.some ([RV.p (PV.bool v)], []))
                                                  Option.none)
                                                Option.none)
                                            (bnd
                                              (ctl
                                                ((nth (RV.p PV.nilp) r_4.fst 1).toPV.toInt == 74)
                                                (Option.some
                                                  !(nth PV.nilp
                                                          (nth []
                                                            (byteEs
                                                              (nth (RV.p PV.nilp) r_1.fst 0).toPV.toStr)
                                                            (nth (RV.p PV.nilp) r_3.fst 0).toPV.toInt.toNat)
                                                          0).toInt ==
                                                      zby)
                                                (Option.some Bool.false))
                                              fun (v : Bool) =>
                                              bnd
                                                (ctl v
                                                  (bnd (F 8 [] []) fun (r : Res) =>
                                                    ctl
                                                      (okR [RSh.one Sh.bool] r.fst &&
                                                        okB [] r.snd)
                                                      (Option.some (nth (RV.p PV.nilp) r.fst 0).toPV.toBool)
                                                      Option.none)
                                                  (Option.some Bool.false))
                                                fun (v : Bool) => Option.some ([RV.p (PV.bool v)], [])))
                                        Option.none)
                                    Option.none)
                                  Option.none)
                                Option.none)
                              Option.none)
                            Option.none))
                    Option.none)
                Option.none)
            Option.none)
        Option.none) := by kernel_rfl

end Go.Proofs.YtgdeaamklodkkaaDoor.Vm
