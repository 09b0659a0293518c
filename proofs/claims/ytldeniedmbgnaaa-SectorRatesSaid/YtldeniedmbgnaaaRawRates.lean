/- The raw theorems, by program: what each function and each loop comes to. -/
import Derived.Test.YtldeniedmbgnaaaEnv
import Derived.Test.YtldeniedmbgnaaaVm34
import Derived.KernelRfl
namespace Go.Proofs.Ytldeniedmbgnaaa.Vm
open Go
set_option maxRecDepth 100000
set_option linter.unusedVariables false

/-- dynpos/dynposlaw11.SectorRates -/
theorem r7 (F : Fun) (t : List (List PV)) : funK E F 7 [AV.sl 1 t] [] =
  bnd (F 8 [AV.sl 1 t] []) fun (r : Res) =>
    ctl
      (okR [RSh.ownp [Sh.sl 1, Sh.int IntKind.i64]] r.fst &&
        okB [] r.snd)
      (bnd
        (F 11 [AV.t (TV.ptr 0 0), AV.int IntKind.i64 (-30), AV.int IntKind.i64 10]
          [Blk.box
              [AV.sl 1
                  (nth PV.nilp (nth (RV.p PV.nilp) r.fst 0).toCs
                      0).toEs,
                AV.int IntKind.i64
                  (nth PV.nilp (nth (RV.p PV.nilp) r.fst 0).toCs
                      1).toInt]])
        fun (r : Res) =>
        ctl
          (okR [RSh.one (Sh.int IntKind.i64)] r.fst &&
            okB [Sum.inl [Sh.sl 1, Sh.int IntKind.i64]] r.snd)
          (bnd
            (F 25 [AV.t (TV.ptr 0 0), AV.int IntKind.i64 40]
              [Blk.box
                  [AV.sl 1
                      (nth PV.nilp
                          (List.map AV.toPV (nth (Blk.box []) r.snd 0).toCs) 0).toEs,
                    AV.int IntKind.i64
                      (nth PV.nilp
                          (List.map AV.toPV (nth (Blk.box []) r.snd 0).toCs) 1).toInt]])
            fun (r_1 : Res) =>
            ctl
              (okR [RSh.one (Sh.int IntKind.i64)] r_1.fst &&
                okB [Sum.inl [Sh.sl 1, Sh.int IntKind.i64]] r_1.snd)
              (bnd
                (F 11 [AV.t (TV.ptr 0 0), AV.int IntKind.i64 (-60), AV.int IntKind.i64 60]
                  [Blk.box
                      [AV.sl 1
                          (nth PV.nilp
                              (List.map AV.toPV (nth (Blk.box []) r_1.snd 0).toCs) 0).toEs,
                        AV.int IntKind.i64
                          (nth PV.nilp
                              (List.map AV.toPV (nth (Blk.box []) r_1.snd 0).toCs) 1).toInt]])
                fun (r_2 : Res) =>
                ctl
                  (okR [RSh.one (Sh.int IntKind.i64)] r_2.fst &&
                    okB [Sum.inl [Sh.sl 1, Sh.int IntKind.i64]] r_2.snd)
                  (bnd
                    (F 25 [AV.t (TV.ptr 0 0), AV.int IntKind.i64 20]
                      [Blk.box
                          [AV.sl 1
                              (nth PV.nilp
                                  (List.map AV.toPV (nth (Blk.box []) r_2.snd 0).toCs) 0).toEs,
                            AV.int IntKind.i64
                              (nth PV.nilp
                                  (List.map AV.toPV (nth (Blk.box []) r_2.snd 0).toCs) 1).toInt]])
                    fun (r_3 : Res) =>
                    ctl
                      (okR [RSh.one (Sh.int IntKind.i64)] r_3.fst &&
                        okB [Sum.inl [Sh.sl 1, Sh.int IntKind.i64]] r_3.snd)
                      (bnd
                        (F 23
                          [AV.int IntKind.i64 (nth (RV.p PV.nilp) r.fst 0).toPV.toInt,
                            AV.int IntKind.i64
                              (IntKind.i64.wrap
                                ((nth (RV.p PV.nilp) r.fst 0).toPV.toInt +
                                  (nth (RV.p PV.nilp) r_1.fst 0).toPV.toInt)),
                            AV.int IntKind.i64 (nth (RV.p PV.nilp) r_2.fst 0).toPV.toInt,
                            AV.int IntKind.i64 (nth (RV.p PV.nilp) r_3.fst 0).toPV.toInt]
                          [])
                        fun (r_4 : Res) =>
                        ctl
                          (okR
                              [RSh.one (Sh.int IntKind.i64), RSh.one (Sh.int IntKind.i64)]
                              r_4.fst &&
                            okB [] r_4.snd)
                          (bnd
                            (ctl
                              (!ltB (nth (RV.p PV.nilp) r_4.fst 1).toPV.toInt
                                  (nth (RV.p PV.nilp) r_4.fst 0).toPV.toInt)
                              (Option.some
                                (ltB (nth (RV.p PV.nilp) r_4.fst 0).toPV.toInt
                                  (nth (RV.p PV.nilp) r.fst 0).toPV.toInt))
                              (Option.some Bool.true))
                            fun (v : Bool) =>
                            bnd
                              (ctl (!v)
                                (Option.some
                                  (ltB
                                    (IntKind.i64.wrap
                                      ((nth (RV.p PV.nilp) r.fst 0).toPV.toInt +
                                        (nth (RV.p PV.nilp) r_1.fst 0).toPV.toInt))
                                    (nth (RV.p PV.nilp) r_4.fst 1).toPV.toInt))
                                (Option.some Bool.true))
                              fun (v : Bool) =>
                              ctl v (Option.some ([RV.p (PV.bool Bool.false)], []))
                                (bnd
                                  (ctl
                                    (!ltB
                                        (IntKind.i64.wrap
                                          ((nth (RV.p PV.nilp) r_2.fst 0).toPV.toInt +
                                            (nth (RV.p PV.nilp) r_3.fst 0).toPV.toInt))
                                        (nth (RV.p PV.nilp) r.fst 0).toPV.toInt)
                                    (Option.some
                                      (ltB
                                        (IntKind.i64.wrap
                                          ((nth (RV.p PV.nilp) r.fst 0).toPV.toInt +
                                            (nth (RV.p PV.nilp) r_1.fst 0).toPV.toInt))
                                        (IntKind.i64.wrap
                                          ((nth (RV.p PV.nilp) r_2.fst 0).toPV.toInt -
                                            (nth (RV.p PV.nilp) r_3.fst 0).toPV.toInt))))
                                    (Option.some Bool.true))
                                  fun (v : Bool) =>
                                  ctl v
                                    (bnd
                                      (ctl
                                        ((nth (RV.p PV.nilp) r_4.fst 0).toPV.toInt ==
                                          (nth (RV.p PV.nilp) r_4.fst 1).toPV.toInt)
                                        (ctl
                                          ((nth (RV.p PV.nilp) r_4.fst 0).toPV.toInt ==
                                            (nth (RV.p PV.nilp) r.fst 0).toPV.toInt)
                                          (ctl
                                            (!ltB (nth (RV.p PV.nilp) r_2.fst 0).toPV.toInt
                                                (nth (RV.p PV.nilp) r.fst 0).toPV.toInt)
                                            (ctl
                                              ((nth (RV.p PV.nilp) r_4.fst 0).toPV.toInt ==
                                                IntKind.i64.wrap
                                                  ((nth (RV.p PV.nilp) r.fst 0).toPV.toInt +
                                                    (nth (RV.p PV.nilp) r_1.fst 0).toPV.toInt))
                                              (Option.some
                                                (ltB
                                                  (IntKind.i64.wrap
                                                    ((nth (RV.p PV.nilp) r.fst 0).toPV.toInt +
                                                      (nth (RV.p PV.nilp) r_1.fst 0).toPV.toInt))
                                                  (nth (RV.p PV.nilp) r_2.fst 0).toPV.toInt))
                                              (Option.some Bool.false))
                                            (Option.some Bool.true))
                                          (ctl
                                            ((nth (RV.p PV.nilp) r_4.fst 0).toPV.toInt ==
                                              IntKind.i64.wrap
                                                ((nth (RV.p PV.nilp) r.fst 0).toPV.toInt +
                                                  (nth (RV.p PV.nilp) r_1.fst 0).toPV.toInt))
                                            (Option.some
                                              (ltB
                                                (IntKind.i64.wrap
                                                  ((nth (RV.p PV.nilp) r.fst 0).toPV.toInt +
                                                    (nth (RV.p PV.nilp) r_1.fst 0).toPV.toInt))
                                                (nth (RV.p PV.nilp) r_2.fst 0).toPV.toInt))
                                            (Option.some Bool.false)))
                                        (Option.some Bool.false))
                                      fun (v : Bool) =>
                                      bnd
                                        (ctl v
                                          (bnd (F 14 [] []) fun (r : Res) =>
                                            ctl
                                              (okR [RSh.one Sh.bool] r.fst && okB [] r.snd)
                                              (Option.some (nth (RV.p PV.nilp) r.fst 0).toPV.toBool) Option.none)
                                          (Option.some Bool.false))
                                        fun (v : Bool) => Option.some ([RV.p (PV.bool v)], []))
                                    (bnd
                                      (ctl
                                        (leB
                                          (IntKind.i64.wrap
                                            ((nth (RV.p PV.nilp) r_2.fst 0).toPV.toInt -
                                              (nth (RV.p PV.nilp) r_3.fst 0).toPV.toInt))
                                          (nth (RV.p PV.nilp) r_4.fst 0).toPV.toInt)
                                        (Option.some
                                          (leB (nth (RV.p PV.nilp) r_4.fst 1).toPV.toInt
                                            (IntKind.i64.wrap
                                              ((nth (RV.p PV.nilp) r_2.fst 0).toPV.toInt +
                                                (nth (RV.p PV.nilp) r_3.fst 0).toPV.toInt))))
                                        (Option.some Bool.false))
                                      fun (v : Bool) =>
                                      bnd
                                        (ctl v
                                          (ctl
                                            (!(nth (RV.p PV.nilp) r_4.fst 0).toPV.toInt ==
                                                (nth (RV.p PV.nilp) r.fst 0).toPV.toInt)
                                            (Option.some
                                              ((nth (RV.p PV.nilp) r_4.fst 0).toPV.toInt ==
                                                IntKind.i64.wrap
                                                  ((nth (RV.p PV.nilp) r_2.fst 0).toPV.toInt -
                                                    (nth (RV.p PV.nilp) r_3.fst 0).toPV.toInt)))
                                            (Option.some Bool.true))
                                          (Option.some Bool.false))
                                        fun (v : Bool) =>
                                        bnd
                                          (ctl v
                                            (ctl
                                              (!(nth (RV.p PV.nilp) r_4.fst 1).toPV.toInt ==
                                                  IntKind.i64.wrap
                                                    ((nth (RV.p PV.nilp) r.fst 0).toPV.toInt +
                                                      (nth (RV.p PV.nilp) r_1.fst 0).toPV.toInt))
                                              (Option.some
                                                ((nth (RV.p PV.nilp) r_4.fst 1).toPV.toInt ==
                                                  IntKind.i64.wrap
                                                    ((nth (RV.p PV.nilp) r_2.fst 0).toPV.toInt +
                                                      (nth (RV.p PV.nilp) r_3.fst 0).toPV.toInt)))
                                              (Option.some Bool.true))
                                            (Option.some Bool.false))
                                          fun (v : Bool) =>
                                          bnd
                                            (ctl v
                                              (bnd (F 14 [] []) fun (r : Res) =>
                                                ctl
                                                  (okR [RSh.one Sh.bool] r.fst && okB [] r.snd)
                                                  (Option.some (nth (RV.p PV.nilp) r.fst 0).toPV.toBool) Option.none)
                                              (Option.some Bool.false))
                                            fun (v : Bool) => Option.some ([RV.p (PV.bool v)], []))))
                          Option.none)
                      Option.none)
                  Option.none)
              Option.none)
          Option.none)
      Option.none := by kernel_rfl

end Go.Proofs.Ytldeniedmbgnaaa.Vm
