/- The raw theorems, by program: what each function and each loop comes to. -/
import Derived.Test.YtphcfpphnmpcbaaEnv
import Derived.Test.YtphcfpphnmpcbaaVm34
import Derived.KernelRfl
namespace Go.Proofs.Ytphcfpphnmpcbaa.Vm
open Go
set_option maxRecDepth 100000
set_option linter.unusedVariables false

/-- dynpos/dynposlaw12.ThrusterMore -/
theorem r3 (F : Fun) (t : List (List PV)) (p : Int) (q : Int) : funK E F 3 [AV.sl 1 t, AV.int IntKind.u16 p, AV.int IntKind.u16 q] [] =
  bnd (F 6 [AV.sl 1 t] []) fun (r : Res) =>
    ctl
      (okR [RSh.ownp [Sh.sl 1, Sh.int IntKind.i64]] r.fst &&
        okB [] r.snd)
      (bnd
        (F 7 [AV.t (TV.ptr 0 0)]
          [Blk.box
              [AV.sl 1
                  (nth PV.nilp (nth (RV.p PV.nilp) r.fst 0).toCs
                      0).toEs,
                AV.int IntKind.i64
                  (nth PV.nilp (nth (RV.p PV.nilp) r.fst 0).toCs
                      1).toInt]])
        fun (r : Res) =>
        ctl
          (okR
              [RSh.agg
                  [Sh.int IntKind.i64, Sh.int IntKind.i64, Sh.int IntKind.i64,
                    Sh.int IntKind.i64, Sh.int IntKind.i64, Sh.sl 2]]
              r.fst &&
            okB [Sum.inl [Sh.sl 1, Sh.int IntKind.i64]] r.snd)
          (bnd
            (F 8 [AV.t (TV.ptr 0 0), AV.int IntKind.i64 20]
              [Blk.box
                  [AV.sl 1
                      (nth PV.nilp
                          (List.map AV.toPV (nth (Blk.box []) r.snd 0).toCs) 0).toEs,
                    AV.int IntKind.i64
                      (nth PV.nilp
                          (List.map AV.toPV (nth (Blk.box []) r.snd 0).toCs) 1).toInt]])
            fun (r_1 : Res) =>
            ctl
              (okR [RSh.one (Sh.int IntKind.i64)] r_1.fst &&
                okB [Sum.inl [Sh.sl 1, Sh.int IntKind.i64]] r_1.snd)
              (bnd
                (F 10 [AV.t (TV.ptr 0 0), AV.int IntKind.i64 (-2), AV.int IntKind.i64 60]
                  [Blk.box
                      [AV.sl 1
                          (nth PV.nilp
                              (List.map AV.toPV (nth (Blk.box []) r_1.snd 0).toCs) 0).toEs,
                        AV.int IntKind.i64
                          (nth PV.nilp
                              (List.map AV.toPV (nth (Blk.box []) r_1.snd 0).toCs) 1).toInt]])
                fun (r_2 : Res) =>
                ctl
                  (okR [RSh.one (Sh.int IntKind.i64)] r_2.fst &&
                    okB [Sum.inl [Sh.sl 1, Sh.int IntKind.i64]] r_2.snd)
                  (bnd
                    (F 9
                      [AV.agg
                          [PV.int IntKind.i64
                              (nth PV.nilp
                                  (nth (RV.p PV.nilp) r.fst 0).toCs 0).toInt,
                            PV.int IntKind.i64
                              (nth PV.nilp
                                  (nth (RV.p PV.nilp) r.fst 0).toCs 1).toInt,
                            PV.int IntKind.i64
                              (nth PV.nilp
                                  (nth (RV.p PV.nilp) r.fst 0).toCs 2).toInt,
                            PV.int IntKind.i64
                              (nth PV.nilp
                                  (nth (RV.p PV.nilp) r.fst 0).toCs 3).toInt,
                            PV.int IntKind.i64
                              (nth PV.nilp
                                  (nth (RV.p PV.nilp) r.fst 0).toCs 4).toInt,
                            PV.sl 2
                              (nth PV.nilp
                                  (nth (RV.p PV.nilp) r.fst 0).toCs 5).toEs],
                        AV.int IntKind.i64 (nth (RV.p PV.nilp) r_2.fst 0).toPV.toInt]
                      [])
                    fun (r_3 : Res) =>
                    ctl
                      (okR
                          [RSh.agg
                              [Sh.int IntKind.i64, Sh.int IntKind.i64, Sh.int IntKind.i64,
                                Sh.int IntKind.i64, Sh.int IntKind.i64, Sh.sl 2]]
                          r_3.fst &&
                        okB [] r_3.snd)
                      (bnd
                        (F 11
                          [AV.agg
                              [PV.int IntKind.i64
                                  (nth PV.nilp
                                      (nth (RV.p PV.nilp) r.fst 0).toCs 0).toInt,
                                PV.int IntKind.i64
                                  (nth PV.nilp
                                      (nth (RV.p PV.nilp) r.fst 0).toCs 1).toInt,
                                PV.int IntKind.i64
                                  (nth PV.nilp
                                      (nth (RV.p PV.nilp) r.fst 0).toCs 2).toInt,
                                PV.int IntKind.i64
                                  (nth PV.nilp
                                      (nth (RV.p PV.nilp) r.fst 0).toCs 3).toInt,
                                PV.int IntKind.i64
                                  (nth PV.nilp
                                      (nth (RV.p PV.nilp) r.fst 0).toCs 4).toInt,
                                PV.sl 2
                                  (nth PV.nilp
                                      (nth (RV.p PV.nilp) r.fst 0).toCs 5).toEs],
                            AV.int IntKind.i64 ((IntKind.i64.wrap p).tmod 2000)]
                          [])
                        fun (r_4 : Res) =>
                        ctl
                          (okR [RSh.one (Sh.int IntKind.i64)] r_4.fst && okB [] r_4.snd)
                          (bnd
                            (F 11
                              [AV.agg
                                  [PV.int IntKind.i64
                                      (nth PV.nilp
                                          (nth (RV.p PV.nilp) r.fst 0).toCs 0).toInt,
                                    PV.int IntKind.i64
                                      (nth PV.nilp
                                          (nth (RV.p PV.nilp) r.fst 0).toCs 1).toInt,
                                    PV.int IntKind.i64
                                      (nth PV.nilp
                                          (nth (RV.p PV.nilp) r.fst 0).toCs 2).toInt,
                                    PV.int IntKind.i64
                                      (nth PV.nilp
                                          (nth (RV.p PV.nilp) r.fst 0).toCs 3).toInt,
                                    PV.int IntKind.i64
                                      (nth PV.nilp
                                          (nth (RV.p PV.nilp) r.fst 0).toCs 4).toInt,
                                    PV.sl 2
                                      (nth PV.nilp
                                          (nth (RV.p PV.nilp) r.fst 0).toCs 5).toEs],
                                AV.int IntKind.i64 (IntKind.i64.wrap ((IntKind.i64.wrap p).tmod 2000 + (IntKind.i64.wrap q).tmod 2000))]
                              [])
                            fun (r_5 : Res) =>
                            ctl
                              (okR [RSh.one (Sh.int IntKind.i64)] r_5.fst && okB [] r_5.snd)
                              (bnd
                                (ctl
                                  (leB (nth (RV.p PV.nilp) r_4.fst 0).toPV.toInt
                                    (nth (RV.p PV.nilp) r_5.fst 0).toPV.toInt)
                                  (bnd
                                    (F 11
                                      [AV.agg
                                          [PV.int IntKind.i64
                                              (nth PV.nilp
                                                  (nth (RV.p PV.nilp) r.fst 0).toCs 0).toInt,
                                            PV.int IntKind.i64
                                              (nth PV.nilp
                                                  (nth (RV.p PV.nilp) r.fst 0).toCs 1).toInt,
                                            PV.int IntKind.i64
                                              (nth PV.nilp
                                                  (nth (RV.p PV.nilp) r.fst 0).toCs 2).toInt,
                                            PV.int IntKind.i64
                                              (nth PV.nilp
                                                  (nth (RV.p PV.nilp) r.fst 0).toCs 3).toInt,
                                            PV.int IntKind.i64
                                              (minI 100
                                                (IntKind.i64.wrap
                                                  ((nth PV.nilp
                                                        (nth (RV.p PV.nilp) r.fst 0).toCs 4).toInt +
                                                    (nth (RV.p PV.nilp) r_1.fst 0).toPV.toInt))),
                                            PV.sl 2
                                              (nth PV.nilp
                                                  (nth (RV.p PV.nilp) r.fst 0).toCs 5).toEs],
                                        AV.int IntKind.i64 ((IntKind.i64.wrap p).tmod 2000)]
                                      [])
                                    fun (r_6 : Res) =>
                                    ctl
                                      (okR [RSh.one (Sh.int IntKind.i64)] r_6.fst &&
                                        okB [] r_6.snd)
                                      (bnd
                                        (F 11
                                          [AV.agg
                                              [PV.int IntKind.i64
                                                  (nth PV.nilp
                                                      (nth (RV.p PV.nilp) r.fst 0).toCs 0).toInt,
                                                PV.int IntKind.i64
                                                  (nth PV.nilp
                                                      (nth (RV.p PV.nilp) r.fst 0).toCs 1).toInt,
                                                PV.int IntKind.i64
                                                  (nth PV.nilp
                                                      (nth (RV.p PV.nilp) r.fst 0).toCs 2).toInt,
                                                PV.int IntKind.i64
                                                  (nth PV.nilp
                                                      (nth (RV.p PV.nilp) r.fst 0).toCs 3).toInt,
                                                PV.int IntKind.i64
                                                  (nth PV.nilp
                                                      (nth (RV.p PV.nilp) r.fst 0).toCs 4).toInt,
                                                PV.sl 2
                                                  (nth PV.nilp
                                                      (nth (RV.p PV.nilp) r.fst 0).toCs 5).toEs],
                                            AV.int IntKind.i64 ((IntKind.i64.wrap p).tmod 2000)]
                                          [])
                                        fun (r : Res) =>
                                        ctl
                                          (okR [RSh.one (Sh.int IntKind.i64)] r.fst &&
                                            okB [] r.snd)
                                          (Option.some
                                            (leB (nth (RV.p PV.nilp) r_6.fst 0).toPV.toInt
                                              (nth (RV.p PV.nilp) r.fst 0).toPV.toInt))
                                          Option.none)
                                      Option.none)
                                  (Option.some Bool.false))
                                fun (v : Bool) =>
                                bnd
                                  (ctl v
                                    (Option.some
                                      (leB 0
                                        (nth PV.nilp
                                            (nth (RV.p PV.nilp) r_3.fst 0).toCs 2).toInt))
                                    (Option.some Bool.false))
                                  fun (v : Bool) =>
                                  bnd
                                    (ctl v
                                      (Option.some
                                        (leB
                                          (nth PV.nilp
                                              (nth (RV.p PV.nilp) r_3.fst 0).toCs 2).toInt
                                          (nth PV.nilp
                                              (nth (RV.p PV.nilp) r.fst 0).toCs 2).toInt))
                                      (Option.some Bool.false))
                                    fun (v : Bool) =>
                                    bnd
                                      (ctl v
                                        (bnd
                                          (F 11
                                            [AV.agg
                                                [PV.int IntKind.i64
                                                    (nth PV.nilp
                                                        (nth (RV.p PV.nilp) r_3.fst 0).toCs 0).toInt,
                                                  PV.int IntKind.i64
                                                    (nth PV.nilp
                                                        (nth (RV.p PV.nilp) r_3.fst 0).toCs 1).toInt,
                                                  PV.int IntKind.i64
                                                    (nth PV.nilp
                                                        (nth (RV.p PV.nilp) r_3.fst 0).toCs 2).toInt,
                                                  PV.int IntKind.i64
                                                    (nth PV.nilp
                                                        (nth (RV.p PV.nilp) r_3.fst 0).toCs 3).toInt,
                                                  PV.int IntKind.i64
                                                    (nth PV.nilp
                                                        (nth (RV.p PV.nilp) r_3.fst 0).toCs 4).toInt,
                                                  PV.sl 2
                                                    (nth PV.nilp
                                                        (nth (RV.p PV.nilp) r_3.fst 0).toCs 5).toEs],
                                              AV.int IntKind.i64 ((IntKind.i64.wrap p).tmod 2000)]
                                            [])
                                          fun (r_6 : Res) =>
                                          ctl
                                            (okR [RSh.one (Sh.int IntKind.i64)] r_6.fst &&
                                              okB [] r_6.snd)
                                            (bnd
                                              (F 11
                                                [AV.agg
                                                    [PV.int IntKind.i64
                                                        (nth PV.nilp
                                                            (nth (RV.p PV.nilp) r.fst 0).toCs 0).toInt,
                                                      PV.int IntKind.i64
                                                        (nth PV.nilp
                                                            (nth (RV.p PV.nilp) r.fst 0).toCs 1).toInt,
                                                      PV.int IntKind.i64
                                                        (nth PV.nilp
                                                            (nth (RV.p PV.nilp) r.fst 0).toCs 2).toInt,
                                                      PV.int IntKind.i64
                                                        (nth PV.nilp
                                                            (nth (RV.p PV.nilp) r.fst 0).toCs 3).toInt,
                                                      PV.int IntKind.i64
                                                        (nth PV.nilp
                                                            (nth (RV.p PV.nilp) r.fst 0).toCs 4).toInt,
                                                      PV.sl 2
                                                        (nth PV.nilp
                                                            (nth (RV.p PV.nilp) r.fst 0).toCs 5).toEs],
                                                  AV.int IntKind.i64 ((IntKind.i64.wrap p).tmod 2000)]
                                                [])
                                              fun (r : Res) =>
                                              ctl
                                                (okR [RSh.one (Sh.int IntKind.i64)] r.fst &&
                                                  okB [] r.snd)
                                                (Option.some
                                                  (leB (nth (RV.p PV.nilp) r_6.fst 0).toPV.toInt
                                                    (nth (RV.p PV.nilp) r.fst 0).toPV.toInt))
                                                Option.none)
                                            Option.none)
                                        (Option.some Bool.false))
                                      fun (v : Bool) =>
                                      bnd
                                        (ctl v
                                          (bnd
                                            (F 11
                                              [AV.agg
                                                  [PV.int IntKind.i64
                                                      (nth PV.nilp
                                                          (nth (RV.p PV.nilp) r.fst 0).toCs 0).toInt,
                                                    PV.int IntKind.i64
                                                      (nth PV.nilp
                                                          (nth (RV.p PV.nilp) r.fst 0).toCs 1).toInt,
                                                    PV.int IntKind.i64
                                                      (nth PV.nilp
                                                          (nth (RV.p PV.nilp) r.fst 0).toCs 2).toInt,
                                                    PV.int IntKind.i64
                                                      (nth PV.nilp
                                                          (nth (RV.p PV.nilp) r.fst 0).toCs 3).toInt,
                                                    PV.int IntKind.i64
                                                      (nth PV.nilp
                                                          (nth (RV.p PV.nilp) r.fst 0).toCs 4).toInt,
                                                    PV.sl 2
                                                      (nth PV.nilp
                                                          (nth (RV.p PV.nilp) r.fst 0).toCs 5).toEs],
                                                AV.int IntKind.i64 (-1)]
                                              [])
                                            fun (r : Res) =>
                                            ctl
                                              (okR [RSh.one (Sh.int IntKind.i64)] r.fst &&
                                                okB [] r.snd)
                                              (Option.some ((nth (RV.p PV.nilp) r.fst 0).toPV.toInt == 0)) Option.none)
                                          (Option.some Bool.false))
                                        fun (v : Bool) =>
                                        bnd
                                          (ctl v
                                            (bnd (F 12 [] []) fun (r : Res) =>
                                              ctl
                                                (okR [RSh.one Sh.bool] r.fst && okB [] r.snd)
                                                (Option.some (nth (RV.p PV.nilp) r.fst 0).toPV.toBool) Option.none)
                                            (Option.some Bool.false))
                                          fun (v : Bool) => Option.some ([RV.p (PV.bool v)], []))
                              Option.none)
                          Option.none)
                      Option.none)
                  Option.none)
              Option.none)
          Option.none)
      Option.none := by kernel_rfl

end Go.Proofs.Ytphcfpphnmpcbaa.Vm
