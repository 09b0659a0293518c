/- The raw theorems, by program: what each function and each loop comes to. -/
import Derived.Test.YtpemmbkflddhoaaEnv
import Derived.Test.YtpemmbkflddhoaaVm34
import Derived.KernelRfl
namespace Go.Proofs.Ytpemmbkflddhoaa.Vm
open Go
set_option maxRecDepth 100000
set_option linter.unusedVariables false

/-- dynpos/angle.Norm -/
theorem r9 (F : Fun) (a : Int) : funK E F 9 [AV.int IntKind.i64 a] [] =
  ctl (ltB (a.tmod 3600) 0)
    (Option.some ([RV.p (PV.int IntKind.i64 (IntKind.i64.wrap (a.tmod 3600 + 3600)))], []))
    (Option.some ([RV.p (PV.int IntKind.i64 (a.tmod 3600))], [])) := by kernel_rfl

/-- dynpos/angle.Sin -/
theorem r10 (F : Fun) (a : Int) : funK E F 10 [AV.int IntKind.i64 a] [] =
  bnd (F 9 [AV.int IntKind.i64 a] []) fun (r : Res) =>
    ctl
      (okR [RSh.one (Sh.int IntKind.i64)] r.fst && okB [] r.snd)
      (ctl (ltB 1800 (nth (RV.p PV.nilp) r.fst 0).toPV.toInt)
        (bnd
          (F 33
            [AV.int IntKind.i64
                (IntKind.i64.wrap
                  (40000 *
                    IntKind.i64.wrap
                      (IntKind.i64.wrap ((nth (RV.p PV.nilp) r.fst 0).toPV.toInt - 1800) *
                        IntKind.i64.wrap (1800 - IntKind.i64.wrap ((nth (RV.p PV.nilp) r.fst 0).toPV.toInt - 1800))))),
              AV.int IntKind.i64
                (IntKind.i64.wrap
                  (4050000 -
                    IntKind.i64.wrap
                      (IntKind.i64.wrap ((nth (RV.p PV.nilp) r.fst 0).toPV.toInt - 1800) *
                        IntKind.i64.wrap (1800 - IntKind.i64.wrap ((nth (RV.p PV.nilp) r.fst 0).toPV.toInt - 1800)))))]
            [])
          fun (r : Res) =>
          ctl
            (okR
                [RSh.one (Sh.int IntKind.i64), RSh.one (Sh.int IntKind.i64)] r.fst &&
              okB [] r.snd)
            (Option.some
              ([RV.p
                    (PV.int IntKind.i64
                      (IntKind.i64.wrap (-1 * (nth (RV.p PV.nilp) r.fst 0).toPV.toInt)))],
                []))
            Option.none)
        (bnd
          (F 33
            [AV.int IntKind.i64
                (IntKind.i64.wrap
                  (40000 *
                    IntKind.i64.wrap
                      ((nth (RV.p PV.nilp) r.fst 0).toPV.toInt *
                        IntKind.i64.wrap (1800 - (nth (RV.p PV.nilp) r.fst 0).toPV.toInt)))),
              AV.int IntKind.i64
                (IntKind.i64.wrap
                  (4050000 -
                    IntKind.i64.wrap
                      ((nth (RV.p PV.nilp) r.fst 0).toPV.toInt *
                        IntKind.i64.wrap (1800 - (nth (RV.p PV.nilp) r.fst 0).toPV.toInt))))]
            [])
          fun (r : Res) =>
          ctl
            (okR
                [RSh.one (Sh.int IntKind.i64), RSh.one (Sh.int IntKind.i64)] r.fst &&
              okB [] r.snd)
            (Option.some
              ([RV.p
                    (PV.int IntKind.i64
                      (IntKind.i64.wrap (1 * (nth (RV.p PV.nilp) r.fst 0).toPV.toInt)))],
                []))
            Option.none))
      Option.none := by kernel_rfl

/-- dynpos/angle.Cos -/
theorem r11 (F : Fun) (a : Int) : funK E F 11 [AV.int IntKind.i64 a] [] =
  bnd (F 9 [AV.int IntKind.i64 a] []) fun (r : Res) =>
    ctl
      (okR [RSh.one (Sh.int IntKind.i64)] r.fst && okB [] r.snd)
      (bnd
        (F 10
          [AV.int IntKind.i64
              (IntKind.i64.wrap ((nth (RV.p PV.nilp) r.fst 0).toPV.toInt + 900))]
          [])
        fun (r : Res) =>
        ctl
          (okR [RSh.one (Sh.int IntKind.i64)] r.fst && okB [] r.snd)
          (Option.some
            ([RV.p
                  (PV.int IntKind.i64 (nth (RV.p PV.nilp) r.fst 0).toPV.toInt)],
              []))
          Option.none)
      Option.none := by kernel_rfl

/-- dynpos/angle.Diff -/
theorem r12 (F : Fun) (a : Int) (b : Int) : funK E F 12 [AV.int IntKind.i64 a, AV.int IntKind.i64 b] [] =
  bnd (F 9 [AV.int IntKind.i64 b] []) fun (r : Res) =>
    ctl
      (okR [RSh.one (Sh.int IntKind.i64)] r.fst && okB [] r.snd)
      (bnd (F 9 [AV.int IntKind.i64 a] []) fun (r_1 : Res) =>
        ctl
          (okR [RSh.one (Sh.int IntKind.i64)] r_1.fst && okB [] r_1.snd)
          (bnd
            (F 9
              [AV.int IntKind.i64
                  (IntKind.i64.wrap
                    ((nth (RV.p PV.nilp) r.fst 0).toPV.toInt -
                      (nth (RV.p PV.nilp) r_1.fst 0).toPV.toInt))]
              [])
            fun (r : Res) =>
            ctl
              (okR [RSh.one (Sh.int IntKind.i64)] r.fst && okB [] r.snd)
              (ctl
                (ltB 1800 (nth (RV.p PV.nilp) r.fst 0).toPV.toInt)
                (Option.some
                  ([RV.p
                        (PV.int IntKind.i64
                          (IntKind.i64.wrap ((nth (RV.p PV.nilp) r.fst 0).toPV.toInt - 3600)))],
                    []))
                (Option.some
                  ([RV.p
                        (PV.int IntKind.i64 (nth (RV.p PV.nilp) r.fst 0).toPV.toInt)],
                    [])))
              Option.none)
          Option.none)
      Option.none := by kernel_rfl

/-- dynpos/dynposlaw02.sane -/
theorem r13 (F : Fun) : funK E F 13 [] [] =
  bnd (F 10 [AV.int IntKind.i64 0] []) fun (r : Res) =>
    ctl
      (okR [RSh.one (Sh.int IntKind.i64)] r.fst && okB [] r.snd)
      (bnd
        (ctl ((nth (RV.p PV.nilp) r.fst 0).toPV.toInt == 0)
          (bnd (F 10 [AV.int IntKind.i64 300] []) fun (r : Res) =>
            ctl
              (okR [RSh.one (Sh.int IntKind.i64)] r.fst && okB [] r.snd)
              (Option.some ((nth (RV.p PV.nilp) r.fst 0).toPV.toInt == 5000)) Option.none)
          (Option.some Bool.false))
        fun (v : Bool) =>
        bnd
          (ctl v
            (bnd (F 10 [AV.int IntKind.i64 900] []) fun (r : Res) =>
              ctl
                (okR [RSh.one (Sh.int IntKind.i64)] r.fst && okB [] r.snd)
                (Option.some ((nth (RV.p PV.nilp) r.fst 0).toPV.toInt == 10000)) Option.none)
            (Option.some Bool.false))
          fun (v : Bool) =>
          bnd
            (ctl v
              (bnd (F 11 [AV.int IntKind.i64 0] []) fun (r : Res) =>
                ctl
                  (okR [RSh.one (Sh.int IntKind.i64)] r.fst && okB [] r.snd)
                  (Option.some ((nth (RV.p PV.nilp) r.fst 0).toPV.toInt == 10000)) Option.none)
              (Option.some Bool.false))
            fun (v : Bool) =>
            bnd
              (ctl v
                (bnd (F 12 [AV.int IntKind.i64 3590, AV.int IntKind.i64 10] [])
                  fun (r : Res) =>
                  ctl
                    (okR [RSh.one (Sh.int IntKind.i64)] r.fst && okB [] r.snd)
                    (Option.some ((nth (RV.p PV.nilp) r.fst 0).toPV.toInt == 20)) Option.none)
                (Option.some Bool.false))
              fun (v : Bool) =>
              bnd
                (ctl v
                  (bnd (F 9 [AV.int IntKind.i64 (-10)] []) fun (r : Res) =>
                    ctl
                      (okR [RSh.one (Sh.int IntKind.i64)] r.fst && okB [] r.snd)
                      (Option.some ((nth (RV.p PV.nilp) r.fst 0).toPV.toInt == 3590)) Option.none)
                  (Option.some Bool.false))
                fun (v : Bool) =>
                ctl v
                  (bnd
                    (bnd
                      (F 30
                        [AV.agg [PV.int IntKind.i64 3500, PV.int IntKind.i64 100],
                          AV.int IntKind.i64 0]
                        [])
                      fun (r : Res) =>
                      ctl
                        (okR [RSh.one Sh.bool] r.fst && okB [] r.snd)
                        (Option.some (nth (RV.p PV.nilp) r.fst 0).toPV.toBool) Option.none)
                    fun (v : Bool) => Option.some ([RV.p (PV.bool v)], []))
                  (Option.some ([RV.p (PV.bool Bool.false)], [])))
      Option.none := by kernel_rfl

/-- dynpos/angle.Valid -/
theorem r26 (F : Fun) (x0 : Int) (x1 : Int) : funK E F 26 [AV.agg [PV.int IntKind.i64 x0, PV.int IntKind.i64 x1]] [] =
  bnd (F 39 [AV.int IntKind.i64 x0] []) fun (r : Res) =>
    ctl (okR [RSh.one Sh.bool] r.fst && okB [] r.snd)
      (ctl (nth (RV.p PV.nilp) r.fst 0).toPV.toBool
        (bnd (F 39 [AV.int IntKind.i64 x1] []) fun (r : Res) =>
          ctl (okR [RSh.one Sh.bool] r.fst && okB [] r.snd)
            (bnd
              (ctl (nth (RV.p PV.nilp) r.fst 0).toPV.toBool
                (bnd (F 28 [AV.agg [PV.int IntKind.i64 x0, PV.int IntKind.i64 x1]] [])
                  fun (r : Res) =>
                  ctl
                    (okR [RSh.one (Sh.int IntKind.i64)] r.fst && okB [] r.snd)
                    (Option.some (ltB (nth (RV.p PV.nilp) r.fst 0).toPV.toInt 1800)) Option.none)
                (Option.some Bool.false))
              fun (v : Bool) => Option.some ([RV.p (PV.bool v)], []))
            Option.none)
        (Option.some ([RV.p (PV.bool Bool.false)], [])))
      Option.none := by kernel_rfl

/-- dynpos/angle.Width -/
theorem r28 (F : Fun) (x0 : Int) (x1 : Int) : funK E F 28 [AV.agg [PV.int IntKind.i64 x0, PV.int IntKind.i64 x1]] [] =
  bnd (F 9 [AV.int IntKind.i64 (IntKind.i64.wrap (x1 - x0))] []) fun (r : Res) =>
    ctl
      (okR [RSh.one (Sh.int IntKind.i64)] r.fst && okB [] r.snd)
      (Option.some
        ([RV.p
              (PV.int IntKind.i64 (nth (RV.p PV.nilp) r.fst 0).toPV.toInt)],
          []))
      Option.none := by kernel_rfl

/-- dynpos/angle.In -/
theorem r30 (F : Fun) (x0 : Int) (x1 : Int) (a : Int) : funK E F 30 [AV.agg [PV.int IntKind.i64 x0, PV.int IntKind.i64 x1], AV.int IntKind.i64 a] [] =
  bnd (F 26 [AV.agg [PV.int IntKind.i64 x0, PV.int IntKind.i64 x1]] [])
    fun (r : Res) =>
    ctl (okR [RSh.one Sh.bool] r.fst && okB [] r.snd)
      (bnd
        (ctl (nth (RV.p PV.nilp) r.fst 0).toPV.toBool
          (bnd (F 9 [AV.int IntKind.i64 a] []) fun (r : Res) =>
            ctl
              (okR [RSh.one (Sh.int IntKind.i64)] r.fst && okB [] r.snd)
              (bnd
                (F 9
                  [AV.int IntKind.i64
                      (IntKind.i64.wrap ((nth (RV.p PV.nilp) r.fst 0).toPV.toInt - x0))]
                  [])
                fun (r : Res) =>
                ctl
                  (okR [RSh.one (Sh.int IntKind.i64)] r.fst && okB [] r.snd)
                  (bnd (F 28 [AV.agg [PV.int IntKind.i64 x0, PV.int IntKind.i64 x1]] [])
                    fun (r_1 : Res) =>
                    ctl
                      (okR [RSh.one (Sh.int IntKind.i64)] r_1.fst && okB [] r_1.snd)
                      (Option.some
                        (leB (nth (RV.p PV.nilp) r.fst 0).toPV.toInt
                          (nth (RV.p PV.nilp) r_1.fst 0).toPV.toInt))
                      Option.none)
                  Option.none)
              Option.none)
          (Option.some Bool.false))
        fun (v : Bool) => Option.some ([RV.p (PV.bool v)], []))
      Option.none := by kernel_rfl

/-- dynpos/arith.Half -/
theorem r33 (F : Fun) (n : Int) (d : Int) : funK E F 33 [AV.int IntKind.i64 n, AV.int IntKind.i64 d] [] =
  bnd (F 40 [AV.int IntKind.i64 n, AV.int IntKind.i64 d, AV.fn 41 []] [])
    fun (r : Res) =>
    ctl
      (okR
          [RSh.one (Sh.int IntKind.i64), RSh.one (Sh.int IntKind.i64)] r.fst &&
        okB [] r.snd)
      (Option.some
        ([RV.p
              (PV.int IntKind.i64 (nth (RV.p PV.nilp) r.fst 0).toPV.toInt),
            RV.p
              (PV.int IntKind.i64 (nth (RV.p PV.nilp) r.fst 1).toPV.toInt)],
          []))
      Option.none := by kernel_rfl

/-- dynpos/angle.Valid$1 -/
theorem r39 (F : Fun) (a : Int) : funK E F 39 [AV.int IntKind.i64 a] [] =
  bnd (ctl (leB 0 a) (Option.some (ltB a 3600)) (Option.some Bool.false)) fun (v : Bool) =>
    Option.some ([RV.p (PV.bool v)], []) := by kernel_rfl

/-- dynpos/arith.divide -/
theorem r40a (F : Fun) (n : Int) (d : Int) : funK E F 40 [AV.int IntKind.i64 n, AV.int IntKind.i64 d, AV.fn 41 []] [] =
  bnd
    (ctl (!ltB n (-1000000000000000000)) (Option.some (ltB 1000000000000000000 n)) (Option.some Bool.true)) fun (v : Bool) =>
    bnd (ctl (!v) (Option.some (ltB d 1)) (Option.some Bool.true)) fun (v : Bool) =>
      bnd (ctl (!v) (Option.some (ltB 1000000000 d)) (Option.some Bool.true)) fun (v : Bool) =>
        ctl v
          (Option.some ([RV.p (PV.int IntKind.i64 0), RV.p (PV.int IntKind.i64 1)], []))
          (bnd (F 41 [AV.int IntKind.i64 n, AV.int IntKind.i64 d] []) fun (r : Res) =>
            ctl
              (okR [RSh.one (Sh.int IntKind.i64)] r.fst && okB [] r.snd)
              (Option.some
                ([RV.p
                      (PV.int IntKind.i64 (nth (RV.p PV.nilp) r.fst 0).toPV.toInt),
                    RV.p (PV.int IntKind.i64 0)],
                  []))
              Option.none) := by kernel_rfl

/-- dynpos/arith.Half$1 -/
theorem r41 (F : Fun) (n : Int) (d : Int) : funK E F 41 [AV.int IntKind.i64 n, AV.int IntKind.i64 d] [] =
  bnd
    (F 42 [AV.int IntKind.i64 (IntKind.i64.wrap (IntKind.i64.wrap (2 * n) + d)), AV.int IntKind.i64 (IntKind.i64.wrap (2 * d))] [])
    fun (r : Res) =>
    ctl
      (okR [RSh.one (Sh.int IntKind.i64)] r.fst && okB [] r.snd)
      (Option.some
        ([RV.p
              (PV.int IntKind.i64 (nth (RV.p PV.nilp) r.fst 0).toPV.toInt)],
          []))
      Option.none := by kernel_rfl

/-- dynpos/arith.floor -/
theorem r42 (F : Fun) (n : Int) (d : Int) : funK E F 42 [AV.int IntKind.i64 n, AV.int IntKind.i64 d] [] =
  ctl (Bool.true && neB d 0)
    (ctl (Bool.true && neB d 0)
      (ctl (ltB (n.tmod d) 0)
        (Option.some ([RV.p (PV.int IntKind.i64 (IntKind.i64.wrap (IntKind.i64.wrap (n.tdiv d) - 1)))], []))
        (Option.some ([RV.p (PV.int IntKind.i64 (IntKind.i64.wrap (n.tdiv d)))], [])))
      Option.none)
    Option.none := by kernel_rfl

/-- dynpos/dynposlaw02.AngleTurns -/
theorem r3 (F : Fun) (a : Int) (k : Int) : funK E F 3 [AV.int IntKind.i64 a, AV.int IntKind.i8 k] [] =
  bnd (F 9 [AV.int IntKind.i64 a] []) fun (r : Res) =>
    ctl
      (okR [RSh.one (Sh.int IntKind.i64)] r.fst && okB [] r.snd)
      (bnd
        (ctl (leB 0 (nth (RV.p PV.nilp) r.fst 0).toPV.toInt)
          (Option.some (ltB (nth (RV.p PV.nilp) r.fst 0).toPV.toInt 3600))
          (Option.some Bool.false))
        fun (v : Bool) =>
        bnd
          (ctl v
            (bnd
              (F 9
                [AV.int IntKind.i64
                    (IntKind.i64.wrap
                      ((nth (RV.p PV.nilp) r.fst 0).toPV.toInt + IntKind.i64.wrap (IntKind.i64.wrap k * 3600)))]
                [])
              fun (r_1 : Res) =>
              ctl
                (okR [RSh.one (Sh.int IntKind.i64)] r_1.fst && okB [] r_1.snd)
                (Option.some
                  ((nth (RV.p PV.nilp) r_1.fst 0).toPV.toInt ==
                    (nth (RV.p PV.nilp) r.fst 0).toPV.toInt))
                Option.none)
            (Option.some Bool.false))
          fun (v : Bool) =>
          bnd
            (ctl v
              (bnd
                (F 10
                  [AV.int IntKind.i64
                      (IntKind.i64.wrap
                        ((nth (RV.p PV.nilp) r.fst 0).toPV.toInt + IntKind.i64.wrap (IntKind.i64.wrap k * 3600)))]
                  [])
                fun (r_1 : Res) =>
                ctl
                  (okR [RSh.one (Sh.int IntKind.i64)] r_1.fst && okB [] r_1.snd)
                  (bnd
                    (F 10 [AV.int IntKind.i64 (nth (RV.p PV.nilp) r.fst 0).toPV.toInt] [])
                    fun (r : Res) =>
                    ctl
                      (okR [RSh.one (Sh.int IntKind.i64)] r.fst && okB [] r.snd)
                      (Option.some
                        ((nth (RV.p PV.nilp) r_1.fst 0).toPV.toInt ==
                          (nth (RV.p PV.nilp) r.fst 0).toPV.toInt))
                      Option.none)
                  Option.none)
              (Option.some Bool.false))
            fun (v : Bool) =>
            bnd
              (ctl v
                (bnd
                  (F 11
                    [AV.int IntKind.i64
                        (IntKind.i64.wrap
                          ((nth (RV.p PV.nilp) r.fst 0).toPV.toInt + IntKind.i64.wrap (IntKind.i64.wrap k * 3600)))]
                    [])
                  fun (r_1 : Res) =>
                  ctl
                    (okR [RSh.one (Sh.int IntKind.i64)] r_1.fst && okB [] r_1.snd)
                    (bnd
                      (F 11 [AV.int IntKind.i64 (nth (RV.p PV.nilp) r.fst 0).toPV.toInt] [])
                      fun (r : Res) =>
                      ctl
                        (okR [RSh.one (Sh.int IntKind.i64)] r.fst && okB [] r.snd)
                        (Option.some
                          ((nth (RV.p PV.nilp) r_1.fst 0).toPV.toInt ==
                            (nth (RV.p PV.nilp) r.fst 0).toPV.toInt))
                        Option.none)
                    Option.none)
                (Option.some Bool.false))
              fun (v : Bool) =>
              bnd
                (ctl v
                  (bnd
                    (F 10
                      [AV.int IntKind.i64
                          (IntKind.i64.wrap ((nth (RV.p PV.nilp) r.fst 0).toPV.toInt + 1800))]
                      [])
                    fun (r_1 : Res) =>
                    ctl
                      (okR [RSh.one (Sh.int IntKind.i64)] r_1.fst && okB [] r_1.snd)
                      (bnd
                        (F 10 [AV.int IntKind.i64 (nth (RV.p PV.nilp) r.fst 0).toPV.toInt] [])
                        fun (r : Res) =>
                        ctl
                          (okR [RSh.one (Sh.int IntKind.i64)] r.fst && okB [] r.snd)
                          (Option.some
                            ((nth (RV.p PV.nilp) r_1.fst 0).toPV.toInt ==
                              IntKind.i64.wrap (0 - (nth (RV.p PV.nilp) r.fst 0).toPV.toInt)))
                          Option.none)
                      Option.none)
                  (Option.some Bool.false))
                fun (v : Bool) =>
                bnd
                  (ctl v
                    (bnd
                      (F 11
                        [AV.int IntKind.i64
                            (IntKind.i64.wrap ((nth (RV.p PV.nilp) r.fst 0).toPV.toInt + 1800))]
                        [])
                      fun (r_1 : Res) =>
                      ctl
                        (okR [RSh.one (Sh.int IntKind.i64)] r_1.fst && okB [] r_1.snd)
                        (bnd
                          (F 11 [AV.int IntKind.i64 (nth (RV.p PV.nilp) r.fst 0).toPV.toInt]
                            [])
                          fun (r : Res) =>
                          ctl
                            (okR [RSh.one (Sh.int IntKind.i64)] r.fst && okB [] r.snd)
                            (Option.some
                              ((nth (RV.p PV.nilp) r_1.fst 0).toPV.toInt ==
                                IntKind.i64.wrap (0 - (nth (RV.p PV.nilp) r.fst 0).toPV.toInt)))
                            Option.none)
                        Option.none)
                    (Option.some Bool.false))
                  fun (v : Bool) =>
                  bnd
                    (ctl v
                      (bnd
                        (F 12
                          [AV.int IntKind.i64 (nth (RV.p PV.nilp) r.fst 0).toPV.toInt,
                            AV.int IntKind.i64
                              (IntKind.i64.wrap
                                ((nth (RV.p PV.nilp) r.fst 0).toPV.toInt + IntKind.i64.wrap (IntKind.i64.wrap k * 3600)))]
                          [])
                        fun (r : Res) =>
                        ctl
                          (okR [RSh.one (Sh.int IntKind.i64)] r.fst && okB [] r.snd)
                          (Option.some ((nth (RV.p PV.nilp) r.fst 0).toPV.toInt == 0)) Option.none)
                      (Option.some Bool.false))
                    fun (v : Bool) =>
                    bnd
                      (ctl v
                        (bnd (F 13 [] []) fun (r : Res) =>
                          ctl
                            (okR [RSh.one Sh.bool] r.fst && okB [] r.snd)
                            (Option.some (nth (RV.p PV.nilp) r.fst 0).toPV.toBool) Option.none)
                        (Option.some Bool.false))
                      fun (v : Bool) => Option.some ([RV.p (PV.bool v)], []))
      Option.none := by kernel_rfl

/-- dynpos/dynposlaw02.AngleSines -/
theorem r4 (F : Fun) (a : Int) : funK E F 4 [AV.int IntKind.i64 a] [] =
  bnd (F 9 [AV.int IntKind.i64 a] []) fun (r : Res) =>
    ctl
      (okR [RSh.one (Sh.int IntKind.i64)] r.fst && okB [] r.snd)
      (bnd
        (F 10 [AV.int IntKind.i64 (nth (RV.p PV.nilp) r.fst 0).toPV.toInt] [])
        fun (r_1 : Res) =>
        ctl
          (okR [RSh.one (Sh.int IntKind.i64)] r_1.fst && okB [] r_1.snd)
          (bnd
            (F 11 [AV.int IntKind.i64 (nth (RV.p PV.nilp) r.fst 0).toPV.toInt] [])
            fun (r_2 : Res) =>
            ctl
              (okR [RSh.one (Sh.int IntKind.i64)] r_2.fst && okB [] r_2.snd)
              (bnd
                (F 10
                  [AV.int IntKind.i64
                      (IntKind.i64.wrap (0 - (nth (RV.p PV.nilp) r.fst 0).toPV.toInt))]
                  [])
                fun (r_3 : Res) =>
                ctl
                  (okR [RSh.one (Sh.int IntKind.i64)] r_3.fst && okB [] r_3.snd)
                  (bnd
                    (ctl
                      (!(nth (RV.p PV.nilp) r_3.fst 0).toPV.toInt !=
                          IntKind.i64.wrap (0 - (nth (RV.p PV.nilp) r_1.fst 0).toPV.toInt))
                      (bnd
                        (F 10
                          [AV.int IntKind.i64
                              (IntKind.i64.wrap (1800 - (nth (RV.p PV.nilp) r.fst 0).toPV.toInt))]
                          [])
                        fun (r : Res) =>
                        ctl
                          (okR [RSh.one (Sh.int IntKind.i64)] r.fst && okB [] r.snd)
                          (Option.some
                            ((nth (RV.p PV.nilp) r.fst 0).toPV.toInt !=
                              (nth (RV.p PV.nilp) r_1.fst 0).toPV.toInt))
                          Option.none)
                      (Option.some Bool.true))
                    fun (v : Bool) =>
                    bnd
                      (ctl (!v)
                        (bnd
                          (F 11
                            [AV.int IntKind.i64
                                (IntKind.i64.wrap (0 - (nth (RV.p PV.nilp) r.fst 0).toPV.toInt))]
                            [])
                          fun (r : Res) =>
                          ctl
                            (okR [RSh.one (Sh.int IntKind.i64)] r.fst && okB [] r.snd)
                            (Option.some
                              ((nth (RV.p PV.nilp) r.fst 0).toPV.toInt !=
                                (nth (RV.p PV.nilp) r_2.fst 0).toPV.toInt))
                            Option.none)
                        (Option.some Bool.true))
                      fun (v : Bool) =>
                      bnd
                        (ctl (!v)
                          (bnd
                            (F 10
                              [AV.int IntKind.i64
                                  (IntKind.i64.wrap ((nth (RV.p PV.nilp) r.fst 0).toPV.toInt + 3600))]
                              [])
                            fun (r : Res) =>
                            ctl
                              (okR [RSh.one (Sh.int IntKind.i64)] r.fst && okB [] r.snd)
                              (Option.some
                                ((nth (RV.p PV.nilp) r.fst 0).toPV.toInt !=
                                  (nth (RV.p PV.nilp) r_1.fst 0).toPV.toInt))
                              Option.none)
                          (Option.some Bool.true))
                        fun (v : Bool) =>
                        bnd
                          (ctl (!v)
                            (Option.some (ltB (nth (RV.p PV.nilp) r_1.fst 0).toPV.toInt (-10000)))
                            (Option.some Bool.true))
                          fun (v : Bool) =>
                          bnd
                            (ctl (!v)
                              (Option.some (ltB 10000 (nth (RV.p PV.nilp) r_1.fst 0).toPV.toInt))
                              (Option.some Bool.true))
                            fun (v : Bool) =>
                            bnd
                              (ctl (!v)
                                (Option.some
                                  (ltB 500000
                                    (IntKind.i64.wrap
                                      (IntKind.i64.wrap
                                          (IntKind.i64.wrap
                                              ((nth (RV.p PV.nilp) r_1.fst 0).toPV.toInt *
                                                (nth (RV.p PV.nilp) r_1.fst 0).toPV.toInt) +
                                            IntKind.i64.wrap
                                              ((nth (RV.p PV.nilp) r_2.fst 0).toPV.toInt *
                                                (nth (RV.p PV.nilp) r_2.fst 0).toPV.toInt)) -
                                        100000000))))
                                (Option.some Bool.true))
                              fun (v : Bool) =>
                              bnd
                                (ctl (!v)
                                  (Option.some
                                    (ltB
                                      (IntKind.i64.wrap
                                        (IntKind.i64.wrap
                                            (IntKind.i64.wrap
                                                ((nth (RV.p PV.nilp) r_1.fst 0).toPV.toInt *
                                                  (nth (RV.p PV.nilp) r_1.fst 0).toPV.toInt) +
                                              IntKind.i64.wrap
                                                ((nth (RV.p PV.nilp) r_2.fst 0).toPV.toInt *
                                                  (nth (RV.p PV.nilp) r_2.fst 0).toPV.toInt)) -
                                          100000000))
                                      (-500000)))
                                  (Option.some Bool.true))
                                fun (v : Bool) =>
                                ctl v (Option.some ([RV.p (PV.bool Bool.false)], []))
                                  (bnd
                                    (ctl
                                      (!leB 900 (nth (RV.p PV.nilp) r.fst 0).toPV.toInt)
                                      (bnd
                                        (F 10
                                          [AV.int IntKind.i64
                                              (IntKind.i64.wrap ((nth (RV.p PV.nilp) r.fst 0).toPV.toInt + 1))]
                                          [])
                                        fun (r_4 : Res) =>
                                        ctl
                                          (okR [RSh.one (Sh.int IntKind.i64)] r_4.fst &&
                                            okB [] r_4.snd)
                                          (ctl
                                            (leB (nth (RV.p PV.nilp) r_1.fst 0).toPV.toInt
                                              (nth (RV.p PV.nilp) r_4.fst 0).toPV.toInt)
                                            (bnd
                                              (F 11
                                                [AV.int IntKind.i64
                                                    (IntKind.i64.wrap ((nth (RV.p PV.nilp) r.fst 0).toPV.toInt + 1))]
                                                [])
                                              fun (r : Res) =>
                                              ctl
                                                (okR [RSh.one (Sh.int IntKind.i64)] r.fst &&
                                                  okB [] r.snd)
                                                (Option.some
                                                  (leB (nth (RV.p PV.nilp) r.fst 0).toPV.toInt
                                                    (nth (RV.p PV.nilp) r_2.fst 0).toPV.toInt))
                                                Option.none)
                                            (Option.some Bool.false))
                                          Option.none)
                                      (Option.some Bool.true))
                                    fun (v : Bool) =>
                                    bnd
                                      (ctl v
                                        (bnd (F 13 [] []) fun (r : Res) =>
                                          ctl
                                            (okR [RSh.one Sh.bool] r.fst && okB [] r.snd)
                                            (Option.some (nth (RV.p PV.nilp) r.fst 0).toPV.toBool) Option.none)
                                        (Option.some Bool.false))
                                      fun (v : Bool) => Option.some ([RV.p (PV.bool v)], [])))
                  Option.none)
              Option.none)
          Option.none)
      Option.none := by kernel_rfl

/-- dynpos/dynposlaw02.AngleDiffs -/
theorem r5 (F : Fun) (a : Int) (b : Int) (c : Int) : funK E F 5 [AV.int IntKind.i64 a, AV.int IntKind.i64 b, AV.int IntKind.i64 c] [] =
  bnd (F 12 [AV.int IntKind.i64 a, AV.int IntKind.i64 b] []) fun (r : Res) =>
    ctl
      (okR [RSh.one (Sh.int IntKind.i64)] r.fst && okB [] r.snd)
      (bnd (F 12 [AV.int IntKind.i64 b, AV.int IntKind.i64 c] []) fun (r_1 : Res) =>
        ctl
          (okR [RSh.one (Sh.int IntKind.i64)] r_1.fst && okB [] r_1.snd)
          (bnd (F 12 [AV.int IntKind.i64 c, AV.int IntKind.i64 a] []) fun (r_2 : Res) =>
            ctl
              (okR [RSh.one (Sh.int IntKind.i64)] r_2.fst && okB [] r_2.snd)
              (bnd (F 9 [AV.int IntKind.i64 a] []) fun (r_3 : Res) =>
                ctl
                  (okR [RSh.one (Sh.int IntKind.i64)] r_3.fst && okB [] r_3.snd)
                  (bnd (F 9 [AV.int IntKind.i64 b] []) fun (r_4 : Res) =>
                    ctl
                      (okR [RSh.one (Sh.int IntKind.i64)] r_4.fst && okB [] r_4.snd)
                      (bnd
                        (ctl
                          (ltB (-1800) (nth (RV.p PV.nilp) r.fst 0).toPV.toInt)
                          (Option.some (leB (nth (RV.p PV.nilp) r.fst 0).toPV.toInt 1800))
                          (Option.some Bool.false))
                        fun (v : Bool) =>
                        bnd
                          (ctl v
                            (bnd
                              (F 9
                                [AV.int IntKind.i64
                                    (IntKind.i64.wrap
                                      ((nth (RV.p PV.nilp) r_3.fst 0).toPV.toInt +
                                        (nth (RV.p PV.nilp) r.fst 0).toPV.toInt))]
                                [])
                              fun (r : Res) =>
                              ctl
                                (okR [RSh.one (Sh.int IntKind.i64)] r.fst && okB [] r.snd)
                                (Option.some
                                  ((nth (RV.p PV.nilp) r.fst 0).toPV.toInt ==
                                    (nth (RV.p PV.nilp) r_4.fst 0).toPV.toInt))
                                Option.none)
                            (Option.some Bool.false))
                          fun (v : Bool) =>
                          bnd
                            (ctl v
                              (ctl (!(nth (RV.p PV.nilp) r.fst 0).toPV.toInt == 1800)
                                (bnd (F 12 [AV.int IntKind.i64 b, AV.int IntKind.i64 a] [])
                                  fun (r_5 : Res) =>
                                  ctl
                                    (okR [RSh.one (Sh.int IntKind.i64)] r_5.fst &&
                                      okB [] r_5.snd)
                                    (Option.some
                                      ((nth (RV.p PV.nilp) r_5.fst 0).toPV.toInt ==
                                        IntKind.i64.wrap (0 - (nth (RV.p PV.nilp) r.fst 0).toPV.toInt)))
                                    Option.none)
                                (Option.some Bool.true))
                              (Option.some Bool.false))
                            fun (v : Bool) =>
                            bnd
                              (ctl v
                                (bnd
                                  (F 9
                                    [AV.int IntKind.i64
                                        (IntKind.i64.wrap
                                          (IntKind.i64.wrap
                                              ((nth (RV.p PV.nilp) r.fst 0).toPV.toInt +
                                                (nth (RV.p PV.nilp) r_1.fst 0).toPV.toInt) +
                                            (nth (RV.p PV.nilp) r_2.fst 0).toPV.toInt))]
                                    [])
                                  fun (r : Res) =>
                                  ctl
                                    (okR [RSh.one (Sh.int IntKind.i64)] r.fst && okB [] r.snd)
                                    (Option.some ((nth (RV.p PV.nilp) r.fst 0).toPV.toInt == 0)) Option.none)
                                (Option.some Bool.false))
                              fun (v : Bool) =>
                              bnd
                                (ctl v
                                  (bnd (F 12 [AV.int IntKind.i64 a, AV.int IntKind.i64 a] [])
                                    fun (r : Res) =>
                                    ctl
                                      (okR [RSh.one (Sh.int IntKind.i64)] r.fst &&
                                        okB [] r.snd)
                                      (Option.some ((nth (RV.p PV.nilp) r.fst 0).toPV.toInt == 0)) Option.none)
                                  (Option.some Bool.false))
                                fun (v : Bool) =>
                                bnd
                                  (ctl v
                                    (bnd (F 13 [] []) fun (r : Res) =>
                                      ctl
                                        (okR [RSh.one Sh.bool] r.fst && okB [] r.snd)
                                        (Option.some (nth (RV.p PV.nilp) r.fst 0).toPV.toBool) Option.none)
                                    (Option.some Bool.false))
                                  fun (v : Bool) => Option.some ([RV.p (PV.bool v)], []))
                      Option.none)
                  Option.none)
              Option.none)
          Option.none)
      Option.none := by kernel_rfl

/-- dynpos/dynposmake.New -/
theorem r14 (F : Fun) (l : List (List PV)) : funK E F 14 [AV.sl 1 l] [] =
  ctl
    (Bool.true && (leB 0 (minI 600 ↑l.length) && leB (minI 600 ↑l.length) ↑l.length))
    (Option.some
      ([RV.ownp
            [PV.sl 1 (cutI l 0 (minI 600 ↑l.length)), PV.int IntKind.i64 0]],
        []))
    Option.none := by kernel_rfl

/-- (*dynpos/dynposmake.Src).Arc -/
theorem r15 (F : Fun) (s0 : List (List PV)) (s1 : Int) : funK E F 15 [AV.t (TV.ptr 0 0)] [Blk.box [AV.sl 1 s0, AV.int IntKind.i64 s1]] =
  bnd
    (F 34
      [AV.t (TV.ptr 0 0),
        AV.sl 1
          [[PV.int IntKind.i64 0], [PV.int IntKind.i64 450], [PV.int IntKind.i64 800],
            [PV.int IntKind.i64 1350], [PV.int IntKind.i64 1800], [PV.int IntKind.i64 2600],
            [PV.int IntKind.i64 3500]]]
      [Blk.box [AV.sl 1 s0, AV.int IntKind.i64 s1]])
    fun (r : Res) =>
    ctl
      (okR [RSh.one (Sh.int IntKind.i64)] r.fst &&
        okB [Sum.inl [Sh.sl 1, Sh.int IntKind.i64]] r.snd)
      (bnd
        (F 34
          [AV.t (TV.ptr 0 0),
            AV.sl 1
              [[PV.int IntKind.i64 0], [PV.int IntKind.i64 100], [PV.int IntKind.i64 300],
                [PV.int IntKind.i64 900], [PV.int IntKind.i64 1799]]]
          [Blk.box
              [AV.sl 1
                  (nth PV.nilp
                      (List.map AV.toPV (nth (Blk.box []) r.snd 0).toCs) 0).toEs,
                AV.int IntKind.i64
                  (nth PV.nilp
                      (List.map AV.toPV (nth (Blk.box []) r.snd 0).toCs) 1).toInt]])
        fun (r_1 : Res) =>
        ctl
          (okR [RSh.one (Sh.int IntKind.i64)] r_1.fst &&
            okB [Sum.inl [Sh.sl 1, Sh.int IntKind.i64]] r_1.snd)
          (Option.some
            ([RV.agg
                  [PV.int IntKind.i64 (nth (RV.p PV.nilp) r.fst 0).toPV.toInt,
                    PV.int IntKind.i64
                      ((IntKind.i64.wrap
                            ((nth (RV.p PV.nilp) r.fst 0).toPV.toInt +
                              (nth (RV.p PV.nilp) r_1.fst 0).toPV.toInt)).tmod
                        3600)]],
              [Blk.box
                  [AV.sl 1
                      (nth PV.nilp
                          (List.map AV.toPV (nth (Blk.box []) r_1.snd 0).toCs) 0).toEs,
                    AV.int IntKind.i64
                      (nth PV.nilp
                          (List.map AV.toPV (nth (Blk.box []) r_1.snd 0).toCs) 1).toInt]]))
          Option.none)
      Option.none := by kernel_rfl

/-- dynpos/angle.Cross -/
theorem r16 (F : Fun) (a : Int) (x : Int) (y : Int) : funK E F 16 [AV.int IntKind.i64 a, AV.int IntKind.i64 x, AV.int IntKind.i64 y] [] =
  bnd (F 35 [AV.int IntKind.i64 x, AV.int IntKind.i64 y] []) fun (r : Res) =>
    ctl (okR [RSh.one Sh.bool] r.fst && okB [] r.snd)
      (ctl (!(nth (RV.p PV.nilp) r.fst 0).toPV.toBool)
        (Option.some ([RV.p (PV.int IntKind.i64 0)], []))
        (bnd (F 11 [AV.int IntKind.i64 a] []) fun (r : Res) =>
          ctl
            (okR [RSh.one (Sh.int IntKind.i64)] r.fst && okB [] r.snd)
            (bnd (F 10 [AV.int IntKind.i64 a] []) fun (r_1 : Res) =>
              ctl
                (okR [RSh.one (Sh.int IntKind.i64)] r_1.fst && okB [] r_1.snd)
                (Option.some
                  ([RV.p
                        (PV.int IntKind.i64
                          (IntKind.i64.wrap
                            (IntKind.i64.wrap ((nth (RV.p PV.nilp) r.fst 0).toPV.toInt * y) -
                              IntKind.i64.wrap ((nth (RV.p PV.nilp) r_1.fst 0).toPV.toInt * x))))],
                    []))
                Option.none)
            Option.none))
      Option.none := by kernel_rfl

/-- dynpos/angle.Within -/
theorem r17 (F : Fun) (x0 : Int) (x1 : Int) (px : Int) (py : Int) : funK E F 17 [AV.agg [PV.int IntKind.i64 x0, PV.int IntKind.i64 x1], AV.int IntKind.i64 px,
  AV.int IntKind.i64 py] [] =
  bnd (F 26 [AV.agg [PV.int IntKind.i64 x0, PV.int IntKind.i64 x1]] [])
    fun (r : Res) =>
    ctl (okR [RSh.one Sh.bool] r.fst && okB [] r.snd)
      (bnd
        (ctl (!!(nth (RV.p PV.nilp) r.fst 0).toPV.toBool)
          (ctl (px == 0) (Option.some (py == 0)) (Option.some Bool.false)) (Option.some Bool.true))
        fun (v : Bool) =>
        bnd
          (ctl (!v)
            (bnd (F 35 [AV.int IntKind.i64 px, AV.int IntKind.i64 py] []) fun (r : Res) =>
              ctl (okR [RSh.one Sh.bool] r.fst && okB [] r.snd)
                (Option.some !(nth (RV.p PV.nilp) r.fst 0).toPV.toBool) Option.none)
            (Option.some Bool.true))
          fun (v : Bool) =>
          ctl v (Option.some ([RV.p (PV.bool Bool.false)], []))
            (bnd
              (F 16 [AV.int IntKind.i64 x0, AV.int IntKind.i64 px, AV.int IntKind.i64 py] [])
              fun (r : Res) =>
              ctl
                (okR [RSh.one (Sh.int IntKind.i64)] r.fst && okB [] r.snd)
                (bnd
                  (ctl
                    (!ltB 0 (nth (RV.p PV.nilp) r.fst 0).toPV.toInt)
                    (bnd (F 11 [AV.int IntKind.i64 x0] []) fun (r : Res) =>
                      ctl
                        (okR [RSh.one (Sh.int IntKind.i64)] r.fst && okB [] r.snd)
                        (bnd (F 10 [AV.int IntKind.i64 x0] []) fun (r_1 : Res) =>
                          ctl
                            (okR [RSh.one (Sh.int IntKind.i64)] r_1.fst && okB [] r_1.snd)
                            (Option.some
                              (ltB 0
                                (IntKind.i64.wrap
                                  (IntKind.i64.wrap ((nth (RV.p PV.nilp) r.fst 0).toPV.toInt * px) +
                                    IntKind.i64.wrap ((nth (RV.p PV.nilp) r_1.fst 0).toPV.toInt * py)))))
                            Option.none)
                        Option.none)
                    (Option.some Bool.true))
                  fun (v : Bool) =>
                  bnd
                    (ctl
                      (leB 0 (nth (RV.p PV.nilp) r.fst 0).toPV.toInt)
                      (bnd
                        (F 16 [AV.int IntKind.i64 x1, AV.int IntKind.i64 px, AV.int IntKind.i64 py] [])
                        fun (r : Res) =>
                        ctl
                          (okR [RSh.one (Sh.int IntKind.i64)] r.fst && okB [] r.snd)
                          (Option.some (leB (nth (RV.p PV.nilp) r.fst 0).toPV.toInt 0))
                          Option.none)
                      (Option.some Bool.false))
                    fun (v_1 : Bool) =>
                    bnd (ctl v_1 (Option.some v) (Option.some Bool.false)) fun (v : Bool) =>
                      Option.some ([RV.p (PV.bool v)], []))
                Option.none))
      Option.none := by kernel_rfl

/-- (*dynpos/dynposmake.Src).N -/
theorem r18 (F : Fun) (s0 : List (List PV)) (s1 : Int) (n : Int) : funK E F 18 [AV.t (TV.ptr 0 0), AV.int IntKind.i64 n] [Blk.box [AV.sl 1 s0, AV.int IntKind.i64 s1]] =
  ctl (leB (↑s0.length) s1)
    (Option.some
      ([RV.p (PV.int IntKind.i64 0)],
        [Blk.box [AV.sl 1 s0, AV.int IntKind.i64 s1]]))
    (getE s0 (IntKind.i64.wrap (IntKind.i64.wrap (s1 + 1) - 1)) fun (c : List PV) =>
      ctl (okCs [Sh.int IntKind.i64] c)
        (bnd
          (F 36 [AV.int IntKind.i64 (nth PV.nilp c 0).toInt, AV.int IntKind.i64 n] [])
          fun (r : Res) =>
          ctl
            (okR [RSh.one (Sh.int IntKind.i64)] r.fst && okB [] r.snd)
            (Option.some
              ([RV.p
                    (PV.int IntKind.i64 (nth (RV.p PV.nilp) r.fst 0).toPV.toInt)],
                [Blk.box [AV.sl 1 s0, AV.int IntKind.i64 (IntKind.i64.wrap (s1 + 1))]]))
            Option.none)
        Option.none) := by kernel_rfl

/-- (*dynpos/dynposmake.Src).Odd -/
theorem r19 (F : Fun) (s0 : List (List PV)) (s1 : Int) : funK E F 19 [AV.t (TV.ptr 0 0)] [Blk.box [AV.sl 1 s0, AV.int IntKind.i64 s1]] =
  bnd
    (F 34
      [AV.t (TV.ptr 0 0),
        AV.sl 1
          [[PV.int IntKind.i64 (-1)], [PV.int IntKind.i64 0], [PV.int IntKind.i64 1],
            [PV.int IntKind.i64 4611686018427387904], [PV.int IntKind.i64 (-4611686018427387904)],
            [PV.int IntKind.i64 9223372036854775807], [PV.int IntKind.i64 (-9223372036854775808)],
            [PV.int IntKind.i64 1000000000], [PV.int IntKind.i64 1000000001], [PV.int IntKind.i64 (-1000000001)],
            [PV.int IntKind.i64 3600], [PV.int IntKind.i64 1800], [PV.int IntKind.i64 100000000],
            [PV.int IntKind.i64 100000001], [PV.int IntKind.i64 5001]]]
      [Blk.box [AV.sl 1 s0, AV.int IntKind.i64 s1]])
    fun (r : Res) =>
    ctl
      (okR [RSh.one (Sh.int IntKind.i64)] r.fst &&
        okB [Sum.inl [Sh.sl 1, Sh.int IntKind.i64]] r.snd)
      (Option.some
        ([RV.p
              (PV.int IntKind.i64 (nth (RV.p PV.nilp) r.fst 0).toPV.toInt)],
          [Blk.box
              [AV.sl 1
                  (nth PV.nilp
                      (List.map AV.toPV (nth (Blk.box []) r.snd 0).toCs) 0).toEs,
                AV.int IntKind.i64
                  (nth PV.nilp
                      (List.map AV.toPV (nth (Blk.box []) r.snd 0).toCs) 1).toInt]]))
      Option.none := by kernel_rfl

/-- dynpos/dynposref02.Norm -/
theorem r20 (F : Fun) (a : Int) : funK E F 20 [AV.int IntKind.i64 a] [] =
  Option.some ([RV.p (PV.int IntKind.i64 ((IntKind.i64.wrap (a.tmod 3600 + 3600)).tmod 3600))], []) := by kernel_rfl

/-- dynpos/dynposref02.Sin -/
theorem r21 (F : Fun) (a : Int) : funK E F 21 [AV.int IntKind.i64 a] [] =
  bnd (F 20 [AV.int IntKind.i64 a] []) fun (r : Res) =>
    ctl
      (okR [RSh.one (Sh.int IntKind.i64)] r.fst && okB [] r.snd)
      (ctl (ltB 1800 (nth (RV.p PV.nilp) r.fst 0).toPV.toInt)
        (bnd
          (F 21
            [AV.int IntKind.i64
                (IntKind.i64.wrap ((nth (RV.p PV.nilp) r.fst 0).toPV.toInt - 1800))]
            [])
          fun (r : Res) =>
          ctl
            (okR [RSh.one (Sh.int IntKind.i64)] r.fst && okB [] r.snd)
            (Option.some
              ([RV.p
                    (PV.int IntKind.i64
                      (IntKind.i64.wrap (0 - (nth (RV.p PV.nilp) r.fst 0).toPV.toInt)))],
                []))
            Option.none)
        (bnd
          (F 37
            [AV.int IntKind.i64
                (IntKind.i64.wrap
                  (40000 *
                    IntKind.i64.wrap
                      ((nth (RV.p PV.nilp) r.fst 0).toPV.toInt *
                        IntKind.i64.wrap (1800 - (nth (RV.p PV.nilp) r.fst 0).toPV.toInt)))),
              AV.int IntKind.i64
                (IntKind.i64.wrap
                  (4050000 -
                    IntKind.i64.wrap
                      ((nth (RV.p PV.nilp) r.fst 0).toPV.toInt *
                        IntKind.i64.wrap (1800 - (nth (RV.p PV.nilp) r.fst 0).toPV.toInt))))]
            [])
          fun (r : Res) =>
          ctl
            (okR
                [RSh.one (Sh.int IntKind.i64), RSh.one (Sh.int IntKind.i64)] r.fst &&
              okB [] r.snd)
            (Option.some
              ([RV.p
                    (PV.int IntKind.i64 (nth (RV.p PV.nilp) r.fst 0).toPV.toInt)],
                []))
            Option.none))
      Option.none := by kernel_rfl

/-- dynpos/dynposref02.Cos -/
theorem r22 (F : Fun) (a : Int) : funK E F 22 [AV.int IntKind.i64 a] [] =
  bnd (F 20 [AV.int IntKind.i64 a] []) fun (r : Res) =>
    ctl
      (okR [RSh.one (Sh.int IntKind.i64)] r.fst && okB [] r.snd)
      (bnd
        (F 21
          [AV.int IntKind.i64
              (IntKind.i64.wrap ((nth (RV.p PV.nilp) r.fst 0).toPV.toInt + 900))]
          [])
        fun (r : Res) =>
        ctl
          (okR [RSh.one (Sh.int IntKind.i64)] r.fst && okB [] r.snd)
          (Option.some
            ([RV.p
                  (PV.int IntKind.i64 (nth (RV.p PV.nilp) r.fst 0).toPV.toInt)],
              []))
          Option.none)
      Option.none := by kernel_rfl

/-- dynpos/dynposref02.Diff -/
theorem r23 (F : Fun) (a : Int) (b : Int) : funK E F 23 [AV.int IntKind.i64 a, AV.int IntKind.i64 b] [] =
  bnd (F 20 [AV.int IntKind.i64 b] []) fun (r : Res) =>
    ctl
      (okR [RSh.one (Sh.int IntKind.i64)] r.fst && okB [] r.snd)
      (bnd (F 20 [AV.int IntKind.i64 a] []) fun (r_1 : Res) =>
        ctl
          (okR [RSh.one (Sh.int IntKind.i64)] r_1.fst && okB [] r_1.snd)
          (bnd
            (F 20
              [AV.int IntKind.i64
                  (IntKind.i64.wrap
                    ((nth (RV.p PV.nilp) r.fst 0).toPV.toInt -
                      (nth (RV.p PV.nilp) r_1.fst 0).toPV.toInt))]
              [])
            fun (r : Res) =>
            ctl
              (okR [RSh.one (Sh.int IntKind.i64)] r.fst && okB [] r.snd)
              (ctl
                (ltB 1800 (nth (RV.p PV.nilp) r.fst 0).toPV.toInt)
                (Option.some
                  ([RV.p
                        (PV.int IntKind.i64
                          (IntKind.i64.wrap ((nth (RV.p PV.nilp) r.fst 0).toPV.toInt - 3600)))],
                    []))
                (Option.some
                  ([RV.p
                        (PV.int IntKind.i64 (nth (RV.p PV.nilp) r.fst 0).toPV.toInt)],
                    [])))
              Option.none)
          Option.none)
      Option.none := by kernel_rfl

/-- (*dynpos/dynposmake.Src).Range -/
theorem r24 (F : Fun) (s0 : List (List PV)) (s1 : Int) (lo : Int) (hi : Int) : funK E F 24 [AV.t (TV.ptr 0 0), AV.int IntKind.i64 lo, AV.int IntKind.i64 hi] [Blk.box [AV.sl 1 s0, AV.int IntKind.i64 s1]] =
  bnd
    (F 18 [AV.t (TV.ptr 0 0), AV.int IntKind.i64 (IntKind.i64.wrap (IntKind.i64.wrap (hi - lo) + 1))]
      [Blk.box [AV.sl 1 s0, AV.int IntKind.i64 s1]])
    fun (r : Res) =>
    ctl
      (okR [RSh.one (Sh.int IntKind.i64)] r.fst &&
        okB [Sum.inl [Sh.sl 1, Sh.int IntKind.i64]] r.snd)
      (Option.some
        ([RV.p
              (PV.int IntKind.i64
                (IntKind.i64.wrap (lo + (nth (RV.p PV.nilp) r.fst 0).toPV.toInt)))],
          [Blk.box
              [AV.sl 1
                  (nth PV.nilp
                      (List.map AV.toPV (nth (Blk.box []) r.snd 0).toCs) 0).toEs,
                AV.int IntKind.i64
                  (nth PV.nilp
                      (List.map AV.toPV (nth (Blk.box []) r.snd 0).toCs) 1).toInt]]))
      Option.none := by kernel_rfl

/-- dynpos/dynposref02.Cross -/
theorem r25 (F : Fun) (a : Int) (x : Int) (y : Int) : funK E F 25 [AV.int IntKind.i64 a, AV.int IntKind.i64 x, AV.int IntKind.i64 y] [] =
  bnd (F 38 [AV.int IntKind.i64 x, AV.int IntKind.i64 y] []) fun (r : Res) =>
    ctl (okR [RSh.one Sh.bool] r.fst && okB [] r.snd)
      (ctl (!(nth (RV.p PV.nilp) r.fst 0).toPV.toBool)
        (Option.some ([RV.p (PV.int IntKind.i64 0)], []))
        (bnd (F 22 [AV.int IntKind.i64 a] []) fun (r : Res) =>
          ctl
            (okR [RSh.one (Sh.int IntKind.i64)] r.fst && okB [] r.snd)
            (bnd (F 21 [AV.int IntKind.i64 a] []) fun (r_1 : Res) =>
              ctl
                (okR [RSh.one (Sh.int IntKind.i64)] r_1.fst && okB [] r_1.snd)
                (Option.some
                  ([RV.p
                        (PV.int IntKind.i64
                          (IntKind.i64.wrap
                            (IntKind.i64.wrap ((nth (RV.p PV.nilp) r.fst 0).toPV.toInt * y) -
                              IntKind.i64.wrap ((nth (RV.p PV.nilp) r_1.fst 0).toPV.toInt * x))))],
                    []))
                Option.none)
            Option.none))
      Option.none := by kernel_rfl

/-- dynpos/dynposref02.Valid -/
theorem r27 (F : Fun) (x0 : Int) (x1 : Int) : funK E F 27 [AV.agg [PV.int IntKind.i64 x0, PV.int IntKind.i64 x1]] [] =
  bnd (ctl (leB 0 x0) (Option.some (ltB x0 3600)) (Option.some Bool.false)) fun (v : Bool) =>
    bnd (ctl v (Option.some (leB 0 x1)) (Option.some Bool.false)) fun (v : Bool) =>
      bnd (ctl v (Option.some (ltB x1 3600)) (Option.some Bool.false)) fun (v : Bool) =>
        bnd
          (ctl v
            (bnd (F 29 [AV.agg [PV.int IntKind.i64 x0, PV.int IntKind.i64 x1]] [])
              fun (r : Res) =>
              ctl
                (okR [RSh.one (Sh.int IntKind.i64)] r.fst && okB [] r.snd)
                (Option.some (leB (nth (RV.p PV.nilp) r.fst 0).toPV.toInt 1799)) Option.none)
            (Option.some Bool.false))
          fun (v : Bool) => Option.some ([RV.p (PV.bool v)], []) := by kernel_rfl

/-- dynpos/dynposref02.Width -/
theorem r29 (F : Fun) (x0 : Int) (x1 : Int) : funK E F 29 [AV.agg [PV.int IntKind.i64 x0, PV.int IntKind.i64 x1]] [] =
  bnd (F 20 [AV.int IntKind.i64 (IntKind.i64.wrap (x1 - x0))] []) fun (r : Res) =>
    ctl
      (okR [RSh.one (Sh.int IntKind.i64)] r.fst && okB [] r.snd)
      (Option.some
        ([RV.p
              (PV.int IntKind.i64 (nth (RV.p PV.nilp) r.fst 0).toPV.toInt)],
          []))
      Option.none := by kernel_rfl

/-- dynpos/dynposref02.In -/
theorem r31 (F : Fun) (x0 : Int) (x1 : Int) (a : Int) : funK E F 31 [AV.agg [PV.int IntKind.i64 x0, PV.int IntKind.i64 x1], AV.int IntKind.i64 a] [] =
  bnd (F 27 [AV.agg [PV.int IntKind.i64 x0, PV.int IntKind.i64 x1]] [])
    fun (r : Res) =>
    ctl (okR [RSh.one Sh.bool] r.fst && okB [] r.snd)
      (bnd
        (ctl (nth (RV.p PV.nilp) r.fst 0).toPV.toBool
          (bnd (F 20 [AV.int IntKind.i64 a] []) fun (r : Res) =>
            ctl
              (okR [RSh.one (Sh.int IntKind.i64)] r.fst && okB [] r.snd)
              (bnd
                (F 20
                  [AV.int IntKind.i64
                      (IntKind.i64.wrap ((nth (RV.p PV.nilp) r.fst 0).toPV.toInt - x0))]
                  [])
                fun (r : Res) =>
                ctl
                  (okR [RSh.one (Sh.int IntKind.i64)] r.fst && okB [] r.snd)
                  (bnd (F 29 [AV.agg [PV.int IntKind.i64 x0, PV.int IntKind.i64 x1]] [])
                    fun (r_1 : Res) =>
                    ctl
                      (okR [RSh.one (Sh.int IntKind.i64)] r_1.fst && okB [] r_1.snd)
                      (Option.some
                        (leB (nth (RV.p PV.nilp) r.fst 0).toPV.toInt
                          (nth (RV.p PV.nilp) r_1.fst 0).toPV.toInt))
                      Option.none)
                  Option.none)
              Option.none)
          (Option.some Bool.false))
        fun (v : Bool) => Option.some ([RV.p (PV.bool v)], []))
      Option.none := by kernel_rfl

/-- dynpos/dynposref02.Within -/
theorem r32 (F : Fun) (x0 : Int) (x1 : Int) (px : Int) (py : Int) : funK E F 32 [AV.agg [PV.int IntKind.i64 x0, PV.int IntKind.i64 x1], AV.int IntKind.i64 px,
  AV.int IntKind.i64 py] [] =
  bnd (F 27 [AV.agg [PV.int IntKind.i64 x0, PV.int IntKind.i64 x1]] [])
    fun (r : Res) =>
    ctl (okR [RSh.one Sh.bool] r.fst && okB [] r.snd)
      (bnd
        (ctl (!!(nth (RV.p PV.nilp) r.fst 0).toPV.toBool)
          (bnd (F 38 [AV.int IntKind.i64 px, AV.int IntKind.i64 py] []) fun (r : Res) =>
            ctl (okR [RSh.one Sh.bool] r.fst && okB [] r.snd)
              (Option.some !(nth (RV.p PV.nilp) r.fst 0).toPV.toBool) Option.none)
          (Option.some Bool.true))
        fun (v : Bool) =>
        bnd (ctl (!v) (ctl (px == 0) (Option.some (py == 0)) (Option.some Bool.false)) (Option.some Bool.true)) fun (v : Bool) =>
          ctl v (Option.some ([RV.p (PV.bool Bool.false)], []))
            (bnd
              (F 25 [AV.int IntKind.i64 x0, AV.int IntKind.i64 px, AV.int IntKind.i64 py] [])
              fun (r : Res) =>
              ctl
                (okR [RSh.one (Sh.int IntKind.i64)] r.fst && okB [] r.snd)
                (bnd
                  (F 25 [AV.int IntKind.i64 x1, AV.int IntKind.i64 px, AV.int IntKind.i64 py] [])
                  fun (r_1 : Res) =>
                  ctl
                    (okR [RSh.one (Sh.int IntKind.i64)] r_1.fst && okB [] r_1.snd)
                    (bnd
                      (ctl
                        (leB 0 (nth (RV.p PV.nilp) r.fst 0).toPV.toInt)
                        (Option.some (leB (nth (RV.p PV.nilp) r_1.fst 0).toPV.toInt 0))
                        (Option.some Bool.false))
                      fun (v : Bool) =>
                      bnd
                        (ctl v
                          (ctl
                            (!ltB 0 (nth (RV.p PV.nilp) r.fst 0).toPV.toInt)
                            (bnd (F 22 [AV.int IntKind.i64 x0] []) fun (r : Res) =>
                              ctl
                                (okR [RSh.one (Sh.int IntKind.i64)] r.fst && okB [] r.snd)
                                (bnd (F 21 [AV.int IntKind.i64 x0] []) fun (r_2 : Res) =>
                                  ctl
                                    (okR [RSh.one (Sh.int IntKind.i64)] r_2.fst &&
                                      okB [] r_2.snd)
                                    (Option.some
                                      (ltB 0
                                        (IntKind.i64.wrap
                                          (IntKind.i64.wrap ((nth (RV.p PV.nilp) r.fst 0).toPV.toInt * px) +
                                            IntKind.i64.wrap ((nth (RV.p PV.nilp) r_2.fst 0).toPV.toInt * py)))))
                                    Option.none)
                                Option.none)
                            (Option.some Bool.true))
                          (Option.some Bool.false))
                        fun (v : Bool) => Option.some ([RV.p (PV.bool v)], []))
                    Option.none)
                Option.none))
      Option.none := by kernel_rfl

/-- (*dynpos/dynposmake.Src).Pick -/
theorem r34 (F : Fun) (s0 : List (List PV)) (s1 : Int) (l : List (List PV)) : funK E F 34 [AV.t (TV.ptr 0 0), AV.sl 1 l] [Blk.box [AV.sl 1 s0, AV.int IntKind.i64 s1]] =
  bnd
    (F 18 [AV.t (TV.ptr 0 0), AV.int IntKind.i64 ↑l.length]
      [Blk.box [AV.sl 1 s0, AV.int IntKind.i64 s1]])
    fun (r : Res) =>
    ctl
      (okR [RSh.one (Sh.int IntKind.i64)] r.fst &&
        okB [Sum.inl [Sh.sl 1, Sh.int IntKind.i64]] r.snd)
      (getE l (nth (RV.p PV.nilp) r.fst 0).toPV.toInt
        fun (c : List PV) =>
        ctl (okCs [Sh.int IntKind.i64] c)
          (Option.some
            ([RV.p (PV.int IntKind.i64 (nth PV.nilp c 0).toInt)],
              [Blk.box
                  [AV.sl 1
                      (nth PV.nilp
                          (List.map AV.toPV (nth (Blk.box []) r.snd 0).toCs) 0).toEs,
                    AV.int IntKind.i64
                      (nth PV.nilp
                          (List.map AV.toPV (nth (Blk.box []) r.snd 0).toCs) 1).toInt]]))
          Option.none)
      Option.none := by kernel_rfl

/-- dynpos/angle.small -/
theorem r35 (F : Fun) (x : Int) (y : Int) : funK E F 35 [AV.int IntKind.i64 x, AV.int IntKind.i64 y] [] =
  bnd
    (ctl (leB (maxI y x) 1000000000)
      (Option.some (leB (-1000000000) (minI y x))) (Option.some Bool.false))
    fun (v : Bool) => Option.some ([RV.p (PV.bool v)], []) := by kernel_rfl

/-- dynpos/dynposmake.Mod -/
theorem r36 (F : Fun) (x : Int) (n : Int) : funK E F 36 [AV.int IntKind.i64 x, AV.int IntKind.i64 n] [] =
  ctl (ltB n 1) (Option.some ([RV.p (PV.int IntKind.i64 0)], []))
    (ctl (Bool.true && neB n 0)
      (ctl (Bool.true && neB n 0)
        (Option.some ([RV.p (PV.int IntKind.i64 ((IntKind.i64.wrap (x.tmod n + n)).tmod n))], [])) Option.none)
      Option.none) := by kernel_rfl

/-- dynpos/dynposref01.Half -/
theorem r37 (F : Fun) (n : Int) (d : Int) : funK E F 37 [AV.int IntKind.i64 n, AV.int IntKind.i64 d] [] =
  bnd (F 43 [AV.int IntKind.i64 n, AV.int IntKind.i64 d] []) fun (r : Res) =>
    ctl (okR [RSh.one Sh.bool] r.fst && okB [] r.snd)
      (ctl (!(nth (RV.p PV.nilp) r.fst 0).toPV.toBool)
        (Option.some ([RV.p (PV.int IntKind.i64 0), RV.p (PV.int IntKind.i64 1)], []))
        (bnd
          (F 44 [AV.int IntKind.i64 (IntKind.i64.wrap (IntKind.i64.wrap (2 * n) + d)), AV.int IntKind.i64 (IntKind.i64.wrap (2 * d))] [])
          fun (r : Res) =>
          ctl
            (okR [RSh.one (Sh.int IntKind.i64)] r.fst && okB [] r.snd)
            (Option.some
              ([RV.p
                    (PV.int IntKind.i64 (nth (RV.p PV.nilp) r.fst 0).toPV.toInt),
                  RV.p (PV.int IntKind.i64 0)],
                []))
            Option.none))
      Option.none := by kernel_rfl

/-- dynpos/dynposref02.small -/
theorem r38 (F : Fun) (x : Int) (y : Int) : funK E F 38 [AV.int IntKind.i64 x, AV.int IntKind.i64 y] [] =
  bnd (ctl (leB (-1000000000) x) (Option.some (leB x 1000000000)) (Option.some Bool.false))
    fun (v : Bool) =>
    bnd (ctl v (Option.some (leB (-1000000000) y)) (Option.some Bool.false)) fun (v : Bool) =>
      bnd (ctl v (Option.some (leB y 1000000000)) (Option.some Bool.false)) fun (v : Bool) =>
        Option.some ([RV.p (PV.bool v)], []) := by kernel_rfl

/-- dynpos/dynposref01.fits -/
theorem r43 (F : Fun) (n : Int) (d : Int) : funK E F 43 [AV.int IntKind.i64 n, AV.int IntKind.i64 d] [] =
  bnd (F 45 [AV.int IntKind.i64 n, AV.int IntKind.i64 1000000000000000000] [])
    fun (r : Res) =>
    ctl (okR [RSh.one Sh.bool] r.fst && okB [] r.snd)
      (bnd
        (ctl (nth (RV.p PV.nilp) r.fst 0).toPV.toBool
          (Option.some (leB 1 d)) (Option.some Bool.false))
        fun (v : Bool) =>
        bnd (ctl v (Option.some (leB d 1000000000)) (Option.some Bool.false)) fun (v : Bool) =>
          Option.some ([RV.p (PV.bool v)], []))
      Option.none := by kernel_rfl

/-- dynpos/dynposref01.floor -/
theorem r44 (F : Fun) (n : Int) (d : Int) : funK E F 44 [AV.int IntKind.i64 n, AV.int IntKind.i64 d] [] =
  ctl (Bool.true && neB d 0)
    (ctl (Bool.true && neB d 0)
      (ctl (ltB (n.tmod d) 0)
        (Option.some ([RV.p (PV.int IntKind.i64 (IntKind.i64.wrap (IntKind.i64.wrap (n.tdiv d) - 1)))], []))
        (Option.some ([RV.p (PV.int IntKind.i64 (IntKind.i64.wrap (n.tdiv d)))], [])))
      Option.none)
    Option.none := by kernel_rfl

/-- dynpos/dynposref01.in -/
theorem r45 (F : Fun) (x : Int) (m : Int) : funK E F 45 [AV.int IntKind.i64 x, AV.int IntKind.i64 m] [] =
  bnd (ctl (leB (IntKind.i64.wrap (0 - m)) x) (Option.some (leB x m)) (Option.some Bool.false))
    fun (v : Bool) => Option.some ([RV.p (PV.bool v)], []) := by kernel_rfl

/-- dynpos/dynposlaw02.AngleSides -/
theorem r6 (F : Fun) (t : List (List PV)) (a : Int) (x : Int) (y : Int) : funK E F 6 [AV.sl 1 t, AV.int IntKind.i64 a, AV.int IntKind.i16 x, AV.int IntKind.i16 y] [] =
  bnd (F 14 [AV.sl 1 t] []) fun (r : Res) =>
    ctl
      (okR [RSh.ownp [Sh.sl 1, Sh.int IntKind.i64]] r.fst &&
        okB [] r.snd)
      (bnd (F 9 [AV.int IntKind.i64 a] []) fun (r_1 : Res) =>
        ctl
          (okR [RSh.one (Sh.int IntKind.i64)] r_1.fst && okB [] r_1.snd)
          (bnd
            (F 15 [AV.t (TV.ptr 0 0)]
              [Blk.box
                  [AV.sl 1
                      (nth PV.nilp
                          (nth (RV.p PV.nilp) r.fst 0).toCs 0).toEs,
                    AV.int IntKind.i64
                      (nth PV.nilp
                          (nth (RV.p PV.nilp) r.fst 0).toCs 1).toInt]])
            fun (r : Res) =>
            ctl
              (okR [RSh.agg [Sh.int IntKind.i64, Sh.int IntKind.i64]] r.fst &&
                okB [Sum.inl [Sh.sl 1, Sh.int IntKind.i64]] r.snd)
              (bnd
                (F 16
                  [AV.int IntKind.i64 (nth (RV.p PV.nilp) r_1.fst 0).toPV.toInt,
                    AV.int IntKind.i64 (IntKind.i64.wrap x), AV.int IntKind.i64 (IntKind.i64.wrap y)]
                  [])
                fun (r_2 : Res) =>
                ctl
                  (okR [RSh.one (Sh.int IntKind.i64)] r_2.fst && okB [] r_2.snd)
                  (bnd
                    (F 16
                      [AV.int IntKind.i64 (nth (RV.p PV.nilp) r_1.fst 0).toPV.toInt,
                        AV.int IntKind.i64 (IntKind.i64.wrap (0 - IntKind.i64.wrap x)),
                        AV.int IntKind.i64 (IntKind.i64.wrap (0 - IntKind.i64.wrap y))]
                      [])
                    fun (r_3 : Res) =>
                    ctl
                      (okR [RSh.one (Sh.int IntKind.i64)] r_3.fst && okB [] r_3.snd)
                      (bnd
                        (ctl
                          (!(nth (RV.p PV.nilp) r_2.fst 0).toPV.toInt !=
                              IntKind.i64.wrap (0 - (nth (RV.p PV.nilp) r_3.fst 0).toPV.toInt))
                          (bnd
                            (F 16
                              [AV.int IntKind.i64
                                  (IntKind.i64.wrap ((nth (RV.p PV.nilp) r_1.fst 0).toPV.toInt + 1800)),
                                AV.int IntKind.i64 (IntKind.i64.wrap x), AV.int IntKind.i64 (IntKind.i64.wrap y)]
                              [])
                            fun (r : Res) =>
                            ctl
                              (okR [RSh.one (Sh.int IntKind.i64)] r.fst && okB [] r.snd)
                              (bnd
                                (F 16
                                  [AV.int IntKind.i64
                                      (nth (RV.p PV.nilp) r_1.fst 0).toPV.toInt,
                                    AV.int IntKind.i64 (IntKind.i64.wrap x), AV.int IntKind.i64 (IntKind.i64.wrap y)]
                                  [])
                                fun (r_4 : Res) =>
                                ctl
                                  (okR [RSh.one (Sh.int IntKind.i64)] r_4.fst &&
                                    okB [] r_4.snd)
                                  (Option.some
                                    ((nth (RV.p PV.nilp) r.fst 0).toPV.toInt !=
                                      IntKind.i64.wrap (0 - (nth (RV.p PV.nilp) r_4.fst 0).toPV.toInt)))
                                  Option.none)
                              Option.none)
                          (Option.some Bool.true))
                        fun (v : Bool) =>
                        ctl v (Option.some ([RV.p (PV.bool Bool.false)], []))
                          (bnd
                            (F 17
                              [AV.agg
                                  [PV.int IntKind.i64
                                      (nth PV.nilp
                                          (nth (RV.p PV.nilp) r.fst 0).toCs 0).toInt,
                                    PV.int IntKind.i64
                                      (nth PV.nilp
                                          (nth (RV.p PV.nilp) r.fst 0).toCs 1).toInt],
                                AV.int IntKind.i64 (IntKind.i64.wrap x), AV.int IntKind.i64 (IntKind.i64.wrap y)]
                              [])
                            fun (r_4 : Res) =>
                            ctl
                              (okR [RSh.one Sh.bool] r_4.fst && okB [] r_4.snd)
                              (bnd
                                (ctl (nth (RV.p PV.nilp) r_4.fst 0).toPV.toBool
                                  (bnd
                                    (F 17
                                      [AV.agg
                                          [PV.int IntKind.i64
                                              (nth PV.nilp
                                                  (nth (RV.p PV.nilp) r.fst 0).toCs 0).toInt,
                                            PV.int IntKind.i64
                                              (nth PV.nilp
                                                  (nth (RV.p PV.nilp) r.fst 0).toCs 1).toInt],
                                        AV.int IntKind.i64 (IntKind.i64.wrap (0 - IntKind.i64.wrap x)),
                                        AV.int IntKind.i64 (IntKind.i64.wrap (0 - IntKind.i64.wrap y))]
                                      [])
                                    fun (r : Res) =>
                                    ctl
                                      (okR [RSh.one Sh.bool] r.fst && okB [] r.snd)
                                      (Option.some (nth (RV.p PV.nilp) r.fst 0).toPV.toBool) Option.none)
                                  (Option.some Bool.false))
                                fun (v : Bool) =>
                                bnd
                                  (ctl (!v)
                                    (bnd
                                      (F 17
                                        [AV.agg
                                            [PV.int IntKind.i64
                                                (nth PV.nilp
                                                    (nth (RV.p PV.nilp) r.fst 0).toCs 0).toInt,
                                              PV.int IntKind.i64
                                                (nth PV.nilp
                                                    (nth (RV.p PV.nilp) r.fst 0).toCs 1).toInt],
                                          AV.int IntKind.i64 0, AV.int IntKind.i64 0]
                                        [])
                                      fun (r : Res) =>
                                      ctl
                                        (okR [RSh.one Sh.bool] r.fst && okB [] r.snd)
                                        (Option.some !(nth (RV.p PV.nilp) r.fst 0).toPV.toBool) Option.none)
                                    (Option.some Bool.false))
                                  fun (v : Bool) =>
                                  bnd
                                    (ctl v
                                      (bnd
                                        (F 17
                                          [AV.agg
                                              [PV.int IntKind.i64
                                                  (nth PV.nilp
                                                      (nth (RV.p PV.nilp) r.fst 0).toCs 0).toInt,
                                                PV.int IntKind.i64
                                                  (nth PV.nilp
                                                      (nth (RV.p PV.nilp) r.fst 0).toCs 1).toInt],
                                            AV.int IntKind.i64 (IntKind.i64.wrap x), AV.int IntKind.i64 (IntKind.i64.wrap y)]
                                          [])
                                        fun (r_5 : Res) =>
                                        ctl
                                          (okR [RSh.one Sh.bool] r_5.fst && okB [] r_5.snd)
                                          (ctl (!!(nth (RV.p PV.nilp) r_5.fst 0).toPV.toBool)
                                            (bnd
                                              (F 17
                                                [AV.agg
                                                    [PV.int IntKind.i64
                                                        (nth PV.nilp
                                                            (nth (RV.p PV.nilp) r.fst 0).toCs 0).toInt,
                                                      PV.int IntKind.i64
                                                        (nth PV.nilp
                                                            (nth (RV.p PV.nilp) r.fst 0).toCs 1).toInt],
                                                  AV.int IntKind.i64 (IntKind.i64.wrap (2 * IntKind.i64.wrap x)),
                                                  AV.int IntKind.i64 (IntKind.i64.wrap (2 * IntKind.i64.wrap y))]
                                                [])
                                              fun (r : Res) =>
                                              ctl
                                                (okR [RSh.one Sh.bool] r.fst && okB [] r.snd)
                                                (Option.some (nth (RV.p PV.nilp) r.fst 0).toPV.toBool) Option.none)
                                            (Option.some Bool.true))
                                          Option.none)
                                      (Option.some Bool.false))
                                    fun (v : Bool) =>
                                    bnd
                                      (ctl v
                                        (bnd (F 13 [] []) fun (r : Res) =>
                                          ctl
                                            (okR [RSh.one Sh.bool] r.fst && okB [] r.snd)
                                            (Option.some (nth (RV.p PV.nilp) r.fst 0).toPV.toBool) Option.none)
                                        (Option.some Bool.false))
                                      fun (v : Bool) => Option.some ([RV.p (PV.bool v)], []))
                              Option.none))
                      Option.none)
                  Option.none)
              Option.none)
          Option.none)
      Option.none := by kernel_rfl

/-- dynpos/dynposlaw02.AngleArcs -/
theorem r8 (F : Fun) (t : List (List PV)) (a : Int) : funK E F 8 [AV.sl 1 t, AV.int IntKind.i64 a] [] =
  bnd (F 14 [AV.sl 1 t] []) fun (r : Res) =>
    ctl
      (okR [RSh.ownp [Sh.sl 1, Sh.int IntKind.i64]] r.fst &&
        okB [] r.snd)
      (bnd
        (F 15 [AV.t (TV.ptr 0 0)]
          [Blk.box
              [AV.sl 1
                  (nth PV.nilp (nth (RV.p PV.nilp) r.fst 0).toCs
                      0).toEs,
                AV.int IntKind.i64
                  (nth PV.nilp (nth (RV.p PV.nilp) r.fst 0).toCs
                      1).toInt]])
        fun (r : Res) =>
        ctl
          (okR [RSh.agg [Sh.int IntKind.i64, Sh.int IntKind.i64]] r.fst &&
            okB [Sum.inl [Sh.sl 1, Sh.int IntKind.i64]] r.snd)
          (bnd (F 9 [AV.int IntKind.i64 a] []) fun (r_1 : Res) =>
            ctl
              (okR [RSh.one (Sh.int IntKind.i64)] r_1.fst && okB [] r_1.snd)
              (bnd
                (F 26
                  [AV.agg
                      [PV.int IntKind.i64
                          (nth PV.nilp
                              (nth (RV.p PV.nilp) r.fst 0).toCs 0).toInt,
                        PV.int IntKind.i64
                          (nth PV.nilp
                              (nth (RV.p PV.nilp) r.fst 0).toCs 1).toInt]]
                  [])
                fun (r_2 : Res) =>
                ctl
                  (okR [RSh.one Sh.bool] r_2.fst && okB [] r_2.snd)
                  (bnd
                    (ctl (!!(nth (RV.p PV.nilp) r_2.fst 0).toPV.toBool)
                      (bnd
                        (F 30
                          [AV.agg
                              [PV.int IntKind.i64
                                  (nth PV.nilp
                                      (nth (RV.p PV.nilp) r.fst 0).toCs 0).toInt,
                                PV.int IntKind.i64
                                  (nth PV.nilp
                                      (nth (RV.p PV.nilp) r.fst 0).toCs 1).toInt],
                            AV.int IntKind.i64
                              (nth PV.nilp
                                  (nth (RV.p PV.nilp) r.fst 0).toCs 0).toInt]
                          [])
                        fun (r : Res) =>
                        ctl
                          (okR [RSh.one Sh.bool] r.fst && okB [] r.snd)
                          (Option.some !(nth (RV.p PV.nilp) r.fst 0).toPV.toBool) Option.none)
                      (Option.some Bool.true))
                    fun (v : Bool) =>
                    bnd
                      (ctl (!v)
                        (bnd
                          (F 30
                            [AV.agg
                                [PV.int IntKind.i64
                                    (nth PV.nilp
                                        (nth (RV.p PV.nilp) r.fst 0).toCs 0).toInt,
                                  PV.int IntKind.i64
                                    (nth PV.nilp
                                        (nth (RV.p PV.nilp) r.fst 0).toCs 1).toInt],
                              AV.int IntKind.i64
                                (nth PV.nilp
                                    (nth (RV.p PV.nilp) r.fst 0).toCs 1).toInt]
                            [])
                          fun (r : Res) =>
                          ctl
                            (okR [RSh.one Sh.bool] r.fst && okB [] r.snd)
                            (Option.some !(nth (RV.p PV.nilp) r.fst 0).toPV.toBool) Option.none)
                        (Option.some Bool.true))
                      fun (v : Bool) =>
                      ctl v (Option.some ([RV.p (PV.bool Bool.false)], []))
                        (bnd
                          (F 22 [AV.int IntKind.i64 (nth (RV.p PV.nilp) r_1.fst 0).toPV.toInt]
                            [])
                          fun (r_3 : Res) =>
                          ctl
                            (okR [RSh.one (Sh.int IntKind.i64)] r_3.fst && okB [] r_3.snd)
                            (bnd
                              (F 21
                                [AV.int IntKind.i64 (nth (RV.p PV.nilp) r_1.fst 0).toPV.toInt]
                                [])
                              fun (r_4 : Res) =>
                              ctl
                                (okR [RSh.one (Sh.int IntKind.i64)] r_4.fst && okB [] r_4.snd)
                                (bnd
                                  (F 17
                                    [AV.agg
                                        [PV.int IntKind.i64
                                            (nth PV.nilp
                                                (nth (RV.p PV.nilp) r.fst 0).toCs 0).toInt,
                                          PV.int IntKind.i64
                                            (nth PV.nilp
                                                (nth (RV.p PV.nilp) r.fst 0).toCs 1).toInt],
                                      AV.int IntKind.i64
                                        (nth (RV.p PV.nilp) r_3.fst 0).toPV.toInt,
                                      AV.int IntKind.i64
                                        (nth (RV.p PV.nilp) r_4.fst 0).toPV.toInt]
                                    [])
                                  fun (r_5 : Res) =>
                                  ctl
                                    (okR [RSh.one Sh.bool] r_5.fst && okB [] r_5.snd)
                                    (bnd
                                      (F 30
                                        [AV.agg
                                            [PV.int IntKind.i64
                                                (nth PV.nilp
                                                    (nth (RV.p PV.nilp) r.fst 0).toCs 0).toInt,
                                              PV.int IntKind.i64
                                                (nth PV.nilp
                                                    (nth (RV.p PV.nilp) r.fst 0).toCs 1).toInt],
                                          AV.int IntKind.i64
                                            (nth (RV.p PV.nilp) r_1.fst 0).toPV.toInt]
                                        [])
                                      fun (r_6 : Res) =>
                                      ctl
                                        (okR [RSh.one Sh.bool] r_6.fst && okB [] r_6.snd)
                                        (ctl
                                          (!(nth (RV.p PV.nilp) r_5.fst 0).toPV.toBool ==
                                              (nth (RV.p PV.nilp) r_6.fst 0).toPV.toBool)
                                          (Option.some ([RV.p (PV.bool Bool.false)], []))
                                          (bnd
                                            (F 9
                                              [AV.int IntKind.i64
                                                  (IntKind.i64.wrap
                                                    ((nth PV.nilp
                                                          (nth (RV.p PV.nilp) r.fst 0).toCs 1).toInt +
                                                      1))]
                                              [])
                                            fun (r_7 : Res) =>
                                            ctl
                                              (okR [RSh.one (Sh.int IntKind.i64)] r_7.fst &&
                                                okB [] r_7.snd)
                                              (bnd
                                                (F 9
                                                  [AV.int IntKind.i64
                                                      (IntKind.i64.wrap
                                                        ((nth PV.nilp
                                                              (nth (RV.p PV.nilp) r.fst 0).toCs 1).toInt +
                                                          900))]
                                                  [])
                                                fun (r_8 : Res) =>
                                                ctl
                                                  (okR [RSh.one (Sh.int IntKind.i64)] r_8.fst &&
                                                    okB [] r_8.snd)
                                                  (bnd
                                                    (F 28
                                                      [AV.agg
                                                          [PV.int IntKind.i64
                                                              (nth PV.nilp
                                                                  (nth (RV.p PV.nilp) r.fst 0).toCs 0).toInt,
                                                            PV.int IntKind.i64
                                                              (nth PV.nilp
                                                                  (nth (RV.p PV.nilp) r.fst 0).toCs 1).toInt]]
                                                      [])
                                                    fun (r_9 : Res) =>
                                                    ctl
                                                      (okR [RSh.one (Sh.int IntKind.i64)] r_9.fst &&
                                                        okB [] r_9.snd)
                                                      (bnd
                                                        (ctl
                                                          (ltB
                                                            (IntKind.i64.wrap
                                                              ((nth (RV.p PV.nilp) r_9.fst 0).toPV.toInt + 900))
                                                            3600)
                                                          (bnd
                                                            (F 30
                                                              [AV.agg
                                                                  [PV.int IntKind.i64
                                                                      (nth PV.nilp
                                                                          (nth (RV.p PV.nilp) r.fst 0).toCs 0).toInt,
                                                                    PV.int IntKind.i64
                                                                      (nth PV.nilp
                                                                          (nth (RV.p PV.nilp) r.fst 0).toCs 1).toInt],
                                                                AV.int IntKind.i64
                                                                  (nth (RV.p PV.nilp) r_1.fst 0).toPV.toInt]
                                                              [])
                                                            fun (r : Res) =>
                                                            ctl
                                                              (okR [RSh.one Sh.bool] r.fst &&
                                                                okB [] r.snd)
                                                              (Option.some (nth (RV.p PV.nilp) r.fst 0).toPV.toBool) Option.none)
                                                          (Option.some Bool.false))
                                                        fun (v : Bool) =>
                                                        bnd
                                                          (ctl v
                                                            (bnd
                                                              (F 30
                                                                [AV.agg
                                                                    [PV.int IntKind.i64
                                                                        (nth (RV.p PV.nilp) r_7.fst 0).toPV.toInt,
                                                                      PV.int IntKind.i64
                                                                        (nth (RV.p PV.nilp) r_8.fst 0).toPV.toInt],
                                                                  AV.int IntKind.i64
                                                                    (nth (RV.p PV.nilp) r_1.fst 0).toPV.toInt]
                                                                [])
                                                              fun (r : Res) =>
                                                              ctl
                                                                (okR [RSh.one Sh.bool] r.fst &&
                                                                  okB [] r.snd)
                                                                (Option.some (nth (RV.p PV.nilp) r.fst 0).toPV.toBool)
                                                                Option.none)
                                                            (Option.some Bool.false))
                                                          fun (v : Bool) =>
                                                          ctl v (Option.some ([RV.p (PV.bool Bool.false)], []))
                                                            (bnd
                                                              (F 22
                                                                [AV.int IntKind.i64
                                                                    (nth (RV.p PV.nilp) r_1.fst 0).toPV.toInt]
                                                                [])
                                                              fun (r : Res) =>
                                                              ctl
                                                                (okR [RSh.one (Sh.int IntKind.i64)] r.fst &&
                                                                  okB [] r.snd)
                                                                (bnd
                                                                  (F 21
                                                                    [AV.int IntKind.i64
                                                                        (nth (RV.p PV.nilp) r_1.fst 0).toPV.toInt]
                                                                    [])
                                                                  fun (r_10 : Res) =>
                                                                  ctl
                                                                    (okR [RSh.one (Sh.int IntKind.i64)] r_10.fst &&
                                                                      okB [] r_10.snd)
                                                                    (bnd
                                                                      (F 16
                                                                        [AV.int IntKind.i64
                                                                            (nth (RV.p PV.nilp) r_1.fst 0).toPV.toInt,
                                                                          AV.int IntKind.i64
                                                                            (nth (RV.p PV.nilp) r.fst 0).toPV.toInt,
                                                                          AV.int IntKind.i64
                                                                            (nth (RV.p PV.nilp) r_10.fst 0).toPV.toInt]
                                                                        [])
                                                                      fun (r : Res) =>
                                                                      ctl
                                                                        (okR [RSh.one (Sh.int IntKind.i64)] r.fst &&
                                                                          okB [] r.snd)
                                                                        (bnd
                                                                          (ctl
                                                                            ((nth (RV.p PV.nilp) r.fst 0).toPV.toInt == 0)
                                                                            (bnd (F 13 [] []) fun (r : Res) =>
                                                                              ctl
                                                                                (okR [RSh.one Sh.bool] r.fst &&
                                                                                  okB [] r.snd)
                                                                                (Option.some
                                                                                  (nth (RV.p PV.nilp) r.fst 0).toPV.toBool)
                                                                                Option.none)
                                                                            (Option.some Bool.false))
                                                                          fun (v : Bool) => Option.some ([RV.p (PV.bool v)], []))
                                                                        Option.none)
                                                                    Option.none)
                                                                Option.none))
                                                      Option.none)
                                                  Option.none)
                                              Option.none))
                                        Option.none)
                                    Option.none)
                                Option.none)
                            Option.none))
                  Option.none)
              Option.none)
          Option.none)
      Option.none := by kernel_rfl

end Go.Proofs.Ytpemmbkflddhoaa.Vm
