/- The raw theorems, by program: what each function and each loop comes to. -/
import Derived.Test.YtpemmbkflddhoaaEnv
import Derived.Test.YtpemmbkflddhoaaVm34
import Derived.KernelRfl
namespace Go.Proofs.Ytpemmbkflddhoaa.Vm
open Go
set_option maxRecDepth 100000
set_option linter.unusedVariables false

/-- dynpos/angle.Norm -/
theorem r9 (F : Fun) (a : Int) : funK E F 9 [AV.int IntKind.i64 a] [] =
  ctl (ltB (a.tmod 3600) 0)
    (Option.some ([RV.p (PV.int IntKind.i64 (IntKind.i64.wrap (a.tmod 3600 + 3600)))], []))
    (Option.some ([RV.p (PV.int IntKind.i64 (a.tmod 3600))], [])) := by kernel_rfl

/-- dynpos/angle.Sin -/
theorem r10 (F : Fun) (a : Int) : funK E F 10 [AV.int IntKind.i64 a] [] =
  bnd (F 9 [AV.int IntKind.i64 a] []) fun (r : Res) =>
    ctl
      (okR [RSh.one (Sh.int IntKind.i64)] r.fst && okB [] r.snd)
      (ctl (ltB 1800 (nth (RV.p PV.nilp) r.fst 0).toPV.toInt)
        (bnd
          (F 33
            [AV.int IntKind.i64
                (IntKind.i64.wrap
                  (40000 *
                    IntKind.i64.wrap
                      (IntKind.i64.wrap ((nth (RV.p PV.nilp) r.fst 0).toPV.toInt - 1800) *
                        IntKind.i64.wrap (1800 - IntKind.i64.wrap ((nth (RV.p PV.nilp) r.fst 0).toPV.toInt - 1800))))),
              AV.int IntKind.i64
                (IntKind.i64.wrap
                  (4050000 -
                    IntKind.i64.wrap
                      (IntKind.i64.wrap ((nth (RV.p PV.nilp) r.fst 0).toPV.toInt - 1800) *
                        IntKind.i64.wrap (1800 - IntKind.i64.wrap ((nth (RV.p PV.nilp) r.fst 0).toPV.toInt - 1800)))))]
            [])
          fun (r : Res) =>
          ctl
            (okR
                [RSh.one (Sh.int IntKind.i64), RSh.one (Sh.int IntKind.i64)] r.fst &&
              okB [] r.snd)
            (Option.some
              ([RV.p
                    (PV.int IntKind.i64
                      (IntKind.i64.wrap (-1 * (nth (RV.p PV.nilp) r.fst 0).toPV.toInt)))],
                []))
            Option.none)
        (bnd
          (F 33
            [AV.int IntKind.i64
                (IntKind.i64.wrap
                  (40000 *
                    IntKind.i64.wrap
                      ((nth (RV.p PV.nilp) r.fst 0).toPV.toInt *
                        IntKind.i64.wrap (1800 - (nth (RV.p PV.nilp) r.fst 0).toPV.toInt)))),
              AV.int IntKind.i64
                (IntKind.i64.wrap
                  (4050000 -
                    IntKind.i64.wrap
                      ((nth (RV.p PV.nilp) r.fst 0).toPV.toInt *
                        IntKind.i64.wrap (1800 - (nth (RV.p PV.nilp) r.fst 0).toPV.toInt))))]
            [])
          fun (r : Res) =>
          ctl
            (okR
                [RSh.one (Sh.int IntKind.i64), RSh.one (Sh.int IntKind.i64)] r.fst &&
              okB [] r.snd)
            (Option.some
              ([RV.p
                    (PV.int IntKind.i64
                      (IntKind.i64.wrap (1 * (nth (RV.p PV.nilp) r.fst 0).toPV.toInt)))],
                []))
            Option.none))
      Option.none := by kernel_rfl

/-- dynpos/angle.Cos -/
theorem r11 (F : Fun) (a : Int) : funK E F 11 [AV.int IntKind.i64 a] [] =
  bnd (F 9 [AV.int IntKind.i64 a] []) fun (r : Res) =>
    ctl
      (okR [RSh.one (Sh.int IntKind.i64)] r.fst && okB [] r.snd)
      (bnd
        (F 10
          [AV.int IntKind.i64
              (IntKind.i64.wrap ((nth (RV.p PV.nilp) r.fst 0).toPV.toInt + 900))]
          [])
        fun (r : Res) =>
        ctl
          (okR [RSh.one (Sh.int IntKind.i64)] r.fst && okB [] r.snd)
          (Option.some
            ([RV.p
                  (PV.int IntKind.i64 (nth (RV.p PV.nilp) r.fst 0).toPV.toInt)],
              []))
          Option.none)
      Option.none := by kernel_rfl

/-- dynpos/angle.Diff -/
theorem r12 (F : Fun) (a : Int) (b : Int) : funK E F 12 [AV.int IntKind.i64 a, AV.int IntKind.i64 b] [] =
  bnd (F 9 [AV.int IntKind.i64 b] []) fun (r : Res) =>
    ctl
      (okR [RSh.one (Sh.int IntKind.i64)] r.fst && okB [] r.snd)
      (bnd (F 9 [AV.int IntKind.i64 a] []) fun (r_1 : Res) =>
        ctl
          (okR [RSh.one (Sh.int IntKind.i64)] r_1.fst && okB [] r_1.snd)
          (bnd
            (F 9
              [AV.int IntKind.i64
                  (IntKind.i64.wrap
                    ((nth (RV.p PV.nilp) r.fst 0).toPV.toInt -
                      (nth (RV.p PV.nilp) r_1.fst 0).toPV.toInt))]
              [])
            fun (r : Res) =>
            ctl
              (okR [RSh.one (Sh.int IntKind.i64)] r.fst && okB [] r.snd)
              (ctl
                (ltB 1800 (nth (RV.p PV.nilp) r.fst 0).toPV.toInt)
                (Option.some
                  ([RV.p
                        (PV.int IntKind.i64
                          (IntKind.i64.wrap ((nth (RV.p PV.nilp) r.fst 0).toPV.toInt - 3600)))],
                    []))
                (Option.some
                  ([RV.p
                        (PV.int IntKind.i64 (nth (RV.p PV.nilp) r.fst 0).toPV.toInt)],
                    [])))
              Option.none)
          Option.none)
      Option.none := by kernel_rfl

/-- dynpos/dynposlaw02.sane -/
theorem r13 (F : Fun) : funK E F 13 [] [] =
  bnd (F 10 [AV.int IntKind.i64 0] []) fun (r : Res) =>
    ctl
      (okR [RSh.one (Sh.int IntKind.i64)] r.fst && okB [] r.snd)
      (bnd
        (ctl ((nth (RV.p PV.nilp) r.fst 0).toPV.toInt == 0)
          (bnd (F 10 [AV.int IntKind.i64 300] []) fun (r : Res) =>
            ctl
              (okR [RSh.one (Sh.int IntKind.i64)] r.fst && okB [] r.snd)
              (Option.some ((nth (RV.p PV.nilp) r.fst 0).toPV.toInt == 5000)) Option.none)
          (Option.some Bool.false))
        fun (v : Bool) =>
        bnd
          (ctl v
            (bnd (F 10 [AV.int IntKind.i64 900] []) fun (r : Res) =>
              ctl
                (okR [RSh.one (Sh.int IntKind.i64)] r.fst && okB [] r.snd)
                (Option.some ((nth (RV.p PV.nilp) r.fst 0).toPV.toInt == 10000)) Option.none)
            (Option.some Bool.false))
          fun (v : Bool) =>
          bnd
            (ctl v
              (bnd (F 11 [AV.int IntKind.i64 0] []) fun (r : Res) =>
                ctl
                  (okR [RSh.one (Sh.int IntKind.i64)] r.fst && okB [] r.snd)
                  (Option.some ((nth (RV.p PV.nilp) r.fst 0).toPV.toInt == 10000)) Option.none)
              (Option.some Bool.false))
            fun (v : Bool) =>
            bnd
              (ctl v
                (bnd (F 12 [AV.int IntKind.i64 3590, AV.int IntKind.i64 10] [])
                  fun (r : Res) =>
                  ctl
                    (okR [RSh.one (Sh.int IntKind.i64)] r.fst && okB [] r.snd)
                    (Option.some ((nth (RV.p PV.nilp) r.fst 0).toPV.toInt == 20)) Option.none)
                (Option.some Bool.false))
              fun (v : Bool) =>
              bnd
                (ctl v
                  (bnd (F 9 [AV.int IntKind.i64 (-10)] []) fun (r : Res) =>
                    ctl
                      (okR [RSh.one (Sh.int IntKind.i64)] r.fst && okB [] r.snd)
                      (Option.some ((nth (RV.p PV.nilp) r.fst 0).toPV.toInt == 3590)) Option.none)
                  (Option.some Bool.false))
                fun (v : Bool) =>
                ctl v
                  (bnd
                    (bnd
                      (F 30
                        [AV.agg [PV.int IntKind.i64 3500, PV.int IntKind.i64 100],
                          AV.int IntKind.i64 0]
                        [])
                      fun (r : Res) =>
                      ctl
                        (okR [RSh.one Sh.bool] r.fst && okB [] r.snd)
                        (Option.some (nth (RV.p PV.nilp) r.fst 0).toPV.toBool) Option.none)
                    fun (v : Bool) => Option.some ([RV.p (PV.bool v)], []))
                  (Option.some ([RV.p (PV.bool Bool.false)], [])))
      Option.none := by kernel_rfl

/-- dynpos/angle.Valid -/
theorem r26 (F : Fun) (x0 : Int) (x1 : Int) : funK E F 26 [AV.agg [PV.int IntKind.i64 x0, PV.int IntKind.i64 x1]] [] =
  bnd (F 39 [AV.int IntKind.i64 x0] []) fun (r : Res) =>
    ctl (okR [RSh.one Sh.bool] r.fst && okB [] r.snd)
      (ctl (nth (RV.p PV.nilp) r.fst 0).toPV.toBool
        (bnd (F 39 [AV.int IntKind.i64 x1] []) fun (r : Res) =>
          ctl (okR [RSh.one Sh.bool] r.fst && okB [] r.snd)
            (bnd
              (ctl (nth (RV.p PV.nilp) r.fst 0).toPV.toBool
                (bnd (F 28 [AV.agg [PV.int IntKind.i64 x0, PV.int IntKind.i64 x1]] [])
                  fun (r : Res) =>
                  ctl
                    (okR [RSh.one (Sh.int IntKind.i64)] r.fst && okB [] r.snd)
                    (Option.some (ltB (nth (RV.p PV.nilp) r.fst 0).toPV.toInt 1800)) Option.none)
                (Option.some Bool.false))
              fun (v : Bool) => Option.some ([RV.p (PV.bool v)], []))
            Option.none)
        (Option.some ([RV.p (PV.bool Bool.false)], [])))
      Option.none := by kernel_rfl

/-- dynpos/angle.Width -/
theorem r28 (F : Fun) (x0 : Int) (x1 : Int) : funK E F 28 [AV.agg [PV.int IntKind.i64 x0, PV.int IntKind.i64 x1]] [] =
  bnd (F 9 [AV.int IntKind.i64 (IntKind.i64.wrap (x1 - x0))] []) fun (r : Res) =>
    ctl
      (okR [RSh.one (Sh.int IntKind.i64)] r.fst && okB [] r.snd)
      (Option.some
        ([RV.p
              (PV.int IntKind.i64 (nth (RV.p PV.nilp) r.fst 0).toPV.toInt)],
          []))
      Option.none := by kernel_rfl

/-- dynpos/angle.In -/
theorem r30 (F : Fun) (x0 : Int) (x1 : Int) (a : Int) : funK E F 30 [AV.agg [PV.int IntKind.i64 x0, PV.int IntKind.i64 x1], AV.int IntKind.i64 a] [] =
  bnd (F 26 [AV.agg [PV.int IntKind.i64 x0, PV.int IntKind.i64 x1]] [])
    fun (r : Res) =>
    ctl (okR [RSh.one Sh.bool] r.fst && okB [] r.snd)
      (bnd
        (ctl (nth (RV.p PV.nilp) r.fst 0).toPV.toBool
          (bnd (F 9 [AV.int IntKind.i64 a] []) fun (r : Res) =>
            ctl
              (okR [RSh.one (Sh.int IntKind.i64)] r.fst && okB [] r.snd)
              (bnd
                (F 9
                  [AV.int IntKind.i64
                      (IntKind.i64.wrap ((nth (RV.p PV.nilp) r.fst 0).toPV.toInt - x0))]
                  [])
                fun (r : Res) =>
                ctl
                  (okR [RSh.one (Sh.int IntKind.i64)] r.fst && okB [] r.snd)
                  (bnd (F 28 [AV.agg [PV.int IntKind.i64 x0, PV.int IntKind.i64 x1]] [])
                    fun (r_1 : Res) =>
                    ctl
                      (okR [RSh.one (Sh.int IntKind.i64)] r_1.fst && okB [] r_1.snd)
                      (Option.some
                        (leB (nth (RV.p PV.nilp) r.fst 0).toPV.toInt
                          (nth (RV.p PV.nilp) r_1.fst 0).toPV.toInt))
                      Option.none)
                  Option.none)
              Option.none)
          (Option.some Bool.false))
        fun (v : Bool) => Option.some ([RV.p (PV.bool v)], []))
      Option.none := by kernel_rfl

/-- dynpos/arith.Half -/
theorem r33 (F : Fun) (n : Int) (d : Int) : funK E F 33 [AV.int IntKind.i64 n, AV.int IntKind.i64 d] [] =
  bnd (F 40 [AV.int IntKind.i64 n, AV.int IntKind.i64 d, AV.fn 41 []] [])
    fun (r : Res) =>
    ctl
      (okR
          [RSh.one (Sh.int IntKind.i64), RSh.one (Sh.int IntKind.i64)] r.fst &&
        okB [] r.snd)
      (Option.some
        ([RV.p
              (PV.int IntKind.i64 (nth (RV.p PV.nilp) r.fst 0).toPV.toInt),
            RV.p
              (PV.int IntKind.i64 (nth (RV.p PV.nilp) r.fst 1).toPV.toInt)],
          []))
      Option.none := by kernel_rfl

/-- dynpos/angle.Valid$1 -/
theorem r39 (F : Fun) (a : Int) : funK E F 39 [AV.int IntKind.i64 a] [] =
  bnd (ctl (leB 0 a) (Option.some (ltB a 3600)) (Option.some Bool.false)) fun (v : Bool) =>
    Option.some ([RV.p (PV.bool v)], []) := by kernel_rfl

/-- dynpos/arith.divide -/
theorem r40a (F : Fun) (n : Int) (d : Int) : funK E F 40 [AV.int IntKind.i64 n, AV.int IntKind.i64 d, AV.fn 41 []] [] =
  bnd
    (ctl (!ltB n (-1000000000000000000)) (Option.some (ltB 1000000000000000000 n)) (Option.some Bool.true)) fun (v : Bool) =>
    bnd (ctl (!v) (Option.some (ltB d 1)) (Option.some Bool.true)) fun (v : Bool) =>
      bnd (ctl (!v) (Option.some (ltB 1000000000 d)) (Option.some Bool.true)) fun (v : Bool) =>
        ctl v
          (Option.some ([RV.p (PV.int IntKind.i64 0), RV.p (PV.int IntKind.i64 1)], []))
          (bnd (F 41 [AV.int IntKind.i64 n, AV.int IntKind.i64 d] []) fun (r : Res) =>
            ctl
              (okR [RSh.one (Sh.int IntKind.i64)] r.fst && okB [] r.snd)
              (Option.some
                ([RV.p
                      (PV.int IntKind.i64 (nth (RV.p PV.nilp) r.fst 0).toPV.toInt),
                    RV.p (PV.int IntKind.i64 0)],
                  []))
              Option.none) := by kernel_rfl

/-- dynpos/arith.Half$1 -/
theorem r41 (F : Fun) (n : Int) (d : Int) : funK E F 41 [AV.int IntKind.i64 n, AV.int IntKind.i64 d] [] =
  bnd
    (F 42 [AV.int IntKind.i64 (IntKind.i64.wrap (IntKind.i64.wrap (2 * n) + d)), AV.int IntKind.i64 (IntKind.i64.wrap (2 * d))] [])
    fun (r : Res) =>
    ctl
      (okR [RSh.one (Sh.int IntKind.i64)] r.fst && okB [] r.snd)
      (Option.some
        ([RV.p
              (PV.int IntKind.i64 (nth (RV.p PV.nilp) r.fst 0).toPV.toInt)],
          []))
      Option.none := by kernel_rfl

/-- dynpos/arith.floor -/
theorem r42 (F : Fun) (n : Int) (d : Int) : funK E F 42 [AV.int IntKind.i64 n, AV.int IntKind.i64 d] [] =
  ctl (Bool.true && neB d 0)
    (ctl (Bool.true && neB d 0)
      (ctl (ltB (n.tmod d) 0)
        (Option.some ([RV.p (PV.int IntKind.i64 (IntKind.i64.wrap (IntKind.i64.wrap (n.tdiv d) - 1)))], []))
        (Option.some ([RV.p (PV.int IntKind.i64 (IntKind.i64.wrap (n.tdiv d)))], [])))
      Option.none)
    Option.none := by kernel_rfl

/-- dynpos/dynposlaw02.AngleTurns -/
theorem r3 (F : Fun) (a : Int) (k : Int) : funK E F 3 [AV.int IntKind.i64 a, AV.int IntKind.i8 k] [] =
  bnd (F 9 [AV.int IntKind.i64 a] []) fun (r : Res) =>
    ctl
      (okR [RSh.one (Sh.int IntKind.i64)] r.fst && okB [] r.snd)
      (bnd
        (ctl (leB 0 (nth (RV.p PV.nilp) r.fst 0).toPV.toInt)
          (Option.some (ltB (nth (RV.p PV.nilp) r.fst 0).toPV.toInt 3600))
          (Option.some Bool.false))
        fun (v : Bool) =>
        bnd
          (ctl v
            (bnd
              (F 9
                [AV.int IntKind.i64
                    (IntKind.i64.wrap
                      ((nth (RV.p PV.nilp) r.fst 0).toPV.toInt + IntKind.i64.wrap (IntKind.i64.wrap k * 3600)))]
                [])
              fun (r_1 : Res) =>
              ctl
                (okR [RSh.one (Sh.int IntKind.i64)] r_1.fst && okB [] r_1.snd)
                (Option.some
                  ((nth (RV.p PV.nilp) r_1.fst 0).toPV.toInt ==
                    (nth (RV.p PV.nilp) r.fst 0).toPV.toInt))
                Option.none)
            (Option.some Bool.false))
          fun (v : Bool) =>
          bnd
            (ctl v
              (bnd
                (F 10
                  [AV.int IntKind.i64
                      (IntKind.i64.wrap
                        ((nth (RV.p PV.nilp) r.fst 0).toPV.toInt + IntKind.i64.wrap (IntKind.i64.wrap k * 3600)))]
                  [])
                fun (r_1 : Res) =>
                ctl
                  (okR [RSh.one (Sh.int IntKind.i64)] r_1.fst && okB [] r_1.snd)
                  (bnd
                    (F 10 [AV.int IntKind.i64 (nth (RV.p PV.nilp) r.fst 0).toPV.toInt] [])
                    fun (r : Res) =>
                    ctl
                      (okR [RSh.one (Sh.int IntKind.i64)] r.fst && okB [] r.snd)
                      (Option.some
                        ((nth (RV.p PV.nilp) r_1.fst 0).toPV.toInt ==
                          (nth (RV.p PV.nilp) r.fst 0).toPV.toInt))
                      Option.none)
                  Option.none)
              (Option.some Bool.false))
            fun (v : Bool) =>
            bnd
              (ctl v
                (bnd
                  (F 11
                    [AV.int IntKind.i64
                        (IntKind.i64.wrap
                          ((nth (RV.p PV.nilp) r.fst 0).toPV.toInt + IntKind.i64.wrap (IntKind.i64.wrap k * 3600)))]
                    [])
                  fun (r_1 : Res) =>
                  ctl
                    (okR [RSh.one (Sh.int IntKind.i64)] r_1.fst && okB [] r_1.snd)
                    (bnd
                      (F 11 [AV.int IntKind.i64 (nth (RV.p PV.nilp) r.fst 0).toPV.toInt] [])
                      fun (r : Res) =>
                      ctl
                        (okR [RSh.one (Sh.int IntKind.i64)] r.fst && okB [] r.snd)
                        (Option.some
                          ((nth (RV.p PV.nilp) r_1.fst 0).toPV.toInt ==
                            (nth (RV.p PV.nilp) r.fst 0).toPV.toInt))
                        Option.none)
                    Option.none)
                (Option.some Bool.false))
              fun (v : Bool) =>
              bnd
                (ctl v
                  (bnd
                    (F 10
                      [AV.int IntKind.i64
                          (IntKind.i64.wrap ((nth (RV.p PV.nilp) r.fst 0).toPV.toInt + 1800))]
                      [])
                    fun (r_1 : Res) =>
                    ctl
                      (okR [RSh.one (Sh.int IntKind.i64)] r_1.fst && okB [] r_1.snd)
                      (bnd
                        (F 10 [AV.int IntKind.i64 (nth (RV.p PV.nilp) r.fst 0).toPV.toInt] [])
                        fun (r : Res) =>
                        ctl
                          (okR [RSh.one (Sh.int IntKind.i64)] r.fst && okB [] r.snd)
                          (Option.some
                            ((nth (RV.p PV.nilp) r_1.fst 0).toPV.toInt ==
                              IntKind.i64.wrap (0 - (nth (RV.p PV.nilp) r.fst 0).toPV.toInt)))
                          Option.none)
                      Option.none)
                  (Option.some Bool.false))
                fun (v : Bool) =>
                bnd
                  (ctl v
                    (bnd
                      (F 11
                        [AV.int IntKind.i64
                            (IntKind.i64.wrap ((nth (RV.p PV.nilp) r.fst 0).toPV.toInt + 1800))]
                        [])
                      fun (r_1 : Res) =>
                      ctl
                        (okR [RSh.one (Sh.int IntKind.i64)] r_1.fst && okB [] r_1.snd)
                        (bnd
                          (F 11 [AV.int IntKind.i64 (nth (RV.p PV.nilp) r.fst 0).toPV.toInt]
                            [])
                          fun (r : Res) =>
                          ctl
                            (okR [RSh.one (Sh.int IntKind.i64)] r.fst && okB [] r.snd)
                            (Option.some
                              ((nth (RV.p PV.nilp) r_1.fst 0).toPV.toInt ==
                                IntKind.i64.wrap (0 - (nth (RV.p PV.nilp) r.fst 0).toPV.toInt)))
                            Option.none)
                        Option.none)
                    (Option.some Bool.false))
                  fun (v : Bool) =>
                  bnd
                    (ctl v
                      (bnd
                        (F 12
                          [AV.int IntKind.i64 (nth (RV.p PV.nilp) r.fst 0).toPV.toInt,
                            AV.int IntKind.i64
                              (IntKind.i64.wrap
                                ((nth (RV.p PV.nilp) r.fst 0).toPV.toInt + IntKind.i64.wrap (IntKind.i64.wrap k * 3600)))]
                          [])
                        fun (r : Res) =>
                        ctl
                          (okR [RSh.one (Sh.int IntKind.i64)] r.fst && okB [] r.snd)
                          (Option.some ((nth (RV.p PV.nilp) r.fst 0).toPV.toInt == 0)) Option.none)
                      (Option.some Bool.false))
                    fun (v : Bool) =>
                    bnd
                      (ctl v
                        (bnd (F 13 [] []) fun (r : Res) =>
                          ctl
                            (okR [RSh.one Sh.bool] r.fst && okB [] r.snd)
                            (Option.some (nth (RV.p PV.nilp) r.fst 0).toPV.toBool) Option.none)
                        (Option.some Bool.false))
                      fun (v : Bool) => Option.some ([RV.p (PV.bool v)], []))
      Option.none := by kernel_rfl

/-- dynpos/dynposlaw02.AngleSines -/
theorem r4 (F : Fun) (a : Int) : funK E F 4 [AV.int IntKind.i64 a] [] =
  bnd (F 9 [AV.int IntKind.i64 a] []) fun (r : Res) =>
    ctl
      (okR [RSh.one (Sh.int IntKind.i64)] r.fst && okB [] r.snd)
      (bnd
        (F 10 [AV.int IntKind.i64 (nth (RV.p PV.nilp) r.fst 0).toPV.toInt] [])
        fun (r_1 : Res) =>
        ctl
          (okR [RSh.one (Sh.int IntKind.i64)] r_1.fst && okB [] r_1.snd)
          (bnd
            (F 11 [AV.int IntKind.i64 (nth (RV.p PV.nilp) r.fst 0).toPV.toInt] [])
            fun (r_2 : Res) =>
            ctl
              (okR [RSh.one (Sh.int IntKind.i64)] r_2.fst && okB [] r_2.snd)
              (bnd
                (F 10
                  [AV.int IntKind.i64
                      (IntKind.i64.wrap (0 - (nth (RV.p PV.nilp) r.fst 0).toPV.toInt))]
                  [])
                fun (r_3 : Res) =>
                ctl
                  (okR [RSh.one (Sh.int IntKind.i64)] r_3.fst && okB [] r_3.snd)
                  (bnd
                    (ctl
                      (!(nth (RV.p PV.nilp) r_3.fst 0).toPV.toInt !=
                          IntKind.i64.wrap (0 - (nth (RV.p PV.nilp) r_1.fst 0).toPV.toInt))
                      (bnd
                        (F 10
                          [AV.int IntKind.i64
                              (IntKind.i64.wrap (1800 - (nth (RV.p PV.nilp) r.fst 0).toPV.toInt))]
                          [])
                        fun (r : Res) =>
                        ctl
                          (okR [RSh.one (Sh.int IntKind.i64)] r.fst && okB [] r.snd)
                          (Option.some
                            ((nth (RV.p PV.nilp) r.fst 0).toPV.toInt !=
                              (nth (RV.p PV.nilp) r_1.fst 0).toPV.toInt))
                          Option.none)
                      (Option.some Bool.true))
                    fun (v : Bool) =>
                    bnd
                      (ctl (!v)
                        (bnd
                          (F 11
                            [AV.int IntKind.i64
                                (IntKind.i64.wrap (0 - (nth (RV.p PV.nilp) r.fst 0).toPV.toInt))]
                            [])
                          fun (r : Res) =>
                          ctl
                            (okR [RSh.one (Sh.int IntKind.i64)] r.fst && okB [] r.snd)
                            (Option.some
                              ((nth (RV.p PV.nilp) r.fst 0).toPV.toInt !=
                                (nth (RV.p PV.nilp) r_2.fst 0).toPV.toInt))
                            Option.none)
                        (Option.some Bool.true))
                      fun (v : Bool) =>
                      bnd
                        (ctl (!v)
                          (bnd
                            (F 10
                              [AV.int IntKind.i64
                                  (IntKind.i64.wrap ((nth (RV.p PV.nilp) r.fst 0).toPV.toInt + 3600))]
                              [])
                            fun (r : Res) =>
                            ctl
                              (okR [RSh.one (Sh.int IntKind.i64)] r.fst && okB [] r.snd)
                              (Option.some
                                ((nth (RV.p PV.nilp) r.fst 0).toPV.toInt !=
                                  (nth (RV.p PV.nilp) r_1.fst 0).toPV.toInt))
                              Option.none)
                          (Option.some Bool.true))
                        fun (v : Bool) =>
                        bnd
                          (ctl (!v)
                            (Option.some (ltB (nth (RV.p PV.nilp) r_1.fst 0).toPV.toInt (-10000)))
                            (Option.some Bool.true))
                          fun (v : Bool) =>
                          bnd
                            (ctl (!v)
                              (Option.some (ltB 10000 (nth (RV.p PV.nilp) r_1.fst 0).toPV.toInt))
                              (Option.some Bool.true))
                            fun (v : Bool) =>
                            bnd
                              (ctl (!v)
                                (Option.some
                                  (ltB 500000
                                    (IntKind.i64.wrap
                                      (IntKind.i64.wrap
                                          (IntKind.i64.wrap
                                              ((nth (RV.p PV.nilp) r_1.fst 0).toPV.toInt *
                                                (nth (RV.p PV.nilp) r_1.fst 0).toPV.toInt) +
                                            IntKind.i64.wrap
                                              ((nth (RV.p PV.nilp) r_2.fst 0).toPV.toInt *
                                                (nth (RV.p PV.nilp) r_2.fst 0).toPV.toInt)) -
                                        100000000))))
                                (Option.some Bool.true))
                              fun (v : Bool) =>
                              bnd
                                (ctl (!v)
                                  (Option.some
                                    (ltB
                                      (IntKind.i64.wrap
                                        (IntKind.i64.wrap
                                            (IntKind.i64.wrap
                                                ((nth (RV.p PV.nilp) r_1.fst 0).toPV.toInt *
                                                  (nth (RV.p PV.nilp) r_1.fst 0).toPV.toInt) +
                                              IntKind.i64.wrap
                                                ((nth (RV.p PV.nilp) r_2.fst 0).toPV.toInt *
                                                  (nth (RV.p PV.nilp) r_2.fst 0).toPV.toInt)) -
                                          100000000))
                                      (-500000)))
                                  (Option.some Bool.true))
                                fun (v : Bool) =>
                                ctl v (Option.some ([RV.p (PV.bool Bool.false)], []))
                                  (bnd
                                    (ctl
                                      (!leB 900 (nth (RV.p PV.nilp) r.fst 0).toPV.toInt)
                                      (bnd
                                        (F 10
                                          [AV.int IntKind.i64
                                              (IntKind.i64.wrap ((nth (RV.p PV.nilp) r.fst 0).toPV.toInt + 1))]
                                          [])
                                        fun (r_4 : Res) =>
                                        ctl
                                          (okR [RSh.one (Sh.int IntKind.i64)] r_4.fst &&
                                            okB [] r_4.snd)
                                          (ctl
                                            (leB (nth (RV.p PV.nilp) r_1.fst 0).toPV.toInt
                                              (nth (RV.p PV.nilp) r_4.fst 0).toPV.toInt)
                                            (bnd
                                              (F 11
                                                [AV.int IntKind.i64
                                                    (IntKind.i64.wrap ((nth (RV.p PV.nilp) r.fst 0).toPV.toInt + 1))]
                                                [])
                                              fun (r : Res) =>
                                              ctl
                                                (okR [RSh.one (Sh.int IntKind.i64)] r.fst &&
                                                  okB [] r.snd)
                                                (Option.some
                                                  (leB (nth (RV.p PV.nilp) r.fst 0).toPV.toInt
                                                    (nth (RV.p PV.nilp) r_2.fst 0).toPV.toInt))
                                                Option.none)
                                            (Option.some Bool.false))
                                          Option.none)
                                      (Option.some Bool.true))
                                    fun (v : Bool) =>
                                    bnd
                                      (ctl v
                                        (bnd (F 13 [] []) fun (r : Res) =>
                                          ctl
                                            (okR [RSh.one Sh.bool] r.fst && okB [] r.snd)
                                            (Option.some (nth (RV.p PV.nilp) r.fst 0).toPV.toBool) Option.none)
                                        (Option.some Bool.false))
                                      fun (v : Bool) => Option.some ([RV.p (PV.bool v)], [])))
                  Option.none)
              Option.none)
          Option.none)
      Option.none := by kernel_rfl

/-- dynpos/dynposlaw02.AngleDiffs -/
theorem r5 (F : Fun) (a : Int) (b : Int) (c : Int) : funK E F 5 [AV.int IntKind.i64 a, AV.int IntKind.i64 b, AV.int IntKind.i64 c] [] =
  bnd (F 12 [AV.int IntKind.i64 a, AV.int IntKind.i64 b] []) fun (r : Res) =>
    ctl
      (okR [RSh.one (Sh.int IntKind.i64)] r.fst && okB [] r.snd)
      (bnd (F 12 [AV.int IntKind.i64 b, AV.int IntKind.i64 c] []) fun (r_1 : Res) =>
        ctl
          (okR [RSh.one (Sh.int IntKind.i64)] r_1.fst && okB [] r_1.snd)
          (bnd (F 12 [AV.int IntKind.i64 c, AV.int IntKind.i64 a] []) fun (r_2 : Res) =>
            ctl
              (okR [RSh.one (Sh.int IntKind.i64)] r_2.fst && okB [] r_2.snd)
              (bnd (F 9 [AV.int IntKind.i64 a] []) fun (r_3 : Res) =>
                ctl
                  (okR [RSh.one (Sh.int IntKind.i64)] r_3.fst && okB [] r_3.snd)
                  (bnd (F 9 [AV.int IntKind.i64 b] []) fun (r_4 : Res) =>
                    ctl
                      (okR [RSh.one (Sh.int IntKind.i64)] r_4.fst && okB [] r_4.snd)
                      (bnd
                        (ctl
                          (ltB (-1800) (nth (RV.p PV.nilp) r.fst 0).toPV.toInt)
                          (Option.some (leB (nth (RV.p PV.nilp) r.fst 0).toPV.toInt 1800))
                          (Option.some Bool.false))
                        fun (v : Bool) =>
                        bnd
                          (ctl v
                            (bnd
                              (F 9
                                [AV.int IntKind.i64
                                    (IntKind.i64.wrap
                                      ((nth (RV.p PV.nilp) r_3.fst 0).toPV.toInt +
                                        (nth (RV.p PV.nilp) r.fst 0).toPV.toInt))]
                                [])
                              fun (r : Res) =>
                              ctl
                                (okR [RSh.one (Sh.int IntKind.i64)] r.fst && okB [] r.snd)
                                (Option.some
                                  ((nth (RV.p PV.nilp) r.fst 0).toPV.toInt ==
                                    (nth (RV.p PV.nilp) r_4.fst 0).toPV.toInt))
                                Option.none)
                            (Option.some Bool.false))
                          fun (v : Bool) =>
                          bnd
                            (ctl v
                              (ctl (!(nth (RV.p PV.nilp) r.fst 0).toPV.toInt == 1800)
                                (bnd (F 12 [AV.int IntKind.i64 b, AV.int IntKind.i64 a] [])
                                  fun (r_5 : Res) =>
                                  ctl
                                    (okR [RSh.one (Sh.int IntKind.i64)] r_5.fst &&
                                      okB [] r_5.snd)
                                    (Option.some
                                      ((nth (RV.p PV.nilp) r_5.fst 0).toPV.toInt ==
                                        IntKind.i64.wrap (0 - (nth (RV.p PV.nilp) r.fst 0).toPV.toInt)))
                                    Option.none)
                                (Option.some Bool.true))
                              (Option.some Bool.false))
                            fun (v : Bool) =>
                            bnd
                              (ctl v
                                (bnd
                                  (F 9
                                    [AV.int IntKind.i64
                                        (IntKind.i64.wrap
                                          (IntKind.i64.wrap
                                              ((nth (RV.p PV.nilp) r.fst 0).toPV.toInt +
                                                (nth (RV.p PV.nilp) r_1.fst 0).toPV.toInt) +
                                            (nth (RV.p PV.nilp) r_2.fst 0).toPV.toInt))]
                                    [])
                                  fun (r : Res) =>
                                  ctl
                                    (okR [RSh.one (Sh.int IntKind.i64)] r.fst && okB [] r.snd)
                                    (Option.some ((nth (RV.p PV.nilp) r.fst 0).toPV.toInt == 0)) Option.none)
                                (Option.some Bool.false))
                              fun (v : Bool) =>
                              bnd
                                (ctl v
                                  (bnd (F 12 [AV.int IntKind.i64 a, AV.int IntKind.i64 a] [])
                                    fun (r : Res) =>
                                    ctl
                                      (okR [RSh.one (Sh.int IntKind.i64)] r.fst &&
                                        okB [] r.snd)
                                      (Option.some ((nth (RV.p PV.nilp) r.fst 0).toPV.toInt == 0)) Option.none)
                                  (Option.some Bool.false))
                                fun (v : Bool) =>
                                bnd
                                  (ctl v
                                    (bnd (F 13 [] []) fun (r : Res) =>
                                      ctl
                                        (okR [RSh.one Sh.bool] r.fst && okB [] r.snd)
                                        (Option.some (nth (RV.p PV.nilp) r.fst 0).toPV.toBool) Option.none)
                                    (Option.some Bool.false))
                                  fun (v : Bool) => Option.some ([RV.p (PV.bool v)], []))
                      Option.none)
                  Option.none)
              Option.none)
          Option.none)
      Option.none := by kernel_rfl

end Go.Proofs.Ytpemmbkflddhoaa.Vm
