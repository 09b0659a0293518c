/- The raw theorems, by program: what each function and each loop comes to. -/
import Derived.Test.YtcopadohnlcheaaDoorEnv
import Derived.Test.YtcopadohnlcheaaDoorVm34
import Derived.KernelRfl
namespace Go.Proofs.YtcopadohnlcheaaDoor.Vm
open Go
set_option maxRecDepth 100000
set_option linter.unusedVariables false

/-- dynpos/dynposmake.New -/
theorem r7 (F : Fun) (l : List (List PV)) : funK E F 7 [AV.sl 1 l] [] =
  ctl
    (Bool.true &&
      (leB 0 (minI 600 (↑l.length : Int)) &&
        leB (minI 600 (↑l.length : Int)) (↑l.length : Int)))
    (Option.some
      ([RV.ownp
            [PV.sl 1 (cutI l 0 (minI 600 (↑l.length : Int))),
              PV.int IntKind.i64 0]],
        []))
    Option.none := by kernel_rfl

/-- (*dynpos/dynposmake.Src).Signal -/
theorem r8 (F : Fun) (s0 : List (List PV)) (s1 : Int) : funK E F 8 [AV.t (TV.ptr 0 0)] [Blk.box [AV.sl 1 s0, AV.int IntKind.i64 s1]] =
  bnd
    (F 26 [AV.t (TV.ptr 0 0), AV.int IntKind.i64 1, AV.int IntKind.i64 6]
      [Blk.box [AV.sl 1 s0, AV.int IntKind.i64 s1]])
    fun (r : Res) =>
    ctl
      (okR [RSh.one (Sh.int IntKind.i64)] r.fst &&
        okB [Sum.inl [Sh.sl 1, Sh.int IntKind.i64]] r.snd)
      (bnd
        (F 27
          [AV.t (TV.ptr 0 0),
            AV.sl 1
              [[PV.int IntKind.i64 0], [PV.int IntKind.i64 1], [PV.int IntKind.i64 7],
                [PV.int IntKind.i64 99]]]
          [Blk.box
              [AV.sl 1
                  (nth PV.nilp
                      (List.map AV.toPV (nth (Blk.box []) r.snd 0).toCs) 0).toEs,
                AV.int IntKind.i64
                  (nth PV.nilp
                      (List.map AV.toPV (nth (Blk.box []) r.snd 0).toCs) 1).toInt]])
        fun (r_1 : Res) =>
        ctl
          (okR [RSh.one (Sh.int IntKind.i64)] r_1.fst &&
            okB [Sum.inl [Sh.sl 1, Sh.int IntKind.i64]] r_1.snd)
          (bnd
            (F 27
              [AV.t (TV.ptr 0 0),
                AV.sl 1
                  [[PV.int IntKind.i64 0], [PV.int IntKind.i64 1], [PV.int IntKind.i64 60],
                    [PV.int IntKind.i64 2147483648]]]
              [Blk.box
                  [AV.sl 1
                      (nth PV.nilp
                          (List.map AV.toPV (nth (Blk.box []) r_1.snd 0).toCs) 0).toEs,
                    AV.int IntKind.i64
                      (nth PV.nilp
                          (List.map AV.toPV (nth (Blk.box []) r_1.snd 0).toCs) 1).toInt]])
            fun (r_2 : Res) =>
            ctl
              (okR [RSh.one (Sh.int IntKind.i64)] r_2.fst &&
                okB [Sum.inl [Sh.sl 1, Sh.int IntKind.i64]] r_2.snd)
              (ctl ((nth (RV.p PV.nilp) r.fst 0).toPV.toInt == 1)
                (bnd
                  (F 26
                    [AV.t (TV.ptr 0 0), AV.int IntKind.i64 (-900),
                      AV.int IntKind.i64 900]
                    [Blk.box
                        [AV.sl 1
                            (nth PV.nilp
                                (List.map AV.toPV (nth (Blk.box []) r_2.snd 0).toCs) 0).toEs,
                          AV.int IntKind.i64
                            (nth PV.nilp
                                (List.map AV.toPV (nth (Blk.box []) r_2.snd 0).toCs) 1).toInt]])
                  fun (r_3 : Res) =>
                  ctl
                    (okR [RSh.one (Sh.int IntKind.i64)] r_3.fst &&
                      okB [Sum.inl [Sh.sl 1, Sh.int IntKind.i64]] r_3.snd)
                    (bnd
                      (F 26
                        [AV.t (TV.ptr 0 0), AV.int IntKind.i64 (-100000000),
                          AV.int IntKind.i64 100000000]
                        [Blk.box
                            [AV.sl 1
                                (nth PV.nilp
                                    (List.map AV.toPV (nth (Blk.box []) r_3.snd 0).toCs) 0).toEs,
                              AV.int IntKind.i64
                                (nth PV.nilp
                                    (List.map AV.toPV (nth (Blk.box []) r_3.snd 0).toCs) 1).toInt]])
                      fun (r_4 : Res) =>
                      ctl
                        (okR [RSh.one (Sh.int IntKind.i64)] r_4.fst &&
                          okB [Sum.inl [Sh.sl 1, Sh.int IntKind.i64]] r_4.snd)
                        (bnd
                          (F 27
                            [AV.t (TV.ptr 0 0),
                              AV.sl 1
                                [[PV.int IntKind.i64 1], [PV.int IntKind.i64 50],
                                  [PV.int IntKind.i64 100000]]]
                            [Blk.box
                                [AV.sl 1
                                    (nth PV.nilp
                                        (List.map AV.toPV (nth (Blk.box []) r_4.snd 0).toCs) 0).toEs,
                                  AV.int IntKind.i64
                                    (nth PV.nilp
                                        (List.map AV.toPV (nth (Blk.box []) r_4.snd 0).toCs) 1).toInt]])
                          fun (r_5 : Res) =>
                          ctl
                            (okR [RSh.one (Sh.int IntKind.i64)] r_5.fst &&
                              okB [Sum.inl [Sh.sl 1, Sh.int IntKind.i64]] r_5.snd)
                            (Option.some
                              ([RV.agg
                                    [PV.int IntKind.i64
                                        (nth (RV.p PV.nilp) r.fst 0).toPV.toInt,
                                      PV.int IntKind.i64
                                        (nth (RV.p PV.nilp) r_1.fst 0).toPV.toInt,
                                      PV.int IntKind.i64
                                        (nth (RV.p PV.nilp) r_2.fst 0).toPV.toInt,
                                      PV.int IntKind.i64
                                        (nth (RV.p PV.nilp) r_3.fst 0).toPV.toInt,
                                      PV.int IntKind.i64
                                        (nth (RV.p PV.nilp) r_4.fst 0).toPV.toInt,
                                      PV.int IntKind.i64
                                        (nth (RV.p PV.nilp) r_5.fst 0).toPV.toInt]],
                                [Blk.box
                                    [AV.sl 1
                                        (nth PV.nilp
                                            (List.map AV.toPV (nth (Blk.box []) r_5.snd 0).toCs) 0).toEs,
                                      AV.int IntKind.i64
                                        (nth PV.nilp
                                            (List.map AV.toPV (nth (Blk.box []) r_5.snd 0).toCs) 1).toInt]]))
                            Option.none)
                        Option.none)
                    Option.none)
                (ctl ((nth (RV.p PV.nilp) r.fst 0).toPV.toInt == 2)
                  (bnd
                    (F 17 [AV.t (TV.ptr 0 0), AV.int IntKind.i64 3600]
                      [Blk.box
                          [AV.sl 1
                              (nth PV.nilp
                                  (List.map AV.toPV (nth (Blk.box []) r_2.snd 0).toCs) 0).toEs,
                            AV.int IntKind.i64
                              (nth PV.nilp
                                  (List.map AV.toPV (nth (Blk.box []) r_2.snd 0).toCs) 1).toInt]])
                    fun (r_3 : Res) =>
                    ctl
                      (okR [RSh.one (Sh.int IntKind.i64)] r_3.fst &&
                        okB [Sum.inl [Sh.sl 1, Sh.int IntKind.i64]] r_3.snd)
                      (Option.some
                        ([RV.agg
                              [PV.int IntKind.i64
                                  (nth (RV.p PV.nilp) r.fst 0).toPV.toInt,
                                PV.int IntKind.i64
                                  (nth (RV.p PV.nilp) r_1.fst 0).toPV.toInt,
                                PV.int IntKind.i64
                                  (nth (RV.p PV.nilp) r_2.fst 0).toPV.toInt,
                                PV.int IntKind.i64
                                  (nth (RV.p PV.nilp) r_3.fst 0).toPV.toInt,
                                PV.int IntKind.i64 0, PV.int IntKind.i64 0]],
                          [Blk.box
                              [AV.sl 1
                                  (nth PV.nilp
                                      (List.map AV.toPV (nth (Blk.box []) r_3.snd 0).toCs) 0).toEs,
                                AV.int IntKind.i64
                                  (nth PV.nilp
                                      (List.map AV.toPV (nth (Blk.box []) r_3.snd 0).toCs) 1).toInt]]))
                      Option.none)
                  (ctl ((nth (RV.p PV.nilp) r.fst 0).toPV.toInt == 3)
                    (bnd
                      (F 17 [AV.t (TV.ptr 0 0), AV.int IntKind.i64 3600]
                        [Blk.box
                            [AV.sl 1
                                (nth PV.nilp
                                    (List.map AV.toPV (nth (Blk.box []) r_2.snd 0).toCs) 0).toEs,
                              AV.int IntKind.i64
                                (nth PV.nilp
                                    (List.map AV.toPV (nth (Blk.box []) r_2.snd 0).toCs) 1).toInt]])
                      fun (r_3 : Res) =>
                      ctl
                        (okR [RSh.one (Sh.int IntKind.i64)] r_3.fst &&
                          okB [Sum.inl [Sh.sl 1, Sh.int IntKind.i64]] r_3.snd)
                        (bnd
                          (F 26
                            [AV.t (TV.ptr 0 0), AV.int IntKind.i64 0,
                              AV.int IntKind.i64 10000]
                            [Blk.box
                                [AV.sl 1
                                    (nth PV.nilp
                                        (List.map AV.toPV (nth (Blk.box []) r_3.snd 0).toCs) 0).toEs,
                                  AV.int IntKind.i64
                                    (nth PV.nilp
                                        (List.map AV.toPV (nth (Blk.box []) r_3.snd 0).toCs) 1).toInt]])
                          fun (r_4 : Res) =>
                          ctl
                            (okR [RSh.one (Sh.int IntKind.i64)] r_4.fst &&
                              okB [Sum.inl [Sh.sl 1, Sh.int IntKind.i64]] r_4.snd)
                            (Option.some
                              ([RV.agg
                                    [PV.int IntKind.i64
                                        (nth (RV.p PV.nilp) r.fst 0).toPV.toInt,
                                      PV.int IntKind.i64
                                        (nth (RV.p PV.nilp) r_1.fst 0).toPV.toInt,
                                      PV.int IntKind.i64
                                        (nth (RV.p PV.nilp) r_2.fst 0).toPV.toInt,
                                      PV.int IntKind.i64
                                        (nth (RV.p PV.nilp) r_3.fst 0).toPV.toInt,
                                      PV.int IntKind.i64
                                        (nth (RV.p PV.nilp) r_4.fst 0).toPV.toInt,
                                      PV.int IntKind.i64 0]],
                                [Blk.box
                                    [AV.sl 1
                                        (nth PV.nilp
                                            (List.map AV.toPV (nth (Blk.box []) r_4.snd 0).toCs) 0).toEs,
                                      AV.int IntKind.i64
                                        (nth PV.nilp
                                            (List.map AV.toPV (nth (Blk.box []) r_4.snd 0).toCs) 1).toInt]]))
                            Option.none)
                        Option.none)
                    (ctl ((nth (RV.p PV.nilp) r.fst 0).toPV.toInt == 4)
                      (bnd
                        (F 26
                          [AV.t (TV.ptr 0 0), AV.int IntKind.i64 0,
                            AV.int IntKind.i64 5000]
                          [Blk.box
                              [AV.sl 1
                                  (nth PV.nilp
                                      (List.map AV.toPV (nth (Blk.box []) r_2.snd 0).toCs) 0).toEs,
                                AV.int IntKind.i64
                                  (nth PV.nilp
                                      (List.map AV.toPV (nth (Blk.box []) r_2.snd 0).toCs) 1).toInt]])
                        fun (r_3 : Res) =>
                        ctl
                          (okR [RSh.one (Sh.int IntKind.i64)] r_3.fst &&
                            okB [Sum.inl [Sh.sl 1, Sh.int IntKind.i64]] r_3.snd)
                          (bnd
                            (F 17 [AV.t (TV.ptr 0 0), AV.int IntKind.i64 3600]
                              [Blk.box
                                  [AV.sl 1
                                      (nth PV.nilp
                                          (List.map AV.toPV (nth (Blk.box []) r_3.snd 0).toCs) 0).toEs,
                                    AV.int IntKind.i64
                                      (nth PV.nilp
                                          (List.map AV.toPV (nth (Blk.box []) r_3.snd 0).toCs) 1).toInt]])
                            fun (r_4 : Res) =>
                            ctl
                              (okR [RSh.one (Sh.int IntKind.i64)] r_4.fst &&
                                okB [Sum.inl [Sh.sl 1, Sh.int IntKind.i64]] r_4.snd)
                              (Option.some
                                ([RV.agg
                                      [PV.int IntKind.i64
                                          (nth (RV.p PV.nilp) r.fst 0).toPV.toInt,
                                        PV.int IntKind.i64
                                          (nth (RV.p PV.nilp) r_1.fst 0).toPV.toInt,
                                        PV.int IntKind.i64
                                          (nth (RV.p PV.nilp) r_2.fst 0).toPV.toInt,
                                        PV.int IntKind.i64
                                          (nth (RV.p PV.nilp) r_3.fst 0).toPV.toInt,
                                        PV.int IntKind.i64
                                          (nth (RV.p PV.nilp) r_4.fst 0).toPV.toInt,
                                        PV.int IntKind.i64 0]],
                                  [Blk.box
                                      [AV.sl 1
                                          (nth PV.nilp
                                              (List.map AV.toPV (nth (Blk.box []) r_4.snd 0).toCs) 0).toEs,
                                        AV.int IntKind.i64
                                          (nth PV.nilp
                                              (List.map AV.toPV (nth (Blk.box []) r_4.snd 0).toCs) 1).toInt]]))
                              Option.none)
                          Option.none)
                      (ctl ((nth (RV.p PV.nilp) r.fst 0).toPV.toInt == 5)
                        (bnd
                          (F 17 [AV.t (TV.ptr 0 0), AV.int IntKind.i64 2]
                            [Blk.box
                                [AV.sl 1
                                    (nth PV.nilp
                                        (List.map AV.toPV (nth (Blk.box []) r_2.snd 0).toCs) 0).toEs,
                                  AV.int IntKind.i64
                                    (nth PV.nilp
                                        (List.map AV.toPV (nth (Blk.box []) r_2.snd 0).toCs) 1).toInt]])
                          fun (r_3 : Res) =>
                          ctl
                            (okR [RSh.one (Sh.int IntKind.i64)] r_3.fst &&
                              okB [Sum.inl [Sh.sl 1, Sh.int IntKind.i64]] r_3.snd)
                            (Option.some
                              ([RV.agg
                                    [PV.int IntKind.i64
                                        (nth (RV.p PV.nilp) r.fst 0).toPV.toInt,
                                      PV.int IntKind.i64
                                        (nth (RV.p PV.nilp) r_1.fst 0).toPV.toInt,
                                      PV.int IntKind.i64
                                        (nth (RV.p PV.nilp) r_2.fst 0).toPV.toInt,
                                      PV.int IntKind.i64
                                        (nth (RV.p PV.nilp) r_3.fst 0).toPV.toInt,
                                      PV.int IntKind.i64 0, PV.int IntKind.i64 0]],
                                [Blk.box
                                    [AV.sl 1
                                        (nth PV.nilp
                                            (List.map AV.toPV (nth (Blk.box []) r_3.snd 0).toCs) 0).toEs,
                                      AV.int IntKind.i64
                                        (nth PV.nilp
                                            (List.map AV.toPV (nth (Blk.box []) r_3.snd 0).toCs) 1).toInt]]))
                            Option.none)
                        (bnd
                          (F 26
                            [AV.t (TV.ptr 0 0), AV.int IntKind.i64 0,
                              AV.int IntKind.i64 50000]
                            [Blk.box
                                [AV.sl 1
                                    (nth PV.nilp
                                        (List.map AV.toPV (nth (Blk.box []) r_2.snd 0).toCs) 0).toEs,
                                  AV.int IntKind.i64
                                    (nth PV.nilp
                                        (List.map AV.toPV (nth (Blk.box []) r_2.snd 0).toCs) 1).toInt]])
                          fun (r_3 : Res) =>
                          ctl
                            (okR [RSh.one (Sh.int IntKind.i64)] r_3.fst &&
                              okB [Sum.inl [Sh.sl 1, Sh.int IntKind.i64]] r_3.snd)
                            (bnd
                              (F 26
                                [AV.t (TV.ptr 0 0), AV.int IntKind.i64 0,
                                  AV.int IntKind.i64 6000]
                                [Blk.box
                                    [AV.sl 1
                                        (nth PV.nilp
                                            (List.map AV.toPV (nth (Blk.box []) r_3.snd 0).toCs) 0).toEs,
                                      AV.int IntKind.i64
                                        (nth PV.nilp
                                            (List.map AV.toPV (nth (Blk.box []) r_3.snd 0).toCs) 1).toInt]])
                              fun (r_4 : Res) =>
                              ctl
                                (okR [RSh.one (Sh.int IntKind.i64)] r_4.fst &&
                                  okB [Sum.inl [Sh.sl 1, Sh.int IntKind.i64]] r_4.snd)
                                (bnd
                                  (F 17 [AV.t (TV.ptr 0 0), AV.int IntKind.i64 3600]
                                    [Blk.box
                                        [AV.sl 1
                                            (nth PV.nilp
                                                (List.map AV.toPV (nth (Blk.box []) r_4.snd 0).toCs) 0).toEs,
                                          AV.int IntKind.i64
                                            (nth PV.nilp
                                                (List.map AV.toPV (nth (Blk.box []) r_4.snd 0).toCs) 1).toInt]])
                                  fun (r_5 : Res) =>
                                  ctl
                                    (okR [RSh.one (Sh.int IntKind.i64)] r_5.fst &&
                                      okB [Sum.inl [Sh.sl 1, Sh.int IntKind.i64]] r_5.snd)
                                    (Option.some
                                      ([RV.agg
                                            [PV.int IntKind.i64
                                                (nth (RV.p PV.nilp) r.fst 0).toPV.toInt,
                                              PV.int IntKind.i64
                                                (nth (RV.p PV.nilp) r_1.fst 0).toPV.toInt,
                                              PV.int IntKind.i64
                                                (nth (RV.p PV.nilp) r_2.fst 0).toPV.toInt,
                                              PV.int IntKind.i64
                                                (nth (RV.p PV.nilp) r_3.fst 0).toPV.toInt,
                                              PV.int IntKind.i64
                                                (nth (RV.p PV.nilp) r_4.fst 0).toPV.toInt,
                                              PV.int IntKind.i64
                                                (nth (RV.p PV.nilp) r_5.fst 0).toPV.toInt]],
                                        [Blk.box
                                            [AV.sl 1
                                                (nth PV.nilp
                                                    (List.map AV.toPV (nth (Blk.box []) r_5.snd 0).toCs) 0).toEs,
                                              AV.int IntKind.i64
                                                (nth PV.nilp
                                                    (List.map AV.toPV (nth (Blk.box []) r_5.snd 0).toCs) 1).toInt]]))
                                    Option.none)
                                Option.none)
                            Option.none))))))
              Option.none)
          Option.none)
      Option.none := by kernel_rfl

/-- dynpos/signal.Write -/
theorem r9 (F : Fun) (s0 : Int) (s1 : Int) (s2 : Int) (s3 : Int) (s4 : Int) (s5 : Int) : funK E F 9 [AV.agg
    [PV.int IntKind.i64 s0, PV.int IntKind.i64 s1, PV.int IntKind.i64 s2,
      PV.int IntKind.i64 s3, PV.int IntKind.i64 s4, PV.int IntKind.i64 s5]] [] =
  bnd
    (F 13
      [AV.agg
          [PV.int IntKind.i64 s0, PV.int IntKind.i64 s1, PV.int IntKind.i64 s2,
            PV.int IntKind.i64 s3, PV.int IntKind.i64 s4, PV.int IntKind.i64 s5]]
      [])
    fun (r : Res) =>
    ctl
      (okR [RSh.one Sh.bool] r.fst && okB [] r.snd)
      (ctl (!(nth (RV.p PV.nilp) r.fst 0).toPV.toBool)
        (Option.some ([RV.agg [PV.nils], RV.p (PV.int IntKind.i64 5)], []))
        (bnd
          (F 28
            [AV.agg
                [PV.int IntKind.i64 s0, PV.int IntKind.i64 s1, PV.int IntKind.i64 s2,
                  PV.int IntKind.i64 s3, PV.int IntKind.i64 s4, PV.int IntKind.i64 s5]]
            [])
          fun (r : Res) =>
          ctl
            (okR [RSh.agg [Sh.sl 1]] r.fst && okB [] r.snd)
            (Option.some
              ([RV.agg
                    [PV.sl 1
                        (nth PV.nilp
                            (nth (RV.p PV.nilp) r.fst 0).toCs 0).toEs],
                  RV.p (PV.int IntKind.i64 0)],
                []))
            Option.none))
      Option.none := by kernel_rfl

/-- dynpos/dynposlaw06.sane -/
theorem r10 (F : Fun) : funK E F 10 [] [] =
  bnd
    (F 9
      [AV.agg
          [PV.int IntKind.i64 1, PV.int IntKind.i64 2, PV.int IntKind.i64 17,
            PV.int IntKind.i64 100, PV.int IntKind.i64 (-50), PV.int IntKind.i64 30]]
      [])
    fun (r : Res) =>
    ctl
      (okR
          [RSh.agg [Sh.sl 1], RSh.one (Sh.int IntKind.i64)] r.fst &&
        okB [] r.snd)
      (bnd
        (F 18
          [AV.agg
              [PV.sl 1
                  (nth PV.nilp
                      (nth (RV.p PV.nilp) r.fst 0).toCs 0).toEs]]
          [])
        fun (r_1 : Res) =>
        ctl
          (okR
              [RSh.agg
                  [Sh.int IntKind.i64, Sh.int IntKind.i64, Sh.int IntKind.i64,
                    Sh.int IntKind.i64, Sh.int IntKind.i64, Sh.int IntKind.i64],
                RSh.one (Sh.int IntKind.i64)]
              r_1.fst &&
            okB [] r_1.snd)
          (bnd
            (ctl ((nth (RV.p PV.nilp) r.fst 1).toPV.toInt == 0)
              (Option.some ((nth (RV.p PV.nilp) r_1.fst 1).toPV.toInt == 0)) (Option.some Bool.false))
            fun (v : Bool) =>
            bnd
              (ctl v
                (Option.some
                  ((nth PV.nilp
                          (nth (RV.p PV.nilp) r_1.fst 0).toCs 0).toInt ==
                      1 &&
                    ((nth PV.nilp
                            (nth (RV.p PV.nilp) r_1.fst 0).toCs 1).toInt ==
                        2 &&
                      ((nth PV.nilp
                              (nth (RV.p PV.nilp) r_1.fst 0).toCs 2).toInt ==
                          17 &&
                        ((nth PV.nilp
                                (nth (RV.p PV.nilp) r_1.fst 0).toCs 3).toInt ==
                            100 &&
                          ((nth PV.nilp
                                  (nth (RV.p PV.nilp) r_1.fst 0).toCs 4).toInt ==
                              -50 &&
                            ((nth PV.nilp
                                    (nth (RV.p PV.nilp) r_1.fst 0).toCs 5).toInt ==
                                30 &&
                              Bool.true)))))))
                (Option.some Bool.false))
              fun (v : Bool) =>
              ctl v
                (bnd
                  (bnd
                    (F 29
                      [AV.sl 1
                          (nth PV.nilp
                              (nth (RV.p PV.nilp) r.fst 0).toCs 0).toEs,
                        AV.sl 1
                          [[PV.str [70, 73, 88]], [PV.str [50]], [PV.str [49, 55]],
                            [PV.str [49, 48, 48]], [PV.str [45, 53, 48]], [PV.str [51, 48]]]]
                      [])
                    fun (r : Res) =>
                    ctl
                      (okR [RSh.one Sh.bool] r.fst && okB [] r.snd &&
                        (noslR r.fst && noslB r.snd))
                      (Option.some (nth (RV.p PV.nilp) r.fst 0).toPV.toBool) Option.none)
                  fun (v : Bool) =>
                  bnd
                    (ctl v
                      (bnd
                        (F 13
                          [AV.agg
                              [PV.int IntKind.i64 1, PV.int IntKind.i64 2, PV.int IntKind.i64 17,
                                PV.int IntKind.i64 100, PV.int IntKind.i64 (-50), PV.int IntKind.i64 30]]
                          [])
                        fun (r : Res) =>
                        ctl
                          (okR [RSh.one Sh.bool] r.fst && okB [] r.snd)
                          (Option.some (nth (RV.p PV.nilp) r.fst 0).toPV.toBool) Option.none)
                      (Option.some Bool.false))
                    fun (v : Bool) =>
                    bnd
                      (ctl v
                        (bnd (F 20 [AV.int IntKind.i64 (-7)] []) fun (r : Res) =>
                          ctl
                            (okR [RSh.one Sh.str] r.fst && okB [] r.snd)
                            (Option.some ((nth (RV.p PV.nilp) r.fst 0).toPV.toStr == [45, 55])) Option.none)
                        (Option.some Bool.false))
                      fun (v : Bool) => Option.some ([RV.p (PV.bool v)], []))
                (Option.some ([RV.p (PV.bool Bool.false)], [])))
          Option.none)
      Option.none := by kernel_rfl

/-- (*dynpos/dynposmake.Src).BentSignal -/
theorem r11 (F : Fun) (s0 : List (List PV)) (s1 : Int) (x0 : Int) (x1 : Int) (x2 : Int) (x3 : Int) (x4 : Int) (x5 : Int) : funK E F 11 [AV.t (TV.ptr 0 0),
  AV.agg
    [PV.int IntKind.i64 x0, PV.int IntKind.i64 x1, PV.int IntKind.i64 x2,
      PV.int IntKind.i64 x3, PV.int IntKind.i64 x4, PV.int IntKind.i64 x5]] [Blk.box [AV.sl 1 s0, AV.int IntKind.i64 s1]] =
  bnd
    (F 17 [AV.t (TV.ptr 0 0), AV.int IntKind.i64 6]
      [Blk.box [AV.sl 1 s0, AV.int IntKind.i64 s1]])
    fun (r : Res) =>
    ctl
      (okR [RSh.one (Sh.int IntKind.i64)] r.fst &&
        okB [Sum.inl [Sh.sl 1, Sh.int IntKind.i64]] r.snd)
      (ctl ((nth (RV.p PV.nilp) r.fst 0).toPV.toInt == 0)
        (bnd
          (F 26
            [AV.t (TV.ptr 0 0), AV.int IntKind.i64 (-1),
              AV.int IntKind.i64 8]
            [Blk.box
                [AV.sl 1
                    (nth PV.nilp
                        (List.map AV.toPV (nth (Blk.box []) r.snd 0).toCs) 0).toEs,
                  AV.int IntKind.i64
                    (nth PV.nilp
                        (List.map AV.toPV (nth (Blk.box []) r.snd 0).toCs) 1).toInt]])
          fun (r : Res) =>
          ctl
            (okR [RSh.one (Sh.int IntKind.i64)] r.fst &&
              okB [Sum.inl [Sh.sl 1, Sh.int IntKind.i64]] r.snd)
            (Option.some
              ([RV.agg
                    [PV.int IntKind.i64
                        (nth (RV.p PV.nilp) r.fst 0).toPV.toInt,
                      PV.int IntKind.i64 x1, PV.int IntKind.i64 x2, PV.int IntKind.i64 x3,
                      PV.int IntKind.i64 x4, PV.int IntKind.i64 x5]],
                [Blk.box
                    [AV.sl 1
                        (nth PV.nilp
                            (List.map AV.toPV (nth (Blk.box []) r.snd 0).toCs) 0).toEs,
                      AV.int IntKind.i64
                        (nth PV.nilp
                            (List.map AV.toPV (nth (Blk.box []) r.snd 0).toCs) 1).toInt]]))
            Option.none)
        (ctl ((nth (RV.p PV.nilp) r.fst 0).toPV.toInt == 1)
          (bnd
            (F 27
              [AV.t (TV.ptr 0 0),
                AV.sl 1
                  [[PV.int IntKind.i64 (-1)], [PV.int IntKind.i64 100], [PV.int IntKind.i64 50]]]
              [Blk.box
                  [AV.sl 1
                      (nth PV.nilp
                          (List.map AV.toPV (nth (Blk.box []) r.snd 0).toCs) 0).toEs,
                    AV.int IntKind.i64
                      (nth PV.nilp
                          (List.map AV.toPV (nth (Blk.box []) r.snd 0).toCs) 1).toInt]])
            fun (r : Res) =>
            ctl
              (okR [RSh.one (Sh.int IntKind.i64)] r.fst &&
                okB [Sum.inl [Sh.sl 1, Sh.int IntKind.i64]] r.snd)
              (Option.some
                ([RV.agg
                      [PV.int IntKind.i64 x0,
                        PV.int IntKind.i64
                          (nth (RV.p PV.nilp) r.fst 0).toPV.toInt,
                        PV.int IntKind.i64 x2, PV.int IntKind.i64 x3, PV.int IntKind.i64 x4,
                        PV.int IntKind.i64 x5]],
                  [Blk.box
                      [AV.sl 1
                          (nth PV.nilp
                              (List.map AV.toPV (nth (Blk.box []) r.snd 0).toCs) 0).toEs,
                        AV.int IntKind.i64
                          (nth PV.nilp
                              (List.map AV.toPV (nth (Blk.box []) r.snd 0).toCs) 1).toInt]]))
              Option.none)
          (ctl ((nth (RV.p PV.nilp) r.fst 0).toPV.toInt == 2)
            (bnd
              (F 30 [AV.t (TV.ptr 0 0)]
                [Blk.box
                    [AV.sl 1
                        (nth PV.nilp
                            (List.map AV.toPV (nth (Blk.box []) r.snd 0).toCs) 0).toEs,
                      AV.int IntKind.i64
                        (nth PV.nilp
                            (List.map AV.toPV (nth (Blk.box []) r.snd 0).toCs) 1).toInt]])
              fun (r : Res) =>
              ctl
                (okR [RSh.one (Sh.int IntKind.i64)] r.fst &&
                  okB [Sum.inl [Sh.sl 1, Sh.int IntKind.i64]] r.snd)
                (Option.some
                  ([RV.agg
                        [PV.int IntKind.i64 x0, PV.int IntKind.i64 x1,
                          PV.int IntKind.i64
                            (nth (RV.p PV.nilp) r.fst 0).toPV.toInt,
                          PV.int IntKind.i64 x3, PV.int IntKind.i64 x4, PV.int IntKind.i64 x5]],
                    [Blk.box
                        [AV.sl 1
                            (nth PV.nilp
                                (List.map AV.toPV (nth (Blk.box []) r.snd 0).toCs) 0).toEs,
                          AV.int IntKind.i64
                            (nth PV.nilp
                                (List.map AV.toPV (nth (Blk.box []) r.snd 0).toCs) 1).toInt]]))
                Option.none)
            (ctl ((nth (RV.p PV.nilp) r.fst 0).toPV.toInt == 3)
              (bnd
                (F 30 [AV.t (TV.ptr 0 0)]
                  [Blk.box
                      [AV.sl 1
                          (nth PV.nilp
                              (List.map AV.toPV (nth (Blk.box []) r.snd 0).toCs) 0).toEs,
                        AV.int IntKind.i64
                          (nth PV.nilp
                              (List.map AV.toPV (nth (Blk.box []) r.snd 0).toCs) 1).toInt]])
                fun (r : Res) =>
                ctl
                  (okR [RSh.one (Sh.int IntKind.i64)] r.fst &&
                    okB [Sum.inl [Sh.sl 1, Sh.int IntKind.i64]] r.snd)
                  (Option.some
                    ([RV.agg
                          [PV.int IntKind.i64 x0, PV.int IntKind.i64 x1, PV.int IntKind.i64 x2,
                            PV.int IntKind.i64
                              (nth (RV.p PV.nilp) r.fst 0).toPV.toInt,
                            PV.int IntKind.i64 x4, PV.int IntKind.i64 x5]],
                      [Blk.box
                          [AV.sl 1
                              (nth PV.nilp
                                  (List.map AV.toPV (nth (Blk.box []) r.snd 0).toCs) 0).toEs,
                            AV.int IntKind.i64
                              (nth PV.nilp
                                  (List.map AV.toPV (nth (Blk.box []) r.snd 0).toCs) 1).toInt]]))
                  Option.none)
              (ctl ((nth (RV.p PV.nilp) r.fst 0).toPV.toInt == 4)
                (bnd
                  (F 30 [AV.t (TV.ptr 0 0)]
                    [Blk.box
                        [AV.sl 1
                            (nth PV.nilp
                                (List.map AV.toPV (nth (Blk.box []) r.snd 0).toCs) 0).toEs,
                          AV.int IntKind.i64
                            (nth PV.nilp
                                (List.map AV.toPV (nth (Blk.box []) r.snd 0).toCs) 1).toInt]])
                  fun (r : Res) =>
                  ctl
                    (okR [RSh.one (Sh.int IntKind.i64)] r.fst &&
                      okB [Sum.inl [Sh.sl 1, Sh.int IntKind.i64]] r.snd)
                    (Option.some
                      ([RV.agg
                            [PV.int IntKind.i64 x0, PV.int IntKind.i64 x1, PV.int IntKind.i64 x2,
                              PV.int IntKind.i64 x3,
                              PV.int IntKind.i64
                                (nth (RV.p PV.nilp) r.fst 0).toPV.toInt,
                              PV.int IntKind.i64 x5]],
                        [Blk.box
                            [AV.sl 1
                                (nth PV.nilp
                                    (List.map AV.toPV (nth (Blk.box []) r.snd 0).toCs) 0).toEs,
                              AV.int IntKind.i64
                                (nth PV.nilp
                                    (List.map AV.toPV (nth (Blk.box []) r.snd 0).toCs) 1).toInt]]))
                    Option.none)
                (bnd
                  (F 30 [AV.t (TV.ptr 0 0)]
                    [Blk.box
                        [AV.sl 1
                            (nth PV.nilp
                                (List.map AV.toPV (nth (Blk.box []) r.snd 0).toCs) 0).toEs,
                          AV.int IntKind.i64
                            (nth PV.nilp
                                (List.map AV.toPV (nth (Blk.box []) r.snd 0).toCs) 1).toInt]])
                  fun (r : Res) =>
                  ctl
                    (okR [RSh.one (Sh.int IntKind.i64)] r.fst &&
                      okB [Sum.inl [Sh.sl 1, Sh.int IntKind.i64]] r.snd)
                    (Option.some
                      ([RV.agg
                            [PV.int IntKind.i64 x0, PV.int IntKind.i64 x1, PV.int IntKind.i64 x2,
                              PV.int IntKind.i64 x3, PV.int IntKind.i64 x4,
                              PV.int IntKind.i64
                                (nth (RV.p PV.nilp) r.fst 0).toPV.toInt]],
                        [Blk.box
                            [AV.sl 1
                                (nth PV.nilp
                                    (List.map AV.toPV (nth (Blk.box []) r.snd 0).toCs) 0).toEs,
                              AV.int IntKind.i64
                                (nth PV.nilp
                                    (List.map AV.toPV (nth (Blk.box []) r.snd 0).toCs) 1).toInt]]))
                    Option.none))))))
      Option.none := by kernel_rfl

/-- dynpos/dynposref06.Write, the loop of block 0 -/
theorem r12_0 (F : Fun) (x27 : List (List PV)) (x28 : Int) (x29 : Int) (b0_0 : Int) (b0_1 : Int) (b0_2 : Int) (b0_3 : Int) (b0_4 : Int) (b0_5 : Int) (b1_0 : List (List PV)) (c2 : List (List PV)) : lp E F 12 0 [] 0
  { vals := [AV.sl 1 x27, AV.int IntKind.i64 x28, AV.int IntKind.i64 x29],
    blks :=
      [Blk.box
          [AV.int IntKind.i64 b0_0, AV.int IntKind.i64 b0_1, AV.int IntKind.i64 b0_2,
            AV.int IntKind.i64 b0_3, AV.int IntKind.i64 b0_4, AV.int IntKind.i64 b0_5],
        Blk.box [AV.sl 1 b1_0], Blk.arr 1 c2] } =
  ctl (ltB x29 x28)
    (getE x27 x29 fun (c : List PV) =>
      ctl (okCs [Sh.int IntKind.i64] c)
        (bnd (F 32 [AV.int IntKind.i64 b0_0] []) fun (r : Res) =>
          ctl
            (okR [RSh.one (Sh.int IntKind.i64)] r.fst && okB [] r.snd)
            (ctl
              (ltB x29 (nth (RV.p PV.nilp) r.fst 0).toPV.toInt)
              (bnd (F 23 [AV.int IntKind.i64 (nth PV.nilp c 0).toInt] [])
                fun (r : Res) =>
                ctl
                  (okR [RSh.one Sh.str] r.fst && okB [] r.snd)
                  (ctl (leN ((c2.length + 1) * 16) 140737488355328)
                    (lp E F 12 0 [] 0
                      {
                        vals :=
                          [AV.sl 1 x27, AV.int IntKind.i64 x28,
                            AV.int IntKind.i64 (IntKind.i64.wrap (x29 + 1))],
                        blks :=
                          [Blk.box
                              [AV.int IntKind.i64 b0_0, AV.int IntKind.i64 b0_1, AV.int IntKind.i64 b0_2,
                                AV.int IntKind.i64 b0_3, AV.int IntKind.i64 b0_4, AV.int IntKind.i64 b0_5],
                            Blk.box [AV.sl 1 b1_0],
                            Blk.arr 1
                              (c2 ++
                                [[PV.str
                                      (nth (RV.p PV.nilp) r.fst 0).toPV.toStr]])] })
                    Option.none)
                  Option.none)
              (lp E F 12 0 [] 0
                {
                  vals :=
                    [AV.sl 1 x27, AV.int IntKind.i64 x28, AV.int IntKind.i64 (IntKind.i64.wrap (x29 + 1))],
                  blks :=
                    [Blk.box
                        [AV.int IntKind.i64 b0_0, AV.int IntKind.i64 b0_1, AV.int IntKind.i64 b0_2,
                          AV.int IntKind.i64 b0_3, AV.int IntKind.i64 b0_4, AV.int IntKind.i64 b0_5],
                      Blk.box [AV.sl 1 b1_0], Blk.arr 1 c2] }))
            Option.none)
        Option.none)
    (Option.some
      (Ex.exit 0, { vals := [], blks := [Blk.box [AV.sl 1 b1_0], Blk.arr 1 c2] })) := (lp_unfold ..).trans (by kernel_rfl)

/-- dynpos/dynposref06.Write -/
theorem r12 (F : Fun) (s0 : Int) (s1 : Int) (s2 : Int) (s3 : Int) (s4 : Int) (s5 : Int) : funK E F 12 [AV.agg
    [PV.int IntKind.i64 s0, PV.int IntKind.i64 s1, PV.int IntKind.i64 s2,
      PV.int IntKind.i64 s3, PV.int IntKind.i64 s4, PV.int IntKind.i64 s5]] [] =
  bnd
    (F 14
      [AV.agg
          [PV.int IntKind.i64 s0, PV.int IntKind.i64 s1, PV.int IntKind.i64 s2,
            PV.int IntKind.i64 s3, PV.int IntKind.i64 s4, PV.int IntKind.i64 s5]]
      [])
    fun (r : Res) =>
    ctl
      (okR [RSh.one Sh.bool] r.fst && okB [] r.snd)
      (ctl (!(nth (RV.p PV.nilp) r.fst 0).toPV.toBool)
        (Option.some ([RV.agg [PV.nils], RV.p (PV.int IntKind.i64 5)], []))
        (bnd (F 31 [AV.int IntKind.i64 s0] []) fun (r : Res) =>
          ctl
            (okR [RSh.one Sh.str] r.fst && okB [] r.snd)
            (bnd (F 23 [AV.int IntKind.i64 s1] []) fun (r_1 : Res) =>
              ctl
                (okR [RSh.one Sh.str] r_1.fst && okB [] r_1.snd)
                (bnd (F 23 [AV.int IntKind.i64 s2] []) fun (r_2 : Res) =>
                  ctl
                    (okR [RSh.one Sh.str] r_2.fst && okB [] r_2.snd)
                    (bnd
                      (lp E F 12 0 [] 0
                        {
                          vals :=
                            [AV.sl 1
                                [[PV.int IntKind.i64 s3], [PV.int IntKind.i64 s4], [PV.int IntKind.i64 s5]],
                              AV.int IntKind.i64 3, AV.int IntKind.i64 0],
                          blks :=
                            [Blk.box
                                [AV.int IntKind.i64 s0, AV.int IntKind.i64 s1, AV.int IntKind.i64 s2,
                                  AV.int IntKind.i64 s3, AV.int IntKind.i64 s4, AV.int IntKind.i64 s5],
                              Blk.box [AV.sl 1 []],
                              Blk.arr 1
                                [[PV.str (nth (RV.p PV.nilp) r.fst 0).toPV.toStr],
                                  [PV.str
                                      (nth (RV.p PV.nilp) r_1.fst 0).toPV.toStr],
                                  [PV.str
                                      (nth (RV.p PV.nilp) r_2.fst 0).toPV.toStr]]] })
                      fun (p : Ex × Pack) =>
                      ctl (p.fst.eqb (Ex.exit 0))
                        (ctl
                          (okPack
                            {
                              slots :=
                                [(2, Sum.inr (Sum.inr (AV.t (TV.ptr 0 0)))),
                                  (4, Sum.inr (Sum.inr (AV.t (TV.hsl 1))))],
                              blks := [Sum.inl [Sum.inl (Sh.sl 1)], Sum.inr 1] }
                            p.snd)
                          (Option.some
                            ([RV.agg
                                  [PV.sl 1 (nth (Blk.box []) p.snd.blks 1).toEs],
                                RV.p (PV.int IntKind.i64 0)],
                              []))
                          Option.none)
                        Option.none)
                    Option.none)
                Option.none)
            Option.none))
      Option.none := by kernel_rfl

/-- dynpos/signal.Valid, the loop of block 0 -/
theorem r13_0 (F : Fun) (spans4 : List (List PV)) (x45 : List (List PV)) (x46 : Int) (x47 : Int) : lp E F 13 0 [] 0
  {
    vals :=
      [AV.sl 2 spans4, AV.sl 1 x45, AV.int IntKind.i64 x46,
        AV.int IntKind.i64 x47],
    blks := [] } =
  ctl (ltB x47 x46)
    (getE x45 x47 fun (c : List PV) =>
      ctl (okCs [Sh.int IntKind.i64] c)
        (bnd
          (ctl (ltB x47 (↑spans4.length : Int))
            (getE spans4 x47 fun (c_1 : List PV) =>
              ctl (okCs [Sh.int IntKind.i64, Sh.int IntKind.i64] c_1)
                (bnd
                  (F 34
                    [AV.agg
                        [PV.int IntKind.i64 (nth PV.nilp c_1 0).toInt,
                          PV.int IntKind.i64 (nth PV.nilp c_1 1).toInt],
                      AV.int IntKind.i64 (nth PV.nilp c 0).toInt]
                    [])
                  fun (r : Res) =>
                  ctl
                    (okR [RSh.one Sh.bool] r.fst && okB [] r.snd)
                    (Option.some !(nth (RV.p PV.nilp) r.fst 0).toPV.toBool) Option.none)
                Option.none)
            (Option.some Bool.false))
          fun (v : Bool) =>
          bnd
            (ctl (!v)
              (ctl (leB (↑spans4.length : Int) x47)
                (Option.some ((nth PV.nilp c 0).toInt != 0)) (Option.some Bool.false))
              (Option.some Bool.true))
            fun (v : Bool) =>
            ctl v (Option.some (Ex.ret, { vals := [AV.bool Bool.false], blks := [] }))
              (lp E F 13 0 [] 0
                {
                  vals :=
                    [AV.sl 2 spans4, AV.sl 1 x45, AV.int IntKind.i64 x46,
                      AV.int IntKind.i64 (IntKind.i64.wrap (x47 + 1))],
                  blks := [] }))
        Option.none)
    (Option.some (Ex.exit 0, { vals := [], blks := [] })) := (lp_unfold ..).trans (by kernel_rfl)

/-- dynpos/signal.Valid -/
theorem r13 (F : Fun) (s0 : Int) (s1 : Int) (s2 : Int) (s3 : Int) (s4 : Int) (s5 : Int) : funK E F 13 [AV.agg
    [PV.int IntKind.i64 s0, PV.int IntKind.i64 s1, PV.int IntKind.i64 s2,
      PV.int IntKind.i64 s3, PV.int IntKind.i64 s4, PV.int IntKind.i64 s5]] [] =
  bnd (F 33 [] []) fun (r : Res) =>
    ctl
      (okR [RSh.one (Sh.sl 2)] r.fst && okB [] r.snd)
      (bnd
        (ctl (!ltB s0 1)
          (Option.some
            (ltB (↑(nth (RV.p PV.nilp) r.fst 0).toPV.toEs.length : Int) s0))
          (Option.some Bool.true))
        fun (v : Bool) =>
        ctl (!v)
          (bnd
            (bnd
              (F 34
                [AV.agg [PV.int IntKind.i64 0, PV.int IntKind.i64 99],
                  AV.int IntKind.i64 s1]
                [])
              fun (r : Res) =>
              ctl
                (okR [RSh.one Sh.bool] r.fst && okB [] r.snd)
                (Option.some !(nth (RV.p PV.nilp) r.fst 0).toPV.toBool) Option.none)
            fun (v : Bool) =>
            ctl (!v)
              (bnd
                (bnd
                  (F 34
                    [AV.agg [PV.int IntKind.i64 0, PV.int IntKind.i64 2147483648],
                      AV.int IntKind.i64 s2]
                    [])
                  fun (r : Res) =>
                  ctl
                    (okR [RSh.one Sh.bool] r.fst && okB [] r.snd)
                    (Option.some !(nth (RV.p PV.nilp) r.fst 0).toPV.toBool) Option.none)
                fun (v : Bool) =>
                ctl v (Option.some ([RV.p (PV.bool Bool.false)], []))
                  (getE (nth (RV.p PV.nilp) r.fst 0).toPV.toEs
                    (IntKind.i64.wrap (s0 - 1)) fun (c : List PV) =>
                    ctl (okCs [Sh.str, Sh.sl 2] c)
                      (bnd
                        (lp E F 13 0 [] 0
                          {
                            vals :=
                              [AV.sl 2 (nth PV.nilp c 1).toEs,
                                AV.sl 1
                                  [[PV.int IntKind.i64 s3], [PV.int IntKind.i64 s4],
                                    [PV.int IntKind.i64 s5]],
                                AV.int IntKind.i64 3, AV.int IntKind.i64 0],
                            blks := [] })
                        fun (p : Ex × Pack) =>
                        ctl (p.fst.eqb (Ex.exit 0))
                          (Option.some ([RV.p (PV.bool Bool.true)], []))
                          (ctl (p.fst.eqb Ex.ret)
                            (ctl (okPack { slots := [(2, Sum.inl Sh.bool)], blks := [] } p.snd)
                              (Option.some
                                ([RV.p
                                      (PV.bool (nth AV.undef p.snd.vals 0).toPV.toBool)],
                                  []))
                              Option.none)
                            Option.none))
                      Option.none))
              (Option.some ([RV.p (PV.bool Bool.false)], [])))
          (Option.some ([RV.p (PV.bool Bool.false)], [])))
      Option.none := by kernel_rfl

/-- dynpos/dynposref06.Valid -/
theorem r14 (F : Fun) (s0 : Int) (s1 : Int) (s2 : Int) (s3 : Int) (s4 : Int) (s5 : Int) : funK E F 14 [AV.agg
    [PV.int IntKind.i64 s0, PV.int IntKind.i64 s1, PV.int IntKind.i64 s2,
      PV.int IntKind.i64 s3, PV.int IntKind.i64 s4, PV.int IntKind.i64 s5]] [] =
  bnd
    (F 35 [AV.int IntKind.i64 s1, AV.int IntKind.i64 0, AV.int IntKind.i64 99] [])
    fun (r : Res) =>
    ctl
      (okR [RSh.one Sh.bool] r.fst && okB [] r.snd)
      (bnd
        (ctl (!!(nth (RV.p PV.nilp) r.fst 0).toPV.toBool)
          (bnd
            (F 35 [AV.int IntKind.i64 s2, AV.int IntKind.i64 0, AV.int IntKind.i64 2147483648] [])
            fun (r : Res) =>
            ctl
              (okR [RSh.one Sh.bool] r.fst && okB [] r.snd)
              (Option.some !(nth (RV.p PV.nilp) r.fst 0).toPV.toBool) Option.none)
          (Option.some Bool.true))
        fun (v : Bool) =>
        ctl v (Option.some ([RV.p (PV.bool Bool.false)], []))
          (ctl (s0 == 1)
            (bnd
              (F 35 [AV.int IntKind.i64 s3, AV.int IntKind.i64 (-100000000), AV.int IntKind.i64 100000000]
                [])
              fun (r : Res) =>
              ctl
                (okR [RSh.one Sh.bool] r.fst && okB [] r.snd)
                (bnd
                  (ctl (nth (RV.p PV.nilp) r.fst 0).toPV.toBool
                    (bnd
                      (F 35
                        [AV.int IntKind.i64 s4, AV.int IntKind.i64 (-100000000),
                          AV.int IntKind.i64 100000000]
                        [])
                      fun (r : Res) =>
                      ctl
                        (okR [RSh.one Sh.bool] r.fst && okB [] r.snd)
                        (Option.some (nth (RV.p PV.nilp) r.fst 0).toPV.toBool) Option.none)
                    (Option.some Bool.false))
                  fun (v : Bool) =>
                  bnd
                    (ctl v
                      (bnd
                        (F 35 [AV.int IntKind.i64 s5, AV.int IntKind.i64 1, AV.int IntKind.i64 100000] [])
                        fun (r : Res) =>
                        ctl
                          (okR [RSh.one Sh.bool] r.fst && okB [] r.snd)
                          (Option.some (nth (RV.p PV.nilp) r.fst 0).toPV.toBool) Option.none)
                      (Option.some Bool.false))
                    fun (v : Bool) => Option.some ([RV.p (PV.bool v)], []))
                Option.none)
            (ctl (s0 == 2)
              (bnd
                (F 35 [AV.int IntKind.i64 s3, AV.int IntKind.i64 0, AV.int IntKind.i64 3599] [])
                fun (r : Res) =>
                ctl
                  (okR [RSh.one Sh.bool] r.fst && okB [] r.snd)
                  (bnd
                    (ctl (nth (RV.p PV.nilp) r.fst 0).toPV.toBool
                      (Option.some (s4 == 0)) (Option.some Bool.false))
                    fun (v : Bool) =>
                    bnd (ctl v (Option.some (s5 == 0)) (Option.some Bool.false)) fun (v : Bool) =>
                      Option.some ([RV.p (PV.bool v)], []))
                  Option.none)
              (ctl (s0 == 3)
                (bnd
                  (F 35 [AV.int IntKind.i64 s3, AV.int IntKind.i64 0, AV.int IntKind.i64 3599] [])
                  fun (r : Res) =>
                  ctl
                    (okR [RSh.one Sh.bool] r.fst && okB [] r.snd)
                    (bnd
                      (ctl (nth (RV.p PV.nilp) r.fst 0).toPV.toBool
                        (bnd
                          (F 35 [AV.int IntKind.i64 s4, AV.int IntKind.i64 0, AV.int IntKind.i64 10000] [])
                          fun (r : Res) =>
                          ctl
                            (okR [RSh.one Sh.bool] r.fst && okB [] r.snd)
                            (Option.some (nth (RV.p PV.nilp) r.fst 0).toPV.toBool) Option.none)
                        (Option.some Bool.false))
                      fun (v : Bool) =>
                      bnd (ctl v (Option.some (s5 == 0)) (Option.some Bool.false)) fun (v : Bool) =>
                        Option.some ([RV.p (PV.bool v)], []))
                    Option.none)
                (ctl (s0 == 4)
                  (bnd
                    (F 35 [AV.int IntKind.i64 s3, AV.int IntKind.i64 0, AV.int IntKind.i64 5000] [])
                    fun (r : Res) =>
                    ctl
                      (okR [RSh.one Sh.bool] r.fst && okB [] r.snd)
                      (bnd
                        (ctl (nth (RV.p PV.nilp) r.fst 0).toPV.toBool
                          (bnd
                            (F 35 [AV.int IntKind.i64 s4, AV.int IntKind.i64 0, AV.int IntKind.i64 3599] [])
                            fun (r : Res) =>
                            ctl
                              (okR [RSh.one Sh.bool] r.fst && okB [] r.snd)
                              (Option.some (nth (RV.p PV.nilp) r.fst 0).toPV.toBool) Option.none)
                          (Option.some Bool.false))
                        fun (v : Bool) =>
                        bnd (ctl v (Option.some (s5 == 0)) (Option.some Bool.false)) fun (v : Bool) =>
                          Option.some ([RV.p (PV.bool v)], []))
                      Option.none)
                  (ctl (s0 == 5)
                    (bnd
                      (F 35 [AV.int IntKind.i64 s3, AV.int IntKind.i64 0, AV.int IntKind.i64 1] [])
                      fun (r : Res) =>
                      ctl
                        (okR [RSh.one Sh.bool] r.fst && okB [] r.snd)
                        (bnd
                          (ctl (nth (RV.p PV.nilp) r.fst 0).toPV.toBool
                            (Option.some (s4 == 0)) (Option.some Bool.false))
                          fun (v : Bool) =>
                          bnd (ctl v (Option.some (s5 == 0)) (Option.some Bool.false)) fun (v : Bool) =>
                            Option.some ([RV.p (PV.bool v)], []))
                        Option.none)
                    (ctl (s0 == 6)
                      (bnd
                        (F 35 [AV.int IntKind.i64 s3, AV.int IntKind.i64 0, AV.int IntKind.i64 50000] [])
                        fun (r : Res) =>
                        ctl
                          (okR [RSh.one Sh.bool] r.fst && okB [] r.snd)
                          (bnd
                            (ctl (nth (RV.p PV.nilp) r.fst 0).toPV.toBool
                              (bnd
                                (F 35 [AV.int IntKind.i64 s4, AV.int IntKind.i64 0, AV.int IntKind.i64 6000]
                                  [])
                                fun (r : Res) =>
                                ctl
                                  (okR [RSh.one Sh.bool] r.fst && okB [] r.snd)
                                  (Option.some (nth (RV.p PV.nilp) r.fst 0).toPV.toBool) Option.none)
                              (Option.some Bool.false))
                            fun (v : Bool) =>
                            bnd
                              (ctl v
                                (bnd
                                  (F 35
                                    [AV.int IntKind.i64 s5, AV.int IntKind.i64 0, AV.int IntKind.i64 3599]
                                    [])
                                  fun (r : Res) =>
                                  ctl
                                    (okR [RSh.one Sh.bool] r.fst && okB [] r.snd)
                                    (Option.some (nth (RV.p PV.nilp) r.fst 0).toPV.toBool) Option.none)
                                (Option.some Bool.false))
                              fun (v : Bool) => Option.some ([RV.p (PV.bool v)], []))
                          Option.none)
                      (Option.some ([RV.p (PV.bool Bool.false)], [])))))))))
      Option.none := by kernel_rfl

/-- dynpos/dynposref04.Same -/
theorem r15 (F : Fun) (a0 : List (List PV)) (b0 : List (List PV)) : funK E F 15 [AV.agg [PV.sl 1 a0], AV.agg [PV.sl 1 b0]] [] =
  bnd (F 29 [AV.sl 1 a0, AV.sl 1 b0] []) fun (r : Res) =>
    ctl
      (okR [RSh.one Sh.bool] r.fst && okB [] r.snd)
      (Option.some
        ([RV.p
              (PV.bool (nth (RV.p PV.nilp) r.fst 0).toPV.toBool)],
          []))
      Option.none := by kernel_rfl

/-- (*dynpos/dynposmake.Src).Text -/
theorem r16 (F : Fun) (s0 : List (List PV)) (s1 : Int) (l : List (List PV)) : funK E F 16 [AV.t (TV.ptr 0 0), AV.sl 1 l] [Blk.box [AV.sl 1 s0, AV.int IntKind.i64 s1]] =
  bnd
    (F 17 [AV.t (TV.ptr 0 0), AV.int IntKind.i64 (↑l.length : Int)]
      [Blk.box [AV.sl 1 s0, AV.int IntKind.i64 s1]])
    fun (r : Res) =>
    ctl
      (okR [RSh.one (Sh.int IntKind.i64)] r.fst &&
        okB [Sum.inl [Sh.sl 1, Sh.int IntKind.i64]] r.snd)
      (getE l (nth (RV.p PV.nilp) r.fst 0).toPV.toInt
        fun (c : List PV) =>
        ctl (okCs [Sh.str] c)
          (Option.some
            ([RV.p (PV.str (nth PV.nilp c 0).toStr)],
              [Blk.box
                  [AV.sl 1
                      (nth PV.nilp
                          (List.map AV.toPV (nth (Blk.box []) r.snd 0).toCs) 0).toEs,
                    AV.int IntKind.i64
                      (nth PV.nilp
                          (List.map AV.toPV (nth (Blk.box []) r.snd 0).toCs) 1).toInt]]))
          Option.none)
      Option.none := by kernel_rfl

/-- (*dynpos/dynposmake.Src).N -/
theorem r17 (F : Fun) (s0 : List (List PV)) (s1 : Int) (n : Int) : funK E F 17 [AV.t (TV.ptr 0 0), AV.int IntKind.i64 n] [Blk.box [AV.sl 1 s0, AV.int IntKind.i64 s1]] =
  ctl (leB (↑s0.length : Int) s1)
    (Option.some
      ([RV.p (PV.int IntKind.i64 0)],
        [Blk.box [AV.sl 1 s0, AV.int IntKind.i64 s1]]))
    (getE s0 (IntKind.i64.wrap (IntKind.i64.wrap (s1 + 1) - 1)) fun (c : List PV) =>
      ctl (okCs [Sh.int IntKind.i64] c)
        (bnd
          (F 36
            [AV.int IntKind.i64 (nth PV.nilp c 0).toInt,
              AV.int IntKind.i64 n]
            [])
          fun (r : Res) =>
          ctl
            (okR [RSh.one (Sh.int IntKind.i64)] r.fst && okB [] r.snd)
            (Option.some
              ([RV.p
                    (PV.int IntKind.i64
                      (nth (RV.p PV.nilp) r.fst 0).toPV.toInt)],
                [Blk.box [AV.sl 1 s0, AV.int IntKind.i64 (IntKind.i64.wrap (s1 + 1))]]))
            Option.none)
        Option.none) := by kernel_rfl

/-- dynpos/signal.Read, the loop of block 0 -/
theorem r18_0 (F : Fun) (x23 : List (List PV)) (x24 : Int) (x25 : Int) (b0_0 : List (List PV)) (b1_0 : Int) (b1_1 : Int) (b1_2 : Int) (b1_3 : Int) (b1_4 : Int) (b1_5 : Int) (b2_0 : Int) (b2_1 : Int) (b2_2 : Int) (b2_3 : Int) (b2_4 : Int) : lp E F 18 0 [] 0
  { vals := [AV.sl 1 x23, AV.int IntKind.i64 x24, AV.int IntKind.i64 x25],
    blks :=
      [Blk.box [AV.sl 1 b0_0],
        Blk.box
          [AV.int IntKind.i64 b1_0, AV.int IntKind.i64 b1_1, AV.int IntKind.i64 b1_2,
            AV.int IntKind.i64 b1_3, AV.int IntKind.i64 b1_4, AV.int IntKind.i64 b1_5],
        Blk.box
          [AV.int IntKind.i64 b2_0, AV.int IntKind.i64 b2_1, AV.int IntKind.i64 b2_2,
            AV.int IntKind.i64 b2_3, AV.int IntKind.i64 b2_4]] } =
  ctl (ltB x25 x24)
    (getE x23 x25 fun (c : List PV) =>
      ctl (okCs [Sh.str] c)
        (bnd (F 21 [AV.str (nth PV.nilp c 0).toStr] [])
          fun (r : Res) =>
          ctl
            (okR
                [RSh.one (Sh.int IntKind.i64), RSh.one Sh.bool] r.fst &&
              okB [] r.snd)
            (ctl (!(nth (RV.p PV.nilp) r.fst 1).toPV.toBool)
              (Option.some
                (Ex.ret,
                  { vals := [AV.int IntKind.i64 5],
                    blks :=
                      [Blk.box
                          [AV.int IntKind.i64 0, AV.int IntKind.i64 0, AV.int IntKind.i64 0,
                            AV.int IntKind.i64 0, AV.int IntKind.i64 0, AV.int IntKind.i64 0]] }))
              (ctl (x25 == 0)
                (lp E F 18 0 [] 0
                  {
                    vals :=
                      [AV.sl 1 x23, AV.int IntKind.i64 x24,
                        AV.int IntKind.i64 (IntKind.i64.wrap (x25 + 1))],
                    blks :=
                      [Blk.box [AV.sl 1 b0_0],
                        Blk.box
                          [AV.int IntKind.i64 b1_0, AV.int IntKind.i64 b1_1, AV.int IntKind.i64 b1_2,
                            AV.int IntKind.i64 b1_3, AV.int IntKind.i64 b1_4, AV.int IntKind.i64 b1_5],
                        Blk.box
                          [AV.int IntKind.i64
                              (nth (RV.p PV.nilp) r.fst 0).toPV.toInt,
                            AV.int IntKind.i64 b2_1, AV.int IntKind.i64 b2_2, AV.int IntKind.i64 b2_3,
                            AV.int IntKind.i64 b2_4]] })
                (ctl (x25 == 1)
                  (lp E F 18 0 [] 0
                    {
                      vals :=
                        [AV.sl 1 x23, AV.int IntKind.i64 x24,
                          AV.int IntKind.i64 (IntKind.i64.wrap (x25 + 1))],
                      blks :=
                        [Blk.box [AV.sl 1 b0_0],
                          Blk.box
                            [AV.int IntKind.i64 b1_0, AV.int IntKind.i64 b1_1, AV.int IntKind.i64 b1_2,
                              AV.int IntKind.i64 b1_3, AV.int IntKind.i64 b1_4, AV.int IntKind.i64 b1_5],
                          Blk.box
                            [AV.int IntKind.i64 b2_0,
                              AV.int IntKind.i64
                                (nth (RV.p PV.nilp) r.fst 0).toPV.toInt,
                              AV.int IntKind.i64 b2_2, AV.int IntKind.i64 b2_3, AV.int IntKind.i64 b2_4]] })
                  (ctl (x25 == 2)
                    (lp E F 18 0 [] 0
                      {
                        vals :=
                          [AV.sl 1 x23, AV.int IntKind.i64 x24,
                            AV.int IntKind.i64 (IntKind.i64.wrap (x25 + 1))],
                        blks :=
                          [Blk.box [AV.sl 1 b0_0],
                            Blk.box
                              [AV.int IntKind.i64 b1_0, AV.int IntKind.i64 b1_1, AV.int IntKind.i64 b1_2,
                                AV.int IntKind.i64 b1_3, AV.int IntKind.i64 b1_4, AV.int IntKind.i64 b1_5],
                            Blk.box
                              [AV.int IntKind.i64 b2_0, AV.int IntKind.i64 b2_1,
                                AV.int IntKind.i64
                                  (nth (RV.p PV.nilp) r.fst 0).toPV.toInt,
                                AV.int IntKind.i64 b2_3, AV.int IntKind.i64 b2_4]] })
                    (ctl (x25 == 3)
                      (lp E F 18 0 [] 0
                        {
                          vals :=
                            [AV.sl 1 x23, AV.int IntKind.i64 x24,
                              AV.int IntKind.i64 (IntKind.i64.wrap (x25 + 1))],
                          blks :=
                            [Blk.box [AV.sl 1 b0_0],
                              Blk.box
                                [AV.int IntKind.i64 b1_0, AV.int IntKind.i64 b1_1, AV.int IntKind.i64 b1_2,
                                  AV.int IntKind.i64 b1_3, AV.int IntKind.i64 b1_4,
                                  AV.int IntKind.i64 b1_5],
                              Blk.box
                                [AV.int IntKind.i64 b2_0, AV.int IntKind.i64 b2_1, AV.int IntKind.i64 b2_2,
                                  AV.int IntKind.i64
                                    (nth (RV.p PV.nilp) r.fst 0).toPV.toInt,
                                  AV.int IntKind.i64 b2_4]] })
                      (ctl (x25 == 4)
                        (lp E F 18 0 [] 0
                          {
                            vals :=
                              [AV.sl 1 x23, AV.int IntKind.i64 x24,
                                AV.int IntKind.i64 (IntKind.i64.wrap (x25 + 1))],
                            blks :=
                              [Blk.box [AV.sl 1 b0_0],
                                Blk.box
                                  [AV.int IntKind.i64 b1_0, AV.int IntKind.i64 b1_1,
                                    AV.int IntKind.i64 b1_2, AV.int IntKind.i64 b1_3,
                                    AV.int IntKind.i64 b1_4, AV.int IntKind.i64 b1_5],
                                Blk.box
                                  [AV.int IntKind.i64 b2_0, AV.int IntKind.i64 b2_1,
                                    AV.int IntKind.i64 b2_2, AV.int IntKind.i64 b2_3,
                                    AV.int IntKind.i64
                                      (nth (RV.p PV.nilp) r.fst 0).toPV.toInt]] })
                        Option.none))))))
            Option.none)
        Option.none)
    (Option.some
      (Ex.exit 0,
        { vals := [],
          blks :=
            [Blk.box [AV.sl 1 b0_0],
              Blk.box
                [AV.int IntKind.i64 b1_0, AV.int IntKind.i64 b1_1, AV.int IntKind.i64 b1_2,
                  AV.int IntKind.i64 b1_3, AV.int IntKind.i64 b1_4, AV.int IntKind.i64 b1_5],
              Blk.box
                [AV.int IntKind.i64 b2_0, AV.int IntKind.i64 b2_1, AV.int IntKind.i64 b2_2,
                  AV.int IntKind.i64 b2_3, AV.int IntKind.i64 b2_4]] })) := (lp_unfold ..).trans (by kernel_rfl)

/-- dynpos/signal.Read -/
theorem r18 (F : Fun) (s0 : List (List PV)) : funK E F 18 [AV.agg [PV.sl 1 s0]] [] =
  bnd (F 37 [AV.agg [PV.sl 1 s0]] []) fun (r : Res) =>
    ctl
      (okR [RSh.one Sh.bool] r.fst && okB [] r.snd)
      (bnd
        (ctl (!!(nth (RV.p PV.nilp) r.fst 0).toPV.toBool)
          (Option.some (ltB 6 (↑s0.length : Int))) (Option.some Bool.true))
        fun (v : Bool) =>
        ctl v
          (Option.some
            ([RV.agg
                  [PV.int IntKind.i64 0, PV.int IntKind.i64 0, PV.int IntKind.i64 0,
                    PV.int IntKind.i64 0, PV.int IntKind.i64 0, PV.int IntKind.i64 0],
                RV.p (PV.int IntKind.i64 5)],
              []))
          (ctl (Bool.true && (leB 1 (↑s0.length : Int) && leB (↑s0.length : Int) (↑s0.length : Int)))
            (bnd
              (lp E F 18 0 [] 0
                {
                  vals :=
                    [AV.sl 1 (cutI s0 1 (↑s0.length : Int)),
                      AV.int IntKind.i64 (↑(cutI s0 1 (↑s0.length : Int)).length : Int), AV.int IntKind.i64 0],
                  blks :=
                    [Blk.box [AV.sl 1 s0],
                      Blk.box
                        [AV.int IntKind.i64 0, AV.int IntKind.i64 0, AV.int IntKind.i64 0,
                          AV.int IntKind.i64 0, AV.int IntKind.i64 0, AV.int IntKind.i64 0],
                      Blk.box
                        [AV.int IntKind.i64 0, AV.int IntKind.i64 0, AV.int IntKind.i64 0,
                          AV.int IntKind.i64 0, AV.int IntKind.i64 0]] })
              fun (p : Ex × Pack) =>
              ctl (p.fst.eqb (Ex.exit 0))
                (ctl
                  (okPack
                    {
                      slots :=
                        [(1, Sum.inr (Sum.inr (AV.t (TV.ptr 0 0)))),
                          (2, Sum.inr (Sum.inr (AV.t (TV.ptr 1 0)))),
                          (4, Sum.inr (Sum.inr (AV.t (TV.ptr 2 0))))],
                      blks :=
                        [Sum.inl [Sum.inl (Sh.sl 1)],
                          Sum.inl
                            [Sum.inl (Sh.int IntKind.i64), Sum.inl (Sh.int IntKind.i64),
                              Sum.inl (Sh.int IntKind.i64), Sum.inl (Sh.int IntKind.i64),
                              Sum.inl (Sh.int IntKind.i64), Sum.inl (Sh.int IntKind.i64)],
                          Sum.inl
                            [Sum.inl (Sh.int IntKind.i64), Sum.inl (Sh.int IntKind.i64),
                              Sum.inl (Sh.int IntKind.i64), Sum.inl (Sh.int IntKind.i64),
                              Sum.inl (Sh.int IntKind.i64)]] }
                    p.snd)
                  (bnd (F 33 [] []) fun (r : Res) =>
                    ctl
                      (okR [RSh.one (Sh.sl 2)] r.fst && okB [] r.snd)
                      (bnd
                        (F 38
                          [AV.sl 2 (nth (RV.p PV.nilp) r.fst 0).toPV.toEs,
                            AV.fn 39 [TV.ptr 0 0]]
                          [Blk.box
                              [AV.sl 1
                                  (nth AV.undef
                                        (nth (Blk.box []) p.snd.blks 0).toCs 0).toPV.toEs]])
                        fun (r : Res) =>
                        ctl
                          (okR [RSh.one (Sh.int IntKind.i64)] r.fst &&
                            okB [Sum.inl [Sh.sl 1]] r.snd)
                          (bnd
                            (F 13
                              [AV.agg
                                  [PV.int IntKind.i64
                                      (IntKind.i64.wrap (1 + (nth (RV.p PV.nilp) r.fst 0).toPV.toInt)),
                                    PV.int IntKind.i64
                                      (nth AV.undef
                                            (nth (Blk.box []) p.snd.blks 2).toCs 0).toPV.toInt,
                                    PV.int IntKind.i64
                                      (nth AV.undef
                                            (nth (Blk.box []) p.snd.blks 2).toCs 1).toPV.toInt,
                                    PV.int IntKind.i64
                                      (nth AV.undef
                                            (nth (Blk.box []) p.snd.blks 2).toCs 2).toPV.toInt,
                                    PV.int IntKind.i64
                                      (nth AV.undef
                                            (nth (Blk.box []) p.snd.blks 2).toCs 3).toPV.toInt,
                                    PV.int IntKind.i64
                                      (nth AV.undef
                                            (nth (Blk.box []) p.snd.blks 2).toCs 4).toPV.toInt]]
                              [])
                            fun (r_1 : Res) =>
                            ctl
                              (okR [RSh.one Sh.bool] r_1.fst && okB [] r_1.snd)
                              (bnd
                                (ctl
                                  (!!(nth (RV.p PV.nilp) r_1.fst 0).toPV.toBool)
                                  (bnd
                                    (F 28
                                      [AV.agg
                                          [PV.int IntKind.i64
                                              (IntKind.i64.wrap (1 + (nth (RV.p PV.nilp) r.fst 0).toPV.toInt)),
                                            PV.int IntKind.i64
                                              (nth AV.undef
                                                    (nth (Blk.box []) p.snd.blks 2).toCs 0).toPV.toInt,
                                            PV.int IntKind.i64
                                              (nth AV.undef
                                                    (nth (Blk.box []) p.snd.blks 2).toCs 1).toPV.toInt,
                                            PV.int IntKind.i64
                                              (nth AV.undef
                                                    (nth (Blk.box []) p.snd.blks 2).toCs 2).toPV.toInt,
                                            PV.int IntKind.i64
                                              (nth AV.undef
                                                    (nth (Blk.box []) p.snd.blks 2).toCs 3).toPV.toInt,
                                            PV.int IntKind.i64
                                              (nth AV.undef
                                                    (nth (Blk.box []) p.snd.blks 2).toCs 4).toPV.toInt]]
                                      [])
                                    fun (r_2 : Res) =>
                                    ctl
                                      (okR [RSh.agg [Sh.sl 1]] r_2.fst &&
                                        okB [] r_2.snd)
                                      (bnd
                                        (F 40
                                          [AV.sl 1
                                              (nth PV.nilp
                                                  (nth (RV.p PV.nilp) r_2.fst 0).toCs 0).toEs,
                                            AV.sl 1
                                              (nth PV.nilp
                                                  (List.map AV.toPV (nth (Blk.box []) r.snd 0).toCs) 0).toEs]
                                          [])
                                        fun (r : Res) =>
                                        ctl
                                          (okR [RSh.one Sh.bool] r.fst &&
                                            okB [] r.snd)
                                          (Option.some !(nth (RV.p PV.nilp) r.fst 0).toPV.toBool) Option.none)
                                      Option.none)
                                  (Option.some Bool.true))
                                fun (v : Bool) =>
                                ctl v
                                  (Option.some
                                    ([RV.agg
                                          [PV.int IntKind.i64 0, PV.int IntKind.i64 0, PV.int IntKind.i64 0,
                                            PV.int IntKind.i64 0, PV.int IntKind.i64 0,
                                            PV.int IntKind.i64 0],
                                        RV.p (PV.int IntKind.i64 5)],
                                      []))
                                  (Option.some
                                    ([RV.agg
                                          [PV.int IntKind.i64
                                              (IntKind.i64.wrap (1 + (nth (RV.p PV.nilp) r.fst 0).toPV.toInt)),
                                            PV.int IntKind.i64
                                              (nth AV.undef
                                                    (nth (Blk.box []) p.snd.blks 2).toCs 0).toPV.toInt,
                                            PV.int IntKind.i64
                                              (nth AV.undef
                                                    (nth (Blk.box []) p.snd.blks 2).toCs 1).toPV.toInt,
                                            PV.int IntKind.i64
                                              (nth AV.undef
                                                    (nth (Blk.box []) p.snd.blks 2).toCs 2).toPV.toInt,
                                            PV.int IntKind.i64
                                              (nth AV.undef
                                                    (nth (Blk.box []) p.snd.blks 2).toCs 3).toPV.toInt,
                                            PV.int IntKind.i64
                                              (nth AV.undef
                                                    (nth (Blk.box []) p.snd.blks 2).toCs 4).toPV.toInt],
                                        RV.p (PV.int IntKind.i64 0)],
                                      [])))
                              Option.none)
                          Option.none)
                      Option.none)
                  Option.none)
                (ctl (p.fst.eqb Ex.ret)
                  (ctl
                    (okPack
                      { slots := [(2, Sum.inr (Sum.inr (AV.t (TV.ptr 0 0)))), (3, Sum.inl (Sh.int IntKind.i64))],
                        blks :=
                          [Sum.inl
                              [Sum.inl (Sh.int IntKind.i64), Sum.inl (Sh.int IntKind.i64),
                                Sum.inl (Sh.int IntKind.i64), Sum.inl (Sh.int IntKind.i64),
                                Sum.inl (Sh.int IntKind.i64), Sum.inl (Sh.int IntKind.i64)]] }
                      p.snd)
                    (Option.some
                      ([RV.agg
                            [PV.int IntKind.i64
                                (nth AV.undef (nth (Blk.box []) p.snd.blks 0).toCs
                                      0).toPV.toInt,
                              PV.int IntKind.i64
                                (nth AV.undef (nth (Blk.box []) p.snd.blks 0).toCs
                                      1).toPV.toInt,
                              PV.int IntKind.i64
                                (nth AV.undef (nth (Blk.box []) p.snd.blks 0).toCs
                                      2).toPV.toInt,
                              PV.int IntKind.i64
                                (nth AV.undef (nth (Blk.box []) p.snd.blks 0).toCs
                                      3).toPV.toInt,
                              PV.int IntKind.i64
                                (nth AV.undef (nth (Blk.box []) p.snd.blks 0).toCs
                                      4).toPV.toInt,
                              PV.int IntKind.i64
                                (nth AV.undef (nth (Blk.box []) p.snd.blks 0).toCs
                                      5).toPV.toInt],
                          RV.p
                            (PV.int IntKind.i64 (nth AV.undef p.snd.vals 0).toPV.toInt)],
                        []))
                    Option.none)
                  Option.none))
            Option.none))
      Option.none := by kernel_rfl

/-- dynpos/dynposref06.Read, the loop of block 0 -/
theorem r19_0 (F : Fun) (k4 : Int) (b0_0 : List (List PV)) (b1_0 : Int) (b1_1 : Int) (b1_2 : Int) (b1_3 : Int) (b1_4 : Int) (b1_5 : Int) : lp E F 19 0 [] 0
  { vals := [AV.int IntKind.i64 k4],
    blks :=
      [Blk.box [AV.sl 1 b0_0],
        Blk.box
          [AV.int IntKind.i64 b1_0, AV.int IntKind.i64 b1_1, AV.int IntKind.i64 b1_2,
            AV.int IntKind.i64 b1_3, AV.int IntKind.i64 b1_4, AV.int IntKind.i64 b1_5]] } =
  ctl (leB k4 6)
    (bnd (F 32 [AV.int IntKind.i64 k4] []) fun (r : Res) =>
      ctl
        (okR [RSh.one (Sh.int IntKind.i64)] r.fst && okB [] r.snd)
        (bnd
          (ctl
            (!(↑b0_0.length : Int) != IntKind.i64.wrap (3 + (nth (RV.p PV.nilp) r.fst 0).toPV.toInt))
            (getE b0_0 0 fun (c : List PV) =>
              ctl (okCs [Sh.str] c)
                (bnd (F 31 [AV.int IntKind.i64 k4] []) fun (r : Res) =>
                  ctl
                    (okR [RSh.one Sh.str] r.fst && okB [] r.snd)
                    (Option.some
                      !(nth PV.nilp c 0).toStr ==
                          (nth (RV.p PV.nilp) r.fst 0).toPV.toStr)
                    Option.none)
                Option.none)
            (Option.some Bool.true))
          fun (v : Bool) =>
          ctl v
            (lp E F 19 0 [] 0
              { vals := [AV.int IntKind.i64 (IntKind.i64.wrap (k4 + 1))],
                blks :=
                  [Blk.box [AV.sl 1 b0_0],
                    Blk.box
                      [AV.int IntKind.i64 b1_0, AV.int IntKind.i64 b1_1, AV.int IntKind.i64 b1_2,
                        AV.int IntKind.i64 b1_3, AV.int IntKind.i64 b1_4, AV.int IntKind.i64 b1_5]] })
            (ctl (Bool.true && (leB 1 (↑b0_0.length : Int) && leB (↑b0_0.length : Int) (↑b0_0.length : Int)))
              (bnd
                (lp E F 19 0 [] 2
                  {
                    vals :=
                      [AV.int IntKind.i64 k4, AV.sl 1 (cutI b0_0 1 (↑b0_0.length : Int)),
                        AV.int IntKind.i64 (↑(cutI b0_0 1 (↑b0_0.length : Int)).length : Int),
                        AV.int IntKind.i64 0],
                    blks :=
                      [Blk.box [AV.sl 1 b0_0],
                        Blk.box
                          [AV.int IntKind.i64 b1_0, AV.int IntKind.i64 b1_1, AV.int IntKind.i64 b1_2,
                            AV.int IntKind.i64 b1_3, AV.int IntKind.i64 b1_4, AV.int IntKind.i64 b1_5],
                        Blk.arr 1 []] })
                fun (p : Ex × Pack) =>
                ctl (p.fst.eqb (Ex.exit 2))
                  (ctl
                    (okPack
                      {
                        slots :=
                          [(1, Sum.inr (Sum.inr (AV.t (TV.ptr 0 0)))),
                            (2, Sum.inr (Sum.inr (AV.t (TV.ptr 1 0)))), (4, Sum.inl (Sh.int IntKind.i64)),
                            (5, Sum.inr (Sum.inr (AV.t (TV.hsl 2))))],
                        blks :=
                          [Sum.inl [Sum.inl (Sh.sl 1)],
                            Sum.inl
                              [Sum.inl (Sh.int IntKind.i64), Sum.inl (Sh.int IntKind.i64),
                                Sum.inl (Sh.int IntKind.i64), Sum.inl (Sh.int IntKind.i64),
                                Sum.inl (Sh.int IntKind.i64), Sum.inl (Sh.int IntKind.i64)],
                            Sum.inr 1] }
                      p.snd)
                    (ctl
                      (leN (((nth (Blk.box []) p.snd.blks 2).toEs.length + 2) * 8) 140737488355328)
                      (ctl
                        (Bool.true &&
                          ltB 0
                            (↑((nth (Blk.box []) p.snd.blks 2).toEs ++
                                    [[PV.int IntKind.i64 0], [PV.int IntKind.i64 0]]).length :
                              Int))
                        (ctl
                          (okCs [Sh.int IntKind.i64]
                            (List.take 1
                              (List.drop 0
                                (nth []
                                  ((nth (Blk.box []) p.snd.blks 2).toEs ++
                                    [[PV.int IntKind.i64 0], [PV.int IntKind.i64 0]])
                                  0))))
                          (ctl
                            (Bool.true &&
                              ltB 1
                                (↑((nth (Blk.box []) p.snd.blks 2).toEs ++
                                        [[PV.int IntKind.i64 0], [PV.int IntKind.i64 0]]).length :
                                  Int))
                            (ctl
                              (okCs [Sh.int IntKind.i64]
                                (List.take 1
                                  (List.drop 0
                                    (nth []
                                      ((nth (Blk.box []) p.snd.blks 2).toEs ++
                                        [[PV.int IntKind.i64 0], [PV.int IntKind.i64 0]])
                                      1))))
                              (ctl
                                (Bool.true &&
                                  ltB 2
                                    (↑((nth (Blk.box []) p.snd.blks 2).toEs ++
                                            [[PV.int IntKind.i64 0], [PV.int IntKind.i64 0]]).length :
                                      Int))
                                (ctl
                                  (okCs [Sh.int IntKind.i64]
                                    (List.take 1
                                      (List.drop 0
                                        (nth []
                                          ((nth (Blk.box []) p.snd.blks 2).toEs ++
                                            [[PV.int IntKind.i64 0], [PV.int IntKind.i64 0]])
                                          2))))
                                  (ctl
                                    (Bool.true &&
                                      ltB 3
                                        (↑((nth (Blk.box []) p.snd.blks 2).toEs ++
                                                [[PV.int IntKind.i64 0], [PV.int IntKind.i64 0]]).length :
                                          Int))
                                    (ctl
                                      (okCs [Sh.int IntKind.i64]
                                        (List.take 1
                                          (List.drop 0
                                            (nth []
                                              ((nth (Blk.box []) p.snd.blks 2).toEs ++
                                                [[PV.int IntKind.i64 0], [PV.int IntKind.i64 0]])
                                              3))))
                                      (ctl
                                        (Bool.true &&
                                          ltB 4
                                            (↑((nth (Blk.box []) p.snd.blks 2).toEs ++
                                                    [[PV.int IntKind.i64 0], [PV.int IntKind.i64 0]]).length :
                                              Int))
                                        (ctl
                                          (okCs [Sh.int IntKind.i64]
                                            (List.take 1
                                              (List.drop 0
                                                (nth []
                                                  ((nth (Blk.box []) p.snd.blks 2).toEs ++
                                                    [[PV.int IntKind.i64 0], [PV.int IntKind.i64 0]])
                                                  4))))
                                          (bnd
                                            (F 14
                                              [AV.agg
                                                  [PV.int IntKind.i64 (nth AV.undef p.snd.vals 0).toPV.toInt,
                                                    PV.int IntKind.i64
                                                      (nth PV.nilp
                                                          (nth []
                                                            ((nth (Blk.box []) p.snd.blks 2).toEs ++
                                                              [[PV.int IntKind.i64 0], [PV.int IntKind.i64 0]])
                                                            0)
                                                          0).toInt,
                                                    PV.int IntKind.i64
                                                      (nth PV.nilp
                                                          (nth []
                                                            ((nth (Blk.box []) p.snd.blks 2).toEs ++
                                                              [[PV.int IntKind.i64 0], [PV.int IntKind.i64 0]])
                                                            1)
                                                          0).toInt,
                                                    PV.int IntKind.i64
                                                      (nth PV.nilp
                                                          (nth []
                                                            ((nth (Blk.box []) p.snd.blks 2).toEs ++
                                                              [[PV.int IntKind.i64 0], [PV.int IntKind.i64 0]])
                                                            2)
                                                          0).toInt,
                                                    PV.int IntKind.i64
                                                      (nth PV.nilp
                                                          (nth []
                                                            ((nth (Blk.box []) p.snd.blks 2).toEs ++
                                                              [[PV.int IntKind.i64 0], [PV.int IntKind.i64 0]])
                                                            3)
                                                          0).toInt,
                                                    PV.int IntKind.i64
                                                      (nth PV.nilp
                                                          (nth []
                                                            ((nth (Blk.box []) p.snd.blks 2).toEs ++
                                                              [[PV.int IntKind.i64 0], [PV.int IntKind.i64 0]])
                                                            4)
                                                          0).toInt]]
                                              [])
                                            fun (r : Res) =>
                                            ctl
                                              (okR [RSh.one Sh.bool] r.fst &&
                                                okB [] r.snd)
                                              (ctl
                                                (nth (RV.p PV.nilp) r.fst 0).toPV.toBool
                                                (Option.some
                                                  (Ex.ret,
                                                    { vals := [AV.int IntKind.i64 0],
                                                      blks :=
                                                        [Blk.box
                                                            [AV.int IntKind.i64
                                                                (nth AV.undef p.snd.vals 0).toPV.toInt,
                                                              AV.int IntKind.i64
                                                                (nth PV.nilp
                                                                    (nth []
                                                                      ((nth (Blk.box []) p.snd.blks 2).toEs ++
                                                                        [[PV.int IntKind.i64 0], [PV.int IntKind.i64 0]])
                                                                      0)
                                                                    0).toInt,
                                                              AV.int IntKind.i64
                                                                (nth PV.nilp
                                                                    (nth []
                                                                      ((nth (Blk.box []) p.snd.blks 2).toEs ++
                                                                        [[PV.int IntKind.i64 0], [PV.int IntKind.i64 0]])
                                                                      1)
                                                                    0).toInt,
                                                              AV.int IntKind.i64
                                                                (nth PV.nilp
                                                                    (nth []
                                                                      ((nth (Blk.box []) p.snd.blks 2).toEs ++
                                                                        [[PV.int IntKind.i64 0], [PV.int IntKind.i64 0]])
                                                                      2)
                                                                    0).toInt,
                                                              AV.int IntKind.i64
                                                                (nth PV.nilp
                                                                    (nth []
                                                                      ((nth (Blk.box []) p.snd.blks 2).toEs ++
                                                                        [[PV.int IntKind.i64 0], [PV.int IntKind.i64 0]])
                                                                      3)
                                                                    0).toInt,
                                                              AV.int IntKind.i64
                                                                (nth PV.nilp
                                                                    (nth []
                                                                      ((nth (Blk.box []) p.snd.blks 2).toEs ++
                                                                        [[PV.int IntKind.i64 0], [PV.int IntKind.i64 0]])
                                                                      4)
                                                                    0).toInt]] }))
                                                (lp E F 19 0 [] 0
                                                  {
                                                    vals :=
                                                      [AV.int IntKind.i64
                                                          (IntKind.i64.wrap ((nth AV.undef p.snd.vals 0).toPV.toInt + 1))],
                                                    blks :=
                                                      [Blk.box
                                                          [AV.sl 1
                                                              (nth AV.undef
                                                                    (nth (Blk.box []) p.snd.blks 0).toCs 0).toPV.toEs],
                                                        Blk.box
                                                          [AV.int IntKind.i64
                                                              (nth AV.undef
                                                                    (nth (Blk.box []) p.snd.blks 1).toCs 0).toPV.toInt,
                                                            AV.int IntKind.i64
                                                              (nth AV.undef
                                                                    (nth (Blk.box []) p.snd.blks 1).toCs 1).toPV.toInt,
                                                            AV.int IntKind.i64
                                                              (nth AV.undef
                                                                    (nth (Blk.box []) p.snd.blks 1).toCs 2).toPV.toInt,
                                                            AV.int IntKind.i64
                                                              (nth AV.undef
                                                                    (nth (Blk.box []) p.snd.blks 1).toCs 3).toPV.toInt,
                                                            AV.int IntKind.i64
                                                              (nth AV.undef
                                                                    (nth (Blk.box []) p.snd.blks 1).toCs 4).toPV.toInt,
                                                            AV.int IntKind.i64
                                                              (nth AV.undef
                                                                    (nth (Blk.box []) p.snd.blks 1).toCs 5).toPV.toInt]] }))
                                              Option.none)
                                          Option.none)
                                        Option.none)
                                      Option.none)
                                    Option.none)
                                  Option.none)
                                Option.none)
                              Option.none)
                            Option.none)
                          Option.none)
                        Option.none)
                      Option.none)
                    Option.none)
                  (ctl (p.fst.eqb Ex.ret)
                    (ctl
                      (okPack
                        {
                          slots :=
                            [(2, Sum.inr (Sum.inr (AV.t (TV.ptr 0 0)))), (3, Sum.inl (Sh.int IntKind.i64))],
                          blks :=
                            [Sum.inl
                                [Sum.inl (Sh.int IntKind.i64), Sum.inl (Sh.int IntKind.i64),
                                  Sum.inl (Sh.int IntKind.i64), Sum.inl (Sh.int IntKind.i64),
                                  Sum.inl (Sh.int IntKind.i64), Sum.inl (Sh.int IntKind.i64)]] }
                        p.snd)
                      (Option.some
                        (Ex.ret,
                          { vals := [AV.int IntKind.i64 (nth AV.undef p.snd.vals 0).toPV.toInt],
                            blks :=
                              [Blk.box
                                  [AV.int IntKind.i64
                                      (nth AV.undef
                                            (nth (Blk.box []) p.snd.blks 0).toCs 0).toPV.toInt,
                                    AV.int IntKind.i64
                                      (nth AV.undef
                                            (nth (Blk.box []) p.snd.blks 0).toCs 1).toPV.toInt,
                                    AV.int IntKind.i64
                                      (nth AV.undef
                                            (nth (Blk.box []) p.snd.blks 0).toCs 2).toPV.toInt,
                                    AV.int IntKind.i64
                                      (nth AV.undef
                                            (nth (Blk.box []) p.snd.blks 0).toCs 3).toPV.toInt,
                                    AV.int IntKind.i64
                                      (nth AV.undef
                                            (nth (Blk.box []) p.snd.blks 0).toCs 4).toPV.toInt,
                                    AV.int IntKind.i64
                                      (nth AV.undef
                                            (nth (Blk.box []) p.snd.blks 0).toCs 5).toPV.toInt]] }))
                      Option.none)
                    Option.none))
              Option.none))
        Option.none)
    (Option.some
      (Ex.exit 0,
        { vals := [],
          blks :=
            [Blk.box
                [AV.int IntKind.i64 b1_0, AV.int IntKind.i64 b1_1, AV.int IntKind.i64 b1_2,
                  AV.int IntKind.i64 b1_3, AV.int IntKind.i64 b1_4, AV.int IntKind.i64 b1_5]] })) := (lp_unfold ..).trans (by kernel_rfl)

/-- dynpos/dynposref06.Read, the loop of block 2 -/
theorem r19_2 (F : Fun) (k4 : Int) (x33 : List (List PV)) (x34 : Int) (x35 : Int) (b0_0 : List (List PV)) (b1_0 : Int) (b1_1 : Int) (b1_2 : Int) (b1_3 : Int) (b1_4 : Int) (b1_5 : Int) (c2 : List (List PV)) : lp E F 19 0 [] 2
  {
    vals :=
      [AV.int IntKind.i64 k4, AV.sl 1 x33, AV.int IntKind.i64 x34,
        AV.int IntKind.i64 x35],
    blks :=
      [Blk.box [AV.sl 1 b0_0],
        Blk.box
          [AV.int IntKind.i64 b1_0, AV.int IntKind.i64 b1_1, AV.int IntKind.i64 b1_2,
            AV.int IntKind.i64 b1_3, AV.int IntKind.i64 b1_4, AV.int IntKind.i64 b1_5],
        Blk.arr 1 c2] } =
  ctl (ltB x35 x34)
    (getE x33 x35 fun (c : List PV) =>
      ctl (okCs [Sh.str] c)
        (bnd (F 22 [AV.str (nth PV.nilp c 0).toStr] [])
          fun (r : Res) =>
          ctl
            (okR
                [RSh.one (Sh.int IntKind.i64), RSh.one Sh.bool] r.fst &&
              okB [] r.snd)
            (ctl (!(nth (RV.p PV.nilp) r.fst 1).toPV.toBool)
              (Option.some
                (Ex.ret,
                  { vals := [AV.int IntKind.i64 5],
                    blks :=
                      [Blk.box
                          [AV.int IntKind.i64 0, AV.int IntKind.i64 0, AV.int IntKind.i64 0,
                            AV.int IntKind.i64 0, AV.int IntKind.i64 0, AV.int IntKind.i64 0]] }))
              (ctl (leN ((c2.length + 1) * 8) 140737488355328)
                (lp E F 19 0 [] 2
                  {
                    vals :=
                      [AV.int IntKind.i64 k4, AV.sl 1 x33, AV.int IntKind.i64 x34,
                        AV.int IntKind.i64 (IntKind.i64.wrap (x35 + 1))],
                    blks :=
                      [Blk.box [AV.sl 1 b0_0],
                        Blk.box
                          [AV.int IntKind.i64 b1_0, AV.int IntKind.i64 b1_1, AV.int IntKind.i64 b1_2,
                            AV.int IntKind.i64 b1_3, AV.int IntKind.i64 b1_4, AV.int IntKind.i64 b1_5],
                        Blk.arr 1
                          (c2 ++
                            [[PV.int IntKind.i64
                                  (nth (RV.p PV.nilp) r.fst 0).toPV.toInt]])] })
                Option.none))
            Option.none)
        Option.none)
    (Option.some
      (Ex.exit 2,
        { vals := [AV.int IntKind.i64 k4],
          blks :=
            [Blk.box [AV.sl 1 b0_0],
              Blk.box
                [AV.int IntKind.i64 b1_0, AV.int IntKind.i64 b1_1, AV.int IntKind.i64 b1_2,
                  AV.int IntKind.i64 b1_3, AV.int IntKind.i64 b1_4, AV.int IntKind.i64 b1_5],
              Blk.arr 1 c2] })) := (lp_unfold ..).trans (by kernel_rfl)

/-- dynpos/dynposref06.Read -/
theorem r19 (F : Fun) (s0 : List (List PV)) : funK E F 19 [AV.agg [PV.sl 1 s0]] [] =
  bnd
    (lp E F 19 0 [] 0
      { vals := [AV.int IntKind.i64 1],
        blks :=
          [Blk.box [AV.sl 1 s0],
            Blk.box
              [AV.int IntKind.i64 0, AV.int IntKind.i64 0, AV.int IntKind.i64 0,
                AV.int IntKind.i64 0, AV.int IntKind.i64 0, AV.int IntKind.i64 0]] })
    fun (p : Ex × Pack) =>
    ctl (p.fst.eqb (Ex.exit 0))
      (ctl
        (okPack
          { slots := [(2, Sum.inr (Sum.inr (AV.t (TV.ptr 0 0))))],
            blks :=
              [Sum.inl
                  [Sum.inl (Sh.int IntKind.i64), Sum.inl (Sh.int IntKind.i64), Sum.inl (Sh.int IntKind.i64),
                    Sum.inl (Sh.int IntKind.i64), Sum.inl (Sh.int IntKind.i64),
                    Sum.inl (Sh.int IntKind.i64)]] }
          p.snd)
        (Option.some
          ([RV.agg
                [PV.int IntKind.i64 0, PV.int IntKind.i64 0, PV.int IntKind.i64 0,
                  PV.int IntKind.i64 0, PV.int IntKind.i64 0, PV.int IntKind.i64 0],
              RV.p (PV.int IntKind.i64 5)],
            []))
        Option.none)
      (ctl (p.fst.eqb Ex.ret)
        (ctl
          (okPack
            { slots := [(2, Sum.inr (Sum.inr (AV.t (TV.ptr 0 0)))), (3, Sum.inl (Sh.int IntKind.i64))],
              blks :=
                [Sum.inl
                    [Sum.inl (Sh.int IntKind.i64), Sum.inl (Sh.int IntKind.i64),
                      Sum.inl (Sh.int IntKind.i64), Sum.inl (Sh.int IntKind.i64),
                      Sum.inl (Sh.int IntKind.i64), Sum.inl (Sh.int IntKind.i64)]] }
            p.snd)
          (Option.some
            ([RV.agg
                  [PV.int IntKind.i64
                      (nth AV.undef (nth (Blk.box []) p.snd.blks 0).toCs
                            0).toPV.toInt,
                    PV.int IntKind.i64
                      (nth AV.undef (nth (Blk.box []) p.snd.blks 0).toCs
                            1).toPV.toInt,
                    PV.int IntKind.i64
                      (nth AV.undef (nth (Blk.box []) p.snd.blks 0).toCs
                            2).toPV.toInt,
                    PV.int IntKind.i64
                      (nth AV.undef (nth (Blk.box []) p.snd.blks 0).toCs
                            3).toPV.toInt,
                    PV.int IntKind.i64
                      (nth AV.undef (nth (Blk.box []) p.snd.blks 0).toCs
                            4).toPV.toInt,
                    PV.int IntKind.i64
                      (nth AV.undef (nth (Blk.box []) p.snd.blks 0).toCs
                            5).toPV.toInt],
                RV.p
                  (PV.int IntKind.i64 (nth AV.undef p.snd.vals 0).toPV.toInt)],
              []))
          Option.none)
        Option.none) := by kernel_rfl

/-- dynpos/signal.Text -/
theorem r20 (F : Fun) (n : Int) : funK E F 20 [AV.int IntKind.i64 n] [] =
  bnd (F 41 [AV.int IntKind.i64 n] []) fun (r : Res) =>
    ctl
      (okR [RSh.one Sh.str] r.fst && okB [] r.snd)
      (Option.some
        ([RV.p
              (PV.str (nth (RV.p PV.nilp) r.fst 0).toPV.toStr)],
          []))
      Option.none := by kernel_rfl

/-- dynpos/signal.Number -/
theorem r21 (F : Fun) (text : List UInt8) : funK E F 21 [AV.str text] [] =
  bnd (F 42 [AV.str text] []) fun (r : Res) =>
    ctl
      (okR
          [RSh.one (Sh.int IntKind.i64), RSh.one Sh.ifc] r.fst &&
        okB [] r.snd)
      (bnd
        (ctl (!!(nth (RV.p PV.nilp) r.fst 1).toPV.toNil)
          (bnd
            (F 41 [AV.int IntKind.i64 (nth (RV.p PV.nilp) r.fst 0).toPV.toInt]
              [])
            fun (r : Res) =>
            ctl
              (okR [RSh.one Sh.str] r.fst && okB [] r.snd)
              (Option.some !(nth (RV.p PV.nilp) r.fst 0).toPV.toStr == text) Option.none)
          (Option.some Bool.true))
        fun (v : Bool) =>
        bnd
          (ctl (!v)
            (Option.some
              (leB (nth (RV.p PV.nilp) r.fst 0).toPV.toInt (-10000000000)))
            (Option.some Bool.true))
          fun (v : Bool) =>
          bnd
            (ctl (!v)
              (Option.some
                (leB 10000000000 (nth (RV.p PV.nilp) r.fst 0).toPV.toInt))
              (Option.some Bool.true))
            fun (v : Bool) =>
            ctl v
              (Option.some
                ([RV.p (PV.int IntKind.i64 0), RV.p (PV.bool Bool.false)], []))
              (Option.some
                ([RV.p
                      (PV.int IntKind.i64
                        (nth (RV.p PV.nilp) r.fst 0).toPV.toInt),
                    RV.p (PV.bool Bool.true)],
                  [])))
      Option.none := by kernel_rfl

/-- dynpos/dynposref06.Number, the loop of block 0 -/
theorem r22_0 (F : Fun) (text0 : List UInt8) (s4 : List UInt8) (n5 : Int) (i6 : Int) : lp E F 22 0 [] 0
  {
    vals :=
      [AV.str text0, AV.str s4, AV.int IntKind.i64 n5,
        AV.int IntKind.i64 i6],
    blks := [] } =
  ctl (ltB i6 (↑s4.length : Int))
    (ctl (leB 0 i6 && ltB i6 (↑s4.length : Int))
      (bnd
        (ctl (!ltB (byteAt s4 i6) 48)
          (ctl (leB 0 i6 && ltB i6 (↑s4.length : Int))
            (Option.some (ltB 57 (byteAt s4 i6))) Option.none)
          (Option.some Bool.true))
        fun (v : Bool) =>
        ctl v
          (Option.some (Ex.ret, { vals := [AV.int IntKind.i64 0, AV.bool Bool.false], blks := [] }))
          (ctl (leB 0 i6 && ltB i6 (↑s4.length : Int))
            (lp E F 22 0 [] 0
              {
                vals :=
                  [AV.str text0, AV.str s4,
                    AV.int IntKind.i64
                      (IntKind.i64.wrap (IntKind.i64.wrap (10 * n5) + IntKind.i64.wrap (IntKind.u8.wrap (byteAt s4 i6 - 48)))),
                    AV.int IntKind.i64 (IntKind.i64.wrap (i6 + 1))],
                blks := [] })
            Option.none))
      Option.none)
    (Option.some (Ex.exit 0, { vals := [AV.str text0, AV.int IntKind.i64 n5], blks := [] })) := (lp_unfold ..).trans (by kernel_rfl)

/-- dynpos/dynposref06.Number -/
theorem r22 (F : Fun) (text : List UInt8) : funK E F 22 [AV.str text] [] =
  bnd
    (ctl (!text == [])
      (ctl (Bool.true && ltB 0 (↑text.length : Int)) (Option.some (byteAt text 0 == 45)) Option.none)
      (Option.some Bool.false))
    fun (v : Bool) =>
    ctl v
      (ctl (Bool.true && (leB 1 (↑text.length : Int) && leB (↑text.length : Int) (↑text.length : Int)))
        (bnd
          (ctl (!ltB (↑(cutI text 1 (↑text.length : Int)).length : Int) 1)
            (Option.some (ltB 10 (↑(cutI text 1 (↑text.length : Int)).length : Int))) (Option.some Bool.true))
          fun (v : Bool) =>
          bnd
            (ctl (!v)
              (ctl (Bool.true && ltB 0 (↑(cutI text 1 (↑text.length : Int)).length : Int))
                (ctl (byteAt (cutI text 1 (↑text.length : Int)) 0 == 48) (Option.some !text == [48])
                  (Option.some Bool.false))
                Option.none)
              (Option.some Bool.true))
            fun (v : Bool) =>
            ctl v
              (Option.some
                ([RV.p (PV.int IntKind.i64 0), RV.p (PV.bool Bool.false)], []))
              (bnd
                (lp E F 22 0 [] 0
                  {
                    vals :=
                      [AV.str text, AV.str (cutI text 1 (↑text.length : Int)),
                        AV.int IntKind.i64 0, AV.int IntKind.i64 0],
                    blks := [] })
                fun (p : Ex × Pack) =>
                ctl (p.fst.eqb (Ex.exit 0))
                  (ctl
                    (okPack { slots := [(0, Sum.inl Sh.str), (5, Sum.inl (Sh.int IntKind.i64))], blks := [] }
                      p.snd)
                    (ctl
                      (Bool.true && ltB 0 (↑(nth AV.undef p.snd.vals 0).toPV.toStr.length : Int))
                      (ctl (byteAt (nth AV.undef p.snd.vals 0).toPV.toStr 0 == 45)
                        (Option.some
                          ([RV.p
                                (PV.int IntKind.i64
                                  (IntKind.i64.wrap (0 - (nth AV.undef p.snd.vals 1).toPV.toInt))),
                              RV.p (PV.bool Bool.true)],
                            []))
                        (Option.some
                          ([RV.p
                                (PV.int IntKind.i64 (nth AV.undef p.snd.vals 1).toPV.toInt),
                              RV.p (PV.bool Bool.true)],
                            [])))
                      Option.none)
                    Option.none)
                  (ctl (p.fst.eqb Ex.ret)
                    (ctl
                      (okPack { slots := [(2, Sum.inl (Sh.int IntKind.i64)), (3, Sum.inl Sh.bool)], blks := [] }
                        p.snd)
                      (Option.some
                        ([RV.p
                              (PV.int IntKind.i64 (nth AV.undef p.snd.vals 0).toPV.toInt),
                            RV.p
                              (PV.bool (nth AV.undef p.snd.vals 1).toPV.toBool)],
                          []))
                      Option.none)
                    Option.none)))
        Option.none)
      (bnd
        (ctl (!ltB (↑text.length : Int) 1) (Option.some (ltB 10 (↑text.length : Int))) (Option.some Bool.true))
        fun (v : Bool) =>
        bnd
          (ctl (!v)
            (ctl (Bool.true && ltB 0 (↑text.length : Int))
              (ctl (byteAt text 0 == 48) (Option.some !text == [48]) (Option.some Bool.false)) Option.none)
            (Option.some Bool.true))
          fun (v : Bool) =>
          ctl v
            (Option.some
              ([RV.p (PV.int IntKind.i64 0), RV.p (PV.bool Bool.false)], []))
            (bnd
              (lp E F 22 0 [] 0
                {
                  vals :=
                    [AV.str text, AV.str text, AV.int IntKind.i64 0,
                      AV.int IntKind.i64 0],
                  blks := [] })
              fun (p : Ex × Pack) =>
              ctl (p.fst.eqb (Ex.exit 0))
                (ctl
                  (okPack { slots := [(0, Sum.inl Sh.str), (5, Sum.inl (Sh.int IntKind.i64))], blks := [] } p.snd)
                  (ctl
                    (Bool.true && ltB 0 (↑(nth AV.undef p.snd.vals 0).toPV.toStr.length : Int))
                    (ctl (byteAt (nth AV.undef p.snd.vals 0).toPV.toStr 0 == 45)
                      (Option.some
                        ([RV.p
                              (PV.int IntKind.i64
                                (IntKind.i64.wrap (0 - (nth AV.undef p.snd.vals 1).toPV.toInt))),
                            RV.p (PV.bool Bool.true)],
                          []))
                      (Option.some
                        ([RV.p
                              (PV.int IntKind.i64 (nth AV.undef p.snd.vals 1).toPV.toInt),
                            RV.p (PV.bool Bool.true)],
                          [])))
                    Option.none)
                  Option.none)
                (ctl (p.fst.eqb Ex.ret)
                  (ctl
                    (okPack { slots := [(2, Sum.inl (Sh.int IntKind.i64)), (3, Sum.inl Sh.bool)], blks := [] }
                      p.snd)
                    (Option.some
                      ([RV.p
                            (PV.int IntKind.i64 (nth AV.undef p.snd.vals 0).toPV.toInt),
                          RV.p (PV.bool (nth AV.undef p.snd.vals 1).toPV.toBool)],
                        []))
                    Option.none)
                  Option.none))) := by kernel_rfl

/-- dynpos/dynposref06.Text, the loop of block 0 -/
theorem r23_0 (F : Fun) (n0 : Int) (sign3 : List UInt8) (s4 : List UInt8) : lp E F 23 0 [] 0
  { vals := [AV.int IntKind.i64 n0, AV.str sign3, AV.str s4], blks := [] } =
  ctl (n0 != 0)
    (ctl (ltB (n0.tmod 10) 0)
      (ctl
        (bytesOk [[PV.int IntKind.u8 (IntKind.u8.wrap (IntKind.i64.wrap (48 + IntKind.i64.wrap (0 - n0.tmod 10))))]])
        (ctl (leN (1 + s4.length) 9223372036854775807)
          (lp E F 23 0 [] 0
            {
              vals :=
                [AV.int IntKind.i64 (IntKind.i64.wrap (n0.tdiv 10)), AV.str sign3,
                  AV.str
                    (toBytes [[PV.int IntKind.u8 (IntKind.u8.wrap (IntKind.i64.wrap (48 + IntKind.i64.wrap (0 - n0.tmod 10))))]] ++ s4)],
              blks := [] })
          Option.none)
        Option.none)
      (ctl (bytesOk [[PV.int IntKind.u8 (IntKind.u8.wrap (IntKind.i64.wrap (48 + n0.tmod 10)))]])
        (ctl (leN (1 + s4.length) 9223372036854775807)
          (lp E F 23 0 [] 0
            {
              vals :=
                [AV.int IntKind.i64 (IntKind.i64.wrap (n0.tdiv 10)), AV.str sign3,
                  AV.str
                    (toBytes [[PV.int IntKind.u8 (IntKind.u8.wrap (IntKind.i64.wrap (48 + n0.tmod 10)))]] ++ s4)],
              blks := [] })
          Option.none)
        Option.none))
    (Option.some (Ex.exit 0, { vals := [AV.str sign3, AV.str s4], blks := [] })) := (lp_unfold ..).trans (by kernel_rfl)

/-- dynpos/dynposref06.Text -/
theorem r23 (F : Fun) (n : Int) : funK E F 23 [AV.int IntKind.i64 n] [] =
  ctl (n == 0) (Option.some ([RV.p (PV.str [48])], []))
    (ctl (ltB n 0)
      (bnd
        (lp E F 23 0 [] 0
          { vals := [AV.int IntKind.i64 n, AV.str [45], AV.str []], blks := [] })
        fun (p : Ex × Pack) =>
        ctl (p.fst.eqb (Ex.exit 0))
          (ctl
            (okPack { slots := [(3, Sum.inl Sh.str), (4, Sum.inl Sh.str)], blks := [] } p.snd)
            (ctl
              (leN
                ((nth AV.undef p.snd.vals 0).toPV.toStr.length +
                  (nth AV.undef p.snd.vals 1).toPV.toStr.length)
                9223372036854775807)
              (Option.some
                ([RV.p
                      (PV.str
                        ((nth AV.undef p.snd.vals 0).toPV.toStr ++
                          (nth AV.undef p.snd.vals 1).toPV.toStr))],
                  []))
              Option.none)
            Option.none)
          Option.none)
      (bnd
        (lp E F 23 0 [] 0
          { vals := [AV.int IntKind.i64 n, AV.str [], AV.str []], blks := [] })
        fun (p : Ex × Pack) =>
        ctl (p.fst.eqb (Ex.exit 0))
          (ctl
            (okPack { slots := [(3, Sum.inl Sh.str), (4, Sum.inl Sh.str)], blks := [] } p.snd)
            (ctl
              (leN
                ((nth AV.undef p.snd.vals 0).toPV.toStr.length +
                  (nth AV.undef p.snd.vals 1).toPV.toStr.length)
                9223372036854775807)
              (Option.some
                ([RV.p
                      (PV.str
                        ((nth AV.undef p.snd.vals 0).toPV.toStr ++
                          (nth AV.undef p.snd.vals 1).toPV.toStr))],
                  []))
              Option.none)
            Option.none)
          Option.none)) := by kernel_rfl

/-- dynpos/dynposref04.Format, the loop of block 0 -/
theorem r24_0 (F : Fun) (x13 : List (List PV)) (x14 : Int) (x15 : Int) (c0 : List (List PV)) : lp E F 24 0 [] 0
  { vals := [AV.sl 1 x13, AV.int IntKind.i64 x14, AV.int IntKind.i64 x15],
    blks := [Blk.arr 1 c0] } =
  ctl (ltB x15 x14)
    (getE x13 x15 fun (c : List PV) =>
      ctl (okCs [Sh.str] c)
        (ctl (ltB 0 x15)
          (ctl (leN ((c0.length + 1) * 1) 140737488355328)
            (ctl
              (leN
                (((c0 ++ [[PV.int IntKind.u8 44]]).length +
                    (byteEs (nth PV.nilp c 0).toStr).length) *
                  1)
                140737488355328)
              (lp E F 24 0 [] 0
                {
                  vals :=
                    [AV.sl 1 x13, AV.int IntKind.i64 x14, AV.int IntKind.i64 (IntKind.i64.wrap (x15 + 1))],
                  blks :=
                    [Blk.arr 1
                        (c0 ++ [[PV.int IntKind.u8 44]] ++
                          byteEs (nth PV.nilp c 0).toStr)] })
              Option.none)
            Option.none)
          (ctl
            (leN ((c0.length + (byteEs (nth PV.nilp c 0).toStr).length) * 1)
              140737488355328)
            (lp E F 24 0 [] 0
              {
                vals :=
                  [AV.sl 1 x13, AV.int IntKind.i64 x14, AV.int IntKind.i64 (IntKind.i64.wrap (x15 + 1))],
                blks := [Blk.arr 1 (c0 ++ byteEs (nth PV.nilp c 0).toStr)] })
            Option.none))
        Option.none)
    (Option.some (Ex.exit 0, { vals := [], blks := [Blk.arr 1 c0] })) := (lp_unfold ..).trans (by kernel_rfl)

/-- dynpos/dynposref04.Format -/
theorem r24 (F : Fun) (s0 : List (List PV)) : funK E F 24 [AV.agg [PV.sl 1 s0]] [] =
  bnd (F 43 [AV.agg [PV.sl 1 s0]] []) fun (r : Res) =>
    ctl
      (okR [RSh.one Sh.bool] r.fst && okB [] r.snd)
      (ctl (!(nth (RV.p PV.nilp) r.fst 0).toPV.toBool)
        (Option.some ([RV.p (PV.sl 1 []), RV.p (PV.int IntKind.i64 3)], []))
        (bnd
          (lp E F 24 0 [] 0
            { vals := [AV.sl 1 s0, AV.int IntKind.i64 (↑s0.length : Int), AV.int IntKind.i64 0],
              blks := [Blk.arr 1 []] })
          fun (p : Ex × Pack) =>
          ctl (p.fst.eqb (Ex.exit 0))
            (ctl
              (okPack { slots := [(4, Sum.inr (Sum.inr (AV.t (TV.hsl 0))))], blks := [Sum.inr 1] } p.snd)
              (bnd (F 44 [AV.sl 1 (nth (Blk.box []) p.snd.blks 0).toEs] [])
                fun (r : Res) =>
                ctl
                  (okR [RSh.one (Sh.int IntKind.u8)] r.fst && okB [] r.snd &&
                    (noslR r.fst && noslB r.snd))
                  (ctl
                    (leN ((1 + (nth (Blk.box []) p.snd.blks 0).toEs.length) * 1) 140737488355328)
                    (ctl
                      (leB 0
                          (IntKind.u8.wrap ((nth (RV.p PV.nilp) r.fst 0).toPV.toInt.tdiv 16)) &&
                        ltB
                          (IntKind.u8.wrap ((nth (RV.p PV.nilp) r.fst 0).toPV.toInt.tdiv 16)) 16)
                      (ctl
                        (leB 0
                            ((nth (RV.p PV.nilp) r.fst 0).toPV.toInt.tmod 16) &&
                          ltB ((nth (RV.p PV.nilp) r.fst 0).toPV.toInt.tmod 16)
                            16)
                        (ctl
                          (leN
                            ((([[PV.int IntKind.u8 36]] ++ (nth (Blk.box []) p.snd.blks 0).toEs).length + 5) * 1)
                            140737488355328)
                          (ctl
                            (ltB 200
                              (↑([[PV.int IntKind.u8 36]] ++ (nth (Blk.box []) p.snd.blks 0).toEs ++
                                      [[PV.int IntKind.u8 42],
                                        [PV.int IntKind.u8
                                            (byteAt [48, 49, 50, 51, 52, 53, 54, 55, 56, 57, 65, 66, 67, 68, 69, 70]
                                              (IntKind.u8.wrap
                                                ((nth (RV.p PV.nilp) r.fst 0).toPV.toInt.tdiv 16)))],
                                        [PV.int IntKind.u8
                                            (byteAt [48, 49, 50, 51, 52, 53, 54, 55, 56, 57, 65, 66, 67, 68, 69, 70]
                                              ((nth (RV.p PV.nilp) r.fst 0).toPV.toInt.tmod 16))],
                                        [PV.int IntKind.u8 13], [PV.int IntKind.u8 10]]).length :
                                Int))
                            (Option.some
                              ([RV.p (PV.sl 1 []),
                                  RV.p (PV.int IntKind.i64 2)],
                                []))
                            (Option.some
                              ([RV.p
                                    (PV.sl 1
                                      ([[PV.int IntKind.u8 36]] ++ (nth (Blk.box []) p.snd.blks 0).toEs ++
                                        [[PV.int IntKind.u8 42],
                                          [PV.int IntKind.u8
                                              (byteAt [48, 49, 50, 51, 52, 53, 54, 55, 56, 57, 65, 66, 67, 68, 69, 70]
                                                (IntKind.u8.wrap
                                                  ((nth (RV.p PV.nilp) r.fst 0).toPV.toInt.tdiv 16)))],
                                          [PV.int IntKind.u8
                                              (byteAt [48, 49, 50, 51, 52, 53, 54, 55, 56, 57, 65, 66, 67, 68, 69, 70]
                                                ((nth (RV.p PV.nilp) r.fst 0).toPV.toInt.tmod 16))],
                                          [PV.int IntKind.u8 13], [PV.int IntKind.u8 10]])),
                                  RV.p (PV.int IntKind.i64 0)],
                                [])))
                          Option.none)
                        Option.none)
                      Option.none)
                    Option.none)
                  Option.none)
              Option.none)
            Option.none))
      Option.none := by kernel_rfl

/-- dynpos/dynposref04.Parse -/
theorem r25 (F : Fun) (b : List (List PV)) : funK E F 25 [AV.sl 1 b] [] =
  ctl (ltB 200 (↑b.length : Int))
    (Option.some ([RV.agg [PV.nils], RV.p (PV.int IntKind.i64 2)], []))
    (bnd
      (ctl (!ltB (↑b.length : Int) 6)
        (getE b 0 fun (c : List PV) =>
          ctl (okCs [Sh.int IntKind.u8] c)
            (Option.some ((nth PV.nilp c 0).toInt != 36)) Option.none)
        (Option.some Bool.true))
      fun (v : Bool) =>
      bnd
        (ctl (!v)
          (getE b (IntKind.i64.wrap ((↑b.length : Int) - 5)) fun (c : List PV) =>
            ctl (okCs [Sh.int IntKind.u8] c)
              (Option.some ((nth PV.nilp c 0).toInt != 42)) Option.none)
          (Option.some Bool.true))
        fun (v : Bool) =>
        bnd
          (ctl (!v)
            (getE b (IntKind.i64.wrap ((↑b.length : Int) - 4)) fun (c : List PV) =>
              ctl (okCs [Sh.int IntKind.u8] c)
                (bnd (F 45 [AV.int IntKind.u8 (nth PV.nilp c 0).toInt] [])
                  fun (r : Res) =>
                  ctl
                    (okR [RSh.one (Sh.int IntKind.i64)] r.fst && okB [] r.snd)
                    (Option.some (ltB (nth (RV.p PV.nilp) r.fst 0).toPV.toInt 0))
                    Option.none)
                Option.none)
            (Option.some Bool.true))
          fun (v : Bool) =>
          bnd
            (ctl (!v)
              (getE b (IntKind.i64.wrap ((↑b.length : Int) - 3)) fun (c : List PV) =>
                ctl (okCs [Sh.int IntKind.u8] c)
                  (bnd (F 45 [AV.int IntKind.u8 (nth PV.nilp c 0).toInt] [])
                    fun (r : Res) =>
                    ctl
                      (okR [RSh.one (Sh.int IntKind.i64)] r.fst &&
                        okB [] r.snd)
                      (Option.some
                        (ltB (nth (RV.p PV.nilp) r.fst 0).toPV.toInt 0))
                      Option.none)
                  Option.none)
              (Option.some Bool.true))
            fun (v : Bool) =>
            bnd
              (ctl (!v)
                (getE b (IntKind.i64.wrap ((↑b.length : Int) - 2)) fun (c : List PV) =>
                  ctl (okCs [Sh.int IntKind.u8] c)
                    (Option.some ((nth PV.nilp c 0).toInt != 13)) Option.none)
                (Option.some Bool.true))
              fun (v : Bool) =>
              bnd
                (ctl (!v)
                  (getE b (IntKind.i64.wrap ((↑b.length : Int) - 1)) fun (c : List PV) =>
                    ctl (okCs [Sh.int IntKind.u8] c)
                      (Option.some ((nth PV.nilp c 0).toInt != 10)) Option.none)
                  (Option.some Bool.true))
                fun (v : Bool) =>
                ctl v
                  (Option.some
                    ([RV.agg [PV.nils], RV.p (PV.int IntKind.i64 3)], []))
                  (ctl
                    (Bool.true &&
                      (leB 1 (IntKind.i64.wrap ((↑b.length : Int) - 5)) && leB (IntKind.i64.wrap ((↑b.length : Int) - 5)) (↑b.length : Int)))
                    (ctl (bytesOk (cutI b 1 (IntKind.i64.wrap ((↑b.length : Int) - 5))))
                      (bnd
                        (F 46 [AV.str (toBytes (cutI b 1 (IntKind.i64.wrap ((↑b.length : Int) - 5))))] [])
                        fun (r : Res) =>
                        ctl
                          (okR [RSh.one (Sh.sl 1)] r.fst && okB [] r.snd)
                          (bnd
                            (F 43
                              [AV.agg
                                  [PV.sl 1
                                      (nth (RV.p PV.nilp) r.fst 0).toPV.toEs]]
                              [])
                            fun (r_1 : Res) =>
                            ctl
                              (okR [RSh.one Sh.bool] r_1.fst && okB [] r_1.snd)
                              (ctl (!(nth (RV.p PV.nilp) r_1.fst 0).toPV.toBool)
                                (Option.some
                                  ([RV.agg [PV.nils],
                                      RV.p (PV.int IntKind.i64 3)],
                                    []))
                                (bnd (F 44 [AV.sl 1 (cutI b 1 (IntKind.i64.wrap ((↑b.length : Int) - 5)))] [])
                                  fun (r_2 : Res) =>
                                  ctl
                                    (okR [RSh.one (Sh.int IntKind.u8)] r_2.fst &&
                                      okB [] r_2.snd)
                                    (getE b (IntKind.i64.wrap ((↑b.length : Int) - 4)) fun (c : List PV) =>
                                      ctl (okCs [Sh.int IntKind.u8] c)
                                        (bnd
                                          (F 45 [AV.int IntKind.u8 (nth PV.nilp c 0).toInt] [])
                                          fun (r_3 : Res) =>
                                          ctl
                                            (okR [RSh.one (Sh.int IntKind.i64)] r_3.fst &&
                                              okB [] r_3.snd)
                                            (getE b (IntKind.i64.wrap ((↑b.length : Int) - 3)) fun (c : List PV) =>
                                              ctl (okCs [Sh.int IntKind.u8] c)
                                                (bnd
                                                  (F 45 [AV.int IntKind.u8 (nth PV.nilp c 0).toInt] [])
                                                  fun (r_4 : Res) =>
                                                  ctl
                                                    (okR [RSh.one (Sh.int IntKind.i64)] r_4.fst &&
                                                      okB [] r_4.snd)
                                                    (ctl
                                                      (IntKind.i64.wrap
                                                          (nth (RV.p PV.nilp) r_2.fst 0).toPV.toInt !=
                                                        IntKind.i64.wrap
                                                          (IntKind.i64.wrap
                                                              (16 * (nth (RV.p PV.nilp) r_3.fst 0).toPV.toInt) +
                                                            (nth (RV.p PV.nilp) r_4.fst 0).toPV.toInt))
                                                      (Option.some
                                                        ([RV.agg [PV.nils],
                                                            RV.p (PV.int IntKind.i64 4)],
                                                          []))
                                                      (Option.some
                                                        ([RV.agg
                                                              [PV.sl 1
                                                                  (nth (RV.p PV.nilp) r.fst 0).toPV.toEs],
                                                            RV.p (PV.int IntKind.i64 0)],
                                                          [])))
                                                    Option.none)
                                                Option.none)
                                            Option.none)
                                        Option.none)
                                    Option.none))
                              Option.none)
                          Option.none)
                      Option.none)
                    Option.none)) := by kernel_rfl

/-- (*dynpos/dynposmake.Src).Range -/
theorem r26 (F : Fun) (s0 : List (List PV)) (s1 : Int) (lo : Int) (hi : Int) : funK E F 26 [AV.t (TV.ptr 0 0), AV.int IntKind.i64 lo, AV.int IntKind.i64 hi] [Blk.box [AV.sl 1 s0, AV.int IntKind.i64 s1]] =
  bnd
    (F 17 [AV.t (TV.ptr 0 0), AV.int IntKind.i64 (IntKind.i64.wrap (IntKind.i64.wrap (hi - lo) + 1))]
      [Blk.box [AV.sl 1 s0, AV.int IntKind.i64 s1]])
    fun (r : Res) =>
    ctl
      (okR [RSh.one (Sh.int IntKind.i64)] r.fst &&
        okB [Sum.inl [Sh.sl 1, Sh.int IntKind.i64]] r.snd)
      (Option.some
        ([RV.p
              (PV.int IntKind.i64
                (IntKind.i64.wrap (lo + (nth (RV.p PV.nilp) r.fst 0).toPV.toInt)))],
          [Blk.box
              [AV.sl 1
                  (nth PV.nilp
                      (List.map AV.toPV (nth (Blk.box []) r.snd 0).toCs) 0).toEs,
                AV.int IntKind.i64
                  (nth PV.nilp
                      (List.map AV.toPV (nth (Blk.box []) r.snd 0).toCs) 1).toInt]]))
      Option.none := by kernel_rfl

/-- (*dynpos/dynposmake.Src).Pick -/
theorem r27 (F : Fun) (s0 : List (List PV)) (s1 : Int) (l : List (List PV)) : funK E F 27 [AV.t (TV.ptr 0 0), AV.sl 1 l] [Blk.box [AV.sl 1 s0, AV.int IntKind.i64 s1]] =
  bnd
    (F 17 [AV.t (TV.ptr 0 0), AV.int IntKind.i64 (↑l.length : Int)]
      [Blk.box [AV.sl 1 s0, AV.int IntKind.i64 s1]])
    fun (r : Res) =>
    ctl
      (okR [RSh.one (Sh.int IntKind.i64)] r.fst &&
        okB [Sum.inl [Sh.sl 1, Sh.int IntKind.i64]] r.snd)
      (getE l (nth (RV.p PV.nilp) r.fst 0).toPV.toInt
        fun (c : List PV) =>
        ctl (okCs [Sh.int IntKind.i64] c)
          (Option.some
            ([RV.p (PV.int IntKind.i64 (nth PV.nilp c 0).toInt)],
              [Blk.box
                  [AV.sl 1
                      (nth PV.nilp
                          (List.map AV.toPV (nth (Blk.box []) r.snd 0).toCs) 0).toEs,
                    AV.int IntKind.i64
                      (nth PV.nilp
                          (List.map AV.toPV (nth (Blk.box []) r.snd 0).toCs) 1).toInt]]))
          Option.none)
      Option.none := by kernel_rfl

/-- dynpos/signal.write, the loop of block 0 -/
theorem r28_0 (F : Fun) (x31 : List (List PV)) (x32 : Int) (x33 : Int) (b0_0 : List (List PV)) (c1 : List (List PV)) : lp E F 28 0 [] 0
  { vals := [AV.sl 1 x31, AV.int IntKind.i64 x32, AV.int IntKind.i64 x33],
    blks := [Blk.box [AV.sl 1 b0_0], Blk.arr 1 c1] } =
  ctl (ltB x33 x32)
    (getE x31 x33 fun (c : List PV) =>
      ctl (okCs [Sh.int IntKind.i64] c)
        (bnd (F 20 [AV.int IntKind.i64 (nth PV.nilp c 0).toInt] [])
          fun (r : Res) =>
          ctl
            (okR [RSh.one Sh.str] r.fst && okB [] r.snd)
            (ctl (leN ((c1.length + 1) * 16) 140737488355328)
              (lp E F 28 0 [] 0
                {
                  vals :=
                    [AV.sl 1 x31, AV.int IntKind.i64 x32, AV.int IntKind.i64 (IntKind.i64.wrap (x33 + 1))],
                  blks :=
                    [Blk.box [AV.sl 1 b0_0],
                      Blk.arr 1
                        (c1 ++
                          [[PV.str (nth (RV.p PV.nilp) r.fst 0).toPV.toStr]])] })
              Option.none)
            Option.none)
        Option.none)
    (Option.some
      (Ex.exit 0, { vals := [], blks := [Blk.box [AV.sl 1 b0_0], Blk.arr 1 c1] })) := (lp_unfold ..).trans (by kernel_rfl)

/-- dynpos/signal.write -/
theorem r28 (F : Fun) (s0 : Int) (s1 : Int) (s2 : Int) (s3 : Int) (s4 : Int) (s5 : Int) : funK E F 28 [AV.agg
    [PV.int IntKind.i64 s0, PV.int IntKind.i64 s1, PV.int IntKind.i64 s2,
      PV.int IntKind.i64 s3, PV.int IntKind.i64 s4, PV.int IntKind.i64 s5]] [] =
  bnd (F 33 [] []) fun (r : Res) =>
    ctl
      (okR [RSh.one (Sh.sl 2)] r.fst && okB [] r.snd)
      (getE (nth (RV.p PV.nilp) r.fst 0).toPV.toEs (IntKind.i64.wrap (s0 - 1))
        fun (c : List PV) =>
        ctl (okCs [Sh.str, Sh.sl 2] c)
          (ctl
            (Bool.true &&
              (leB 0 (IntKind.i64.wrap (2 + (↑(nth PV.nilp c 1).toEs.length : Int))) &&
                leB (IntKind.i64.wrap (2 + (↑(nth PV.nilp c 1).toEs.length : Int))) 5))
            (bnd
              (lp E F 28 0 [] 0
                {
                  vals :=
                    [AV.sl 1
                        (cutI
                          [[PV.int IntKind.i64 s1], [PV.int IntKind.i64 s2], [PV.int IntKind.i64 s3],
                            [PV.int IntKind.i64 s4], [PV.int IntKind.i64 s5]]
                          0 (IntKind.i64.wrap (2 + (↑(nth PV.nilp c 1).toEs.length : Int)))),
                      AV.int IntKind.i64
                        (↑(cutI
                                [[PV.int IntKind.i64 s1], [PV.int IntKind.i64 s2], [PV.int IntKind.i64 s3],
                                  [PV.int IntKind.i64 s4], [PV.int IntKind.i64 s5]]
                                0 (IntKind.i64.wrap (2 + (↑(nth PV.nilp c 1).toEs.length : Int)))).length :
                          Int),
                      AV.int IntKind.i64 0],
                  blks :=
                    [Blk.box [AV.sl 1 []],
                      Blk.arr 1 [[PV.str (nth PV.nilp c 0).toStr]]] })
              fun (p : Ex × Pack) =>
              ctl (p.fst.eqb (Ex.exit 0))
                (ctl
                  (okPack
                    {
                      slots :=
                        [(2, Sum.inr (Sum.inr (AV.t (TV.ptr 0 0)))),
                          (4, Sum.inr (Sum.inr (AV.t (TV.hsl 1))))],
                      blks := [Sum.inl [Sum.inl (Sh.sl 1)], Sum.inr 1] }
                    p.snd)
                  (Option.some
                    ([RV.agg [PV.sl 1 (nth (Blk.box []) p.snd.blks 1).toEs]], []))
                  Option.none)
                Option.none)
            Option.none)
          Option.none)
      Option.none := by kernel_rfl

/-- dynpos/dynposref04.Texts, the loop of block 0 -/
theorem r29_0 (F : Fun) (a0 : List (List PV)) (b1 : List (List PV)) (x12 : Int) (x13 : Int) : lp E F 29 0 [] 0
  {
    vals :=
      [AV.sl 1 a0, AV.sl 1 b1, AV.int IntKind.i64 x12,
        AV.int IntKind.i64 x13],
    blks := [] } =
  ctl (ltB x13 x12)
    (getE a0 x13 fun (c : List PV) =>
      ctl (okCs [Sh.str] c)
        (getE b1 x13 fun (c_1 : List PV) =>
          ctl (okCs [Sh.str] c_1)
            (ctl
              (!(nth PV.nilp c 0).toStr == (nth PV.nilp c_1 0).toStr)
              (Option.some (Ex.ret, { vals := [AV.bool Bool.false], blks := [] }))
              (lp E F 29 0 [] 0
                {
                  vals :=
                    [AV.sl 1 a0, AV.sl 1 b1, AV.int IntKind.i64 x12,
                      AV.int IntKind.i64 (IntKind.i64.wrap (x13 + 1))],
                  blks := [] }))
            Option.none)
        Option.none)
    (Option.some (Ex.exit 0, { vals := [], blks := [] })) := (lp_unfold ..).trans (by kernel_rfl)

/-- dynpos/dynposref04.Texts -/
theorem r29 (F : Fun) (a : List (List PV)) (b : List (List PV)) : funK E F 29 [AV.sl 1 a, AV.sl 1 b] [] =
  ctl ((↑a.length : Int) != (↑b.length : Int)) (Option.some ([RV.p (PV.bool Bool.false)], []))
    (bnd
      (lp E F 29 0 [] 0
        {
          vals :=
            [AV.sl 1 a, AV.sl 1 b, AV.int IntKind.i64 (↑a.length : Int),
              AV.int IntKind.i64 0],
          blks := [] })
      fun (p : Ex × Pack) =>
      ctl (p.fst.eqb (Ex.exit 0)) (Option.some ([RV.p (PV.bool Bool.true)], []))
        (ctl (p.fst.eqb Ex.ret)
          (ctl (okPack { slots := [(4, Sum.inl Sh.bool)], blks := [] } p.snd)
            (Option.some
              ([RV.p (PV.bool (nth AV.undef p.snd.vals 0).toPV.toBool)], []))
            Option.none)
          Option.none)) := by kernel_rfl

/-- (*dynpos/dynposmake.Src).Odd -/
theorem r30 (F : Fun) (s0 : List (List PV)) (s1 : Int) : funK E F 30 [AV.t (TV.ptr 0 0)] [Blk.box [AV.sl 1 s0, AV.int IntKind.i64 s1]] =
  bnd
    (F 27
      [AV.t (TV.ptr 0 0),
        AV.sl 1
          [[PV.int IntKind.i64 (-1)], [PV.int IntKind.i64 0], [PV.int IntKind.i64 1],
            [PV.int IntKind.i64 4611686018427387904], [PV.int IntKind.i64 (-4611686018427387904)],
            [PV.int IntKind.i64 9223372036854775807], [PV.int IntKind.i64 (-9223372036854775808)],
            [PV.int IntKind.i64 1000000000], [PV.int IntKind.i64 1000000001],
            [PV.int IntKind.i64 (-1000000001)], [PV.int IntKind.i64 3600], [PV.int IntKind.i64 1800],
            [PV.int IntKind.i64 100000000], [PV.int IntKind.i64 100000001], [PV.int IntKind.i64 5001]]]
      [Blk.box [AV.sl 1 s0, AV.int IntKind.i64 s1]])
    fun (r : Res) =>
    ctl
      (okR [RSh.one (Sh.int IntKind.i64)] r.fst &&
        okB [Sum.inl [Sh.sl 1, Sh.int IntKind.i64]] r.snd)
      (Option.some
        ([RV.p
              (PV.int IntKind.i64 (nth (RV.p PV.nilp) r.fst 0).toPV.toInt)],
          [Blk.box
              [AV.sl 1
                  (nth PV.nilp
                      (List.map AV.toPV (nth (Blk.box []) r.snd 0).toCs) 0).toEs,
                AV.int IntKind.i64
                  (nth PV.nilp
                      (List.map AV.toPV (nth (Blk.box []) r.snd 0).toCs) 1).toInt]]))
      Option.none := by kernel_rfl

/-- dynpos/dynposref06.name -/
theorem r31 (F : Fun) (kind : Int) : funK E F 31 [AV.int IntKind.i64 kind] [] =
  ctl (leB 0 kind && ltB kind 7)
    (ctl
      (okCs [Sh.str]
        (List.take 1
          (List.drop 0
            (nth []
              [[PV.str []], [PV.str [70, 73, 88]], [PV.str [72, 68, 71]],
                [PV.str [87, 78, 68]], [PV.str [84, 72, 82]], [PV.str [66, 82, 75]],
                [PV.str [71, 69, 78]]]
              kind.toNat))))
      (Option.some
        ([RV.p
              (PV.str
                (nth PV.nilp
                    (nth []
                      [[PV.str []], [PV.str [70, 73, 88]], [PV.str [72, 68, 71]],
                        [PV.str [87, 78, 68]], [PV.str [84, 72, 82]], [PV.str [66, 82, 75]],
                        [PV.str [71, 69, 78]]]
                      kind.toNat)
                    0).toStr)],
          []))
      Option.none)
    Option.none := by kernel_rfl

/-- dynpos/dynposref06.count -/
theorem r32 (F : Fun) (kind : Int) : funK E F 32 [AV.int IntKind.i64 kind] [] =
  ctl (leB 0 kind && ltB kind 7)
    (ctl
      (okCs [Sh.int IntKind.i64]
        (List.take 1
          (List.drop 0
            (nth []
              [[PV.int IntKind.i64 0], [PV.int IntKind.i64 3], [PV.int IntKind.i64 1],
                [PV.int IntKind.i64 2], [PV.int IntKind.i64 2], [PV.int IntKind.i64 1],
                [PV.int IntKind.i64 3]]
              kind.toNat))))
      (Option.some
        ([RV.p
              (PV.int IntKind.i64
                (nth PV.nilp
                    (nth []
                      [[PV.int IntKind.i64 0], [PV.int IntKind.i64 3], [PV.int IntKind.i64 1],
                        [PV.int IntKind.i64 2], [PV.int IntKind.i64 2], [PV.int IntKind.i64 1],
                        [PV.int IntKind.i64 3]]
                      kind.toNat)
                    0).toInt)],
          []))
      Option.none)
    Option.none := by kernel_rfl

/-- dynpos/signal.forms -/
theorem r33 (F : Fun) : funK E F 33 [] [] =
  Option.some
    ([RV.p
          (PV.sl 2
            [[PV.str [70, 73, 88],
                PV.sl 2
                  [[PV.int IntKind.i64 (-100000000), PV.int IntKind.i64 100000000],
                    [PV.int IntKind.i64 (-100000000), PV.int IntKind.i64 100000000],
                    [PV.int IntKind.i64 1, PV.int IntKind.i64 100000]]],
              [PV.str [72, 68, 71],
                PV.sl 2 [[PV.int IntKind.i64 0, PV.int IntKind.i64 3599]]],
              [PV.str [87, 78, 68],
                PV.sl 2
                  [[PV.int IntKind.i64 0, PV.int IntKind.i64 3599],
                    [PV.int IntKind.i64 0, PV.int IntKind.i64 10000]]],
              [PV.str [84, 72, 82],
                PV.sl 2
                  [[PV.int IntKind.i64 0, PV.int IntKind.i64 5000],
                    [PV.int IntKind.i64 0, PV.int IntKind.i64 3599]]],
              [PV.str [66, 82, 75],
                PV.sl 2 [[PV.int IntKind.i64 0, PV.int IntKind.i64 1]]],
              [PV.str [71, 69, 78],
                PV.sl 2
                  [[PV.int IntKind.i64 0, PV.int IntKind.i64 50000],
                    [PV.int IntKind.i64 0, PV.int IntKind.i64 6000],
                    [PV.int IntKind.i64 0, PV.int IntKind.i64 3599]]]])],
      []) := by kernel_rfl

/-- (dynpos/signal.span).has -/
theorem r34 (F : Fun) (x0 : Int) (x1 : Int) (n : Int) : funK E F 34 [AV.agg [PV.int IntKind.i64 x0, PV.int IntKind.i64 x1],
  AV.int IntKind.i64 n] [] =
  bnd (ctl (leB x0 n) (Option.some (leB n x1)) (Option.some Bool.false))
    fun (v : Bool) => Option.some ([RV.p (PV.bool v)], []) := by kernel_rfl

/-- dynpos/dynposref06.within -/
theorem r35 (F : Fun) (x : Int) (low : Int) (high : Int) : funK E F 35 [AV.int IntKind.i64 x, AV.int IntKind.i64 low, AV.int IntKind.i64 high] [] =
  bnd (ctl (leB low x) (Option.some (leB x high)) (Option.some Bool.false))
    fun (v : Bool) => Option.some ([RV.p (PV.bool v)], []) := by kernel_rfl

/-- dynpos/dynposmake.Mod -/
theorem r36 (F : Fun) (x : Int) (n : Int) : funK E F 36 [AV.int IntKind.i64 x, AV.int IntKind.i64 n] [] =
  ctl (ltB n 1) (Option.some ([RV.p (PV.int IntKind.i64 0)], []))
    (ctl (Bool.true && neB n 0)
      (ctl (Bool.true && neB n 0)
        (Option.some ([RV.p (PV.int IntKind.i64 ((IntKind.i64.wrap (x.tmod n + n)).tmod n))], [])) Option.none)
      Option.none) := by kernel_rfl

/-- dynpos/sentence.Valid -/
theorem r37 (F : Fun) (s0 : List (List PV)) : funK E F 37 [AV.agg [PV.sl 1 s0]] [] =
  bnd
    (ctl (leB 1 (↑s0.length : Int)) (Option.some (leB (↑s0.length : Int) 16)) (Option.some Bool.false))
    fun (v : Bool) =>
    ctl v
      (bnd (F 47 [AV.sl 1 s0, AV.fn 48 []] []) fun (r : Res) =>
        ctl
          (okR [RSh.one Sh.bool] r.fst && okB [] r.snd)
          (bnd
            (ctl (!(nth (RV.p PV.nilp) r.fst 0).toPV.toBool)
              (ctl (!ltB 1 (↑s0.length : Int))
                (getE s0 0 fun (c : List PV) =>
                  ctl (okCs [Sh.str] c)
                    (Option.some !(nth PV.nilp c 0).toStr == []) Option.none)
                (Option.some Bool.true))
              (Option.some Bool.false))
            fun (v : Bool) => Option.some ([RV.p (PV.bool v)], []))
          Option.none)
      (Option.some ([RV.p (PV.bool Bool.false)], [])) := by kernel_rfl

/-- slices.IndexFunc[[]dynpos/signal.form,dynpos/signal.form], the loop of block 0 -/
theorem r38_0a (F : Fun) (s0 : List (List PV)) (x7 : Int) (x8 : Int) (b0_0 : List (List PV)) : lp E F 38 1 [AV.undef, AV.fn 39 [TV.ptr 0 0]]
  0
  { vals := [AV.sl 2 s0, AV.int IntKind.i64 x7, AV.int IntKind.i64 x8],
    blks := [Blk.box [AV.sl 1 b0_0]] } =
  ctl (ltB x8 x7)
    (getE s0 x8 fun (c : List PV) =>
      ctl (okCs [Sh.str, Sh.sl 2] c)
        (bnd
          (F 39
            [AV.agg
                [PV.str (nth PV.nilp c 0).toStr,
                  PV.sl 2 (nth PV.nilp c 1).toEs],
              AV.t (TV.ptr 0 0)]
            [Blk.box [AV.sl 1 b0_0]])
          fun (r : Res) =>
          ctl
            (okR [RSh.one Sh.bool] r.fst &&
              okB [Sum.inl [Sh.sl 1]] r.snd)
            (ctl (nth (RV.p PV.nilp) r.fst 0).toPV.toBool
              (Option.some
                (Ex.ret,
                  { vals := [AV.int IntKind.i64 x8],
                    blks :=
                      [Blk.box
                          [AV.sl 1
                              (nth PV.nilp
                                  (List.map AV.toPV (nth (Blk.box []) r.snd 0).toCs) 0).toEs]] }))
              (lp E F 38 1
                [AV.undef, AV.fn 39 [TV.ptr 0 0]] 0
                {
                  vals :=
                    [AV.sl 2 s0, AV.int IntKind.i64 x7, AV.int IntKind.i64 (IntKind.i64.wrap (x8 + 1))],
                  blks :=
                    [Blk.box
                        [AV.sl 1
                            (nth PV.nilp
                                (List.map AV.toPV (nth (Blk.box []) r.snd 0).toCs) 0).toEs]] }))
            Option.none)
        Option.none)
    (Option.some (Ex.exit 0, { vals := [], blks := [Blk.box [AV.sl 1 b0_0]] })) := (lp_unfold ..).trans (by kernel_rfl)

/-- slices.IndexFunc[[]dynpos/signal.form,dynpos/signal.form] -/
theorem r38a (F : Fun) (s : List (List PV)) (k0_0 : List (List PV)) : funK E F 38 [AV.sl 2 s, AV.fn 39 [TV.ptr 0 0]] [Blk.box [AV.sl 1 k0_0]] =
  bnd
    (lp E F 38 1
      [AV.undef, AV.fn 39 [TV.ptr 0 0]] 0
      { vals := [AV.sl 2 s, AV.int IntKind.i64 (↑s.length : Int), AV.int IntKind.i64 0],
        blks := [Blk.box [AV.sl 1 k0_0]] })
    fun (p : Ex × Pack) =>
    ctl (p.fst.eqb (Ex.exit 0))
      (ctl (okPack { slots := [], blks := [Sum.inl [Sum.inl (Sh.sl 1)]] } p.snd)
        (Option.some
          ([RV.p (PV.int IntKind.i64 (-1))],
            [Blk.box
                [AV.sl 1
                    (nth AV.undef (nth (Blk.box []) p.snd.blks 0).toCs
                          0).toPV.toEs]]))
        Option.none)
      (ctl (p.fst.eqb Ex.ret)
        (ctl
          (okPack { slots := [(4, Sum.inl (Sh.int IntKind.i64))], blks := [Sum.inl [Sum.inl (Sh.sl 1)]] } p.snd)
          (Option.some
            ([RV.p
                  (PV.int IntKind.i64 (nth AV.undef p.snd.vals 0).toPV.toInt)],
              [Blk.box
                  [AV.sl 1
                      (nth AV.undef (nth (Blk.box []) p.snd.blks 0).toCs
                            0).toPV.toEs]]))
          Option.none)
        Option.none) := by kernel_rfl

/-- dynpos/signal.Read$1 -/
theorem r39 (F : Fun) (f0 : List UInt8) (f1 : List (List PV)) (k0_0 : List (List PV)) : funK E F 39 [AV.agg [PV.str f0, PV.sl 2 f1],
  AV.t (TV.ptr 0 0)] [Blk.box [AV.sl 1 k0_0]] =
  getE k0_0 0 fun (c : List PV) =>
    ctl (okCs [Sh.str] c)
      (Option.some
        ([RV.p (PV.bool (f0 == (nth PV.nilp c 0).toStr))],
          [Blk.box [AV.sl 1 k0_0]]))
      Option.none := by kernel_rfl

/-- slices.Equal[[]string,string], the loop of block 0 -/
theorem r40_0 (F : Fun) (s10 : List (List PV)) (s21 : List (List PV)) (x12 : Int) (x13 : Int) : lp E F 40 0 [] 0
  {
    vals :=
      [AV.sl 1 s10, AV.sl 1 s21, AV.int IntKind.i64 x12,
        AV.int IntKind.i64 x13],
    blks := [] } =
  ctl (ltB x13 x12)
    (getE s10 x13 fun (c : List PV) =>
      ctl (okCs [Sh.str] c)
        (getE s21 x13 fun (c_1 : List PV) =>
          ctl (okCs [Sh.str] c_1)
            (ctl
              (!(nth PV.nilp c 0).toStr == (nth PV.nilp c_1 0).toStr)
              (Option.some (Ex.ret, { vals := [AV.bool Bool.false], blks := [] }))
              (lp E F 40 0 [] 0
                {
                  vals :=
                    [AV.sl 1 s10, AV.sl 1 s21, AV.int IntKind.i64 x12,
                      AV.int IntKind.i64 (IntKind.i64.wrap (x13 + 1))],
                  blks := [] }))
            Option.none)
        Option.none)
    (Option.some (Ex.exit 0, { vals := [], blks := [] })) := (lp_unfold ..).trans (by kernel_rfl)

/-- slices.Equal[[]string,string] -/
theorem r40 (F : Fun) (s1 : List (List PV)) (s2 : List (List PV)) : funK E F 40 [AV.sl 1 s1, AV.sl 1 s2] [] =
  ctl ((↑s1.length : Int) != (↑s2.length : Int)) (Option.some ([RV.p (PV.bool Bool.false)], []))
    (bnd
      (lp E F 40 0 [] 0
        {
          vals :=
            [AV.sl 1 s1, AV.sl 1 s2, AV.int IntKind.i64 (↑s1.length : Int),
              AV.int IntKind.i64 0],
          blks := [] })
      fun (p : Ex × Pack) =>
      ctl (p.fst.eqb (Ex.exit 0)) (Option.some ([RV.p (PV.bool Bool.true)], []))
        (ctl (p.fst.eqb Ex.ret)
          (ctl (okPack { slots := [(4, Sum.inl Sh.bool)], blks := [] } p.snd)
            (Option.some
              ([RV.p (PV.bool (nth AV.undef p.snd.vals 0).toPV.toBool)], []))
            Option.none)
          Option.none)) := by kernel_rfl

/-- dynpos/dynposref04.Valid, the loop of block 0 -/
theorem r43_0 (F : Fun) (x29 : List (List PV)) (x30 : Int) (x31 : Int) : lp E F 43 0 [] 0
  { vals := [AV.sl 1 x29, AV.int IntKind.i64 x30, AV.int IntKind.i64 x31], blks := [] } =
  ctl (ltB x31 x30)
    (getE x29 x31 fun (c : List PV) =>
      ctl (okCs [Sh.str] c)
        (bnd (F 53 [AV.str (nth PV.nilp c 0).toStr] [])
          fun (r : Res) =>
          ctl
            (okR [RSh.one Sh.bool] r.fst && okB [] r.snd)
            (ctl (!(nth (RV.p PV.nilp) r.fst 0).toPV.toBool)
              (Option.some (Ex.ret, { vals := [AV.bool Bool.false], blks := [] }))
              (lp E F 43 0 [] 0
                {
                  vals :=
                    [AV.sl 1 x29, AV.int IntKind.i64 x30, AV.int IntKind.i64 (IntKind.i64.wrap (x31 + 1))],
                  blks := [] }))
            Option.none)
        Option.none)
    (Option.some (Ex.exit 0, { vals := [], blks := [] })) := (lp_unfold ..).trans (by kernel_rfl)

/-- dynpos/dynposref04.Valid -/
theorem r43 (F : Fun) (s0 : List (List PV)) : funK E F 43 [AV.agg [PV.sl 1 s0]] [] =
  bnd
    (ctl (!ltB (↑s0.length : Int) 1) (Option.some (ltB 16 (↑s0.length : Int))) (Option.some Bool.true))
    fun (v : Bool) =>
    bnd
      (ctl (!v)
        (ctl ((↑s0.length : Int) == 1)
          (getE s0 0 fun (c : List PV) =>
            ctl (okCs [Sh.str] c)
              (Option.some ((nth PV.nilp c 0).toStr == [])) Option.none)
          (Option.some Bool.false))
        (Option.some Bool.true))
      fun (v : Bool) =>
      ctl v (Option.some ([RV.p (PV.bool Bool.false)], []))
        (bnd
          (lp E F 43 0 [] 0
            { vals := [AV.sl 1 s0, AV.int IntKind.i64 (↑s0.length : Int), AV.int IntKind.i64 0], blks := [] })
          fun (p : Ex × Pack) =>
          ctl (p.fst.eqb (Ex.exit 0))
            (Option.some ([RV.p (PV.bool Bool.true)], []))
            (ctl (p.fst.eqb Ex.ret)
              (ctl (okPack { slots := [(2, Sum.inl Sh.bool)], blks := [] } p.snd)
                (Option.some
                  ([RV.p (PV.bool (nth AV.undef p.snd.vals 0).toPV.toBool)], []))
                Option.none)
              Option.none)) := by kernel_rfl

/-- dynpos/dynposref04.Sum, the loop of block 0 -/
theorem r44_0 (F : Fun) (x3 : Int) (x6 : List (List PV)) (x7 : Int) (x8 : Int) : lp E F 44 0 [] 0
  {
    vals :=
      [AV.int IntKind.u8 x3, AV.sl 1 x6, AV.int IntKind.i64 x7,
        AV.int IntKind.i64 x8],
    blks := [] } =
  ctl (ltB x8 x7)
    (getE x6 x8 fun (c : List PV) =>
      ctl (okCs [Sh.int IntKind.u8] c)
        (lp E F 44 0 [] 0
          {
            vals :=
              [AV.int IntKind.u8
                  (IntKind.u8.wrap (↑(BitVec.ofInt 8 x3 ^^^ BitVec.ofInt 8 (nth PV.nilp c 0).toInt).toNat : Int)),
                AV.sl 1 x6, AV.int IntKind.i64 x7, AV.int IntKind.i64 (IntKind.i64.wrap (x8 + 1))],
            blks := [] })
        Option.none)
    (Option.some (Ex.exit 0, { vals := [AV.int IntKind.u8 x3], blks := [] })) := (lp_unfold ..).trans (by kernel_rfl)

/-- dynpos/dynposref04.Sum -/
theorem r44 (F : Fun) (body : List (List PV)) : funK E F 44 [AV.sl 1 body] [] =
  bnd
    (lp E F 44 0 [] 0
      {
        vals :=
          [AV.int IntKind.u8 0, AV.sl 1 body, AV.int IntKind.i64 (↑body.length : Int),
            AV.int IntKind.i64 0],
        blks := [] })
    fun (p : Ex × Pack) =>
    ctl (p.fst.eqb (Ex.exit 0))
      (ctl (okPack { slots := [(3, Sum.inl (Sh.int IntKind.u8))], blks := [] } p.snd)
        (Option.some
          ([RV.p (PV.int IntKind.u8 (nth AV.undef p.snd.vals 0).toPV.toInt)],
            []))
        Option.none)
      Option.none := by kernel_rfl

/-- dynpos/dynposref04.hex, the loop of block 0 -/
theorem r45_0 (F : Fun) (b0 : Int) (i3 : Int) : lp E F 45 0 [] 0
  { vals := [AV.int IntKind.u8 b0, AV.int IntKind.i64 i3], blks := [] } =
  ctl (ltB i3 16)
    (ctl (leB 0 i3 && ltB i3 16)
      (ctl (byteAt [48, 49, 50, 51, 52, 53, 54, 55, 56, 57, 65, 66, 67, 68, 69, 70] i3 == b0)
        (Option.some (Ex.ret, { vals := [AV.int IntKind.i64 i3], blks := [] }))
        (lp E F 45 0 [] 0
          { vals := [AV.int IntKind.u8 b0, AV.int IntKind.i64 (IntKind.i64.wrap (i3 + 1))], blks := [] }))
      Option.none)
    (Option.some (Ex.exit 0, { vals := [], blks := [] })) := (lp_unfold ..).trans (by kernel_rfl)

/-- dynpos/dynposref04.hex -/
theorem r45 (F : Fun) (b : Int) : funK E F 45 [AV.int IntKind.u8 b] [] =
  bnd
    (lp E F 45 0 [] 0
      { vals := [AV.int IntKind.u8 b, AV.int IntKind.i64 0], blks := [] })
    fun (p : Ex × Pack) =>
    ctl (p.fst.eqb (Ex.exit 0))
      (Option.some ([RV.p (PV.int IntKind.i64 (-1))], []))
      (ctl (p.fst.eqb Ex.ret)
        (ctl (okPack { slots := [(2, Sum.inl (Sh.int IntKind.i64))], blks := [] } p.snd)
          (Option.some
            ([RV.p
                  (PV.int IntKind.i64 (nth AV.undef p.snd.vals 0).toPV.toInt)],
              []))
          Option.none)
        Option.none) := by kernel_rfl

/-- dynpos/dynposref04.Fields, the loop of block 0 -/
theorem r46_0 (F : Fun) (body0 : List UInt8) (i4 : Int) (c0 : List (List PV)) : lp E F 46 0 [] 0
  { vals := [AV.str body0, AV.int IntKind.i64 i4], blks := [Blk.arr 1 c0] } =
  ctl (ltB i4 (↑body0.length : Int))
    (ctl (leB 0 i4 && ltB i4 (↑body0.length : Int))
      (ctl (byteAt body0 i4 == 44)
        (ctl (leN ((c0.length + 1) * 16) 140737488355328)
          (lp E F 46 0 [] 0
            { vals := [AV.str body0, AV.int IntKind.i64 (IntKind.i64.wrap (i4 + 1))],
              blks := [Blk.arr 1 (c0 ++ [[PV.str []]])] })
          Option.none)
        (ctl
          (leB 0 (IntKind.i64.wrap ((↑c0.length : Int) - 1)) && ltB (IntKind.i64.wrap ((↑c0.length : Int) - 1)) (↑c0.length : Int))
          (ctl
            (okCs [Sh.str]
              (List.take 1 (List.drop 0 (nth [] c0 (IntKind.i64.wrap ((↑c0.length : Int) - 1)).toNat))))
            (ctl
              (leB 0 i4 &&
                (leB i4 (IntKind.i64.wrap (i4 + 1)) && leB (IntKind.i64.wrap (i4 + 1)) (↑body0.length : Int)))
              (ctl
                (leN
                  ((nth PV.nilp (nth [] c0 (IntKind.i64.wrap ((↑c0.length : Int) - 1)).toNat) 0).toStr.length +
                    (cutI body0 i4 (IntKind.i64.wrap (i4 + 1))).length)
                  9223372036854775807)
                (ctl
                  (leB 0 (IntKind.i64.wrap ((↑c0.length : Int) - 1)) && ltB (IntKind.i64.wrap ((↑c0.length : Int) - 1)) (↑c0.length : Int))
                  (lp E F 46 0 [] 0
                    { vals := [AV.str body0, AV.int IntKind.i64 (IntKind.i64.wrap (i4 + 1))],
                      blks :=
                        [Blk.arr 1
                            (setEs c0 (IntKind.i64.wrap ((↑c0.length : Int) - 1)).toNat 0
                              [PV.str
                                  ((nth PV.nilp (nth [] c0 (IntKind.i64.wrap ((↑c0.length : Int) - 1)).toNat)
                                        0).toStr ++
                                    cutI body0 i4 (IntKind.i64.wrap (i4 + 1)))])] })
                  Option.none)
                Option.none)
              Option.none)
            Option.none)
          Option.none))
      Option.none)
    (Option.some (Ex.exit 0, { vals := [], blks := [Blk.arr 1 c0] })) := (lp_unfold ..).trans (by kernel_rfl)

/-- dynpos/dynposref04.Fields -/
theorem r46 (F : Fun) (body : List UInt8) : funK E F 46 [AV.str body] [] =
  bnd
    (lp E F 46 0 [] 0
      { vals := [AV.str body, AV.int IntKind.i64 0],
        blks := [Blk.arr 1 [[PV.str []]]] })
    fun (p : Ex × Pack) =>
    ctl (p.fst.eqb (Ex.exit 0))
      (ctl
        (okPack { slots := [(3, Sum.inr (Sum.inr (AV.t (TV.hsl 0))))], blks := [Sum.inr 1] } p.snd)
        (Option.some ([RV.p (PV.sl 1 (nth (Blk.box []) p.snd.blks 0).toEs)], []))
        Option.none)
      Option.none := by kernel_rfl

/-- slices.ContainsFunc[[]string,string] -/
theorem r47a (F : Fun) (s : List (List PV)) : funK E F 47 [AV.sl 1 s, AV.fn 48 []] [] =
  bnd (F 54 [AV.sl 1 s, AV.fn 48 []] []) fun (r : Res) =>
    ctl
      (okR [RSh.one (Sh.int IntKind.i64)] r.fst && okB [] r.snd)
      (Option.some
        ([RV.p
              (PV.bool
                (leB 0 (nth (RV.p PV.nilp) r.fst 0).toPV.toInt))],
          []))
      Option.none := by kernel_rfl

/-- dynpos/sentence.Valid$1 -/
theorem r48 (F : Fun) (f : List UInt8) : funK E F 48 [AV.str f] [] =
  bnd (F 49 [AV.str f] []) fun (r : Res) =>
    ctl
      (okR [RSh.one Sh.bool] r.fst && okB [] r.snd)
      (Option.some
        ([RV.p
              (PV.bool !(nth (RV.p PV.nilp) r.fst 0).toPV.toBool)],
          []))
      Option.none := by kernel_rfl

/-- dynpos/sentence.field, the loop of block 0 -/
theorem r49_0 (F : Fun) (x9 : List (List PV)) (x10 : Int) (x11 : Int) : lp E F 49 0 [] 0
  { vals := [AV.sl 1 x9, AV.int IntKind.i64 x10, AV.int IntKind.i64 x11], blks := [] } =
  ctl (ltB x11 x10)
    (getE x9 x11 fun (c : List PV) =>
      ctl (okCs [Sh.int IntKind.u8] c)
        (bnd
          (ctl (!ltB (nth PV.nilp c 0).toInt 32)
            (Option.some (ltB 126 (nth PV.nilp c 0).toInt)) (Option.some Bool.true))
          fun (v : Bool) =>
          bnd
            (ctl (!v)
              (bnd
                (F 55
                  [AV.str [36, 42, 44],
                    AV.int IntKind.u8 (nth PV.nilp c 0).toInt]
                  [])
                fun (r : Res) =>
                ctl
                  (okR [RSh.one (Sh.int IntKind.i64)] r.fst && okB [] r.snd)
                  (Option.some (leB 0 (nth (RV.p PV.nilp) r.fst 0).toPV.toInt))
                  Option.none)
              (Option.some Bool.true))
            fun (v : Bool) =>
            ctl v (Option.some (Ex.ret, { vals := [AV.bool Bool.false], blks := [] }))
              (lp E F 49 0 [] 0
                {
                  vals :=
                    [AV.sl 1 x9, AV.int IntKind.i64 x10, AV.int IntKind.i64 (IntKind.i64.wrap (x11 + 1))],
                  blks := [] }))
        Option.none)
    (Option.some (Ex.exit 0, { vals := [], blks := [] })) := (lp_unfold ..).trans (by kernel_rfl)

/-- dynpos/sentence.field -/
theorem r49 (F : Fun) (f : List UInt8) : funK E F 49 [AV.str f] [] =
  ctl (ltB 20 (↑f.length : Int)) (Option.some ([RV.p (PV.bool Bool.false)], []))
    (bnd
      (lp E F 49 0 [] 0
        {
          vals :=
            [AV.sl 1 (byteEs f), AV.int IntKind.i64 (↑(byteEs f).length : Int),
              AV.int IntKind.i64 0],
          blks := [] })
      fun (p : Ex × Pack) =>
      ctl (p.fst.eqb (Ex.exit 0)) (Option.some ([RV.p (PV.bool Bool.true)], []))
        (ctl (p.fst.eqb Ex.ret)
          (ctl (okPack { slots := [(2, Sum.inl Sh.bool)], blks := [] } p.snd)
            (Option.some
              ([RV.p (PV.bool (nth AV.undef p.snd.vals 0).toPV.toBool)], []))
            Option.none)
          Option.none)) := by kernel_rfl

/-- dynpos/dynposref04.field, the loop of block 0 -/
theorem r53_0 (F : Fun) (s0 : List UInt8) (i3 : Int) : lp E F 53 0 [] 0 { vals := [AV.str s0, AV.int IntKind.i64 i3], blks := [] } =
  ctl (ltB i3 (↑s0.length : Int))
    (ctl (leB 0 i3 && ltB i3 (↑s0.length : Int))
      (bnd
        (ctl (!ltB (byteAt s0 i3) 32)
          (ctl (leB 0 i3 && ltB i3 (↑s0.length : Int))
            (Option.some (ltB 126 (byteAt s0 i3))) Option.none)
          (Option.some Bool.true))
        fun (v : Bool) =>
        bnd
          (ctl (!v)
            (ctl (leB 0 i3 && ltB i3 (↑s0.length : Int))
              (Option.some (byteAt s0 i3 == 36)) Option.none)
            (Option.some Bool.true))
          fun (v : Bool) =>
          bnd
            (ctl (!v)
              (ctl (leB 0 i3 && ltB i3 (↑s0.length : Int))
                (Option.some (byteAt s0 i3 == 42)) Option.none)
              (Option.some Bool.true))
            fun (v : Bool) =>
            bnd
              (ctl (!v)
                (ctl (leB 0 i3 && ltB i3 (↑s0.length : Int))
                  (Option.some (byteAt s0 i3 == 44)) Option.none)
                (Option.some Bool.true))
              fun (v : Bool) =>
              ctl v (Option.some (Ex.ret, { vals := [AV.bool Bool.false], blks := [] }))
                (lp E F 53 0 [] 0
                  { vals := [AV.str s0, AV.int IntKind.i64 (IntKind.i64.wrap (i3 + 1))], blks := [] }))
      Option.none)
    (Option.some (Ex.exit 0, { vals := [], blks := [] })) := (lp_unfold ..).trans (by kernel_rfl)

/-- dynpos/dynposref04.field -/
theorem r53 (F : Fun) (s : List UInt8) : funK E F 53 [AV.str s] [] =
  ctl (ltB 20 (↑s.length : Int)) (Option.some ([RV.p (PV.bool Bool.false)], []))
    (bnd
      (lp E F 53 0 [] 0
        { vals := [AV.str s, AV.int IntKind.i64 0], blks := [] })
      fun (p : Ex × Pack) =>
      ctl (p.fst.eqb (Ex.exit 0)) (Option.some ([RV.p (PV.bool Bool.true)], []))
        (ctl (p.fst.eqb Ex.ret)
          (ctl (okPack { slots := [(2, Sum.inl Sh.bool)], blks := [] } p.snd)
            (Option.some
              ([RV.p (PV.bool (nth AV.undef p.snd.vals 0).toPV.toBool)], []))
            Option.none)
          Option.none)) := by kernel_rfl

/-- slices.IndexFunc[[]string,string], the loop of block 0 -/
theorem r54_0a (F : Fun) (s0 : List (List PV)) (x7 : Int) (x8 : Int) : lp E F 54 0 [AV.undef, AV.fn 48 []] 0
  { vals := [AV.sl 1 s0, AV.int IntKind.i64 x7, AV.int IntKind.i64 x8], blks := [] } =
  ctl (ltB x8 x7)
    (getE s0 x8 fun (c : List PV) =>
      ctl (okCs [Sh.str] c)
        (bnd (F 48 [AV.str (nth PV.nilp c 0).toStr] [])
          fun (r : Res) =>
          ctl
            (okR [RSh.one Sh.bool] r.fst && okB [] r.snd)
            (ctl (nth (RV.p PV.nilp) r.fst 0).toPV.toBool
              (Option.some (Ex.ret, { vals := [AV.int IntKind.i64 x8], blks := [] }))
              (lp E F 54 0 [AV.undef, AV.fn 48 []] 0
                {
                  vals :=
                    [AV.sl 1 s0, AV.int IntKind.i64 x7, AV.int IntKind.i64 (IntKind.i64.wrap (x8 + 1))],
                  blks := [] }))
            Option.none)
        Option.none)
    (Option.some (Ex.exit 0, { vals := [], blks := [] })) := (lp_unfold ..).trans (by kernel_rfl)

/-- slices.IndexFunc[[]string,string] -/
theorem r54a (F : Fun) (s : List (List PV)) : funK E F 54 [AV.sl 1 s, AV.fn 48 []] [] =
  bnd
    (lp E F 54 0 [AV.undef, AV.fn 48 []] 0
      { vals := [AV.sl 1 s, AV.int IntKind.i64 (↑s.length : Int), AV.int IntKind.i64 0], blks := [] })
    fun (p : Ex × Pack) =>
    ctl (p.fst.eqb (Ex.exit 0))
      (Option.some ([RV.p (PV.int IntKind.i64 (-1))], []))
      (ctl (p.fst.eqb Ex.ret)
        (ctl (okPack { slots := [(4, Sum.inl (Sh.int IntKind.i64))], blks := [] } p.snd)
          (Option.some
            ([RV.p
                  (PV.int IntKind.i64 (nth AV.undef p.snd.vals 0).toPV.toInt)],
              []))
          Option.none)
        Option.none) := by kernel_rfl

end Go.Proofs.YtcopadohnlcheaaDoor.Vm
