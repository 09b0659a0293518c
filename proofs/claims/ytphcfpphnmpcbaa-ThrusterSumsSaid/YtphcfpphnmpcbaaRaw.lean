/- The raw theorems, by program: what each function and each loop comes to. -/
import Derived.Test.YtphcfpphnmpcbaaEnv
import Derived.Test.YtphcfpphnmpcbaaVm34
import Derived.KernelRfl
namespace Go.Proofs.Ytphcfpphnmpcbaa.Vm
open Go
set_option maxRecDepth 100000
set_option linter.unusedVariables false

/-- dynpos/dynposmake.New -/
theorem r6 (F : Fun) (l : List (List PV)) : funK E F 6 [AV.sl 1 l] [] =
  ctl
    (Bool.true &&
      (leB 0 (minI 600 (↑l.length : Int)) && leB (minI 600 (↑l.length : Int)) (↑l.length : Int)))
    (Option.some
      ([RV.ownp
            [PV.sl 1 (cutI l 0 (minI 600 (↑l.length : Int))), PV.int IntKind.i64 0]],
        []))
    Option.none := by kernel_rfl

/-- (*dynpos/dynposmake.Src).Thruster, the loop of block 0 -/
theorem r7_0 (F : Fun) (k4 : Int) (b0_0 : List (List PV)) (b0_1 : Int) (b1_0 : Int) (b1_1 : Int) (b1_2 : Int) (b1_3 : Int) (b1_4 : Int) (b1_5 : List (List PV)) (b2_0 : Int) (b2_1 : Int) (b2_2 : Int) (b2_3 : Int) (b2_4 : Int) (c3 : List (List PV)) : lp E F 7 1 [] 0
  { vals := [AV.int IntKind.i64 k4],
    blks :=
      [Blk.box [AV.sl 1 b0_0, AV.int IntKind.i64 b0_1],
        Blk.box
          [AV.int IntKind.i64 b1_0, AV.int IntKind.i64 b1_1, AV.int IntKind.i64 b1_2,
            AV.int IntKind.i64 b1_3, AV.int IntKind.i64 b1_4, AV.sl 2 b1_5],
        Blk.box
          [AV.int IntKind.i64 b2_0, AV.int IntKind.i64 b2_1, AV.int IntKind.i64 b2_2,
            AV.int IntKind.i64 b2_3, AV.int IntKind.i64 b2_4, AV.t (TV.hsl 3)],
        Blk.arr 2 c3] } =
  ctl (ltB 0 k4)
    (bnd
      (F 19 [AV.t (TV.ptr 0 0)]
        [Blk.box [AV.sl 1 b0_0, AV.int IntKind.i64 b0_1]])
      fun (r : Res) =>
      ctl
        (okR [RSh.agg [Sh.int IntKind.i64, Sh.int IntKind.i64]] r.fst &&
          okB [Sum.inl [Sh.sl 1, Sh.int IntKind.i64]] r.snd)
        (ctl (leN ((c3.length + 1) * 16) 140737488355328)
          (lp E F 7 1 [] 0
            { vals := [AV.int IntKind.i64 (IntKind.i64.wrap (k4 - 1))],
              blks :=
                [Blk.box
                    [AV.sl 1
                        (nth PV.nilp
                            (List.map AV.toPV (nth (Blk.box []) r.snd 0).toCs) 0).toEs,
                      AV.int IntKind.i64
                        (nth PV.nilp
                            (List.map AV.toPV (nth (Blk.box []) r.snd 0).toCs) 1).toInt],
                  Blk.box
                    [AV.int IntKind.i64 b1_0, AV.int IntKind.i64 b1_1, AV.int IntKind.i64 b1_2,
                      AV.int IntKind.i64 b1_3, AV.int IntKind.i64 b1_4, AV.sl 2 b1_5],
                  Blk.box
                    [AV.int IntKind.i64 b2_0, AV.int IntKind.i64 b2_1, AV.int IntKind.i64 b2_2,
                      AV.int IntKind.i64 b2_3, AV.int IntKind.i64 b2_4, AV.t (TV.hsl 3)],
                  Blk.arr 2
                    (c3 ++
                      [[PV.int IntKind.i64
                            (nth PV.nilp
                                (nth (RV.p PV.nilp) r.fst 0).toCs 0).toInt,
                          PV.int IntKind.i64
                            (nth PV.nilp
                                (nth (RV.p PV.nilp) r.fst 0).toCs 1).toInt]])] })
          Option.none)
        Option.none)
    (Option.some
      (Ex.exit 0,
        { vals := [],
          blks :=
            [Blk.box [AV.sl 1 b0_0, AV.int IntKind.i64 b0_1],
              Blk.box
                [AV.int IntKind.i64 b1_0, AV.int IntKind.i64 b1_1, AV.int IntKind.i64 b1_2,
                  AV.int IntKind.i64 b1_3, AV.int IntKind.i64 b1_4, AV.sl 2 b1_5],
              Blk.box
                [AV.int IntKind.i64 b2_0, AV.int IntKind.i64 b2_1, AV.int IntKind.i64 b2_2,
                  AV.int IntKind.i64 b2_3, AV.int IntKind.i64 b2_4, AV.t (TV.hsl 3)],
              Blk.arr 2 c3] })) := (lp_unfold ..).trans (by kernel_rfl)

/-- (*dynpos/dynposmake.Src).Thruster -/
theorem r7 (F : Fun) (s0 : List (List PV)) (s1 : Int) : funK E F 7 [AV.t (TV.ptr 0 0)] [Blk.box [AV.sl 1 s0, AV.int IntKind.i64 s1]] =
  bnd
    (F 10 [AV.t (TV.ptr 0 0), AV.int IntKind.i64 1, AV.int IntKind.i64 3]
      [Blk.box [AV.sl 1 s0, AV.int IntKind.i64 s1]])
    fun (r : Res) =>
    ctl
      (okR [RSh.one (Sh.int IntKind.i64)] r.fst &&
        okB [Sum.inl [Sh.sl 1, Sh.int IntKind.i64]] r.snd)
      (bnd
        (F 8 [AV.t (TV.ptr 0 0), AV.int IntKind.i64 2]
          [Blk.box
              [AV.sl 1
                  (nth PV.nilp
                      (List.map AV.toPV (nth (Blk.box []) r.snd 0).toCs) 0).toEs,
                AV.int IntKind.i64
                  (nth PV.nilp
                      (List.map AV.toPV (nth (Blk.box []) r.snd 0).toCs) 1).toInt]])
        fun (r_1 : Res) =>
        ctl
          (okR [RSh.one (Sh.int IntKind.i64)] r_1.fst &&
            okB [Sum.inl [Sh.sl 1, Sh.int IntKind.i64]] r_1.snd)
          (bnd
            (F 13
              [AV.t (TV.ptr 0 0),
                AV.sl 1
                  [[PV.int IntKind.i64 0], [PV.int IntKind.i64 1], [PV.int IntKind.i64 7],
                    [PV.int IntKind.i64 20], [PV.int IntKind.i64 40]]]
              [Blk.box
                  [AV.sl 1
                      (nth PV.nilp
                          (List.map AV.toPV (nth (Blk.box []) r_1.snd 0).toCs) 0).toEs,
                    AV.int IntKind.i64
                      (nth PV.nilp
                          (List.map AV.toPV (nth (Blk.box []) r_1.snd 0).toCs) 1).toInt]])
            fun (r_2 : Res) =>
            ctl
              (okR [RSh.one (Sh.int IntKind.i64)] r_2.fst &&
                okB [Sum.inl [Sh.sl 1, Sh.int IntKind.i64]] r_2.snd)
              (bnd
                (F 13
                  [AV.t (TV.ptr 0 0),
                    AV.sl 1
                      [[PV.int IntKind.i64 0], [PV.int IntKind.i64 1], [PV.int IntKind.i64 5],
                        [PV.int IntKind.i64 50]]]
                  [Blk.box
                      [AV.sl 1
                          (nth PV.nilp
                              (List.map AV.toPV (nth (Blk.box []) r_2.snd 0).toCs) 0).toEs,
                        AV.int IntKind.i64
                          (nth PV.nilp
                              (List.map AV.toPV (nth (Blk.box []) r_2.snd 0).toCs) 1).toInt]])
                fun (r_3 : Res) =>
                ctl
                  (okR [RSh.one (Sh.int IntKind.i64)] r_3.fst &&
                    okB [Sum.inl [Sh.sl 1, Sh.int IntKind.i64]] r_3.snd)
                  (bnd
                    (F 13
                      [AV.t (TV.ptr 0 0),
                        AV.sl 1
                          [[PV.int IntKind.i64 1], [PV.int IntKind.i64 2], [PV.int IntKind.i64 3],
                            [PV.int IntKind.i64 100]]]
                      [Blk.box
                          [AV.sl 1
                              (nth PV.nilp
                                  (List.map AV.toPV (nth (Blk.box []) r_3.snd 0).toCs) 0).toEs,
                            AV.int IntKind.i64
                              (nth PV.nilp
                                  (List.map AV.toPV (nth (Blk.box []) r_3.snd 0).toCs) 1).toInt]])
                    fun (r_4 : Res) =>
                    ctl
                      (okR [RSh.one (Sh.int IntKind.i64)] r_4.fst &&
                        okB [Sum.inl [Sh.sl 1, Sh.int IntKind.i64]] r_4.snd)
                      (bnd
                        (F 8 [AV.t (TV.ptr 0 0), AV.int IntKind.i64 3]
                          [Blk.box
                              [AV.sl 1
                                  (nth PV.nilp
                                      (List.map AV.toPV (nth (Blk.box []) r_4.snd 0).toCs) 0).toEs,
                                AV.int IntKind.i64
                                  (nth PV.nilp
                                      (List.map AV.toPV (nth (Blk.box []) r_4.snd 0).toCs) 1).toInt]])
                        fun (r_5 : Res) =>
                        ctl
                          (okR [RSh.one (Sh.int IntKind.i64)] r_5.fst &&
                            okB [Sum.inl [Sh.sl 1, Sh.int IntKind.i64]] r_5.snd)
                          (bnd
                            (lp E F 7 1 [] 0
                              {
                                vals :=
                                  [AV.int IntKind.i64
                                      (nth (RV.p PV.nilp) r_5.fst 0).toPV.toInt],
                                blks :=
                                  [Blk.box
                                      [AV.sl 1
                                          (nth PV.nilp
                                              (List.map AV.toPV (nth (Blk.box []) r_5.snd 0).toCs) 0).toEs,
                                        AV.int IntKind.i64
                                          (nth PV.nilp
                                              (List.map AV.toPV (nth (Blk.box []) r_5.snd 0).toCs) 1).toInt],
                                    Blk.box
                                      [AV.int IntKind.i64 0, AV.int IntKind.i64 0, AV.int IntKind.i64 0,
                                        AV.int IntKind.i64 0, AV.int IntKind.i64 0, AV.sl 2 []],
                                    Blk.box
                                      [AV.int IntKind.i64
                                          (nth (RV.p PV.nilp) r.fst 0).toPV.toInt,
                                        AV.int IntKind.i64
                                          (nth (RV.p PV.nilp) r_1.fst 0).toPV.toInt,
                                        AV.int IntKind.i64
                                          (nth (RV.p PV.nilp) r_2.fst 0).toPV.toInt,
                                        AV.int IntKind.i64
                                          (nth (RV.p PV.nilp) r_3.fst 0).toPV.toInt,
                                        AV.int IntKind.i64
                                          (nth (RV.p PV.nilp) r_4.fst 0).toPV.toInt,
                                        AV.t (TV.hsl 3)],
                                    Blk.arr 2 []] })
                            fun (p : Ex × Pack) =>
                            ctl (p.fst.eqb (Ex.exit 0))
                              (ctl
                                (okPack
                                  {
                                    slots :=
                                      [(2, Sum.inr (Sum.inr (AV.t (TV.ptr 1 0)))),
                                        (3, Sum.inr (Sum.inr (AV.t (TV.ptr 2 0))))],
                                    blks :=
                                      [Sum.inl [Sum.inl (Sh.sl 1), Sum.inl (Sh.int IntKind.i64)],
                                        Sum.inl
                                          [Sum.inl (Sh.int IntKind.i64), Sum.inl (Sh.int IntKind.i64),
                                            Sum.inl (Sh.int IntKind.i64), Sum.inl (Sh.int IntKind.i64),
                                            Sum.inl (Sh.int IntKind.i64), Sum.inl (Sh.sl 2)],
                                        Sum.inl
                                          [Sum.inl (Sh.int IntKind.i64), Sum.inl (Sh.int IntKind.i64),
                                            Sum.inl (Sh.int IntKind.i64), Sum.inl (Sh.int IntKind.i64),
                                            Sum.inl (Sh.int IntKind.i64), Sum.inr (AV.t (TV.hsl 3))],
                                        Sum.inr 2] }
                                  p.snd)
                                (Option.some
                                  ([RV.agg
                                        [PV.int IntKind.i64
                                            (nth AV.undef (nth (Blk.box []) p.snd.blks 2).toCs
                                                  0).toPV.toInt,
                                          PV.int IntKind.i64
                                            (nth AV.undef (nth (Blk.box []) p.snd.blks 2).toCs
                                                  1).toPV.toInt,
                                          PV.int IntKind.i64
                                            (nth AV.undef (nth (Blk.box []) p.snd.blks 2).toCs
                                                  2).toPV.toInt,
                                          PV.int IntKind.i64
                                            (nth AV.undef (nth (Blk.box []) p.snd.blks 2).toCs
                                                  3).toPV.toInt,
                                          PV.int IntKind.i64
                                            (nth AV.undef (nth (Blk.box []) p.snd.blks 2).toCs
                                                  4).toPV.toInt,
                                          PV.sl 2 (nth (Blk.box []) p.snd.blks 3).toEs]],
                                    [Blk.box
                                        [AV.sl 1
                                            (nth AV.undef (nth (Blk.box []) p.snd.blks 0).toCs
                                                  0).toPV.toEs,
                                          AV.int IntKind.i64
                                            (nth AV.undef (nth (Blk.box []) p.snd.blks 0).toCs
                                                  1).toPV.toInt]]))
                                Option.none)
                              Option.none)
                          Option.none)
                      Option.none)
                  Option.none)
              Option.none)
          Option.none)
      Option.none := by kernel_rfl

/-- (*dynpos/dynposmake.Src).N -/
theorem r8 (F : Fun) (s0 : List (List PV)) (s1 : Int) (n : Int) : funK E F 8 [AV.t (TV.ptr 0 0), AV.int IntKind.i64 n] [Blk.box [AV.sl 1 s0, AV.int IntKind.i64 s1]] =
  ctl (leB (↑s0.length : Int) s1)
    (Option.some
      ([RV.p (PV.int IntKind.i64 0)],
        [Blk.box [AV.sl 1 s0, AV.int IntKind.i64 s1]]))
    (getE s0 (IntKind.i64.wrap (IntKind.i64.wrap (s1 + 1) - 1)) fun (c : List PV) =>
      ctl (okCs [Sh.int IntKind.i64] c)
        (bnd
          (F 20 [AV.int IntKind.i64 (nth PV.nilp c 0).toInt, AV.int IntKind.i64 n] [])
          fun (r : Res) =>
          ctl
            (okR [RSh.one (Sh.int IntKind.i64)] r.fst && okB [] r.snd)
            (Option.some
              ([RV.p
                    (PV.int IntKind.i64 (nth (RV.p PV.nilp) r.fst 0).toPV.toInt)],
                [Blk.box [AV.sl 1 s0, AV.int IntKind.i64 (IntKind.i64.wrap (s1 + 1))]]))
            Option.none)
        Option.none) := by kernel_rfl

/-- dynpos/thruster.With -/
theorem r9 (F : Fun) (t0 : Int) (t1 : Int) (t2 : Int) (t3 : Int) (t4 : Int) (t5 : List (List PV)) (most : Int) : funK E F 9 [AV.agg
    [PV.int IntKind.i64 t0, PV.int IntKind.i64 t1, PV.int IntKind.i64 t2,
      PV.int IntKind.i64 t3, PV.int IntKind.i64 t4, PV.sl 2 t5],
  AV.int IntKind.i64 most] [] =
  bnd (F 21 [AV.sl 2 t5] []) fun (r : Res) =>
    ctl (okR [RSh.one (Sh.sl 2)] r.fst && okB [] r.snd)
      (Option.some
        ([RV.agg
              [PV.int IntKind.i64 t0, PV.int IntKind.i64 t1,
                PV.int IntKind.i64 (minI (maxI 0 most) t2), PV.int IntKind.i64 t3,
                PV.int IntKind.i64 t4,
                PV.sl 2 (nth (RV.p PV.nilp) r.fst 0).toPV.toEs]],
          []))
      Option.none := by kernel_rfl

/-- (*dynpos/dynposmake.Src).Range -/
theorem r10 (F : Fun) (s0 : List (List PV)) (s1 : Int) (lo : Int) (hi : Int) : funK E F 10 [AV.t (TV.ptr 0 0), AV.int IntKind.i64 lo, AV.int IntKind.i64 hi] [Blk.box [AV.sl 1 s0, AV.int IntKind.i64 s1]] =
  bnd
    (F 8 [AV.t (TV.ptr 0 0), AV.int IntKind.i64 (IntKind.i64.wrap (IntKind.i64.wrap (hi - lo) + 1))]
      [Blk.box [AV.sl 1 s0, AV.int IntKind.i64 s1]])
    fun (r : Res) =>
    ctl
      (okR [RSh.one (Sh.int IntKind.i64)] r.fst &&
        okB [Sum.inl [Sh.sl 1, Sh.int IntKind.i64]] r.snd)
      (Option.some
        ([RV.p
              (PV.int IntKind.i64
                (IntKind.i64.wrap (lo + (nth (RV.p PV.nilp) r.fst 0).toPV.toInt)))],
          [Blk.box
              [AV.sl 1
                  (nth PV.nilp
                      (List.map AV.toPV (nth (Blk.box []) r.snd 0).toCs) 0).toEs,
                AV.int IntKind.i64
                  (nth PV.nilp
                      (List.map AV.toPV (nth (Blk.box []) r.snd 0).toCs) 1).toInt]]))
      Option.none := by kernel_rfl

/-- dynpos/thruster.Most -/
theorem r11 (F : Fun) (t0 : Int) (t1 : Int) (t2 : Int) (t3 : Int) (t4 : Int) (t5 : List (List PV)) (power : Int) : funK E F 11 [AV.agg
    [PV.int IntKind.i64 t0, PV.int IntKind.i64 t1, PV.int IntKind.i64 t2,
      PV.int IntKind.i64 t3, PV.int IntKind.i64 t4, PV.sl 2 t5],
  AV.int IntKind.i64 power] [] =
  bnd
    (F 14
      [AV.agg
          [PV.int IntKind.i64 t0, PV.int IntKind.i64 t1, PV.int IntKind.i64 t2,
            PV.int IntKind.i64 t3, PV.int IntKind.i64 t4, PV.sl 2 t5],
        AV.agg [PV.int IntKind.i64 t2, PV.int IntKind.i64 0]]
      [])
    fun (r : Res) =>
    ctl
      (okR
          [RSh.one (Sh.int IntKind.i64), RSh.one (Sh.int IntKind.i64)] r.fst &&
        okB [] r.snd)
      (bnd
        (ctl (!(nth (RV.p PV.nilp) r.fst 1).toPV.toInt != 0)
          (Option.some (ltB power 0)) (Option.some Bool.true))
        fun (v : Bool) =>
        ctl v (Option.some ([RV.p (PV.int IntKind.i64 0)], []))
          (ctl (leB (nth (RV.p PV.nilp) r.fst 0).toPV.toInt power)
            (Option.some ([RV.p (PV.int IntKind.i64 t2)], []))
            (ctl (Bool.true && neB t4 0)
              (bnd (F 22 [AV.int IntKind.i64 (IntKind.i64.wrap ((IntKind.i64.wrap (1000 * power)).tdiv t4))] [])
                fun (r : Res) =>
                ctl
                  (okR
                      [RSh.one (Sh.int IntKind.i64), RSh.one (Sh.int IntKind.i64)] r.fst &&
                    okB [] r.snd)
                  (Option.some
                    ([RV.p
                          (PV.int IntKind.i64 (nth (RV.p PV.nilp) r.fst 0).toPV.toInt)],
                      []))
                  Option.none)
              Option.none)))
      Option.none := by kernel_rfl

/-- dynpos/dynposlaw12.sane -/
theorem r12 (F : Fun) : funK E F 12 [] [] =
  bnd
    (F 14
      [AV.agg
          [PV.int IntKind.i64 2, PV.int IntKind.i64 0, PV.int IntKind.i64 500,
            PV.int IntKind.i64 0, PV.int IntKind.i64 3, PV.sl 2 []],
        AV.agg [PV.int IntKind.i64 100, PV.int IntKind.i64 0]]
      [])
    fun (r : Res) =>
    ctl
      (okR
          [RSh.one (Sh.int IntKind.i64), RSh.one (Sh.int IntKind.i64)] r.fst &&
        okB [] r.snd)
      (bnd
        (F 14
          [AV.agg
              [PV.int IntKind.i64 2, PV.int IntKind.i64 0, PV.int IntKind.i64 500,
                PV.int IntKind.i64 0, PV.int IntKind.i64 3, PV.sl 2 []],
            AV.agg [PV.int IntKind.i64 10, PV.int IntKind.i64 0]]
          [])
        fun (r_1 : Res) =>
        ctl
          (okR
              [RSh.one (Sh.int IntKind.i64), RSh.one (Sh.int IntKind.i64)] r_1.fst &&
            okB [] r_1.snd)
          (bnd
            (ctl ((nth (RV.p PV.nilp) r.fst 1).toPV.toInt == 0)
              (Option.some ((nth (RV.p PV.nilp) r_1.fst 1).toPV.toInt == 0)) (Option.some Bool.false))
            fun (v : Bool) =>
            bnd
              (ctl v (Option.some ((nth (RV.p PV.nilp) r.fst 0).toPV.toInt == 30))
                (Option.some Bool.false))
              fun (v : Bool) =>
              bnd
                (ctl v (Option.some ((nth (RV.p PV.nilp) r_1.fst 0).toPV.toInt == 1))
                  (Option.some Bool.false))
                fun (v : Bool) =>
                bnd
                  (ctl v
                    (bnd
                      (F 11
                        [AV.agg
                            [PV.int IntKind.i64 2, PV.int IntKind.i64 0, PV.int IntKind.i64 500,
                              PV.int IntKind.i64 0, PV.int IntKind.i64 3, PV.sl 2 []],
                          AV.int IntKind.i64 30]
                        [])
                      fun (r : Res) =>
                      ctl
                        (okR [RSh.one (Sh.int IntKind.i64)] r.fst && okB [] r.snd)
                        (Option.some ((nth (RV.p PV.nilp) r.fst 0).toPV.toInt == 100)) Option.none)
                    (Option.some Bool.false))
                  fun (v : Bool) =>
                  bnd
                    (ctl v
                      (bnd
                        (F 9
                          [AV.agg
                              [PV.int IntKind.i64 2, PV.int IntKind.i64 0, PV.int IntKind.i64 500,
                                PV.int IntKind.i64 0, PV.int IntKind.i64 3, PV.sl 2 []],
                            AV.int IntKind.i64 7]
                          [])
                        fun (r : Res) =>
                        ctl
                          (okR
                              [RSh.agg
                                  [Sh.int IntKind.i64, Sh.int IntKind.i64, Sh.int IntKind.i64,
                                    Sh.int IntKind.i64, Sh.int IntKind.i64, Sh.sl 2]]
                              r.fst &&
                            okB [] r.snd)
                          (Option.some
                            ((nth PV.nilp
                                  (nth (RV.p PV.nilp) r.fst 0).toCs 2).toInt ==
                              7))
                          Option.none)
                      (Option.some Bool.false))
                    fun (v : Bool) => Option.some ([RV.p (PV.bool v)], []))
          Option.none)
      Option.none := by kernel_rfl

/-- (*dynpos/dynposmake.Src).Pick -/
theorem r13 (F : Fun) (s0 : List (List PV)) (s1 : Int) (l : List (List PV)) : funK E F 13 [AV.t (TV.ptr 0 0), AV.sl 1 l] [Blk.box [AV.sl 1 s0, AV.int IntKind.i64 s1]] =
  bnd
    (F 8 [AV.t (TV.ptr 0 0), AV.int IntKind.i64 (↑l.length : Int)]
      [Blk.box [AV.sl 1 s0, AV.int IntKind.i64 s1]])
    fun (r : Res) =>
    ctl
      (okR [RSh.one (Sh.int IntKind.i64)] r.fst &&
        okB [Sum.inl [Sh.sl 1, Sh.int IntKind.i64]] r.snd)
      (getE l (nth (RV.p PV.nilp) r.fst 0).toPV.toInt
        fun (c : List PV) =>
        ctl (okCs [Sh.int IntKind.i64] c)
          (Option.some
            ([RV.p (PV.int IntKind.i64 (nth PV.nilp c 0).toInt)],
              [Blk.box
                  [AV.sl 1
                      (nth PV.nilp
                          (List.map AV.toPV (nth (Blk.box []) r.snd 0).toCs) 0).toEs,
                    AV.int IntKind.i64
                      (nth PV.nilp
                          (List.map AV.toPV (nth (Blk.box []) r.snd 0).toCs) 1).toInt]]))
          Option.none)
      Option.none := by kernel_rfl

/-- dynpos/thruster.Power -/
theorem r14 (F : Fun) (t0 : Int) (t1 : Int) (t2 : Int) (t3 : Int) (t4 : Int) (t5 : List (List PV)) (v0 : Int) (v1 : Int) : funK E F 14 [AV.agg
    [PV.int IntKind.i64 t0, PV.int IntKind.i64 t1, PV.int IntKind.i64 t2,
      PV.int IntKind.i64 t3, PV.int IntKind.i64 t4, PV.sl 2 t5],
  AV.agg [PV.int IntKind.i64 v0, PV.int IntKind.i64 v1]] [] =
  bnd
    (F 23
      [AV.agg
          [PV.int IntKind.i64 t0, PV.int IntKind.i64 t1, PV.int IntKind.i64 t2,
            PV.int IntKind.i64 t3, PV.int IntKind.i64 t4, PV.sl 2 t5]]
      [])
    fun (r : Res) =>
    ctl (okR [RSh.one Sh.bool] r.fst && okB [] r.snd)
      (bnd
        (ctl (!!(nth (RV.p PV.nilp) r.fst 0).toPV.toBool)
          (bnd (F 24 [AV.agg [PV.int IntKind.i64 v0, PV.int IntKind.i64 v1]] [])
            fun (r : Res) =>
            ctl (okR [RSh.one Sh.bool] r.fst && okB [] r.snd)
              (Option.some !(nth (RV.p PV.nilp) r.fst 0).toPV.toBool) Option.none)
          (Option.some Bool.true))
        fun (v : Bool) =>
        ctl v
          (Option.some ([RV.p (PV.int IntKind.i64 0), RV.p (PV.int IntKind.i64 1)], []))
          (bnd
            (F 25
              [AV.int IntKind.i64 (IntKind.i64.wrap (IntKind.i64.wrap (IntKind.i64.wrap (v0 * v0) + IntKind.i64.wrap (v1 * v1)) * t4)),
                AV.int IntKind.i64 1000]
              [])
            fun (r : Res) =>
            ctl
              (okR
                  [RSh.one (Sh.int IntKind.i64), RSh.one (Sh.int IntKind.i64)] r.fst &&
                okB [] r.snd)
              (Option.some
                ([RV.p
                      (PV.int IntKind.i64 (nth (RV.p PV.nilp) r.fst 0).toPV.toInt),
                    RV.p
                      (PV.int IntKind.i64 (nth (RV.p PV.nilp) r.fst 1).toPV.toInt)],
                  []))
              Option.none))
      Option.none := by kernel_rfl

/-- (*dynpos/dynposmake.Src).Ship, the loop of block 0 -/
theorem r15_0 (F : Fun) (k6 : Int) (b0_0 : List (List PV)) (b0_1 : Int) (b1_0 : Int) (b1_1 : Int) (b1_2 : List (List PV)) (b2_0 : Int) (b2_1 : Int) (c3 : List (List PV)) : lp E F 15 1 [] 0
  { vals := [AV.int IntKind.i64 k6],
    blks :=
      [Blk.box [AV.sl 1 b0_0, AV.int IntKind.i64 b0_1],
        Blk.box [AV.int IntKind.i64 b1_0, AV.int IntKind.i64 b1_1, AV.sl 6 b1_2],
        Blk.box
          [AV.int IntKind.i64 b2_0, AV.int IntKind.i64 b2_1, AV.t (TV.hsl 3)],
        Blk.arr 6 c3] } =
  ctl (ltB 0 k6)
    (bnd
      (F 7 [AV.t (TV.ptr 0 0)]
        [Blk.box [AV.sl 1 b0_0, AV.int IntKind.i64 b0_1]])
      fun (r : Res) =>
      ctl
        (okR
            [RSh.agg
                [Sh.int IntKind.i64, Sh.int IntKind.i64, Sh.int IntKind.i64,
                  Sh.int IntKind.i64, Sh.int IntKind.i64, Sh.sl 2]]
            r.fst &&
          okB [Sum.inl [Sh.sl 1, Sh.int IntKind.i64]] r.snd)
        (ctl (leN ((c3.length + 1) * 64) 140737488355328)
          (lp E F 15 1 [] 0
            { vals := [AV.int IntKind.i64 (IntKind.i64.wrap (k6 - 1))],
              blks :=
                [Blk.box
                    [AV.sl 1
                        (nth PV.nilp
                            (List.map AV.toPV (nth (Blk.box []) r.snd 0).toCs) 0).toEs,
                      AV.int IntKind.i64
                        (nth PV.nilp
                            (List.map AV.toPV (nth (Blk.box []) r.snd 0).toCs) 1).toInt],
                  Blk.box [AV.int IntKind.i64 b1_0, AV.int IntKind.i64 b1_1, AV.sl 6 b1_2],
                  Blk.box
                    [AV.int IntKind.i64 b2_0, AV.int IntKind.i64 b2_1, AV.t (TV.hsl 3)],
                  Blk.arr 6
                    (c3 ++
                      [[PV.int IntKind.i64
                            (nth PV.nilp
                                (nth (RV.p PV.nilp) r.fst 0).toCs 0).toInt,
                          PV.int IntKind.i64
                            (nth PV.nilp
                                (nth (RV.p PV.nilp) r.fst 0).toCs 1).toInt,
                          PV.int IntKind.i64
                            (nth PV.nilp
                                (nth (RV.p PV.nilp) r.fst 0).toCs 2).toInt,
                          PV.int IntKind.i64
                            (nth PV.nilp
                                (nth (RV.p PV.nilp) r.fst 0).toCs 3).toInt,
                          PV.int IntKind.i64
                            (nth PV.nilp
                                (nth (RV.p PV.nilp) r.fst 0).toCs 4).toInt,
                          PV.sl 2
                            (nth PV.nilp
                                (nth (RV.p PV.nilp) r.fst 0).toCs 5).toEs]])] })
          Option.none)
        Option.none)
    (Option.some
      (Ex.exit 0,
        { vals := [],
          blks :=
            [Blk.box [AV.sl 1 b0_0, AV.int IntKind.i64 b0_1],
              Blk.box [AV.int IntKind.i64 b1_0, AV.int IntKind.i64 b1_1, AV.sl 6 b1_2],
              Blk.box
                [AV.int IntKind.i64 b2_0, AV.int IntKind.i64 b2_1, AV.t (TV.hsl 3)],
              Blk.arr 6 c3] })) := (lp_unfold ..).trans (by kernel_rfl)

/-- (*dynpos/dynposmake.Src).Ship -/
theorem r15 (F : Fun) (s0 : List (List PV)) (s1 : Int) (most : Int) : funK E F 15 [AV.t (TV.ptr 0 0), AV.int IntKind.i64 most] [Blk.box [AV.sl 1 s0, AV.int IntKind.i64 s1]] =
  bnd
    (F 13
      [AV.t (TV.ptr 0 0),
        AV.sl 1
          [[PV.int IntKind.i64 0], [PV.int IntKind.i64 1], [PV.int IntKind.i64 30],
            [PV.int IntKind.i64 60]]]
      [Blk.box [AV.sl 1 s0, AV.int IntKind.i64 s1]])
    fun (r : Res) =>
    ctl
      (okR [RSh.one (Sh.int IntKind.i64)] r.fst &&
        okB [Sum.inl [Sh.sl 1, Sh.int IntKind.i64]] r.snd)
      (bnd
        (F 13
          [AV.t (TV.ptr 0 0),
            AV.sl 1
              [[PV.int IntKind.i64 1], [PV.int IntKind.i64 25], [PV.int IntKind.i64 40]]]
          [Blk.box
              [AV.sl 1
                  (nth PV.nilp
                      (List.map AV.toPV (nth (Blk.box []) r.snd 0).toCs) 0).toEs,
                AV.int IntKind.i64
                  (nth PV.nilp
                      (List.map AV.toPV (nth (Blk.box []) r.snd 0).toCs) 1).toInt]])
        fun (r_1 : Res) =>
        ctl
          (okR [RSh.one (Sh.int IntKind.i64)] r_1.fst &&
            okB [Sum.inl [Sh.sl 1, Sh.int IntKind.i64]] r_1.snd)
          (bnd
            (F 8 [AV.t (TV.ptr 0 0), AV.int IntKind.i64 (IntKind.i64.wrap (most + 1))]
              [Blk.box
                  [AV.sl 1
                      (nth PV.nilp
                          (List.map AV.toPV (nth (Blk.box []) r_1.snd 0).toCs) 0).toEs,
                    AV.int IntKind.i64
                      (nth PV.nilp
                          (List.map AV.toPV (nth (Blk.box []) r_1.snd 0).toCs) 1).toInt]])
            fun (r_2 : Res) =>
            ctl
              (okR [RSh.one (Sh.int IntKind.i64)] r_2.fst &&
                okB [Sum.inl [Sh.sl 1, Sh.int IntKind.i64]] r_2.snd)
              (bnd
                (lp E F 15 1 [] 0
                  { vals := [AV.int IntKind.i64 (nth (RV.p PV.nilp) r_2.fst 0).toPV.toInt],
                    blks :=
                      [Blk.box
                          [AV.sl 1
                              (nth PV.nilp
                                  (List.map AV.toPV (nth (Blk.box []) r_2.snd 0).toCs) 0).toEs,
                            AV.int IntKind.i64
                              (nth PV.nilp
                                  (List.map AV.toPV (nth (Blk.box []) r_2.snd 0).toCs) 1).toInt],
                        Blk.box [AV.int IntKind.i64 0, AV.int IntKind.i64 0, AV.sl 6 []],
                        Blk.box
                          [AV.int IntKind.i64 (nth (RV.p PV.nilp) r.fst 0).toPV.toInt,
                            AV.int IntKind.i64 (nth (RV.p PV.nilp) r_1.fst 0).toPV.toInt,
                            AV.t (TV.hsl 3)],
                        Blk.arr 6 []] })
                fun (p : Ex × Pack) =>
                ctl (p.fst.eqb (Ex.exit 0))
                  (ctl
                    (okPack
                      {
                        slots :=
                          [(4, Sum.inr (Sum.inr (AV.t (TV.ptr 1 0)))),
                            (5, Sum.inr (Sum.inr (AV.t (TV.ptr 2 0))))],
                        blks :=
                          [Sum.inl [Sum.inl (Sh.sl 1), Sum.inl (Sh.int IntKind.i64)],
                            Sum.inl [Sum.inl (Sh.int IntKind.i64), Sum.inl (Sh.int IntKind.i64), Sum.inl (Sh.sl 6)],
                            Sum.inl
                              [Sum.inl (Sh.int IntKind.i64), Sum.inl (Sh.int IntKind.i64),
                                Sum.inr (AV.t (TV.hsl 3))],
                            Sum.inr 6] }
                      p.snd)
                    (Option.some
                      ([RV.agg
                            [PV.int IntKind.i64
                                (nth AV.undef (nth (Blk.box []) p.snd.blks 2).toCs 0).toPV.toInt,
                              PV.int IntKind.i64
                                (nth AV.undef (nth (Blk.box []) p.snd.blks 2).toCs 1).toPV.toInt,
                              PV.sl 6 (nth (Blk.box []) p.snd.blks 3).toEs]],
                        [Blk.box
                            [AV.sl 1
                                (nth AV.undef (nth (Blk.box []) p.snd.blks 0).toCs 0).toPV.toEs,
                              AV.int IntKind.i64
                                (nth AV.undef (nth (Blk.box []) p.snd.blks 0).toCs
                                      1).toPV.toInt]]))
                    Option.none)
                  Option.none)
              Option.none)
          Option.none)
      Option.none := by kernel_rfl

/-- (*dynpos/dynposmake.Src).Thrusts, the loop of block 0 -/
theorem r16_0 (F : Fun) (x8 : Int) (x9 : Int) (b0_0 : List (List PV)) (b0_1 : Int) (c1 : List (List PV)) : lp E F 16 1 [] 0
  { vals := [AV.int IntKind.i64 x8, AV.int IntKind.i64 x9],
    blks := [Blk.box [AV.sl 1 b0_0, AV.int IntKind.i64 b0_1], Blk.arr 2 c1] } =
  ctl (ltB x9 x8)
    (bnd
      (F 10 [AV.t (TV.ptr 0 0), AV.int IntKind.i64 (-20), AV.int IntKind.i64 20]
        [Blk.box [AV.sl 1 b0_0, AV.int IntKind.i64 b0_1]])
      fun (r : Res) =>
      ctl
        (okR [RSh.one (Sh.int IntKind.i64)] r.fst &&
          okB [Sum.inl [Sh.sl 1, Sh.int IntKind.i64]] r.snd)
        (bnd
          (F 10 [AV.t (TV.ptr 0 0), AV.int IntKind.i64 (-20), AV.int IntKind.i64 20]
            [Blk.box
                [AV.sl 1
                    (nth PV.nilp
                        (List.map AV.toPV (nth (Blk.box []) r.snd 0).toCs) 0).toEs,
                  AV.int IntKind.i64
                    (nth PV.nilp
                        (List.map AV.toPV (nth (Blk.box []) r.snd 0).toCs) 1).toInt]])
          fun (r_1 : Res) =>
          ctl
            (okR [RSh.one (Sh.int IntKind.i64)] r_1.fst &&
              okB [Sum.inl [Sh.sl 1, Sh.int IntKind.i64]] r_1.snd)
            (ctl (leN ((c1.length + 1) * 16) 140737488355328)
              (lp E F 16 1 [] 0
                { vals := [AV.int IntKind.i64 x8, AV.int IntKind.i64 (IntKind.i64.wrap (x9 + 1))],
                  blks :=
                    [Blk.box
                        [AV.sl 1
                            (nth PV.nilp
                                (List.map AV.toPV (nth (Blk.box []) r_1.snd 0).toCs) 0).toEs,
                          AV.int IntKind.i64
                            (nth PV.nilp
                                (List.map AV.toPV (nth (Blk.box []) r_1.snd 0).toCs) 1).toInt],
                      Blk.arr 2
                        (c1 ++
                          [[PV.int IntKind.i64 (nth (RV.p PV.nilp) r.fst 0).toPV.toInt,
                              PV.int IntKind.i64
                                (nth (RV.p PV.nilp) r_1.fst 0).toPV.toInt]])] })
              Option.none)
            Option.none)
        Option.none)
    (Option.some
      (Ex.exit 0,
        { vals := [],
          blks := [Blk.box [AV.sl 1 b0_0, AV.int IntKind.i64 b0_1], Blk.arr 2 c1] })) := (lp_unfold ..).trans (by kernel_rfl)

/-- (*dynpos/dynposmake.Src).Thrusts -/
theorem r16 (F : Fun) (s0 : List (List PV)) (s1 : Int) (x0 : Int) (x1 : Int) (x2 : List (List PV)) : funK E F 16 [AV.t (TV.ptr 0 0),
  AV.agg [PV.int IntKind.i64 x0, PV.int IntKind.i64 x1, PV.sl 6 x2]] [Blk.box [AV.sl 1 s0, AV.int IntKind.i64 s1]] =
  bnd
    (lp E F 16 1 [] 0
      { vals := [AV.int IntKind.i64 (↑x2.length : Int), AV.int IntKind.i64 0],
        blks := [Blk.box [AV.sl 1 s0, AV.int IntKind.i64 s1], Blk.arr 2 []] })
    fun (p : Ex × Pack) =>
    ctl (p.fst.eqb (Ex.exit 0))
      (ctl
        (okPack
          { slots := [(5, Sum.inr (Sum.inr (AV.t (TV.hsl 1))))],
            blks := [Sum.inl [Sum.inl (Sh.sl 1), Sum.inl (Sh.int IntKind.i64)], Sum.inr 2] }
          p.snd)
        (Option.some
          ([RV.p (PV.sl 2 (nth (Blk.box []) p.snd.blks 1).toEs)],
            [Blk.box
                [AV.sl 1
                    (nth AV.undef (nth (Blk.box []) p.snd.blks 0).toCs 0).toPV.toEs,
                  AV.int IntKind.i64
                    (nth AV.undef (nth (Blk.box []) p.snd.blks 0).toCs 1).toPV.toInt]]))
        Option.none)
      Option.none := by kernel_rfl

/-- dynpos/thruster.Total, the loop of block 1 -/
theorem r17_1 (F : Fun) (x24 : List (List PV)) (x25 : Int) (x26 : Int) (b0_0 : Int) (b0_1 : Int) (b0_2 : List (List PV)) (b1_0 : Int) (b1_1 : Int) (b1_2 : Int) (b2_0 : Int) (b2_1 : Int) (b2_2 : Int) : lp E F 17 0 [] 1
  { vals := [AV.sl 2 x24, AV.int IntKind.i64 x25, AV.int IntKind.i64 x26],
    blks :=
      [Blk.box [AV.int IntKind.i64 b0_0, AV.int IntKind.i64 b0_1, AV.sl 6 b0_2],
        Blk.box
          [AV.int IntKind.i64 b1_0, AV.int IntKind.i64 b1_1, AV.int IntKind.i64 b1_2],
        Blk.box
          [AV.int IntKind.i64 b2_0, AV.int IntKind.i64 b2_1, AV.int IntKind.i64 b2_2]] } =
  ctl (ltB x26 x25)
    (getE x24 x26 fun (c : List PV) =>
      ctl (okCs [Sh.int IntKind.i64, Sh.int IntKind.i64] c)
        (bnd
          (F 24
            [AV.agg
                [PV.int IntKind.i64 (nth PV.nilp c 0).toInt,
                  PV.int IntKind.i64 (nth PV.nilp c 1).toInt]]
            [])
          fun (r : Res) =>
          ctl (okR [RSh.one Sh.bool] r.fst && okB [] r.snd)
            (ctl (!(nth (RV.p PV.nilp) r.fst 0).toPV.toBool)
              (Option.some
                (Ex.ret,
                  { vals := [AV.int IntKind.i64 1],
                    blks :=
                      [Blk.box
                          [AV.int IntKind.i64 0, AV.int IntKind.i64 0, AV.int IntKind.i64 0]] }))
              (getE b0_2 x26 fun (c_1 : List PV) =>
                ctl
                  (okCs
                    [Sh.int IntKind.i64, Sh.int IntKind.i64, Sh.int IntKind.i64,
                      Sh.int IntKind.i64, Sh.int IntKind.i64, Sh.sl 2]
                    c_1)
                  (ctl ((nth PV.nilp c_1 1).toInt == 0)
                    (lp E F 17 0 [] 1
                      { vals := [AV.sl 2 x24, AV.int IntKind.i64 x25, AV.int IntKind.i64 (IntKind.i64.wrap (x26 + 1))],
                        blks :=
                          [Blk.box
                              [AV.int IntKind.i64 b0_0, AV.int IntKind.i64 b0_1, AV.sl 6 b0_2],
                            Blk.box
                              [AV.int IntKind.i64 b1_0, AV.int IntKind.i64 b1_1, AV.int IntKind.i64 b1_2],
                            Blk.box
                              [AV.int IntKind.i64 (IntKind.i64.wrap (b2_0 + (nth PV.nilp c 0).toInt)),
                                AV.int IntKind.i64 (IntKind.i64.wrap (b2_1 + (nth PV.nilp c 1).toInt)),
                                AV.int IntKind.i64 b2_2]] })
                    (lp E F 17 0 [] 1
                      { vals := [AV.sl 2 x24, AV.int IntKind.i64 x25, AV.int IntKind.i64 (IntKind.i64.wrap (x26 + 1))],
                        blks :=
                          [Blk.box
                              [AV.int IntKind.i64 b0_0, AV.int IntKind.i64 b0_1, AV.sl 6 b0_2],
                            Blk.box
                              [AV.int IntKind.i64 b1_0, AV.int IntKind.i64 b1_1, AV.int IntKind.i64 b1_2],
                            Blk.box
                              [AV.int IntKind.i64 (IntKind.i64.wrap (b2_0 + (nth PV.nilp c 0).toInt)),
                                AV.int IntKind.i64 b2_1,
                                AV.int IntKind.i64 (IntKind.i64.wrap (b2_2 + (nth PV.nilp c 1).toInt))]] }))
                  Option.none))
            Option.none)
        Option.none)
    (Option.some
      (Ex.exit 1,
        { vals := [],
          blks :=
            [Blk.box
                [AV.int IntKind.i64 b1_0, AV.int IntKind.i64 b1_1, AV.int IntKind.i64 b1_2],
              Blk.box
                [AV.int IntKind.i64 b2_0, AV.int IntKind.i64 b2_1, AV.int IntKind.i64 b2_2]] })) := (lp_unfold ..).trans (by kernel_rfl)

/-- dynpos/thruster.Total -/
theorem r17 (F : Fun) (s0 : Int) (s1 : Int) (s2 : List (List PV)) (l : List (List PV)) : funK E F 17 [AV.agg [PV.int IntKind.i64 s0, PV.int IntKind.i64 s1, PV.sl 6 s2],
  AV.sl 2 l] [] =
  bnd
    (F 26 [AV.agg [PV.int IntKind.i64 s0, PV.int IntKind.i64 s1, PV.sl 6 s2]] [])
    fun (r : Res) =>
    ctl
      (okR [RSh.one (Sh.int IntKind.i64)] r.fst && okB [] r.snd)
      (ctl ((nth (RV.p PV.nilp) r.fst 0).toPV.toInt != 0)
        (bnd
          (F 26 [AV.agg [PV.int IntKind.i64 s0, PV.int IntKind.i64 s1, PV.sl 6 s2]] [])
          fun (r : Res) =>
          ctl
            (okR [RSh.one (Sh.int IntKind.i64)] r.fst && okB [] r.snd)
            (Option.some
              ([RV.agg
                    [PV.int IntKind.i64 0, PV.int IntKind.i64 0, PV.int IntKind.i64 0],
                  RV.p
                    (PV.int IntKind.i64 (nth (RV.p PV.nilp) r.fst 0).toPV.toInt)],
                []))
            Option.none)
        (ctl ((↑l.length : Int) != (↑s2.length : Int))
          (Option.some
            ([RV.agg [PV.int IntKind.i64 0, PV.int IntKind.i64 0, PV.int IntKind.i64 0],
                RV.p (PV.int IntKind.i64 8)],
              []))
          (bnd
            (lp E F 17 0 [] 1
              { vals := [AV.sl 2 l, AV.int IntKind.i64 (↑l.length : Int), AV.int IntKind.i64 0],
                blks :=
                  [Blk.box [AV.int IntKind.i64 s0, AV.int IntKind.i64 s1, AV.sl 6 s2],
                    Blk.box
                      [AV.int IntKind.i64 0, AV.int IntKind.i64 0, AV.int IntKind.i64 0],
                    Blk.box
                      [AV.int IntKind.i64 0, AV.int IntKind.i64 0, AV.int IntKind.i64 0]] })
            fun (p : Ex × Pack) =>
            ctl (p.fst.eqb (Ex.exit 1))
              (ctl
                (okPack
                  {
                    slots :=
                      [(4, Sum.inr (Sum.inr (AV.t (TV.ptr 0 0)))),
                        (6, Sum.inr (Sum.inr (AV.t (TV.ptr 1 0))))],
                    blks :=
                      [Sum.inl
                          [Sum.inl (Sh.int IntKind.i64), Sum.inl (Sh.int IntKind.i64), Sum.inl (Sh.int IntKind.i64)],
                        Sum.inl
                          [Sum.inl (Sh.int IntKind.i64), Sum.inl (Sh.int IntKind.i64), Sum.inl (Sh.int IntKind.i64)]] }
                  p.snd)
                (Option.some
                  ([RV.agg
                        [PV.int IntKind.i64
                            (nth AV.undef (nth (Blk.box []) p.snd.blks 1).toCs 0).toPV.toInt,
                          PV.int IntKind.i64
                            (nth AV.undef (nth (Blk.box []) p.snd.blks 1).toCs 1).toPV.toInt,
                          PV.int IntKind.i64
                            (nth AV.undef (nth (Blk.box []) p.snd.blks 1).toCs 2).toPV.toInt],
                      RV.p (PV.int IntKind.i64 0)],
                    []))
                Option.none)
              (ctl (p.fst.eqb Ex.ret)
                (ctl
                  (okPack
                    { slots := [(4, Sum.inr (Sum.inr (AV.t (TV.ptr 0 0)))), (5, Sum.inl (Sh.int IntKind.i64))],
                      blks :=
                        [Sum.inl
                            [Sum.inl (Sh.int IntKind.i64), Sum.inl (Sh.int IntKind.i64),
                              Sum.inl (Sh.int IntKind.i64)]] }
                    p.snd)
                  (Option.some
                    ([RV.agg
                          [PV.int IntKind.i64
                              (nth AV.undef (nth (Blk.box []) p.snd.blks 0).toCs 0).toPV.toInt,
                            PV.int IntKind.i64
                              (nth AV.undef (nth (Blk.box []) p.snd.blks 0).toCs 1).toPV.toInt,
                            PV.int IntKind.i64
                              (nth AV.undef (nth (Blk.box []) p.snd.blks 0).toCs 2).toPV.toInt],
                        RV.p (PV.int IntKind.i64 (nth AV.undef p.snd.vals 0).toPV.toInt)],
                      []))
                  Option.none)
                Option.none))))
      Option.none := by kernel_rfl

/-- dynpos/thruster.Moment -/
theorem r18 (F : Fun) (s0 : Int) (s1 : Int) (s2 : List (List PV)) (l : List (List PV)) : funK E F 18 [AV.agg [PV.int IntKind.i64 s0, PV.int IntKind.i64 s1, PV.sl 6 s2],
  AV.sl 2 l] [] =
  bnd
    (F 17
      [AV.agg [PV.int IntKind.i64 s0, PV.int IntKind.i64 s1, PV.sl 6 s2],
        AV.sl 2 l]
      [])
    fun (r : Res) =>
    ctl
      (okR
          [RSh.agg [Sh.int IntKind.i64, Sh.int IntKind.i64, Sh.int IntKind.i64],
            RSh.one (Sh.int IntKind.i64)]
          r.fst &&
        okB [] r.snd)
      (ctl ((nth (RV.p PV.nilp) r.fst 1).toPV.toInt != 0)
        (Option.some
          ([RV.agg [PV.int IntKind.i64 0, PV.int IntKind.i64 0, PV.int IntKind.i64 0],
              RV.p
                (PV.int IntKind.i64 (nth (RV.p PV.nilp) r.fst 1).toPV.toInt)],
            []))
        (Option.some
          ([RV.agg
                [PV.int IntKind.i64
                    (nth PV.nilp (nth (RV.p PV.nilp) r.fst 0).toCs
                        0).toInt,
                  PV.int IntKind.i64
                    (IntKind.i64.wrap
                      ((nth PV.nilp
                            (nth (RV.p PV.nilp) r.fst 0).toCs 1).toInt +
                        (nth PV.nilp
                            (nth (RV.p PV.nilp) r.fst 0).toCs 2).toInt)),
                  PV.int IntKind.i64
                    (IntKind.i64.wrap
                      (IntKind.i64.wrap
                          ((nth PV.nilp
                                (nth (RV.p PV.nilp) r.fst 0).toCs 1).toInt *
                            s0) -
                        IntKind.i64.wrap
                          ((nth PV.nilp
                                (nth (RV.p PV.nilp) r.fst 0).toCs 2).toInt *
                            s1)))],
              RV.p (PV.int IntKind.i64 0)],
            [])))
      Option.none := by kernel_rfl

/-- (*dynpos/dynposmake.Src).Arc -/
theorem r19 (F : Fun) (s0 : List (List PV)) (s1 : Int) : funK E F 19 [AV.t (TV.ptr 0 0)] [Blk.box [AV.sl 1 s0, AV.int IntKind.i64 s1]] =
  bnd
    (F 13
      [AV.t (TV.ptr 0 0),
        AV.sl 1
          [[PV.int IntKind.i64 0], [PV.int IntKind.i64 450], [PV.int IntKind.i64 800],
            [PV.int IntKind.i64 1350], [PV.int IntKind.i64 1800], [PV.int IntKind.i64 2600],
            [PV.int IntKind.i64 3500]]]
      [Blk.box [AV.sl 1 s0, AV.int IntKind.i64 s1]])
    fun (r : Res) =>
    ctl
      (okR [RSh.one (Sh.int IntKind.i64)] r.fst &&
        okB [Sum.inl [Sh.sl 1, Sh.int IntKind.i64]] r.snd)
      (bnd
        (F 13
          [AV.t (TV.ptr 0 0),
            AV.sl 1
              [[PV.int IntKind.i64 0], [PV.int IntKind.i64 100], [PV.int IntKind.i64 300],
                [PV.int IntKind.i64 900], [PV.int IntKind.i64 1799]]]
          [Blk.box
              [AV.sl 1
                  (nth PV.nilp
                      (List.map AV.toPV (nth (Blk.box []) r.snd 0).toCs) 0).toEs,
                AV.int IntKind.i64
                  (nth PV.nilp
                      (List.map AV.toPV (nth (Blk.box []) r.snd 0).toCs) 1).toInt]])
        fun (r_1 : Res) =>
        ctl
          (okR [RSh.one (Sh.int IntKind.i64)] r_1.fst &&
            okB [Sum.inl [Sh.sl 1, Sh.int IntKind.i64]] r_1.snd)
          (Option.some
            ([RV.agg
                  [PV.int IntKind.i64 (nth (RV.p PV.nilp) r.fst 0).toPV.toInt,
                    PV.int IntKind.i64
                      ((IntKind.i64.wrap
                            ((nth (RV.p PV.nilp) r.fst 0).toPV.toInt +
                              (nth (RV.p PV.nilp) r_1.fst 0).toPV.toInt)).tmod
                        3600)]],
              [Blk.box
                  [AV.sl 1
                      (nth PV.nilp
                          (List.map AV.toPV (nth (Blk.box []) r_1.snd 0).toCs) 0).toEs,
                    AV.int IntKind.i64
                      (nth PV.nilp
                          (List.map AV.toPV (nth (Blk.box []) r_1.snd 0).toCs) 1).toInt]]))
          Option.none)
      Option.none := by kernel_rfl

/-- dynpos/dynposmake.Mod -/
theorem r20 (F : Fun) (x : Int) (n : Int) : funK E F 20 [AV.int IntKind.i64 x, AV.int IntKind.i64 n] [] =
  ctl (ltB n 1) (Option.some ([RV.p (PV.int IntKind.i64 0)], []))
    (ctl (Bool.true && neB n 0)
      (ctl (Bool.true && neB n 0)
        (Option.some ([RV.p (PV.int IntKind.i64 ((IntKind.i64.wrap (x.tmod n + n)).tmod n))], [])) Option.none)
      Option.none) := by kernel_rfl

/-- dynpos/arith.Root, the loop of block 0 -/
theorem r22_0 (F : Fun) (n0 : Int) (low4 : Int) (high5 : Int) : lp E F 22 0 [] 0
  { vals := [AV.int IntKind.i64 n0, AV.int IntKind.i64 low4, AV.int IntKind.i64 high5], blks := [] } =
  ctl (ltB low4 high5)
    (ctl
      (leB
        (IntKind.i64.wrap (IntKind.i64.wrap ((IntKind.i64.wrap (IntKind.i64.wrap (low4 + high5) + 1)).tdiv 2) * IntKind.i64.wrap ((IntKind.i64.wrap (IntKind.i64.wrap (low4 + high5) + 1)).tdiv 2))) n0)
      (lp E F 22 0 [] 0
        {
          vals :=
            [AV.int IntKind.i64 n0, AV.int IntKind.i64 (IntKind.i64.wrap ((IntKind.i64.wrap (IntKind.i64.wrap (low4 + high5) + 1)).tdiv 2)),
              AV.int IntKind.i64 high5],
          blks := [] })
      (lp E F 22 0 [] 0
        {
          vals :=
            [AV.int IntKind.i64 n0, AV.int IntKind.i64 low4,
              AV.int IntKind.i64 (IntKind.i64.wrap (IntKind.i64.wrap ((IntKind.i64.wrap (IntKind.i64.wrap (low4 + high5) + 1)).tdiv 2) - 1))],
          blks := [] }))
    (Option.some (Ex.exit 0, { vals := [AV.int IntKind.i64 low4], blks := [] })) := (lp_unfold ..).trans (by kernel_rfl)

/-- dynpos/arith.Root -/
theorem r22 (F : Fun) (n : Int) : funK E F 22 [AV.int IntKind.i64 n] [] =
  bnd (ctl (!ltB n 0) (Option.some (ltB 1000000000000000000 n)) (Option.some Bool.true))
    fun (v : Bool) =>
    ctl v
      (Option.some ([RV.p (PV.int IntKind.i64 0), RV.p (PV.int IntKind.i64 1)], []))
      (bnd
        (lp E F 22 0 [] 0
          { vals := [AV.int IntKind.i64 n, AV.int IntKind.i64 0, AV.int IntKind.i64 1000000000], blks := [] })
        fun (p : Ex × Pack) =>
        ctl (p.fst.eqb (Ex.exit 0))
          (ctl (okPack { slots := [(4, Sum.inl (Sh.int IntKind.i64))], blks := [] } p.snd)
            (Option.some
              ([RV.p (PV.int IntKind.i64 (nth AV.undef p.snd.vals 0).toPV.toInt),
                  RV.p (PV.int IntKind.i64 0)],
                []))
            Option.none)
          Option.none) := by kernel_rfl

/-- dynpos/sector.Valid -/
theorem r23 (F : Fun) (t0 : Int) (t1 : Int) (t2 : Int) (t3 : Int) (t4 : Int) (t5 : List (List PV)) : funK E F 23 [AV.agg
    [PV.int IntKind.i64 t0, PV.int IntKind.i64 t1, PV.int IntKind.i64 t2,
      PV.int IntKind.i64 t3, PV.int IntKind.i64 t4, PV.sl 2 t5]] [] =
  bnd (F 27 [AV.int IntKind.i64 t0, AV.int IntKind.i64 1, AV.int IntKind.i64 3] [])
    fun (r : Res) =>
    ctl (okR [RSh.one Sh.bool] r.fst && okB [] r.snd)
      (bnd
        (ctl (nth (RV.p PV.nilp) r.fst 0).toPV.toBool
          (bnd
            (F 27 [AV.int IntKind.i64 t1, AV.int IntKind.i64 0, AV.int IntKind.i64 1] [])
            fun (r : Res) =>
            ctl (okR [RSh.one Sh.bool] r.fst && okB [] r.snd)
              (Option.some (nth (RV.p PV.nilp) r.fst 0).toPV.toBool) Option.none)
          (Option.some Bool.false))
        fun (v : Bool) =>
        bnd
          (ctl v
            (bnd
              (F 27 [AV.int IntKind.i64 t2, AV.int IntKind.i64 0, AV.int IntKind.i64 5000] [])
              fun (r : Res) =>
              ctl (okR [RSh.one Sh.bool] r.fst && okB [] r.snd)
                (Option.some (nth (RV.p PV.nilp) r.fst 0).toPV.toBool) Option.none)
            (Option.some Bool.false))
          fun (v : Bool) =>
          bnd
            (ctl v
              (bnd
                (F 27 [AV.int IntKind.i64 t3, AV.int IntKind.i64 0, AV.int IntKind.i64 5000] [])
                fun (r : Res) =>
                ctl (okR [RSh.one Sh.bool] r.fst && okB [] r.snd)
                  (Option.some (nth (RV.p PV.nilp) r.fst 0).toPV.toBool) Option.none)
              (Option.some Bool.false))
            fun (v : Bool) =>
            bnd
              (ctl v
                (bnd
                  (F 27 [AV.int IntKind.i64 t4, AV.int IntKind.i64 1, AV.int IntKind.i64 100] [])
                  fun (r : Res) =>
                  ctl (okR [RSh.one Sh.bool] r.fst && okB [] r.snd)
                    (Option.some (nth (RV.p PV.nilp) r.fst 0).toPV.toBool) Option.none)
                (Option.some Bool.false))
              fun (v : Bool) =>
              bnd (ctl v (Option.some (leB (↑t5.length : Int) 4)) (Option.some Bool.false)) fun (v : Bool) =>
                ctl v
                  (bnd (F 28 [AV.sl 2 t5, AV.fn 29 []] []) fun (r : Res) =>
                    ctl
                      (okR [RSh.one Sh.bool] r.fst && okB [] r.snd)
                      (Option.some
                        ([RV.p
                              (PV.bool !(nth (RV.p PV.nilp) r.fst 0).toPV.toBool)],
                          []))
                      Option.none)
                  (Option.some ([RV.p (PV.bool Bool.false)], [])))
      Option.none := by kernel_rfl

/-- dynpos/thruster.small -/
theorem r24 (F : Fun) (v0 : Int) (v1 : Int) : funK E F 24 [AV.agg [PV.int IntKind.i64 v0, PV.int IntKind.i64 v1]] [] =
  bnd
    (ctl (leB (maxI v1 v0) 5000)
      (Option.some (leB (-5000) (minI v1 v0))) (Option.some Bool.false))
    fun (v : Bool) => Option.some ([RV.p (PV.bool v)], []) := by kernel_rfl

/-- dynpos/arith.Up -/
theorem r25 (F : Fun) (n : Int) (d : Int) : funK E F 25 [AV.int IntKind.i64 n, AV.int IntKind.i64 d] [] =
  bnd (F 31 [AV.int IntKind.i64 n, AV.int IntKind.i64 d, AV.fn 32 []] [])
    fun (r : Res) =>
    ctl
      (okR
          [RSh.one (Sh.int IntKind.i64), RSh.one (Sh.int IntKind.i64)] r.fst &&
        okB [] r.snd)
      (Option.some
        ([RV.p
              (PV.int IntKind.i64 (nth (RV.p PV.nilp) r.fst 0).toPV.toInt),
            RV.p
              (PV.int IntKind.i64 (nth (RV.p PV.nilp) r.fst 1).toPV.toInt)],
          []))
      Option.none := by kernel_rfl

/-- dynpos/thruster.Check -/
theorem r26 (F : Fun) (s0 : Int) (s1 : Int) (s2 : List (List PV)) : funK E F 26 [AV.agg [PV.int IntKind.i64 s0, PV.int IntKind.i64 s1, PV.sl 6 s2]] [] =
  ctl (ltB 8 (↑s2.length : Int)) (Option.some ([RV.p (PV.int IntKind.i64 2)], []))
    (bnd
      (ctl (!ltB (minI s1 s0) 0)
        (Option.some (ltB 200 (maxI s1 s0))) (Option.some Bool.true))
      fun (v : Bool) =>
      bnd (ctl (!v) (ctl (s0 == 0) (Option.some (s1 == 0)) (Option.some Bool.false)) (Option.some Bool.true)) fun (v : Bool) =>
        ctl v (Option.some ([RV.p (PV.int IntKind.i64 1)], []))
          (bnd (F 34 [AV.sl 6 s2, AV.fn 35 []] []) fun (r : Res) =>
            ctl (okR [RSh.one Sh.bool] r.fst && okB [] r.snd)
              (ctl (nth (RV.p PV.nilp) r.fst 0).toPV.toBool
                (Option.some ([RV.p (PV.int IntKind.i64 14)], []))
                (Option.some ([RV.p (PV.int IntKind.i64 0)], [])))
              Option.none)) := by kernel_rfl

/-- dynpos/sector.in -/
theorem r27 (F : Fun) (n : Int) (low : Int) (high : Int) : funK E F 27 [AV.int IntKind.i64 n, AV.int IntKind.i64 low, AV.int IntKind.i64 high] [] =
  bnd (ctl (leB low n) (Option.some (leB n high)) (Option.some Bool.false)) fun (v : Bool) =>
    Option.some ([RV.p (PV.bool v)], []) := by kernel_rfl

/-- slices.ContainsFunc[[]dynpos/api.Arc,dynpos/api.Arc] -/
theorem r28a (F : Fun) (s : List (List PV)) : funK E F 28 [AV.sl 2 s, AV.fn 29 []] [] =
  bnd (F 36 [AV.sl 2 s, AV.fn 29 []] []) fun (r : Res) =>
    ctl
      (okR [RSh.one (Sh.int IntKind.i64)] r.fst && okB [] r.snd)
      (Option.some
        ([RV.p
              (PV.bool
                (leB 0 (nth (RV.p PV.nilp) r.fst 0).toPV.toInt))],
          []))
      Option.none := by kernel_rfl

/-- dynpos/sector.Valid$1 -/
theorem r29 (F : Fun) (x0 : Int) (x1 : Int) : funK E F 29 [AV.agg [PV.int IntKind.i64 x0, PV.int IntKind.i64 x1]] [] =
  bnd (F 30 [AV.agg [PV.int IntKind.i64 x0, PV.int IntKind.i64 x1]] [])
    fun (r : Res) =>
    ctl (okR [RSh.one Sh.bool] r.fst && okB [] r.snd)
      (Option.some
        ([RV.p
              (PV.bool !(nth (RV.p PV.nilp) r.fst 0).toPV.toBool)],
          []))
      Option.none := by kernel_rfl

/-- dynpos/angle.Valid -/
theorem r30 (F : Fun) (x0 : Int) (x1 : Int) : funK E F 30 [AV.agg [PV.int IntKind.i64 x0, PV.int IntKind.i64 x1]] [] =
  bnd (F 37 [AV.int IntKind.i64 x0] []) fun (r : Res) =>
    ctl (okR [RSh.one Sh.bool] r.fst && okB [] r.snd)
      (ctl (nth (RV.p PV.nilp) r.fst 0).toPV.toBool
        (bnd (F 37 [AV.int IntKind.i64 x1] []) fun (r : Res) =>
          ctl (okR [RSh.one Sh.bool] r.fst && okB [] r.snd)
            (bnd
              (ctl (nth (RV.p PV.nilp) r.fst 0).toPV.toBool
                (bnd (F 38 [AV.agg [PV.int IntKind.i64 x0, PV.int IntKind.i64 x1]] [])
                  fun (r : Res) =>
                  ctl
                    (okR [RSh.one (Sh.int IntKind.i64)] r.fst && okB [] r.snd)
                    (Option.some (ltB (nth (RV.p PV.nilp) r.fst 0).toPV.toInt 1800)) Option.none)
                (Option.some Bool.false))
              fun (v : Bool) => Option.some ([RV.p (PV.bool v)], []))
            Option.none)
        (Option.some ([RV.p (PV.bool Bool.false)], [])))
      Option.none := by kernel_rfl

/-- dynpos/arith.divide -/
theorem r31a (F : Fun) (n : Int) (d : Int) : funK E F 31 [AV.int IntKind.i64 n, AV.int IntKind.i64 d, AV.fn 32 []] [] =
  bnd
    (ctl (!ltB n (-1000000000000000000)) (Option.some (ltB 1000000000000000000 n)) (Option.some Bool.true)) fun (v : Bool) =>
    bnd (ctl (!v) (Option.some (ltB d 1)) (Option.some Bool.true)) fun (v : Bool) =>
      bnd (ctl (!v) (Option.some (ltB 1000000000 d)) (Option.some Bool.true)) fun (v : Bool) =>
        ctl v
          (Option.some ([RV.p (PV.int IntKind.i64 0), RV.p (PV.int IntKind.i64 1)], []))
          (bnd (F 32 [AV.int IntKind.i64 n, AV.int IntKind.i64 d] []) fun (r : Res) =>
            ctl
              (okR [RSh.one (Sh.int IntKind.i64)] r.fst && okB [] r.snd)
              (Option.some
                ([RV.p
                      (PV.int IntKind.i64 (nth (RV.p PV.nilp) r.fst 0).toPV.toInt),
                    RV.p (PV.int IntKind.i64 0)],
                  []))
              Option.none) := by kernel_rfl

/-- dynpos/arith.Up$1 -/
theorem r32 (F : Fun) (n : Int) (d : Int) : funK E F 32 [AV.int IntKind.i64 n, AV.int IntKind.i64 d] [] =
  bnd (F 33 [AV.int IntKind.i64 (IntKind.i64.wrap (0 - n)), AV.int IntKind.i64 d] [])
    fun (r : Res) =>
    ctl
      (okR [RSh.one (Sh.int IntKind.i64)] r.fst && okB [] r.snd)
      (Option.some
        ([RV.p
              (PV.int IntKind.i64
                (IntKind.i64.wrap (0 - (nth (RV.p PV.nilp) r.fst 0).toPV.toInt)))],
          []))
      Option.none := by kernel_rfl

/-- dynpos/arith.floor -/
theorem r33 (F : Fun) (n : Int) (d : Int) : funK E F 33 [AV.int IntKind.i64 n, AV.int IntKind.i64 d] [] =
  ctl (Bool.true && neB d 0)
    (ctl (Bool.true && neB d 0)
      (ctl (ltB (n.tmod d) 0)
        (Option.some ([RV.p (PV.int IntKind.i64 (IntKind.i64.wrap (IntKind.i64.wrap (n.tdiv d) - 1)))], []))
        (Option.some ([RV.p (PV.int IntKind.i64 (IntKind.i64.wrap (n.tdiv d)))], [])))
      Option.none)
    Option.none := by kernel_rfl

/-- slices.ContainsFunc[[]dynpos/api.Thruster,dynpos/api.Thruster] -/
theorem r34a (F : Fun) (s : List (List PV)) : funK E F 34 [AV.sl 6 s, AV.fn 35 []] [] =
  bnd (F 39 [AV.sl 6 s, AV.fn 35 []] []) fun (r : Res) =>
    ctl
      (okR [RSh.one (Sh.int IntKind.i64)] r.fst && okB [] r.snd)
      (Option.some
        ([RV.p
              (PV.bool
                (leB 0 (nth (RV.p PV.nilp) r.fst 0).toPV.toInt))],
          []))
      Option.none := by kernel_rfl

/-- dynpos/thruster.Check$1 -/
theorem r35 (F : Fun) (t0 : Int) (t1 : Int) (t2 : Int) (t3 : Int) (t4 : Int) (t5 : List (List PV)) : funK E F 35 [AV.agg
    [PV.int IntKind.i64 t0, PV.int IntKind.i64 t1, PV.int IntKind.i64 t2,
      PV.int IntKind.i64 t3, PV.int IntKind.i64 t4, PV.sl 2 t5]] [] =
  bnd
    (F 23
      [AV.agg
          [PV.int IntKind.i64 t0, PV.int IntKind.i64 t1, PV.int IntKind.i64 t2,
            PV.int IntKind.i64 t3, PV.int IntKind.i64 t4, PV.sl 2 t5]]
      [])
    fun (r : Res) =>
    ctl (okR [RSh.one Sh.bool] r.fst && okB [] r.snd)
      (Option.some
        ([RV.p
              (PV.bool !(nth (RV.p PV.nilp) r.fst 0).toPV.toBool)],
          []))
      Option.none := by kernel_rfl

/-- slices.IndexFunc[[]dynpos/api.Arc,dynpos/api.Arc], the loop of block 0 -/
theorem r36_0a (F : Fun) (s0 : List (List PV)) (x7 : Int) (x8 : Int) : lp E F 36 0 [AV.undef, AV.fn 29 []] 0
  { vals := [AV.sl 2 s0, AV.int IntKind.i64 x7, AV.int IntKind.i64 x8], blks := [] } =
  ctl (ltB x8 x7)
    (getE s0 x8 fun (c : List PV) =>
      ctl (okCs [Sh.int IntKind.i64, Sh.int IntKind.i64] c)
        (bnd
          (F 29
            [AV.agg
                [PV.int IntKind.i64 (nth PV.nilp c 0).toInt,
                  PV.int IntKind.i64 (nth PV.nilp c 1).toInt]]
            [])
          fun (r : Res) =>
          ctl (okR [RSh.one Sh.bool] r.fst && okB [] r.snd)
            (ctl (nth (RV.p PV.nilp) r.fst 0).toPV.toBool
              (Option.some (Ex.ret, { vals := [AV.int IntKind.i64 x8], blks := [] }))
              (lp E F 36 0 [AV.undef, AV.fn 29 []] 0
                { vals := [AV.sl 2 s0, AV.int IntKind.i64 x7, AV.int IntKind.i64 (IntKind.i64.wrap (x8 + 1))],
                  blks := [] }))
            Option.none)
        Option.none)
    (Option.some (Ex.exit 0, { vals := [], blks := [] })) := (lp_unfold ..).trans (by kernel_rfl)

/-- slices.IndexFunc[[]dynpos/api.Arc,dynpos/api.Arc] -/
theorem r36a (F : Fun) (s : List (List PV)) : funK E F 36 [AV.sl 2 s, AV.fn 29 []] [] =
  bnd
    (lp E F 36 0 [AV.undef, AV.fn 29 []] 0
      { vals := [AV.sl 2 s, AV.int IntKind.i64 (↑s.length : Int), AV.int IntKind.i64 0], blks := [] })
    fun (p : Ex × Pack) =>
    ctl (p.fst.eqb (Ex.exit 0)) (Option.some ([RV.p (PV.int IntKind.i64 (-1))], []))
      (ctl (p.fst.eqb Ex.ret)
        (ctl (okPack { slots := [(4, Sum.inl (Sh.int IntKind.i64))], blks := [] } p.snd)
          (Option.some
            ([RV.p (PV.int IntKind.i64 (nth AV.undef p.snd.vals 0).toPV.toInt)], []))
          Option.none)
        Option.none) := by kernel_rfl

/-- dynpos/angle.Valid$1 -/
theorem r37 (F : Fun) (a : Int) : funK E F 37 [AV.int IntKind.i64 a] [] =
  bnd (ctl (leB 0 a) (Option.some (ltB a 3600)) (Option.some Bool.false)) fun (v : Bool) =>
    Option.some ([RV.p (PV.bool v)], []) := by kernel_rfl

/-- dynpos/angle.Width -/
theorem r38 (F : Fun) (x0 : Int) (x1 : Int) : funK E F 38 [AV.agg [PV.int IntKind.i64 x0, PV.int IntKind.i64 x1]] [] =
  bnd (F 40 [AV.int IntKind.i64 (IntKind.i64.wrap (x1 - x0))] []) fun (r : Res) =>
    ctl
      (okR [RSh.one (Sh.int IntKind.i64)] r.fst && okB [] r.snd)
      (Option.some
        ([RV.p
              (PV.int IntKind.i64 (nth (RV.p PV.nilp) r.fst 0).toPV.toInt)],
          []))
      Option.none := by kernel_rfl

/-- slices.IndexFunc[[]dynpos/api.Thruster,dynpos/api.Thruster], the loop of block 0 -/
theorem r39_0a (F : Fun) (s0 : List (List PV)) (x7 : Int) (x8 : Int) : lp E F 39 0 [AV.undef, AV.fn 35 []] 0
  { vals := [AV.sl 6 s0, AV.int IntKind.i64 x7, AV.int IntKind.i64 x8], blks := [] } =
  ctl (ltB x8 x7)
    (getE s0 x8 fun (c : List PV) =>
      ctl
        (okCs
          [Sh.int IntKind.i64, Sh.int IntKind.i64, Sh.int IntKind.i64,
            Sh.int IntKind.i64, Sh.int IntKind.i64, Sh.sl 2]
          c)
        (bnd
          (F 35
            [AV.agg
                [PV.int IntKind.i64 (nth PV.nilp c 0).toInt,
                  PV.int IntKind.i64 (nth PV.nilp c 1).toInt,
                  PV.int IntKind.i64 (nth PV.nilp c 2).toInt,
                  PV.int IntKind.i64 (nth PV.nilp c 3).toInt,
                  PV.int IntKind.i64 (nth PV.nilp c 4).toInt,
                  PV.sl 2 (nth PV.nilp c 5).toEs]]
            [])
          fun (r : Res) =>
          ctl (okR [RSh.one Sh.bool] r.fst && okB [] r.snd)
            (ctl (nth (RV.p PV.nilp) r.fst 0).toPV.toBool
              (Option.some (Ex.ret, { vals := [AV.int IntKind.i64 x8], blks := [] }))
              (lp E F 39 0 [AV.undef, AV.fn 35 []] 0
                { vals := [AV.sl 6 s0, AV.int IntKind.i64 x7, AV.int IntKind.i64 (IntKind.i64.wrap (x8 + 1))],
                  blks := [] }))
            Option.none)
        Option.none)
    (Option.some (Ex.exit 0, { vals := [], blks := [] })) := (lp_unfold ..).trans (by kernel_rfl)

/-- slices.IndexFunc[[]dynpos/api.Thruster,dynpos/api.Thruster] -/
theorem r39a (F : Fun) (s : List (List PV)) : funK E F 39 [AV.sl 6 s, AV.fn 35 []] [] =
  bnd
    (lp E F 39 0 [AV.undef, AV.fn 35 []] 0
      { vals := [AV.sl 6 s, AV.int IntKind.i64 (↑s.length : Int), AV.int IntKind.i64 0], blks := [] })
    fun (p : Ex × Pack) =>
    ctl (p.fst.eqb (Ex.exit 0)) (Option.some ([RV.p (PV.int IntKind.i64 (-1))], []))
      (ctl (p.fst.eqb Ex.ret)
        (ctl (okPack { slots := [(4, Sum.inl (Sh.int IntKind.i64))], blks := [] } p.snd)
          (Option.some
            ([RV.p (PV.int IntKind.i64 (nth AV.undef p.snd.vals 0).toPV.toInt)], []))
          Option.none)
        Option.none) := by kernel_rfl

/-- dynpos/angle.Norm -/
theorem r40 (F : Fun) (a : Int) : funK E F 40 [AV.int IntKind.i64 a] [] =
  ctl (ltB (a.tmod 3600) 0)
    (Option.some ([RV.p (PV.int IntKind.i64 (IntKind.i64.wrap (a.tmod 3600 + 3600)))], []))
    (Option.some ([RV.p (PV.int IntKind.i64 (a.tmod 3600))], [])) := by kernel_rfl

end Go.Proofs.Ytphcfpphnmpcbaa.Vm
