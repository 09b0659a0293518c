/- The raw theorems, by program: what each function and each loop comes to. -/
import Derived.Test.YtcnjaffogkkpnaaEnv
import Derived.Test.YtcnjaffogkkpnaaVm34
import Derived.KernelRfl
namespace Go.Proofs.Ytcnjaffogkkpnaa.Vm
open Go
set_option maxRecDepth 100000
set_option linter.unusedVariables false

/-- dynpos/dynposmake.New -/
theorem r8 (F : Fun) (l : List (List PV)) : funK E F 8 [AV.sl 1 l] [] =
  ctl
    (Bool.true &&
      (leB 0 (minI 600 (↑l.length : Int)) && leB (minI 600 (↑l.length : Int)) (↑l.length : Int)))
    (Option.some
      ([RV.ownp
            [PV.sl 1 (cutI l 0 (minI 600 (↑l.length : Int))), PV.int IntKind.i64 0]],
        []))
    Option.none := by kernel_rfl

/-- dynpos/dynposlaw14.world -/
theorem r9 (F : Fun) (s0 : List (List PV)) (s1 : Int) : funK E F 9 [AV.t (TV.ptr 0 0)] [Blk.box [AV.sl 1 s0, AV.int IntKind.i64 s1]] =
  bnd
    (F 26 [AV.t (TV.ptr 0 0), AV.int IntKind.i64 5]
      [Blk.box [AV.sl 1 s0, AV.int IntKind.i64 s1]])
    fun (r : Res) =>
    ctl
      (okR
          [RSh.agg [Sh.int IntKind.i64, Sh.int IntKind.i64, Sh.sl 6]] r.fst &&
        okB [Sum.inl [Sh.sl 1, Sh.int IntKind.i64]] r.snd)
      (bnd
        (F 27
          [AV.t (TV.ptr 0 0),
            AV.agg
              [PV.int IntKind.i64
                  (nth PV.nilp (nth (RV.p PV.nilp) r.fst 0).toCs
                      0).toInt,
                PV.int IntKind.i64
                  (nth PV.nilp (nth (RV.p PV.nilp) r.fst 0).toCs
                      1).toInt,
                PV.sl 6
                  (nth PV.nilp (nth (RV.p PV.nilp) r.fst 0).toCs
                      2).toEs]]
          [Blk.box
              [AV.sl 1
                  (nth PV.nilp
                      (List.map AV.toPV (nth (Blk.box []) r.snd 0).toCs) 0).toEs,
                AV.int IntKind.i64
                  (nth PV.nilp
                      (List.map AV.toPV (nth (Blk.box []) r.snd 0).toCs) 1).toInt]])
        fun (r_1 : Res) =>
        ctl
          (okR [RSh.one (Sh.sl 1)] r_1.fst &&
            okB [Sum.inl [Sh.sl 1, Sh.int IntKind.i64]] r_1.snd)
          (bnd
            (F 12 [AV.t (TV.ptr 0 0), AV.int IntKind.i64 2]
              [Blk.box
                  [AV.sl 1
                      (nth PV.nilp
                          (List.map AV.toPV (nth (Blk.box []) r_1.snd 0).toCs) 0).toEs,
                    AV.int IntKind.i64
                      (nth PV.nilp
                          (List.map AV.toPV (nth (Blk.box []) r_1.snd 0).toCs) 1).toInt]])
            fun (r_2 : Res) =>
            ctl
              (okR [RSh.one (Sh.int IntKind.i64)] r_2.fst &&
                okB [Sum.inl [Sh.sl 1, Sh.int IntKind.i64]] r_2.snd)
              (ctl ((nth (RV.p PV.nilp) r_2.fst 0).toPV.toInt == 1)
                (bnd
                  (F 14
                    [AV.t (TV.ptr 0 0),
                      AV.agg
                        [PV.int IntKind.i64
                            (nth PV.nilp
                                (nth (RV.p PV.nilp) r.fst 0).toCs 0).toInt,
                          PV.int IntKind.i64
                            (nth PV.nilp
                                (nth (RV.p PV.nilp) r.fst 0).toCs 1).toInt,
                          PV.sl 6
                            (nth PV.nilp
                                (nth (RV.p PV.nilp) r.fst 0).toCs 2).toEs]]
                    [Blk.box
                        [AV.sl 1
                            (nth PV.nilp
                                (List.map AV.toPV (nth (Blk.box []) r_2.snd 0).toCs) 0).toEs,
                          AV.int IntKind.i64
                            (nth PV.nilp
                                (List.map AV.toPV (nth (Blk.box []) r_2.snd 0).toCs) 1).toInt]])
                  fun (r_3 : Res) =>
                  ctl
                    (okR [RSh.one (Sh.sl 2)] r_3.fst &&
                      okB [Sum.inl [Sh.sl 1, Sh.int IntKind.i64]] r_3.snd)
                    (bnd
                      (F 28 [AV.t (TV.ptr 0 0)]
                        [Blk.box
                            [AV.sl 1
                                (nth PV.nilp
                                    (List.map AV.toPV (nth (Blk.box []) r_3.snd 0).toCs) 0).toEs,
                              AV.int IntKind.i64
                                (nth PV.nilp
                                    (List.map AV.toPV (nth (Blk.box []) r_3.snd 0).toCs) 1).toInt]])
                      fun (r_4 : Res) =>
                      ctl
                        (okR
                            [RSh.agg
                                [Sh.int IntKind.i64, Sh.int IntKind.i64, Sh.int IntKind.i64]]
                            r_4.fst &&
                          okB [Sum.inl [Sh.sl 1, Sh.int IntKind.i64]] r_4.snd)
                        (Option.some
                          ([RV.agg
                                [PV.int IntKind.i64
                                    (nth PV.nilp
                                        (nth (RV.p PV.nilp) r.fst 0).toCs 0).toInt,
                                  PV.int IntKind.i64
                                    (nth PV.nilp
                                        (nth (RV.p PV.nilp) r.fst 0).toCs 1).toInt,
                                  PV.sl 6
                                    (nth PV.nilp
                                        (nth (RV.p PV.nilp) r.fst 0).toCs 2).toEs],
                              RV.p
                                (PV.sl 1 (nth (RV.p PV.nilp) r_1.fst 0).toPV.toEs),
                              RV.p
                                (PV.sl 2 (nth (RV.p PV.nilp) r_3.fst 0).toPV.toEs),
                              RV.agg
                                [PV.int IntKind.i64
                                    (nth PV.nilp
                                        (nth (RV.p PV.nilp) r_4.fst 0).toCs 0).toInt,
                                  PV.int IntKind.i64
                                    (nth PV.nilp
                                        (nth (RV.p PV.nilp) r_4.fst 0).toCs 1).toInt,
                                  PV.int IntKind.i64
                                    (nth PV.nilp
                                        (nth (RV.p PV.nilp) r_4.fst 0).toCs 2).toInt]],
                            [Blk.box
                                [AV.sl 1
                                    (nth PV.nilp
                                        (List.map AV.toPV (nth (Blk.box []) r_4.snd 0).toCs) 0).toEs,
                                  AV.int IntKind.i64
                                    (nth PV.nilp
                                        (List.map AV.toPV (nth (Blk.box []) r_4.snd 0).toCs) 1).toInt]]))
                        Option.none)
                    Option.none)
                (bnd
                  (F 28 [AV.t (TV.ptr 0 0)]
                    [Blk.box
                        [AV.sl 1
                            (nth PV.nilp
                                (List.map AV.toPV (nth (Blk.box []) r_2.snd 0).toCs) 0).toEs,
                          AV.int IntKind.i64
                            (nth PV.nilp
                                (List.map AV.toPV (nth (Blk.box []) r_2.snd 0).toCs) 1).toInt]])
                  fun (r_3 : Res) =>
                  ctl
                    (okR
                        [RSh.agg
                            [Sh.int IntKind.i64, Sh.int IntKind.i64, Sh.int IntKind.i64]]
                        r_3.fst &&
                      okB [Sum.inl [Sh.sl 1, Sh.int IntKind.i64]] r_3.snd)
                    (Option.some
                      ([RV.agg
                            [PV.int IntKind.i64
                                (nth PV.nilp
                                    (nth (RV.p PV.nilp) r.fst 0).toCs 0).toInt,
                              PV.int IntKind.i64
                                (nth PV.nilp
                                    (nth (RV.p PV.nilp) r.fst 0).toCs 1).toInt,
                              PV.sl 6
                                (nth PV.nilp
                                    (nth (RV.p PV.nilp) r.fst 0).toCs 2).toEs],
                          RV.p
                            (PV.sl 1 (nth (RV.p PV.nilp) r_1.fst 0).toPV.toEs),
                          RV.p (PV.sl 2 []),
                          RV.agg
                            [PV.int IntKind.i64
                                (nth PV.nilp
                                    (nth (RV.p PV.nilp) r_3.fst 0).toCs 0).toInt,
                              PV.int IntKind.i64
                                (nth PV.nilp
                                    (nth (RV.p PV.nilp) r_3.fst 0).toCs 1).toInt,
                              PV.int IntKind.i64
                                (nth PV.nilp
                                    (nth (RV.p PV.nilp) r_3.fst 0).toCs 2).toInt]],
                        [Blk.box
                            [AV.sl 1
                                (nth PV.nilp
                                    (List.map AV.toPV (nth (Blk.box []) r_3.snd 0).toCs) 0).toEs,
                              AV.int IntKind.i64
                                (nth PV.nilp
                                    (List.map AV.toPV (nth (Blk.box []) r_3.snd 0).toCs) 1).toInt]]))
                    Option.none))
              Option.none)
          Option.none)
      Option.none := by kernel_rfl

/-- dynpos/allocate.Divide, the loop of block 0 -/
theorem r10_0 (F : Fun) (bow12 : List (List PV)) (x55 : Int) (x56 : Int) (b0_0 : Int) (b0_1 : Int) (b0_2 : List (List PV)) (b1_0 : Int) (b1_1 : Int) (b1_2 : Int) (b2_0 : List (List PV)) (b2_1 : Int) (b2_2 : Int) (b2_3 : Int) (b2_4 : Int) (b2_5 : Int) (b2_6 : Int) (b3_0 : List (List PV)) (b3_1 : List (List PV)) (c4 : List (List PV)) : lp E F 10 0 [] 0
  { vals := [AV.sl 1 bow12, AV.int IntKind.i64 x55, AV.int IntKind.i64 x56],
    blks :=
      [Blk.box [AV.int IntKind.i64 b0_0, AV.int IntKind.i64 b0_1, AV.sl 6 b0_2],
        Blk.box
          [AV.int IntKind.i64 b1_0, AV.int IntKind.i64 b1_1, AV.int IntKind.i64 b1_2],
        Blk.box
          [AV.sl 2 b2_0, AV.int IntKind.i64 b2_1, AV.int IntKind.i64 b2_2,
            AV.int IntKind.i64 b2_3, AV.int IntKind.i64 b2_4, AV.int IntKind.i64 b2_5,
            AV.int IntKind.i64 b2_6],
        Blk.box [AV.sl 6 b3_0, AV.sl 2 b3_1], Blk.arr 1 c4] } =
  ctl (ltB x56 x55)
    (ctl (leB 0 x56 && ltB x56 (↑c4.length : Int))
      (ctl (okCs [Sh.int IntKind.i64] (List.take 1 (List.drop 0 (nth [] c4 x56.toNat))))
        (getE bow12 x56 fun (c : List PV) =>
          ctl (okCs [Sh.int IntKind.i64] c)
            (ctl (leB 0 x56 && ltB x56 (↑c4.length : Int))
              (lp E F 10 0 [] 0
                { vals := [AV.sl 1 bow12, AV.int IntKind.i64 x55, AV.int IntKind.i64 (IntKind.i64.wrap (x56 + 1))],
                  blks :=
                    [Blk.box
                        [AV.int IntKind.i64 b0_0, AV.int IntKind.i64 b0_1, AV.sl 6 b0_2],
                      Blk.box
                        [AV.int IntKind.i64 b1_0, AV.int IntKind.i64 b1_1, AV.int IntKind.i64 b1_2],
                      Blk.box
                        [AV.sl 2 b2_0, AV.int IntKind.i64 b2_1, AV.int IntKind.i64 b2_2,
                          AV.int IntKind.i64 b2_3, AV.int IntKind.i64 b2_4, AV.int IntKind.i64 b2_5,
                          AV.int IntKind.i64 b2_6],
                      Blk.box [AV.sl 6 b3_0, AV.sl 2 b3_1],
                      Blk.arr 1
                        (setEs c4 x56.toNat 0
                          [PV.int IntKind.i64
                              (IntKind.i64.wrap
                                ((nth PV.nilp (nth [] c4 x56.toNat) 0).toInt +
                                  (nth PV.nilp c 0).toInt))])] })
              Option.none)
            Option.none)
        Option.none)
      Option.none)
    (Option.some
      (Ex.exit 0,
        { vals := [],
          blks :=
            [Blk.box [AV.int IntKind.i64 b0_0, AV.int IntKind.i64 b0_1, AV.sl 6 b0_2],
              Blk.box
                [AV.int IntKind.i64 b1_0, AV.int IntKind.i64 b1_1, AV.int IntKind.i64 b1_2],
              Blk.box
                [AV.sl 2 b2_0, AV.int IntKind.i64 b2_1, AV.int IntKind.i64 b2_2,
                  AV.int IntKind.i64 b2_3, AV.int IntKind.i64 b2_4, AV.int IntKind.i64 b2_5,
                  AV.int IntKind.i64 b2_6],
              Blk.box [AV.sl 6 b3_0, AV.sl 2 b3_1], Blk.arr 1 c4] })) := (lp_unfold ..).trans (by kernel_rfl)

/-- dynpos/allocate.Divide, the loop of block 2 -/
theorem r10_2 (F : Fun) (x19 : List (List PV)) (x81 : Int) (x82 : Int) (b0_0 : Int) (b0_1 : Int) (b0_2 : List (List PV)) (b1_0 : Int) (b1_1 : Int) (b1_2 : Int) (b2_0 : List (List PV)) (b2_1 : Int) (b2_2 : Int) (b2_3 : Int) (b2_4 : Int) (b2_5 : Int) (b2_6 : Int) (c3 : List (List PV)) (b4_1 : Int) (b4_2 : Int) (b4_3 : Int) (b4_4 : Int) (b4_5 : Int) (b4_6 : Int) (c5 : List (List PV)) : lp E F 10 0 [] 2
  { vals := [AV.sl 1 x19, AV.int IntKind.i64 x81, AV.int IntKind.i64 x82],
    blks :=
      [Blk.box [AV.int IntKind.i64 b0_0, AV.int IntKind.i64 b0_1, AV.sl 6 b0_2],
        Blk.box
          [AV.int IntKind.i64 b1_0, AV.int IntKind.i64 b1_1, AV.int IntKind.i64 b1_2],
        Blk.box
          [AV.sl 2 b2_0, AV.int IntKind.i64 b2_1, AV.int IntKind.i64 b2_2,
            AV.int IntKind.i64 b2_3, AV.int IntKind.i64 b2_4, AV.int IntKind.i64 b2_5,
            AV.int IntKind.i64 b2_6],
        Blk.arr 1 c3,
        Blk.box
          [AV.t (TV.hsl 5), AV.int IntKind.i64 b4_1, AV.int IntKind.i64 b4_2,
            AV.int IntKind.i64 b4_3, AV.int IntKind.i64 b4_4, AV.int IntKind.i64 b4_5,
            AV.int IntKind.i64 b4_6],
        Blk.arr 2 c5] } =
  ctl (ltB x82 x81)
    (getE x19 x82 fun (c : List PV) =>
      ctl (okCs [Sh.int IntKind.i64] c)
        (ctl (leB 0 x82 && ltB x82 (↑c3.length : Int))
          (ctl (okCs [Sh.int IntKind.i64] (List.take 1 (List.drop 0 (nth [] c3 x82.toNat))))
            (ctl (leN ((c5.length + 1) * 16) 140737488355328)
              (lp E F 10 0 [] 2
                { vals := [AV.sl 1 x19, AV.int IntKind.i64 x81, AV.int IntKind.i64 (IntKind.i64.wrap (x82 + 1))],
                  blks :=
                    [Blk.box
                        [AV.int IntKind.i64 b0_0, AV.int IntKind.i64 b0_1, AV.sl 6 b0_2],
                      Blk.box
                        [AV.int IntKind.i64 b1_0, AV.int IntKind.i64 b1_1, AV.int IntKind.i64 b1_2],
                      Blk.box
                        [AV.sl 2 b2_0, AV.int IntKind.i64 b2_1, AV.int IntKind.i64 b2_2,
                          AV.int IntKind.i64 b2_3, AV.int IntKind.i64 b2_4, AV.int IntKind.i64 b2_5,
                          AV.int IntKind.i64 b2_6],
                      Blk.arr 1 c3,
                      Blk.box
                        [AV.t (TV.hsl 5), AV.int IntKind.i64 b4_1, AV.int IntKind.i64 b4_2,
                          AV.int IntKind.i64 b4_3, AV.int IntKind.i64 b4_4, AV.int IntKind.i64 b4_5,
                          AV.int IntKind.i64 b4_6],
                      Blk.arr 2
                        (c5 ++
                          [[PV.int IntKind.i64 (nth PV.nilp c 0).toInt,
                              PV.int IntKind.i64
                                (nth PV.nilp (nth [] c3 x82.toNat) 0).toInt]])] })
              Option.none)
            Option.none)
          Option.none)
        Option.none)
    (Option.some
      (Ex.exit 2,
        { vals := [],
          blks :=
            [Blk.box [AV.int IntKind.i64 b0_0, AV.int IntKind.i64 b0_1, AV.sl 6 b0_2],
              Blk.box
                [AV.int IntKind.i64 b1_0, AV.int IntKind.i64 b1_1, AV.int IntKind.i64 b1_2],
              Blk.box
                [AV.sl 2 b2_0, AV.int IntKind.i64 b2_1, AV.int IntKind.i64 b2_2,
                  AV.int IntKind.i64 b2_3, AV.int IntKind.i64 b2_4, AV.int IntKind.i64 b2_5,
                  AV.int IntKind.i64 b2_6],
              Blk.box
                [AV.t (TV.hsl 4), AV.int IntKind.i64 b4_1, AV.int IntKind.i64 b4_2,
                  AV.int IntKind.i64 b4_3, AV.int IntKind.i64 b4_4, AV.int IntKind.i64 b4_5,
                  AV.int IntKind.i64 b4_6],
              Blk.arr 2 c5] })) := (lp_unfold ..).trans (by kernel_rfl)

/-- dynpos/allocate.Divide -/
theorem r10 (F : Fun) (s0 : Int) (s1 : Int) (s2 : List (List PV)) (max : List (List PV)) (last : List (List PV)) (d0 : Int) (d1 : Int) (d2 : Int) : funK E F 10 [AV.agg [PV.int IntKind.i64 s0, PV.int IntKind.i64 s1, PV.sl 6 s2],
  AV.sl 1 max, AV.sl 2 last,
  AV.agg [PV.int IntKind.i64 d0, PV.int IntKind.i64 d1, PV.int IntKind.i64 d2]] [] =
  bnd
    (F 29
      [AV.agg [PV.int IntKind.i64 s0, PV.int IntKind.i64 s1, PV.sl 6 s2],
        AV.sl 1 max, AV.sl 2 last,
        AV.agg [PV.int IntKind.i64 d0, PV.int IntKind.i64 d1, PV.int IntKind.i64 d2]]
      [])
    fun (r : Res) =>
    ctl
      (okR
          [RSh.agg [Sh.sl 6, Sh.sl 2],
            RSh.one (Sh.int IntKind.i64)]
          r.fst &&
        okB [] r.snd)
      (ctl ((nth (RV.p PV.nilp) r.fst 1).toPV.toInt != 0)
        (Option.some
          ([RV.agg
                [PV.nils, PV.int IntKind.i64 0, PV.int IntKind.i64 0,
                  PV.int IntKind.i64 0, PV.int IntKind.i64 0, PV.int IntKind.i64 0,
                  PV.int IntKind.i64 0],
              RV.p
                (PV.int IntKind.i64 (nth (RV.p PV.nilp) r.fst 1).toPV.toInt)],
            []))
        (bnd
          (F 31
            [AV.agg
                [PV.sl 6
                    (nth PV.nilp (nth (RV.p PV.nilp) r.fst 0).toCs
                        0).toEs,
                  PV.sl 2
                    (nth PV.nilp (nth (RV.p PV.nilp) r.fst 0).toCs
                        1).toEs],
              AV.int IntKind.i64 0]
            [])
          fun (r_1 : Res) =>
          ctl (okR [RSh.one (Sh.sl 3)] r_1.fst && okB [] r_1.snd)
            (bnd
              (F 30
                [AV.sl 3 (nth (RV.p PV.nilp) r_1.fst 0).toPV.toEs,
                  AV.int IntKind.i64 d1]
                [])
              fun (r_2 : Res) =>
              ctl
                (okR
                    [RSh.own 1, RSh.one (Sh.int IntKind.i64),
                      RSh.one (Sh.int IntKind.i64)]
                    r_2.fst &&
                  okB [] r_2.snd)
                (bnd
                  (F 31
                    [AV.agg
                        [PV.sl 6
                            (nth PV.nilp
                                (nth (RV.p PV.nilp) r.fst 0).toCs 0).toEs,
                          PV.sl 2
                            (nth PV.nilp
                                (nth (RV.p PV.nilp) r.fst 0).toCs 1).toEs],
                      AV.int IntKind.i64 1]
                    [])
                  fun (r_3 : Res) =>
                  ctl
                    (okR [RSh.one (Sh.sl 3)] r_3.fst && okB [] r_3.snd)
                    (bnd
                      (F 30
                        [AV.sl 3 (nth (RV.p PV.nilp) r_3.fst 0).toPV.toEs,
                          AV.int IntKind.i64 d2]
                        [])
                      fun (r_4 : Res) =>
                      ctl
                        (okR
                            [RSh.own 1, RSh.one (Sh.int IntKind.i64),
                              RSh.one (Sh.int IntKind.i64)]
                            r_4.fst &&
                          okB [] r_4.snd)
                        (bnd
                          (lp E F 10 0 [] 0
                            {
                              vals :=
                                [AV.sl 1 (nth (RV.p PV.nilp) r_2.fst 0).toEs,
                                  AV.int IntKind.i64
                                    (↑(nth (RV.p PV.nilp) r_4.fst 0).toEs.length : Int),
                                  AV.int IntKind.i64 0],
                              blks :=
                                [Blk.box
                                    [AV.int IntKind.i64 s0, AV.int IntKind.i64 s1, AV.sl 6 s2],
                                  Blk.box
                                    [AV.int IntKind.i64 d0, AV.int IntKind.i64 d1, AV.int IntKind.i64 d2],
                                  Blk.box
                                    [AV.sl 2 [], AV.int IntKind.i64 0, AV.int IntKind.i64 0,
                                      AV.int IntKind.i64 0, AV.int IntKind.i64 0, AV.int IntKind.i64 0,
                                      AV.int IntKind.i64 0],
                                  Blk.box
                                    [AV.sl 6
                                        (nth PV.nilp
                                            (nth (RV.p PV.nilp) r.fst 0).toCs 0).toEs,
                                      AV.sl 2
                                        (nth PV.nilp
                                            (nth (RV.p PV.nilp) r.fst 0).toCs 1).toEs],
                                  Blk.arr 1 (nth (RV.p PV.nilp) r_4.fst 0).toEs] })
                          fun (p : Ex × Pack) =>
                          ctl (p.fst.eqb (Ex.exit 0))
                            (ctl
                              (okPack
                                {
                                  slots :=
                                    [(4, Sum.inr (Sum.inr (AV.t (TV.ptr 0 0)))),
                                      (7, Sum.inr (Sum.inr (AV.t (TV.ptr 1 0)))),
                                      (8, Sum.inr (Sum.inr (AV.t (TV.ptr 2 0)))),
                                      (10, Sum.inr (Sum.inr (AV.t (TV.ptr 3 0)))),
                                      (15, Sum.inr (Sum.inr (AV.t (TV.hsl 4))))],
                                  blks :=
                                    [Sum.inl
                                        [Sum.inl (Sh.int IntKind.i64), Sum.inl (Sh.int IntKind.i64), Sum.inl (Sh.sl 6)],
                                      Sum.inl
                                        [Sum.inl (Sh.int IntKind.i64), Sum.inl (Sh.int IntKind.i64),
                                          Sum.inl (Sh.int IntKind.i64)],
                                      Sum.inl
                                        [Sum.inl (Sh.sl 2), Sum.inl (Sh.int IntKind.i64), Sum.inl (Sh.int IntKind.i64),
                                          Sum.inl (Sh.int IntKind.i64), Sum.inl (Sh.int IntKind.i64),
                                          Sum.inl (Sh.int IntKind.i64), Sum.inl (Sh.int IntKind.i64)],
                                      Sum.inl [Sum.inl (Sh.sl 6), Sum.inl (Sh.sl 2)], Sum.inr 1] }
                                p.snd)
                              (bnd
                                (F 32
                                  [AV.agg
                                      [PV.sl 6
                                          (nth AV.undef (nth (Blk.box []) p.snd.blks 3).toCs
                                                0).toPV.toEs,
                                        PV.sl 2
                                          (nth AV.undef (nth (Blk.box []) p.snd.blks 3).toCs
                                                1).toPV.toEs],
                                    AV.sl 1 (nth (Blk.box []) p.snd.blks 4).toEs]
                                  [])
                                fun (r : Res) =>
                                ctl
                                  (okR [RSh.own 3] r.fst && okB [] r.snd &&
                                    (noslR r.fst && noslB r.snd))
                                  (bnd
                                    (F 30
                                      [AV.sl 3 (nth (RV.p PV.nilp) r.fst 0).toEs,
                                        AV.int IntKind.i64
                                          (nth AV.undef (nth (Blk.box []) p.snd.blks 1).toCs
                                                0).toPV.toInt]
                                      [])
                                    fun (r : Res) =>
                                    ctl
                                      (okR
                                            [RSh.own 1, RSh.one (Sh.int IntKind.i64),
                                              RSh.one (Sh.int IntKind.i64)]
                                            r.fst &&
                                          okB [] r.snd &&
                                        (noslR r.fst && noslB r.snd))
                                      (bnd
                                        (lp E F 10 0 [] 2
                                          {
                                            vals :=
                                              [AV.sl 1 (nth (RV.p PV.nilp) r.fst 0).toEs,
                                                AV.int IntKind.i64 (↑(nth (Blk.box []) p.snd.blks 4).toEs.length : Int),
                                                AV.int IntKind.i64 0],
                                            blks :=
                                              [Blk.box
                                                  [AV.int IntKind.i64
                                                      (nth AV.undef
                                                            (nth (Blk.box []) p.snd.blks 0).toCs 0).toPV.toInt,
                                                    AV.int IntKind.i64
                                                      (nth AV.undef
                                                            (nth (Blk.box []) p.snd.blks 0).toCs 1).toPV.toInt,
                                                    AV.sl 6
                                                      (nth AV.undef
                                                            (nth (Blk.box []) p.snd.blks 0).toCs 2).toPV.toEs],
                                                Blk.box
                                                  [AV.int IntKind.i64
                                                      (nth AV.undef
                                                            (nth (Blk.box []) p.snd.blks 1).toCs 0).toPV.toInt,
                                                    AV.int IntKind.i64
                                                      (nth AV.undef
                                                            (nth (Blk.box []) p.snd.blks 1).toCs 1).toPV.toInt,
                                                    AV.int IntKind.i64
                                                      (nth AV.undef
                                                            (nth (Blk.box []) p.snd.blks 1).toCs 2).toPV.toInt],
                                                Blk.box
                                                  [AV.sl 2
                                                      (nth AV.undef
                                                            (nth (Blk.box []) p.snd.blks 2).toCs 0).toPV.toEs,
                                                    AV.int IntKind.i64
                                                      (nth AV.undef
                                                            (nth (Blk.box []) p.snd.blks 2).toCs 1).toPV.toInt,
                                                    AV.int IntKind.i64
                                                      (nth AV.undef
                                                            (nth (Blk.box []) p.snd.blks 2).toCs 2).toPV.toInt,
                                                    AV.int IntKind.i64
                                                      (nth AV.undef
                                                            (nth (Blk.box []) p.snd.blks 2).toCs 3).toPV.toInt,
                                                    AV.int IntKind.i64
                                                      (nth AV.undef
                                                            (nth (Blk.box []) p.snd.blks 2).toCs 4).toPV.toInt,
                                                    AV.int IntKind.i64
                                                      (nth AV.undef
                                                            (nth (Blk.box []) p.snd.blks 2).toCs 5).toPV.toInt,
                                                    AV.int IntKind.i64
                                                      (nth AV.undef
                                                            (nth (Blk.box []) p.snd.blks 2).toCs 6).toPV.toInt],
                                                Blk.arr 1 (nth (Blk.box []) p.snd.blks 4).toEs,
                                                Blk.box
                                                  [AV.t (TV.hsl 5), AV.int IntKind.i64 0,
                                                    AV.int IntKind.i64 0, AV.int IntKind.i64 0, AV.int IntKind.i64 0,
                                                    AV.int IntKind.i64 0, AV.int IntKind.i64 0],
                                                Blk.arr 2 []] })
                                        fun (p : Ex × Pack) =>
                                        ctl (p.fst.eqb (Ex.exit 2))
                                          (ctl
                                            (okPack
                                              {
                                                slots :=
                                                  [(4, Sum.inr (Sum.inr (AV.t (TV.ptr 0 0)))),
                                                    (7, Sum.inr (Sum.inr (AV.t (TV.ptr 1 0)))),
                                                    (8, Sum.inr (Sum.inr (AV.t (TV.ptr 2 0)))),
                                                    (22, Sum.inr (Sum.inr (AV.t (TV.ptr 3 0))))],
                                                blks :=
                                                  [Sum.inl
                                                      [Sum.inl (Sh.int IntKind.i64), Sum.inl (Sh.int IntKind.i64),
                                                        Sum.inl (Sh.sl 6)],
                                                    Sum.inl
                                                      [Sum.inl (Sh.int IntKind.i64), Sum.inl (Sh.int IntKind.i64),
                                                        Sum.inl (Sh.int IntKind.i64)],
                                                    Sum.inl
                                                      [Sum.inl (Sh.sl 2), Sum.inl (Sh.int IntKind.i64),
                                                        Sum.inl (Sh.int IntKind.i64), Sum.inl (Sh.int IntKind.i64),
                                                        Sum.inl (Sh.int IntKind.i64), Sum.inl (Sh.int IntKind.i64),
                                                        Sum.inl (Sh.int IntKind.i64)],
                                                    Sum.inl
                                                      [Sum.inr (AV.t (TV.hsl 4)), Sum.inl (Sh.int IntKind.i64),
                                                        Sum.inl (Sh.int IntKind.i64), Sum.inl (Sh.int IntKind.i64),
                                                        Sum.inl (Sh.int IntKind.i64), Sum.inl (Sh.int IntKind.i64),
                                                        Sum.inl (Sh.int IntKind.i64)],
                                                    Sum.inr 2] }
                                              p.snd)
                                            (bnd
                                              (F 33
                                                [AV.agg
                                                    [PV.int IntKind.i64
                                                        (nth AV.undef
                                                              (nth (Blk.box []) p.snd.blks 0).toCs 0).toPV.toInt,
                                                      PV.int IntKind.i64
                                                        (nth AV.undef
                                                              (nth (Blk.box []) p.snd.blks 0).toCs 1).toPV.toInt,
                                                      PV.sl 6
                                                        (nth AV.undef
                                                              (nth (Blk.box []) p.snd.blks 0).toCs 2).toPV.toEs],
                                                  AV.sl 2 (nth (Blk.box []) p.snd.blks 4).toEs]
                                                [])
                                              fun (r : Res) =>
                                              ctl
                                                (okR
                                                      [RSh.agg
                                                          [Sh.int IntKind.i64, Sh.int IntKind.i64, Sh.int IntKind.i64],
                                                        RSh.one (Sh.int IntKind.i64)]
                                                      r.fst &&
                                                    okB [] r.snd &&
                                                  (noslR r.fst && noslB r.snd))
                                                (bnd
                                                  (F 34
                                                    [AV.agg
                                                        [PV.int IntKind.i64
                                                            (nth AV.undef
                                                                  (nth (Blk.box []) p.snd.blks 1).toCs 0).toPV.toInt,
                                                          PV.int IntKind.i64
                                                            (nth AV.undef
                                                                  (nth (Blk.box []) p.snd.blks 1).toCs 1).toPV.toInt,
                                                          PV.int IntKind.i64
                                                            (nth AV.undef
                                                                  (nth (Blk.box []) p.snd.blks 1).toCs 2).toPV.toInt],
                                                      AV.agg
                                                        [PV.int IntKind.i64
                                                            (nth PV.nilp
                                                                (nth (RV.p PV.nilp) r.fst 0).toCs 0).toInt,
                                                          PV.int IntKind.i64
                                                            (nth PV.nilp
                                                                (nth (RV.p PV.nilp) r.fst 0).toCs 1).toInt,
                                                          PV.int IntKind.i64
                                                            (nth PV.nilp
                                                                (nth (RV.p PV.nilp) r.fst 0).toCs 2).toInt]]
                                                    [])
                                                  fun (r_5 : Res) =>
                                                  ctl
                                                    (okR
                                                        [RSh.agg
                                                            [Sh.int IntKind.i64, Sh.int IntKind.i64,
                                                              Sh.int IntKind.i64]]
                                                        r_5.fst &&
                                                      okB [] r_5.snd)
                                                    (Option.some
                                                      ([RV.agg
                                                            [PV.sl 2 (nth (Blk.box []) p.snd.blks 4).toEs,
                                                              PV.int IntKind.i64
                                                                (nth PV.nilp
                                                                    (nth (RV.p PV.nilp) r.fst 0).toCs 0).toInt,
                                                              PV.int IntKind.i64
                                                                (nth PV.nilp
                                                                    (nth (RV.p PV.nilp) r.fst 0).toCs 1).toInt,
                                                              PV.int IntKind.i64
                                                                (nth PV.nilp
                                                                    (nth (RV.p PV.nilp) r.fst 0).toCs 2).toInt,
                                                              PV.int IntKind.i64
                                                                (nth PV.nilp
                                                                    (nth (RV.p PV.nilp) r_5.fst 0).toCs 0).toInt,
                                                              PV.int IntKind.i64
                                                                (nth PV.nilp
                                                                    (nth (RV.p PV.nilp) r_5.fst 0).toCs 1).toInt,
                                                              PV.int IntKind.i64
                                                                (nth PV.nilp
                                                                    (nth (RV.p PV.nilp) r_5.fst 0).toCs 2).toInt],
                                                          RV.p (PV.int IntKind.i64 0)],
                                                        []))
                                                    Option.none)
                                                Option.none)
                                            Option.none)
                                          Option.none)
                                      Option.none)
                                  Option.none)
                              Option.none)
                            Option.none)
                        Option.none)
                    Option.none)
                Option.none)
            Option.none))
      Option.none := by kernel_rfl

/-- dynpos/dynposlaw14.sane -/
theorem r11 (F : Fun) : funK E F 11 [] [] =
  bnd
    (F 19
      [AV.agg
          [PV.int IntKind.i64 40, PV.int IntKind.i64 60,
            PV.sl 6
              [[PV.int IntKind.i64 1, PV.int IntKind.i64 0, PV.int IntKind.i64 50,
                  PV.int IntKind.i64 0, PV.int IntKind.i64 1, PV.sl 2 []],
                [PV.int IntKind.i64 1, PV.int IntKind.i64 1, PV.int IntKind.i64 50,
                  PV.int IntKind.i64 0, PV.int IntKind.i64 1, PV.sl 2 []],
                [PV.int IntKind.i64 2, PV.int IntKind.i64 1, PV.int IntKind.i64 90,
                  PV.int IntKind.i64 0, PV.int IntKind.i64 1, PV.sl 2 []]]],
        AV.agg [PV.int IntKind.i64 5, PV.int IntKind.i64 10, PV.int IntKind.i64 100]]
      [])
    fun (r : Res) =>
    ctl
      (okR
          [RSh.agg [Sh.int IntKind.i64, Sh.int IntKind.i64, Sh.int IntKind.i64],
            RSh.one (Sh.int IntKind.i64)]
          r.fst &&
        okB [] r.snd)
      (bnd
        (F 10
          [AV.agg
              [PV.int IntKind.i64 40, PV.int IntKind.i64 60,
                PV.sl 6
                  [[PV.int IntKind.i64 1, PV.int IntKind.i64 0, PV.int IntKind.i64 50,
                      PV.int IntKind.i64 0, PV.int IntKind.i64 1, PV.sl 2 []],
                    [PV.int IntKind.i64 1, PV.int IntKind.i64 1, PV.int IntKind.i64 50,
                      PV.int IntKind.i64 0, PV.int IntKind.i64 1, PV.sl 2 []],
                    [PV.int IntKind.i64 2, PV.int IntKind.i64 1, PV.int IntKind.i64 90,
                      PV.int IntKind.i64 0, PV.int IntKind.i64 1, PV.sl 2 []]]],
            AV.sl 1
              [[PV.int IntKind.i64 50], [PV.int IntKind.i64 50], [PV.int IntKind.i64 90]],
            AV.sl 2 [],
            AV.agg
              [PV.int IntKind.i64
                  (nth PV.nilp (nth (RV.p PV.nilp) r.fst 0).toCs
                      0).toInt,
                PV.int IntKind.i64
                  (nth PV.nilp (nth (RV.p PV.nilp) r.fst 0).toCs
                      1).toInt,
                PV.int IntKind.i64
                  (nth PV.nilp (nth (RV.p PV.nilp) r.fst 0).toCs
                      2).toInt]]
          [])
        fun (r_1 : Res) =>
        ctl
          (okR
              [RSh.agg
                  [Sh.sl 2, Sh.int IntKind.i64, Sh.int IntKind.i64, Sh.int IntKind.i64,
                    Sh.int IntKind.i64, Sh.int IntKind.i64, Sh.int IntKind.i64],
                RSh.one (Sh.int IntKind.i64)]
              r_1.fst &&
            okB [] r_1.snd)
          (ctl ((nth (RV.p PV.nilp) r.fst 1).toPV.toInt == 0)
            (bnd
              (ctl
                ((nth PV.nilp (nth (RV.p PV.nilp) r.fst 0).toCs
                        0).toInt ==
                    5 &&
                  ((nth PV.nilp (nth (RV.p PV.nilp) r.fst 0).toCs
                          1).toInt ==
                      7 &&
                    ((nth PV.nilp (nth (RV.p PV.nilp) r.fst 0).toCs
                            2).toInt ==
                        3 &&
                      Bool.true)))
                (Option.some ((nth (RV.p PV.nilp) r_1.fst 1).toPV.toInt == 0)) (Option.some Bool.false))
              fun (v : Bool) =>
              ctl v
                (bnd
                  (bnd
                    (F 35
                      [AV.sl 2
                          (nth PV.nilp
                              (nth (RV.p PV.nilp) r_1.fst 0).toCs 0).toEs,
                        AV.sl 2
                          [[PV.int IntKind.i64 0, PV.int IntKind.i64 7],
                            [PV.int IntKind.i64 0, PV.int IntKind.i64 3],
                            [PV.int IntKind.i64 5, PV.int IntKind.i64 0]]]
                      [])
                    fun (r : Res) =>
                    ctl
                      (okR [RSh.one Sh.bool] r.fst && okB [] r.snd &&
                        (noslR r.fst && noslB r.snd))
                      (Option.some (nth (RV.p PV.nilp) r.fst 0).toPV.toBool) Option.none)
                  fun (v : Bool) =>
                  ctl v
                    (bnd
                      (bnd
                        (F 20
                          [AV.agg
                              [PV.int IntKind.i64 40, PV.int IntKind.i64 60,
                                PV.sl 6
                                  [[PV.int IntKind.i64 1, PV.int IntKind.i64 0, PV.int IntKind.i64 50,
                                      PV.int IntKind.i64 0, PV.int IntKind.i64 1, PV.sl 2 []],
                                    [PV.int IntKind.i64 1, PV.int IntKind.i64 1, PV.int IntKind.i64 50,
                                      PV.int IntKind.i64 0, PV.int IntKind.i64 1, PV.sl 2 []],
                                    [PV.int IntKind.i64 2, PV.int IntKind.i64 1, PV.int IntKind.i64 90,
                                      PV.int IntKind.i64 0, PV.int IntKind.i64 1, PV.sl 2 []]]],
                            AV.sl 1
                              [[PV.int IntKind.i64 50], [PV.int IntKind.i64 50], [PV.int IntKind.i64 90]],
                            AV.agg
                              [PV.int IntKind.i64
                                  (nth PV.nilp
                                      (nth (RV.p PV.nilp) r.fst 0).toCs 0).toInt,
                                PV.int IntKind.i64
                                  (nth PV.nilp
                                      (nth (RV.p PV.nilp) r.fst 0).toCs 1).toInt,
                                PV.int IntKind.i64
                                  (nth PV.nilp
                                      (nth (RV.p PV.nilp) r.fst 0).toCs 2).toInt]]
                          [])
                        fun (r : Res) =>
                        ctl
                          (okR [RSh.one Sh.bool] r.fst && okB [] r.snd &&
                            (noslR r.fst && noslB r.snd))
                          (Option.some (nth (RV.p PV.nilp) r.fst 0).toPV.toBool) Option.none)
                      fun (v : Bool) => Option.some ([RV.p (PV.bool v)], []))
                    (Option.some ([RV.p (PV.bool Bool.false)], [])))
                (Option.some ([RV.p (PV.bool Bool.false)], [])))
            (Option.some ([RV.p (PV.bool Bool.false)], [])))
          Option.none)
      Option.none := by kernel_rfl

/-- (*dynpos/dynposmake.Src).N -/
theorem r12 (F : Fun) (s0 : List (List PV)) (s1 : Int) (n : Int) : funK E F 12 [AV.t (TV.ptr 0 0), AV.int IntKind.i64 n] [Blk.box [AV.sl 1 s0, AV.int IntKind.i64 s1]] =
  ctl (leB (↑s0.length : Int) s1)
    (Option.some
      ([RV.p (PV.int IntKind.i64 0)],
        [Blk.box [AV.sl 1 s0, AV.int IntKind.i64 s1]]))
    (getE s0 (IntKind.i64.wrap (IntKind.i64.wrap (s1 + 1) - 1)) fun (c : List PV) =>
      ctl (okCs [Sh.int IntKind.i64] c)
        (bnd
          (F 36 [AV.int IntKind.i64 (nth PV.nilp c 0).toInt, AV.int IntKind.i64 n] [])
          fun (r : Res) =>
          ctl
            (okR [RSh.one (Sh.int IntKind.i64)] r.fst && okB [] r.snd)
            (Option.some
              ([RV.p
                    (PV.int IntKind.i64 (nth (RV.p PV.nilp) r.fst 0).toPV.toInt)],
                [Blk.box [AV.sl 1 s0, AV.int IntKind.i64 (IntKind.i64.wrap (s1 + 1))]]))
            Option.none)
        Option.none) := by kernel_rfl

/-- (*dynpos/dynposmake.Src).Range -/
theorem r13 (F : Fun) (s0 : List (List PV)) (s1 : Int) (lo : Int) (hi : Int) : funK E F 13 [AV.t (TV.ptr 0 0), AV.int IntKind.i64 lo, AV.int IntKind.i64 hi] [Blk.box [AV.sl 1 s0, AV.int IntKind.i64 s1]] =
  bnd
    (F 12 [AV.t (TV.ptr 0 0), AV.int IntKind.i64 (IntKind.i64.wrap (IntKind.i64.wrap (hi - lo) + 1))]
      [Blk.box [AV.sl 1 s0, AV.int IntKind.i64 s1]])
    fun (r : Res) =>
    ctl
      (okR [RSh.one (Sh.int IntKind.i64)] r.fst &&
        okB [Sum.inl [Sh.sl 1, Sh.int IntKind.i64]] r.snd)
      (Option.some
        ([RV.p
              (PV.int IntKind.i64
                (IntKind.i64.wrap (lo + (nth (RV.p PV.nilp) r.fst 0).toPV.toInt)))],
          [Blk.box
              [AV.sl 1
                  (nth PV.nilp
                      (List.map AV.toPV (nth (Blk.box []) r.snd 0).toCs) 0).toEs,
                AV.int IntKind.i64
                  (nth PV.nilp
                      (List.map AV.toPV (nth (Blk.box []) r.snd 0).toCs) 1).toInt]]))
      Option.none := by kernel_rfl

/-- (*dynpos/dynposmake.Src).Thrusts, the loop of block 0 -/
theorem r14_0 (F : Fun) (x8 : Int) (x9 : Int) (b0_0 : List (List PV)) (b0_1 : Int) (c1 : List (List PV)) : lp E F 14 1 [] 0
  { vals := [AV.int IntKind.i64 x8, AV.int IntKind.i64 x9],
    blks := [Blk.box [AV.sl 1 b0_0, AV.int IntKind.i64 b0_1], Blk.arr 2 c1] } =
  ctl (ltB x9 x8)
    (bnd
      (F 13 [AV.t (TV.ptr 0 0), AV.int IntKind.i64 (-20), AV.int IntKind.i64 20]
        [Blk.box [AV.sl 1 b0_0, AV.int IntKind.i64 b0_1]])
      fun (r : Res) =>
      ctl
        (okR [RSh.one (Sh.int IntKind.i64)] r.fst &&
          okB [Sum.inl [Sh.sl 1, Sh.int IntKind.i64]] r.snd)
        (bnd
          (F 13 [AV.t (TV.ptr 0 0), AV.int IntKind.i64 (-20), AV.int IntKind.i64 20]
            [Blk.box
                [AV.sl 1
                    (nth PV.nilp
                        (List.map AV.toPV (nth (Blk.box []) r.snd 0).toCs) 0).toEs,
                  AV.int IntKind.i64
                    (nth PV.nilp
                        (List.map AV.toPV (nth (Blk.box []) r.snd 0).toCs) 1).toInt]])
          fun (r_1 : Res) =>
          ctl
            (okR [RSh.one (Sh.int IntKind.i64)] r_1.fst &&
              okB [Sum.inl [Sh.sl 1, Sh.int IntKind.i64]] r_1.snd)
            (ctl (leN ((c1.length + 1) * 16) 140737488355328)
              (lp E F 14 1 [] 0
                { vals := [AV.int IntKind.i64 x8, AV.int IntKind.i64 (IntKind.i64.wrap (x9 + 1))],
                  blks :=
                    [Blk.box
                        [AV.sl 1
                            (nth PV.nilp
                                (List.map AV.toPV (nth (Blk.box []) r_1.snd 0).toCs) 0).toEs,
                          AV.int IntKind.i64
                            (nth PV.nilp
                                (List.map AV.toPV (nth (Blk.box []) r_1.snd 0).toCs) 1).toInt],
                      Blk.arr 2
                        (c1 ++
                          [[PV.int IntKind.i64 (nth (RV.p PV.nilp) r.fst 0).toPV.toInt,
                              PV.int IntKind.i64
                                (nth (RV.p PV.nilp) r_1.fst 0).toPV.toInt]])] })
              Option.none)
            Option.none)
        Option.none)
    (Option.some
      (Ex.exit 0,
        { vals := [],
          blks := [Blk.box [AV.sl 1 b0_0, AV.int IntKind.i64 b0_1], Blk.arr 2 c1] })) := (lp_unfold ..).trans (by kernel_rfl)

/-- (*dynpos/dynposmake.Src).Thrusts -/
theorem r14 (F : Fun) (s0 : List (List PV)) (s1 : Int) (x0 : Int) (x1 : Int) (x2 : List (List PV)) : funK E F 14 [AV.t (TV.ptr 0 0),
  AV.agg [PV.int IntKind.i64 x0, PV.int IntKind.i64 x1, PV.sl 6 x2]] [Blk.box [AV.sl 1 s0, AV.int IntKind.i64 s1]] =
  bnd
    (lp E F 14 1 [] 0
      { vals := [AV.int IntKind.i64 (↑x2.length : Int), AV.int IntKind.i64 0],
        blks := [Blk.box [AV.sl 1 s0, AV.int IntKind.i64 s1], Blk.arr 2 []] })
    fun (p : Ex × Pack) =>
    ctl (p.fst.eqb (Ex.exit 0))
      (ctl
        (okPack
          { slots := [(5, Sum.inr (Sum.inr (AV.t (TV.hsl 1))))],
            blks := [Sum.inl [Sum.inl (Sh.sl 1), Sum.inl (Sh.int IntKind.i64)], Sum.inr 2] }
          p.snd)
        (Option.some
          ([RV.p (PV.sl 2 (nth (Blk.box []) p.snd.blks 1).toEs)],
            [Blk.box
                [AV.sl 1
                    (nth AV.undef (nth (Blk.box []) p.snd.blks 0).toCs 0).toPV.toEs,
                  AV.int IntKind.i64
                    (nth AV.undef (nth (Blk.box []) p.snd.blks 0).toCs 1).toPV.toInt]]))
        Option.none)
      Option.none := by kernel_rfl

/-- dynpos/dynposref12.With -/
theorem r15 (F : Fun) (t0 : Int) (t1 : Int) (t2 : Int) (t3 : Int) (t4 : Int) (t5 : List (List PV)) (m : Int) : funK E F 15 [AV.agg
    [PV.int IntKind.i64 t0, PV.int IntKind.i64 t1, PV.int IntKind.i64 t2,
      PV.int IntKind.i64 t3, PV.int IntKind.i64 t4, PV.sl 2 t5],
  AV.int IntKind.i64 m] [] =
  Option.some
    ([RV.agg
          [PV.int IntKind.i64 t0, PV.int IntKind.i64 t1,
            PV.int IntKind.i64 (minI (maxI 0 m) t2), PV.int IntKind.i64 t3,
            PV.int IntKind.i64 t4, PV.sl 2 t5]],
      []) := by kernel_rfl

/-- dynpos/dynposref11.Lateral, the loop of block 0 -/
theorem r16_0 (F : Fun) (low4 : Int) (high5 : Int) (b0_0 : Int) (b0_1 : Int) (b0_2 : Int) (b0_3 : Int) (b0_4 : Int) (b0_5 : List (List PV)) : lp E F 16 0 [] 0
  { vals := [AV.int IntKind.i64 low4, AV.int IntKind.i64 high5],
    blks :=
      [Blk.box
          [AV.int IntKind.i64 b0_0, AV.int IntKind.i64 b0_1, AV.int IntKind.i64 b0_2,
            AV.int IntKind.i64 b0_3, AV.int IntKind.i64 b0_4, AV.sl 2 b0_5]] } =
  bnd
    (F 22
      [AV.agg
          [PV.int IntKind.i64 b0_0, PV.int IntKind.i64 b0_1, PV.int IntKind.i64 b0_2,
            PV.int IntKind.i64 b0_3, PV.int IntKind.i64 b0_4, PV.sl 2 b0_5],
        AV.int IntKind.i64 0, AV.int IntKind.i64 (IntKind.i64.wrap (low4 - 1))]
      [])
    fun (r : Res) =>
    ctl (okR [RSh.one Sh.bool] r.fst && okB [] r.snd)
      (ctl (nth (RV.p PV.nilp) r.fst 0).toPV.toBool
        (lp E F 16 0 [] 0
          { vals := [AV.int IntKind.i64 (IntKind.i64.wrap (low4 - 1)), AV.int IntKind.i64 high5],
            blks :=
              [Blk.box
                  [AV.int IntKind.i64 b0_0, AV.int IntKind.i64 b0_1, AV.int IntKind.i64 b0_2,
                    AV.int IntKind.i64 b0_3, AV.int IntKind.i64 b0_4, AV.sl 2 b0_5]] })
        (Option.some
          (Ex.exit 0,
            { vals := [AV.int IntKind.i64 low4, AV.int IntKind.i64 high5],
              blks :=
                [Blk.box
                    [AV.int IntKind.i64 b0_0, AV.int IntKind.i64 b0_1, AV.int IntKind.i64 b0_2,
                      AV.int IntKind.i64 b0_3, AV.int IntKind.i64 b0_4, AV.sl 2 b0_5]] })))
      Option.none := (lp_unfold ..).trans (by kernel_rfl)

/-- dynpos/dynposref11.Lateral, the loop of block 2 -/
theorem r16_2 (F : Fun) (low4 : Int) (high5 : Int) (b0_0 : Int) (b0_1 : Int) (b0_2 : Int) (b0_3 : Int) (b0_4 : Int) (b0_5 : List (List PV)) : lp E F 16 0 [] 2
  { vals := [AV.int IntKind.i64 low4, AV.int IntKind.i64 high5],
    blks :=
      [Blk.box
          [AV.int IntKind.i64 b0_0, AV.int IntKind.i64 b0_1, AV.int IntKind.i64 b0_2,
            AV.int IntKind.i64 b0_3, AV.int IntKind.i64 b0_4, AV.sl 2 b0_5]] } =
  bnd
    (F 22
      [AV.agg
          [PV.int IntKind.i64 b0_0, PV.int IntKind.i64 b0_1, PV.int IntKind.i64 b0_2,
            PV.int IntKind.i64 b0_3, PV.int IntKind.i64 b0_4, PV.sl 2 b0_5],
        AV.int IntKind.i64 0, AV.int IntKind.i64 (IntKind.i64.wrap (high5 + 1))]
      [])
    fun (r : Res) =>
    ctl (okR [RSh.one Sh.bool] r.fst && okB [] r.snd)
      (ctl (nth (RV.p PV.nilp) r.fst 0).toPV.toBool
        (lp E F 16 0 [] 2
          { vals := [AV.int IntKind.i64 low4, AV.int IntKind.i64 (IntKind.i64.wrap (high5 + 1))],
            blks :=
              [Blk.box
                  [AV.int IntKind.i64 b0_0, AV.int IntKind.i64 b0_1, AV.int IntKind.i64 b0_2,
                    AV.int IntKind.i64 b0_3, AV.int IntKind.i64 b0_4, AV.sl 2 b0_5]] })
        (Option.some (Ex.exit 2, { vals := [AV.int IntKind.i64 low4, AV.int IntKind.i64 high5], blks := [] })))
      Option.none := (lp_unfold ..).trans (by kernel_rfl)

/-- dynpos/dynposref11.Lateral -/
theorem r16 (F : Fun) (t0 : Int) (t1 : Int) (t2 : Int) (t3 : Int) (t4 : Int) (t5 : List (List PV)) : funK E F 16 [AV.agg
    [PV.int IntKind.i64 t0, PV.int IntKind.i64 t1, PV.int IntKind.i64 t2,
      PV.int IntKind.i64 t3, PV.int IntKind.i64 t4, PV.sl 2 t5]] [] =
  bnd
    (lp E F 16 0 [] 0
      { vals := [AV.int IntKind.i64 0, AV.int IntKind.i64 0],
        blks :=
          [Blk.box
              [AV.int IntKind.i64 t0, AV.int IntKind.i64 t1, AV.int IntKind.i64 t2,
                AV.int IntKind.i64 t3, AV.int IntKind.i64 t4, AV.sl 2 t5]] })
    fun (p : Ex × Pack) =>
    ctl (p.fst.eqb (Ex.exit 0))
      (ctl
        (okPack
          {
            slots :=
              [(1, Sum.inr (Sum.inr (AV.t (TV.ptr 0 0)))), (4, Sum.inl (Sh.int IntKind.i64)),
                (5, Sum.inl (Sh.int IntKind.i64))],
            blks :=
              [Sum.inl
                  [Sum.inl (Sh.int IntKind.i64), Sum.inl (Sh.int IntKind.i64), Sum.inl (Sh.int IntKind.i64),
                    Sum.inl (Sh.int IntKind.i64), Sum.inl (Sh.int IntKind.i64), Sum.inl (Sh.sl 2)]] }
          p.snd)
        (bnd
          (lp E F 16 0 [] 2
            {
              vals :=
                [AV.int IntKind.i64 (nth AV.undef p.snd.vals 0).toPV.toInt,
                  AV.int IntKind.i64 (nth AV.undef p.snd.vals 1).toPV.toInt],
              blks :=
                [Blk.box
                    [AV.int IntKind.i64
                        (nth AV.undef (nth (Blk.box []) p.snd.blks 0).toCs 0).toPV.toInt,
                      AV.int IntKind.i64
                        (nth AV.undef (nth (Blk.box []) p.snd.blks 0).toCs 1).toPV.toInt,
                      AV.int IntKind.i64
                        (nth AV.undef (nth (Blk.box []) p.snd.blks 0).toCs 2).toPV.toInt,
                      AV.int IntKind.i64
                        (nth AV.undef (nth (Blk.box []) p.snd.blks 0).toCs 3).toPV.toInt,
                      AV.int IntKind.i64
                        (nth AV.undef (nth (Blk.box []) p.snd.blks 0).toCs 4).toPV.toInt,
                      AV.sl 2
                        (nth AV.undef (nth (Blk.box []) p.snd.blks 0).toCs 5).toPV.toEs]] })
          fun (p : Ex × Pack) =>
          ctl (p.fst.eqb (Ex.exit 2))
            (ctl
              (okPack { slots := [(4, Sum.inl (Sh.int IntKind.i64)), (5, Sum.inl (Sh.int IntKind.i64))], blks := [] }
                p.snd)
              (Option.some
                ([RV.p (PV.int IntKind.i64 (nth AV.undef p.snd.vals 0).toPV.toInt),
                    RV.p (PV.int IntKind.i64 (nth AV.undef p.snd.vals 1).toPV.toInt)],
                  []))
              Option.none)
            Option.none)
        Option.none)
      Option.none := by kernel_rfl

/-- dynpos/dynposref11.Longitudinal, the loop of block 0 -/
theorem r17_0 (F : Fun) (y1 : Int) (low6 : Int) (high7 : Int) (b0_0 : Int) (b0_1 : Int) (b0_2 : Int) (b0_3 : Int) (b0_4 : Int) (b0_5 : List (List PV)) : lp E F 17 0 [] 0
  { vals := [AV.int IntKind.i64 y1, AV.int IntKind.i64 low6, AV.int IntKind.i64 high7],
    blks :=
      [Blk.box
          [AV.int IntKind.i64 b0_0, AV.int IntKind.i64 b0_1, AV.int IntKind.i64 b0_2,
            AV.int IntKind.i64 b0_3, AV.int IntKind.i64 b0_4, AV.sl 2 b0_5]] } =
  bnd
    (F 22
      [AV.agg
          [PV.int IntKind.i64 b0_0, PV.int IntKind.i64 b0_1, PV.int IntKind.i64 b0_2,
            PV.int IntKind.i64 b0_3, PV.int IntKind.i64 b0_4, PV.sl 2 b0_5],
        AV.int IntKind.i64 (IntKind.i64.wrap (low6 - 1)), AV.int IntKind.i64 y1]
      [])
    fun (r : Res) =>
    ctl (okR [RSh.one Sh.bool] r.fst && okB [] r.snd)
      (ctl (nth (RV.p PV.nilp) r.fst 0).toPV.toBool
        (lp E F 17 0 [] 0
          {
            vals :=
              [AV.int IntKind.i64 y1, AV.int IntKind.i64 (IntKind.i64.wrap (low6 - 1)), AV.int IntKind.i64 high7],
            blks :=
              [Blk.box
                  [AV.int IntKind.i64 b0_0, AV.int IntKind.i64 b0_1, AV.int IntKind.i64 b0_2,
                    AV.int IntKind.i64 b0_3, AV.int IntKind.i64 b0_4, AV.sl 2 b0_5]] })
        (Option.some
          (Ex.exit 0,
            { vals := [AV.int IntKind.i64 y1, AV.int IntKind.i64 low6, AV.int IntKind.i64 high7],
              blks :=
                [Blk.box
                    [AV.int IntKind.i64 b0_0, AV.int IntKind.i64 b0_1, AV.int IntKind.i64 b0_2,
                      AV.int IntKind.i64 b0_3, AV.int IntKind.i64 b0_4, AV.sl 2 b0_5]] })))
      Option.none := (lp_unfold ..).trans (by kernel_rfl)

/-- dynpos/dynposref11.Longitudinal, the loop of block 2 -/
theorem r17_2 (F : Fun) (y1 : Int) (low6 : Int) (high7 : Int) (b0_0 : Int) (b0_1 : Int) (b0_2 : Int) (b0_3 : Int) (b0_4 : Int) (b0_5 : List (List PV)) : lp E F 17 0 [] 2
  { vals := [AV.int IntKind.i64 y1, AV.int IntKind.i64 low6, AV.int IntKind.i64 high7],
    blks :=
      [Blk.box
          [AV.int IntKind.i64 b0_0, AV.int IntKind.i64 b0_1, AV.int IntKind.i64 b0_2,
            AV.int IntKind.i64 b0_3, AV.int IntKind.i64 b0_4, AV.sl 2 b0_5]] } =
  bnd
    (F 22
      [AV.agg
          [PV.int IntKind.i64 b0_0, PV.int IntKind.i64 b0_1, PV.int IntKind.i64 b0_2,
            PV.int IntKind.i64 b0_3, PV.int IntKind.i64 b0_4, PV.sl 2 b0_5],
        AV.int IntKind.i64 (IntKind.i64.wrap (high7 + 1)), AV.int IntKind.i64 y1]
      [])
    fun (r : Res) =>
    ctl (okR [RSh.one Sh.bool] r.fst && okB [] r.snd)
      (ctl (nth (RV.p PV.nilp) r.fst 0).toPV.toBool
        (lp E F 17 0 [] 2
          {
            vals :=
              [AV.int IntKind.i64 y1, AV.int IntKind.i64 low6, AV.int IntKind.i64 (IntKind.i64.wrap (high7 + 1))],
            blks :=
              [Blk.box
                  [AV.int IntKind.i64 b0_0, AV.int IntKind.i64 b0_1, AV.int IntKind.i64 b0_2,
                    AV.int IntKind.i64 b0_3, AV.int IntKind.i64 b0_4, AV.sl 2 b0_5]] })
        (Option.some (Ex.exit 2, { vals := [AV.int IntKind.i64 low6, AV.int IntKind.i64 high7], blks := [] })))
      Option.none := (lp_unfold ..).trans (by kernel_rfl)

/-- dynpos/dynposref11.Longitudinal -/
theorem r17 (F : Fun) (t0 : Int) (t1 : Int) (t2 : Int) (t3 : Int) (t4 : Int) (t5 : List (List PV)) (y : Int) : funK E F 17 [AV.agg
    [PV.int IntKind.i64 t0, PV.int IntKind.i64 t1, PV.int IntKind.i64 t2,
      PV.int IntKind.i64 t3, PV.int IntKind.i64 t4, PV.sl 2 t5],
  AV.int IntKind.i64 y] [] =
  bnd
    (F 22
      [AV.agg
          [PV.int IntKind.i64 t0, PV.int IntKind.i64 t1, PV.int IntKind.i64 t2,
            PV.int IntKind.i64 t3, PV.int IntKind.i64 t4, PV.sl 2 t5],
        AV.int IntKind.i64 0, AV.int IntKind.i64 y]
      [])
    fun (r : Res) =>
    ctl (okR [RSh.one Sh.bool] r.fst && okB [] r.snd)
      (ctl (!(nth (RV.p PV.nilp) r.fst 0).toPV.toBool)
        (Option.some ([RV.p (PV.int IntKind.i64 0), RV.p (PV.int IntKind.i64 0)], []))
        (bnd
          (lp E F 17 0 [] 0
            { vals := [AV.int IntKind.i64 y, AV.int IntKind.i64 0, AV.int IntKind.i64 0],
              blks :=
                [Blk.box
                    [AV.int IntKind.i64 t0, AV.int IntKind.i64 t1, AV.int IntKind.i64 t2,
                      AV.int IntKind.i64 t3, AV.int IntKind.i64 t4, AV.sl 2 t5]] })
          fun (p : Ex × Pack) =>
          ctl (p.fst.eqb (Ex.exit 0))
            (ctl
              (okPack
                {
                  slots :=
                    [(1, Sum.inl (Sh.int IntKind.i64)), (2, Sum.inr (Sum.inr (AV.t (TV.ptr 0 0)))),
                      (6, Sum.inl (Sh.int IntKind.i64)), (7, Sum.inl (Sh.int IntKind.i64))],
                  blks :=
                    [Sum.inl
                        [Sum.inl (Sh.int IntKind.i64), Sum.inl (Sh.int IntKind.i64), Sum.inl (Sh.int IntKind.i64),
                          Sum.inl (Sh.int IntKind.i64), Sum.inl (Sh.int IntKind.i64), Sum.inl (Sh.sl 2)]] }
                p.snd)
              (bnd
                (lp E F 17 0 [] 2
                  {
                    vals :=
                      [AV.int IntKind.i64 (nth AV.undef p.snd.vals 0).toPV.toInt,
                        AV.int IntKind.i64 (nth AV.undef p.snd.vals 1).toPV.toInt,
                        AV.int IntKind.i64 (nth AV.undef p.snd.vals 2).toPV.toInt],
                    blks :=
                      [Blk.box
                          [AV.int IntKind.i64
                              (nth AV.undef (nth (Blk.box []) p.snd.blks 0).toCs 0).toPV.toInt,
                            AV.int IntKind.i64
                              (nth AV.undef (nth (Blk.box []) p.snd.blks 0).toCs 1).toPV.toInt,
                            AV.int IntKind.i64
                              (nth AV.undef (nth (Blk.box []) p.snd.blks 0).toCs 2).toPV.toInt,
                            AV.int IntKind.i64
                              (nth AV.undef (nth (Blk.box []) p.snd.blks 0).toCs 3).toPV.toInt,
                            AV.int IntKind.i64
                              (nth AV.undef (nth (Blk.box []) p.snd.blks 0).toCs 4).toPV.toInt,
                            AV.sl 2
                              (nth AV.undef (nth (Blk.box []) p.snd.blks 0).toCs 5).toPV.toEs]] })
                fun (p : Ex × Pack) =>
                ctl (p.fst.eqb (Ex.exit 2))
                  (ctl
                    (okPack { slots := [(6, Sum.inl (Sh.int IntKind.i64)), (7, Sum.inl (Sh.int IntKind.i64))], blks := [] }
                      p.snd)
                    (Option.some
                      ([RV.p (PV.int IntKind.i64 (nth AV.undef p.snd.vals 0).toPV.toInt),
                          RV.p (PV.int IntKind.i64 (nth AV.undef p.snd.vals 1).toPV.toInt)],
                        []))
                    Option.none)
                  Option.none)
              Option.none)
            Option.none))
      Option.none := by kernel_rfl

/-- dynpos/dynposref14.Same -/
theorem r18 (F : Fun) (a0 : List (List PV)) (a1 : Int) (a2 : Int) (a3 : Int) (a4 : Int) (a5 : Int) (a6 : Int) (b0 : List (List PV)) (b1 : Int) (b2 : Int) (b3 : Int) (b4 : Int) (b5 : Int) (b6 : Int) : funK E F 18 [AV.agg
    [PV.sl 2 a0, PV.int IntKind.i64 a1, PV.int IntKind.i64 a2, PV.int IntKind.i64 a3,
      PV.int IntKind.i64 a4, PV.int IntKind.i64 a5, PV.int IntKind.i64 a6],
  AV.agg
    [PV.sl 2 b0, PV.int IntKind.i64 b1, PV.int IntKind.i64 b2, PV.int IntKind.i64 b3,
      PV.int IntKind.i64 b4, PV.int IntKind.i64 b5, PV.int IntKind.i64 b6]] [] =
  bnd (F 35 [AV.sl 2 a0, AV.sl 2 b0] []) fun (r : Res) =>
    ctl (okR [RSh.one Sh.bool] r.fst && okB [] r.snd)
      (bnd
        (ctl (nth (RV.p PV.nilp) r.fst 0).toPV.toBool
          (Option.some (a1 == b1 && (a2 == b2 && (a3 == b3 && Bool.true)))) (Option.some Bool.false))
        fun (v : Bool) =>
        bnd (ctl v (Option.some (a4 == b4 && (a5 == b5 && (a6 == b6 && Bool.true)))) (Option.some Bool.false)) fun (v : Bool) =>
          Option.some ([RV.p (PV.bool v)], []))
      Option.none := by kernel_rfl

/-- dynpos/allocate.Stations -/
theorem r19 (F : Fun) (s0 : Int) (s1 : Int) (s2 : List (List PV)) (f0 : Int) (f1 : Int) (f2 : Int) : funK E F 19 [AV.agg [PV.int IntKind.i64 s0, PV.int IntKind.i64 s1, PV.sl 6 s2],
  AV.agg [PV.int IntKind.i64 f0, PV.int IntKind.i64 f1, PV.int IntKind.i64 f2]] [] =
  bnd
    (F 37 [AV.agg [PV.int IntKind.i64 s0, PV.int IntKind.i64 s1, PV.sl 6 s2]] [])
    fun (r : Res) =>
    ctl
      (okR [RSh.one (Sh.int IntKind.i64)] r.fst && okB [] r.snd)
      (ctl ((nth (RV.p PV.nilp) r.fst 0).toPV.toInt != 0)
        (bnd
          (F 37 [AV.agg [PV.int IntKind.i64 s0, PV.int IntKind.i64 s1, PV.sl 6 s2]] [])
          fun (r : Res) =>
          ctl
            (okR [RSh.one (Sh.int IntKind.i64)] r.fst && okB [] r.snd)
            (Option.some
              ([RV.agg
                    [PV.int IntKind.i64 0, PV.int IntKind.i64 0, PV.int IntKind.i64 0],
                  RV.p
                    (PV.int IntKind.i64 (nth (RV.p PV.nilp) r.fst 0).toPV.toInt)],
                []))
            Option.none)
        (bnd
          (F 38
            [AV.sl 1 [[PV.int IntKind.i64 f0], [PV.int IntKind.i64 f1]],
              AV.int IntKind.i64 (-5000), AV.int IntKind.i64 5000]
            [])
          fun (r : Res) =>
          ctl
            (okR [RSh.one Sh.bool] r.fst && okB [] r.snd &&
              (noslR r.fst && noslB r.snd))
            (ctl (!!(nth (RV.p PV.nilp) r.fst 0).toPV.toBool)
              (bnd
                (bnd
                  (F 38
                    [AV.sl 1 [[PV.int IntKind.i64 f2]], AV.int IntKind.i64 (-500000),
                      AV.int IntKind.i64 500000]
                    [])
                  fun (r : Res) =>
                  ctl
                    (okR [RSh.one Sh.bool] r.fst && okB [] r.snd &&
                      (noslR r.fst && noslB r.snd))
                    (Option.some !(nth (RV.p PV.nilp) r.fst 0).toPV.toBool) Option.none)
                fun (v : Bool) =>
                ctl v
                  (Option.some
                    ([RV.agg
                          [PV.int IntKind.i64 0, PV.int IntKind.i64 0, PV.int IntKind.i64 0],
                        RV.p (PV.int IntKind.i64 1)],
                      []))
                  (bnd
                    (F 39
                      [AV.int IntKind.i64 (IntKind.i64.wrap (f2 + IntKind.i64.wrap (f1 * s1))), AV.int IntKind.i64 (IntKind.i64.wrap (s0 + s1))]
                      [])
                    fun (r : Res) =>
                    ctl
                      (okR
                          [RSh.one (Sh.int IntKind.i64), RSh.one (Sh.int IntKind.i64)]
                          r.fst &&
                        okB [] r.snd)
                      (bnd
                        (F 38
                          [AV.sl 1
                              [[PV.int IntKind.i64 (nth (RV.p PV.nilp) r.fst 0).toPV.toInt],
                                [PV.int IntKind.i64
                                    (IntKind.i64.wrap (f1 - (nth (RV.p PV.nilp) r.fst 0).toPV.toInt))]],
                            AV.int IntKind.i64 (-500000), AV.int IntKind.i64 500000]
                          [])
                        fun (r_1 : Res) =>
                        ctl
                          (okR [RSh.one Sh.bool] r_1.fst && okB [] r_1.snd &&
                            (noslR r_1.fst && noslB r_1.snd))
                          (ctl (!(nth (RV.p PV.nilp) r_1.fst 0).toPV.toBool)
                            (Option.some
                              ([RV.agg
                                    [PV.int IntKind.i64 0, PV.int IntKind.i64 0, PV.int IntKind.i64 0],
                                  RV.p (PV.int IntKind.i64 1)],
                                []))
                            (Option.some
                              ([RV.agg
                                    [PV.int IntKind.i64 f0,
                                      PV.int IntKind.i64
                                        (nth (RV.p PV.nilp) r.fst 0).toPV.toInt,
                                      PV.int IntKind.i64
                                        (IntKind.i64.wrap (f1 - (nth (RV.p PV.nilp) r.fst 0).toPV.toInt))],
                                  RV.p (PV.int IntKind.i64 0)],
                                [])))
                          Option.none)
                      Option.none))
              (Option.some
                ([RV.agg
                      [PV.int IntKind.i64 0, PV.int IntKind.i64 0, PV.int IntKind.i64 0],
                    RV.p (PV.int IntKind.i64 1)],
                  [])))
            Option.none))
      Option.none := by kernel_rfl

/-- dynpos/allocate.Holds -/
theorem r20 (F : Fun) (s0 : Int) (s1 : Int) (s2 : List (List PV)) (max : List (List PV)) (d0 : Int) (d1 : Int) (d2 : Int) : funK E F 20 [AV.agg [PV.int IntKind.i64 s0, PV.int IntKind.i64 s1, PV.sl 6 s2],
  AV.sl 1 max,
  AV.agg [PV.int IntKind.i64 d0, PV.int IntKind.i64 d1, PV.int IntKind.i64 d2]] [] =
  bnd
    (F 10
      [AV.agg [PV.int IntKind.i64 s0, PV.int IntKind.i64 s1, PV.sl 6 s2],
        AV.sl 1 max, AV.sl 2 [],
        AV.agg [PV.int IntKind.i64 d0, PV.int IntKind.i64 d1, PV.int IntKind.i64 d2]]
      [])
    fun (r : Res) =>
    ctl
      (okR
          [RSh.agg
              [Sh.sl 2, Sh.int IntKind.i64, Sh.int IntKind.i64, Sh.int IntKind.i64,
                Sh.int IntKind.i64, Sh.int IntKind.i64, Sh.int IntKind.i64],
            RSh.one (Sh.int IntKind.i64)]
          r.fst &&
        okB [] r.snd)
      (ctl ((nth (RV.p PV.nilp) r.fst 1).toPV.toInt == 0)
        (Option.some
          ([RV.p
                (PV.bool
                  ((nth PV.nilp (nth (RV.p PV.nilp) r.fst 0).toCs
                          4).toInt ==
                      0 &&
                    ((nth PV.nilp (nth (RV.p PV.nilp) r.fst 0).toCs
                            5).toInt ==
                        0 &&
                      ((nth PV.nilp
                              (nth (RV.p PV.nilp) r.fst 0).toCs 6).toInt ==
                          0 &&
                        Bool.true))))],
            []))
        (Option.some ([RV.p (PV.bool Bool.false)], [])))
      Option.none := by kernel_rfl

/-- dynpos/dynposref11.Allowed, the loop of block 0 -/
theorem r22_0 (F : Fun) (x1 : Int) (y2 : Int) (x70 : List (List PV)) (x71 : Int) (x72 : Int) : lp E F 22 0 [] 0
  {
    vals :=
      [AV.int IntKind.i64 x1, AV.int IntKind.i64 y2, AV.sl 2 x70,
        AV.int IntKind.i64 x71, AV.int IntKind.i64 x72],
    blks := [] } =
  ctl (ltB x72 x71)
    (getE x70 x72 fun (c : List PV) =>
      ctl (okCs [Sh.int IntKind.i64, Sh.int IntKind.i64] c)
        (bnd
          (F 44
            [AV.agg
                [PV.int IntKind.i64 (nth PV.nilp c 0).toInt,
                  PV.int IntKind.i64 (nth PV.nilp c 1).toInt],
              AV.int IntKind.i64 x1, AV.int IntKind.i64 y2]
            [])
          fun (r : Res) =>
          ctl (okR [RSh.one Sh.bool] r.fst && okB [] r.snd)
            (ctl (nth (RV.p PV.nilp) r.fst 0).toPV.toBool
              (Option.some (Ex.ret, { vals := [AV.bool Bool.false], blks := [] }))
              (lp E F 22 0 [] 0
                {
                  vals :=
                    [AV.int IntKind.i64 x1, AV.int IntKind.i64 y2, AV.sl 2 x70,
                      AV.int IntKind.i64 x71, AV.int IntKind.i64 (IntKind.i64.wrap (x72 + 1))],
                  blks := [] }))
            Option.none)
        Option.none)
    (Option.some (Ex.exit 0, { vals := [], blks := [] })) := (lp_unfold ..).trans (by kernel_rfl)

/-- dynpos/dynposref11.Allowed -/
theorem r22 (F : Fun) (t0 : Int) (t1 : Int) (t2 : Int) (t3 : Int) (t4 : Int) (t5 : List (List PV)) (x : Int) (y : Int) : funK E F 22 [AV.agg
    [PV.int IntKind.i64 t0, PV.int IntKind.i64 t1, PV.int IntKind.i64 t2,
      PV.int IntKind.i64 t3, PV.int IntKind.i64 t4, PV.sl 2 t5],
  AV.int IntKind.i64 x, AV.int IntKind.i64 y] [] =
  bnd
    (F 43
      [AV.agg
          [PV.int IntKind.i64 t0, PV.int IntKind.i64 t1, PV.int IntKind.i64 t2,
            PV.int IntKind.i64 t3, PV.int IntKind.i64 t4, PV.sl 2 t5]]
      [])
    fun (r : Res) =>
    ctl (okR [RSh.one Sh.bool] r.fst && okB [] r.snd)
      (bnd
        (ctl (!!(nth (RV.p PV.nilp) r.fst 0).toPV.toBool)
          (Option.some (ltB x (IntKind.i64.wrap (0 - t2)))) (Option.some Bool.true))
        fun (v : Bool) =>
        bnd (ctl (!v) (Option.some (ltB t2 x)) (Option.some Bool.true)) fun (v : Bool) =>
          bnd (ctl (!v) (Option.some (ltB y (IntKind.i64.wrap (0 - t2)))) (Option.some Bool.true)) fun (v : Bool) =>
            bnd (ctl (!v) (Option.some (ltB t2 y)) (Option.some Bool.true)) fun (v : Bool) =>
              bnd
                (ctl (!v) (Option.some (ltB (IntKind.i64.wrap (t2 * t2)) (IntKind.i64.wrap (IntKind.i64.wrap (x * x) + IntKind.i64.wrap (y * y)))))
                  (Option.some Bool.true))
                fun (v : Bool) =>
                ctl v (Option.some ([RV.p (PV.bool Bool.false)], []))
                  (bnd (ctl (t0 == 1) (Option.some (x != 0)) (Option.some Bool.false)) fun (v : Bool) =>
                    bnd (ctl (!v) (ctl (t0 == 2) (Option.some (y != 0)) (Option.some Bool.false)) (Option.some Bool.true))
                      fun (v : Bool) =>
                      ctl v (Option.some ([RV.p (PV.bool Bool.false)], []))
                        (bnd
                          (lp E F 22 0 [] 0
                            {
                              vals :=
                                [AV.int IntKind.i64 x, AV.int IntKind.i64 y, AV.sl 2 t5,
                                  AV.int IntKind.i64 (↑t5.length : Int), AV.int IntKind.i64 0],
                              blks := [] })
                          fun (p : Ex × Pack) =>
                          ctl (p.fst.eqb (Ex.exit 0))
                            (Option.some ([RV.p (PV.bool Bool.true)], []))
                            (ctl (p.fst.eqb Ex.ret)
                              (ctl (okPack { slots := [(6, Sum.inl Sh.bool)], blks := [] } p.snd)
                                (Option.some
                                  ([RV.p (PV.bool (nth AV.undef p.snd.vals 0).toPV.toBool)], []))
                                Option.none)
                              Option.none))))
      Option.none := by kernel_rfl

/-- dynpos/dynposref12.Total, the loop of block 0 -/
theorem r23_0 (F : Fun) (x23 : List (List PV)) (x24 : Int) (x25 : Int) (b0_0 : Int) (b0_1 : Int) (b0_2 : List (List PV)) (b1_0 : Int) (b1_1 : Int) (b1_2 : Int) (b2_0 : Int) (b2_1 : Int) (b2_2 : Int) : lp E F 23 0 [] 0
  { vals := [AV.sl 2 x23, AV.int IntKind.i64 x24, AV.int IntKind.i64 x25],
    blks :=
      [Blk.box [AV.int IntKind.i64 b0_0, AV.int IntKind.i64 b0_1, AV.sl 6 b0_2],
        Blk.box
          [AV.int IntKind.i64 b1_0, AV.int IntKind.i64 b1_1, AV.int IntKind.i64 b1_2],
        Blk.box
          [AV.int IntKind.i64 b2_0, AV.int IntKind.i64 b2_1, AV.int IntKind.i64 b2_2]] } =
  ctl (ltB x25 x24)
    (getE x23 x25 fun (c : List PV) =>
      ctl (okCs [Sh.int IntKind.i64, Sh.int IntKind.i64] c)
        (bnd
          (F 46
            [AV.agg
                [PV.int IntKind.i64 (nth PV.nilp c 0).toInt,
                  PV.int IntKind.i64 (nth PV.nilp c 1).toInt]]
            [])
          fun (r : Res) =>
          ctl (okR [RSh.one Sh.bool] r.fst && okB [] r.snd)
            (ctl (!(nth (RV.p PV.nilp) r.fst 0).toPV.toBool)
              (Option.some
                (Ex.ret,
                  { vals := [AV.int IntKind.i64 1],
                    blks :=
                      [Blk.box
                          [AV.int IntKind.i64 0, AV.int IntKind.i64 0, AV.int IntKind.i64 0]] }))
              (getE b0_2 x25 fun (c_1 : List PV) =>
                ctl
                  (okCs
                    [Sh.int IntKind.i64, Sh.int IntKind.i64, Sh.int IntKind.i64,
                      Sh.int IntKind.i64, Sh.int IntKind.i64, Sh.sl 2]
                    c_1)
                  (ctl ((nth PV.nilp c_1 1).toInt == 0)
                    (lp E F 23 0 [] 0
                      { vals := [AV.sl 2 x23, AV.int IntKind.i64 x24, AV.int IntKind.i64 (IntKind.i64.wrap (x25 + 1))],
                        blks :=
                          [Blk.box
                              [AV.int IntKind.i64 b0_0, AV.int IntKind.i64 b0_1, AV.sl 6 b0_2],
                            Blk.box
                              [AV.int IntKind.i64 b1_0, AV.int IntKind.i64 b1_1, AV.int IntKind.i64 b1_2],
                            Blk.box
                              [AV.int IntKind.i64 (IntKind.i64.wrap (b2_0 + (nth PV.nilp c 0).toInt)),
                                AV.int IntKind.i64 (IntKind.i64.wrap (b2_1 + (nth PV.nilp c 1).toInt)),
                                AV.int IntKind.i64 b2_2]] })
                    (lp E F 23 0 [] 0
                      { vals := [AV.sl 2 x23, AV.int IntKind.i64 x24, AV.int IntKind.i64 (IntKind.i64.wrap (x25 + 1))],
                        blks :=
                          [Blk.box
                              [AV.int IntKind.i64 b0_0, AV.int IntKind.i64 b0_1, AV.sl 6 b0_2],
                            Blk.box
                              [AV.int IntKind.i64 b1_0, AV.int IntKind.i64 b1_1, AV.int IntKind.i64 b1_2],
                            Blk.box
                              [AV.int IntKind.i64 (IntKind.i64.wrap (b2_0 + (nth PV.nilp c 0).toInt)),
                                AV.int IntKind.i64 b2_1,
                                AV.int IntKind.i64 (IntKind.i64.wrap (b2_2 + (nth PV.nilp c 1).toInt))]] }))
                  Option.none))
            Option.none)
        Option.none)
    (Option.some
      (Ex.exit 0,
        { vals := [],
          blks :=
            [Blk.box
                [AV.int IntKind.i64 b1_0, AV.int IntKind.i64 b1_1, AV.int IntKind.i64 b1_2],
              Blk.box
                [AV.int IntKind.i64 b2_0, AV.int IntKind.i64 b2_1, AV.int IntKind.i64 b2_2]] })) := (lp_unfold ..).trans (by kernel_rfl)

/-- dynpos/dynposref12.Total -/
theorem r23 (F : Fun) (s0 : Int) (s1 : Int) (s2 : List (List PV)) (l : List (List PV)) : funK E F 23 [AV.agg [PV.int IntKind.i64 s0, PV.int IntKind.i64 s1, PV.sl 6 s2],
  AV.sl 2 l] [] =
  bnd
    (F 45 [AV.agg [PV.int IntKind.i64 s0, PV.int IntKind.i64 s1, PV.sl 6 s2]] [])
    fun (r : Res) =>
    ctl
      (okR [RSh.one (Sh.int IntKind.i64)] r.fst && okB [] r.snd)
      (ctl ((nth (RV.p PV.nilp) r.fst 0).toPV.toInt != 0)
        (Option.some
          ([RV.agg [PV.int IntKind.i64 0, PV.int IntKind.i64 0, PV.int IntKind.i64 0],
              RV.p
                (PV.int IntKind.i64 (nth (RV.p PV.nilp) r.fst 0).toPV.toInt)],
            []))
        (ctl ((↑l.length : Int) != (↑s2.length : Int))
          (Option.some
            ([RV.agg [PV.int IntKind.i64 0, PV.int IntKind.i64 0, PV.int IntKind.i64 0],
                RV.p (PV.int IntKind.i64 8)],
              []))
          (bnd
            (lp E F 23 0 [] 0
              { vals := [AV.sl 2 l, AV.int IntKind.i64 (↑l.length : Int), AV.int IntKind.i64 0],
                blks :=
                  [Blk.box [AV.int IntKind.i64 s0, AV.int IntKind.i64 s1, AV.sl 6 s2],
                    Blk.box
                      [AV.int IntKind.i64 0, AV.int IntKind.i64 0, AV.int IntKind.i64 0],
                    Blk.box
                      [AV.int IntKind.i64 0, AV.int IntKind.i64 0, AV.int IntKind.i64 0]] })
            fun (p : Ex × Pack) =>
            ctl (p.fst.eqb (Ex.exit 0))
              (ctl
                (okPack
                  {
                    slots :=
                      [(4, Sum.inr (Sum.inr (AV.t (TV.ptr 0 0)))),
                        (7, Sum.inr (Sum.inr (AV.t (TV.ptr 1 0))))],
                    blks :=
                      [Sum.inl
                          [Sum.inl (Sh.int IntKind.i64), Sum.inl (Sh.int IntKind.i64), Sum.inl (Sh.int IntKind.i64)],
                        Sum.inl
                          [Sum.inl (Sh.int IntKind.i64), Sum.inl (Sh.int IntKind.i64), Sum.inl (Sh.int IntKind.i64)]] }
                  p.snd)
                (Option.some
                  ([RV.agg
                        [PV.int IntKind.i64
                            (nth AV.undef (nth (Blk.box []) p.snd.blks 1).toCs 0).toPV.toInt,
                          PV.int IntKind.i64
                            (nth AV.undef (nth (Blk.box []) p.snd.blks 1).toCs 1).toPV.toInt,
                          PV.int IntKind.i64
                            (nth AV.undef (nth (Blk.box []) p.snd.blks 1).toCs 2).toPV.toInt],
                      RV.p (PV.int IntKind.i64 0)],
                    []))
                Option.none)
              (ctl (p.fst.eqb Ex.ret)
                (ctl
                  (okPack
                    { slots := [(4, Sum.inr (Sum.inr (AV.t (TV.ptr 0 0)))), (5, Sum.inl (Sh.int IntKind.i64))],
                      blks :=
                        [Sum.inl
                            [Sum.inl (Sh.int IntKind.i64), Sum.inl (Sh.int IntKind.i64),
                              Sum.inl (Sh.int IntKind.i64)]] }
                    p.snd)
                  (Option.some
                    ([RV.agg
                          [PV.int IntKind.i64
                              (nth AV.undef (nth (Blk.box []) p.snd.blks 0).toCs 0).toPV.toInt,
                            PV.int IntKind.i64
                              (nth AV.undef (nth (Blk.box []) p.snd.blks 0).toCs 1).toPV.toInt,
                            PV.int IntKind.i64
                              (nth AV.undef (nth (Blk.box []) p.snd.blks 0).toCs 2).toPV.toInt],
                        RV.p (PV.int IntKind.i64 (nth AV.undef p.snd.vals 0).toPV.toInt)],
                      []))
                  Option.none)
                Option.none))))
      Option.none := by kernel_rfl

/-- dynpos/allocate.Laterals -/
theorem r24 (F : Fun) (s0 : Int) (s1 : Int) (s2 : List (List PV)) (max : List (List PV)) (last : List (List PV)) (station : Int) : funK E F 24 [AV.agg [PV.int IntKind.i64 s0, PV.int IntKind.i64 s1, PV.sl 6 s2],
  AV.sl 1 max, AV.sl 2 last, AV.int IntKind.i64 station] [] =
  ctl
    (Bool.true &&
      (leB (↑s2.length : Int) (↑s2.length : Int) &&
        (leB (↑s2.length : Int) 9223372036854775807 && leB ((↑s2.length : Int) * 8) 140737488355328)))
    (bnd
      (F 47
        [AV.agg [PV.int IntKind.i64 s0, PV.int IntKind.i64 s1, PV.sl 6 s2],
          AV.sl 1 max, AV.sl 2 last,
          AV.sl 1 (reps [PV.int IntKind.i64 0] (↑s2.length : Int).toNat)]
        [])
      fun (r : Res) =>
      ctl
        (okR
            [RSh.agg [Sh.sl 6, Sh.sl 2],
              RSh.one (Sh.int IntKind.i64)]
            r.fst &&
          okB [] r.snd)
        (ctl ((nth (RV.p PV.nilp) r.fst 1).toPV.toInt != 0)
          (Option.some
            ([RV.p (PV.sl 3 []),
                RV.p
                  (PV.int IntKind.i64 (nth (RV.p PV.nilp) r.fst 1).toPV.toInt)],
              []))
          (bnd (ctl (station != 0) (Option.some (station != 1)) (Option.some Bool.false)) fun (v : Bool) =>
            ctl v
              (Option.some ([RV.p (PV.sl 3 []), RV.p (PV.int IntKind.i64 1)], []))
              (bnd
                (F 31
                  [AV.agg
                      [PV.sl 6
                          (nth PV.nilp
                              (nth (RV.p PV.nilp) r.fst 0).toCs 0).toEs,
                        PV.sl 2
                          (nth PV.nilp
                              (nth (RV.p PV.nilp) r.fst 0).toCs 1).toEs],
                    AV.int IntKind.i64 station]
                  [])
                fun (r : Res) =>
                ctl (okR [RSh.one (Sh.sl 3)] r.fst && okB [] r.snd)
                  (Option.some
                    ([RV.p
                          (PV.sl 3 (nth (RV.p PV.nilp) r.fst 0).toPV.toEs),
                        RV.p (PV.int IntKind.i64 0)],
                      []))
                  Option.none)))
        Option.none)
    Option.none := by kernel_rfl

/-- dynpos/dynposref13.Reach, the loop of block 0 -/
theorem r25_0 (F : Fun) (low6 : Int) (high7 : Int) (x15 : List (List PV)) (x16 : Int) (x17 : Int) : lp E F 25 0 [] 0
  {
    vals :=
      [AV.int IntKind.i64 low6, AV.int IntKind.i64 high7, AV.sl 3 x15,
        AV.int IntKind.i64 x16, AV.int IntKind.i64 x17],
    blks := [] } =
  ctl (ltB x17 x16)
    (getE x15 x17 fun (c : List PV) =>
      ctl
        (okCs [Sh.int IntKind.i64, Sh.int IntKind.i64, Sh.int IntKind.i64] c)
        (lp E F 25 0 [] 0
          {
            vals :=
              [AV.int IntKind.i64 (IntKind.i64.wrap (low6 + (nth PV.nilp c 0).toInt)),
                AV.int IntKind.i64 (IntKind.i64.wrap (high7 + (nth PV.nilp c 1).toInt)),
                AV.sl 3 x15, AV.int IntKind.i64 x16, AV.int IntKind.i64 (IntKind.i64.wrap (x17 + 1))],
            blks := [] })
        Option.none)
    (Option.some (Ex.exit 0, { vals := [AV.int IntKind.i64 low6, AV.int IntKind.i64 high7], blks := [] })) := (lp_unfold ..).trans (by kernel_rfl)

/-- dynpos/dynposref13.Reach -/
theorem r25 (F : Fun) (l : List (List PV)) : funK E F 25 [AV.sl 3 l] [] =
  bnd (F 48 [AV.sl 3 l] []) fun (r : Res) =>
    ctl
      (okR [RSh.one (Sh.int IntKind.i64)] r.fst && okB [] r.snd)
      (ctl ((nth (RV.p PV.nilp) r.fst 0).toPV.toInt != 0)
        (Option.some
          ([RV.p (PV.int IntKind.i64 0), RV.p (PV.int IntKind.i64 0),
              RV.p
                (PV.int IntKind.i64 (nth (RV.p PV.nilp) r.fst 0).toPV.toInt)],
            []))
        (bnd
          (lp E F 25 0 [] 0
            {
              vals :=
                [AV.int IntKind.i64 0, AV.int IntKind.i64 0, AV.sl 3 l,
                  AV.int IntKind.i64 (↑l.length : Int), AV.int IntKind.i64 0],
              blks := [] })
          fun (p : Ex × Pack) =>
          ctl (p.fst.eqb (Ex.exit 0))
            (ctl
              (okPack { slots := [(6, Sum.inl (Sh.int IntKind.i64)), (7, Sum.inl (Sh.int IntKind.i64))], blks := [] }
                p.snd)
              (Option.some
                ([RV.p (PV.int IntKind.i64 (nth AV.undef p.snd.vals 0).toPV.toInt),
                    RV.p (PV.int IntKind.i64 (nth AV.undef p.snd.vals 1).toPV.toInt),
                    RV.p (PV.int IntKind.i64 0)],
                  []))
              Option.none)
            Option.none))
      Option.none := by kernel_rfl

/-- (*dynpos/dynposmake.Src).Ship, the loop of block 0 -/
theorem r26_0 (F : Fun) (k6 : Int) (b0_0 : List (List PV)) (b0_1 : Int) (b1_0 : Int) (b1_1 : Int) (b1_2 : List (List PV)) (b2_0 : Int) (b2_1 : Int) (c3 : List (List PV)) : lp E F 26 1 [] 0
  { vals := [AV.int IntKind.i64 k6],
    blks :=
      [Blk.box [AV.sl 1 b0_0, AV.int IntKind.i64 b0_1],
        Blk.box [AV.int IntKind.i64 b1_0, AV.int IntKind.i64 b1_1, AV.sl 6 b1_2],
        Blk.box
          [AV.int IntKind.i64 b2_0, AV.int IntKind.i64 b2_1, AV.t (TV.hsl 3)],
        Blk.arr 6 c3] } =
  ctl (ltB 0 k6)
    (bnd
      (F 50 [AV.t (TV.ptr 0 0)]
        [Blk.box [AV.sl 1 b0_0, AV.int IntKind.i64 b0_1]])
      fun (r : Res) =>
      ctl
        (okR
            [RSh.agg
                [Sh.int IntKind.i64, Sh.int IntKind.i64, Sh.int IntKind.i64,
                  Sh.int IntKind.i64, Sh.int IntKind.i64, Sh.sl 2]]
            r.fst &&
          okB [Sum.inl [Sh.sl 1, Sh.int IntKind.i64]] r.snd)
        (ctl (leN ((c3.length + 1) * 64) 140737488355328)
          (lp E F 26 1 [] 0
            { vals := [AV.int IntKind.i64 (IntKind.i64.wrap (k6 - 1))],
              blks :=
                [Blk.box
                    [AV.sl 1
                        (nth PV.nilp
                            (List.map AV.toPV (nth (Blk.box []) r.snd 0).toCs) 0).toEs,
                      AV.int IntKind.i64
                        (nth PV.nilp
                            (List.map AV.toPV (nth (Blk.box []) r.snd 0).toCs) 1).toInt],
                  Blk.box [AV.int IntKind.i64 b1_0, AV.int IntKind.i64 b1_1, AV.sl 6 b1_2],
                  Blk.box
                    [AV.int IntKind.i64 b2_0, AV.int IntKind.i64 b2_1, AV.t (TV.hsl 3)],
                  Blk.arr 6
                    (c3 ++
                      [[PV.int IntKind.i64
                            (nth PV.nilp
                                (nth (RV.p PV.nilp) r.fst 0).toCs 0).toInt,
                          PV.int IntKind.i64
                            (nth PV.nilp
                                (nth (RV.p PV.nilp) r.fst 0).toCs 1).toInt,
                          PV.int IntKind.i64
                            (nth PV.nilp
                                (nth (RV.p PV.nilp) r.fst 0).toCs 2).toInt,
                          PV.int IntKind.i64
                            (nth PV.nilp
                                (nth (RV.p PV.nilp) r.fst 0).toCs 3).toInt,
                          PV.int IntKind.i64
                            (nth PV.nilp
                                (nth (RV.p PV.nilp) r.fst 0).toCs 4).toInt,
                          PV.sl 2
                            (nth PV.nilp
                                (nth (RV.p PV.nilp) r.fst 0).toCs 5).toEs]])] })
          Option.none)
        Option.none)
    (Option.some
      (Ex.exit 0,
        { vals := [],
          blks :=
            [Blk.box [AV.sl 1 b0_0, AV.int IntKind.i64 b0_1],
              Blk.box [AV.int IntKind.i64 b1_0, AV.int IntKind.i64 b1_1, AV.sl 6 b1_2],
              Blk.box
                [AV.int IntKind.i64 b2_0, AV.int IntKind.i64 b2_1, AV.t (TV.hsl 3)],
              Blk.arr 6 c3] })) := (lp_unfold ..).trans (by kernel_rfl)

/-- (*dynpos/dynposmake.Src).Ship -/
theorem r26 (F : Fun) (s0 : List (List PV)) (s1 : Int) (most : Int) : funK E F 26 [AV.t (TV.ptr 0 0), AV.int IntKind.i64 most] [Blk.box [AV.sl 1 s0, AV.int IntKind.i64 s1]] =
  bnd
    (F 49
      [AV.t (TV.ptr 0 0),
        AV.sl 1
          [[PV.int IntKind.i64 0], [PV.int IntKind.i64 1], [PV.int IntKind.i64 30],
            [PV.int IntKind.i64 60]]]
      [Blk.box [AV.sl 1 s0, AV.int IntKind.i64 s1]])
    fun (r : Res) =>
    ctl
      (okR [RSh.one (Sh.int IntKind.i64)] r.fst &&
        okB [Sum.inl [Sh.sl 1, Sh.int IntKind.i64]] r.snd)
      (bnd
        (F 49
          [AV.t (TV.ptr 0 0),
            AV.sl 1
              [[PV.int IntKind.i64 1], [PV.int IntKind.i64 25], [PV.int IntKind.i64 40]]]
          [Blk.box
              [AV.sl 1
                  (nth PV.nilp
                      (List.map AV.toPV (nth (Blk.box []) r.snd 0).toCs) 0).toEs,
                AV.int IntKind.i64
                  (nth PV.nilp
                      (List.map AV.toPV (nth (Blk.box []) r.snd 0).toCs) 1).toInt]])
        fun (r_1 : Res) =>
        ctl
          (okR [RSh.one (Sh.int IntKind.i64)] r_1.fst &&
            okB [Sum.inl [Sh.sl 1, Sh.int IntKind.i64]] r_1.snd)
          (bnd
            (F 12 [AV.t (TV.ptr 0 0), AV.int IntKind.i64 (IntKind.i64.wrap (most + 1))]
              [Blk.box
                  [AV.sl 1
                      (nth PV.nilp
                          (List.map AV.toPV (nth (Blk.box []) r_1.snd 0).toCs) 0).toEs,
                    AV.int IntKind.i64
                      (nth PV.nilp
                          (List.map AV.toPV (nth (Blk.box []) r_1.snd 0).toCs) 1).toInt]])
            fun (r_2 : Res) =>
            ctl
              (okR [RSh.one (Sh.int IntKind.i64)] r_2.fst &&
                okB [Sum.inl [Sh.sl 1, Sh.int IntKind.i64]] r_2.snd)
              (bnd
                (lp E F 26 1 [] 0
                  { vals := [AV.int IntKind.i64 (nth (RV.p PV.nilp) r_2.fst 0).toPV.toInt],
                    blks :=
                      [Blk.box
                          [AV.sl 1
                              (nth PV.nilp
                                  (List.map AV.toPV (nth (Blk.box []) r_2.snd 0).toCs) 0).toEs,
                            AV.int IntKind.i64
                              (nth PV.nilp
                                  (List.map AV.toPV (nth (Blk.box []) r_2.snd 0).toCs) 1).toInt],
                        Blk.box [AV.int IntKind.i64 0, AV.int IntKind.i64 0, AV.sl 6 []],
                        Blk.box
                          [AV.int IntKind.i64 (nth (RV.p PV.nilp) r.fst 0).toPV.toInt,
                            AV.int IntKind.i64 (nth (RV.p PV.nilp) r_1.fst 0).toPV.toInt,
                            AV.t (TV.hsl 3)],
                        Blk.arr 6 []] })
                fun (p : Ex × Pack) =>
                ctl (p.fst.eqb (Ex.exit 0))
                  (ctl
                    (okPack
                      {
                        slots :=
                          [(4, Sum.inr (Sum.inr (AV.t (TV.ptr 1 0)))),
                            (5, Sum.inr (Sum.inr (AV.t (TV.ptr 2 0))))],
                        blks :=
                          [Sum.inl [Sum.inl (Sh.sl 1), Sum.inl (Sh.int IntKind.i64)],
                            Sum.inl [Sum.inl (Sh.int IntKind.i64), Sum.inl (Sh.int IntKind.i64), Sum.inl (Sh.sl 6)],
                            Sum.inl
                              [Sum.inl (Sh.int IntKind.i64), Sum.inl (Sh.int IntKind.i64),
                                Sum.inr (AV.t (TV.hsl 3))],
                            Sum.inr 6] }
                      p.snd)
                    (Option.some
                      ([RV.agg
                            [PV.int IntKind.i64
                                (nth AV.undef (nth (Blk.box []) p.snd.blks 2).toCs 0).toPV.toInt,
                              PV.int IntKind.i64
                                (nth AV.undef (nth (Blk.box []) p.snd.blks 2).toCs 1).toPV.toInt,
                              PV.sl 6 (nth (Blk.box []) p.snd.blks 3).toEs]],
                        [Blk.box
                            [AV.sl 1
                                (nth AV.undef (nth (Blk.box []) p.snd.blks 0).toCs 0).toPV.toEs,
                              AV.int IntKind.i64
                                (nth AV.undef (nth (Blk.box []) p.snd.blks 0).toCs
                                      1).toPV.toInt]]))
                    Option.none)
                  Option.none)
              Option.none)
          Option.none)
      Option.none := by kernel_rfl

/-- (*dynpos/dynposmake.Src).Most, the loop of block 0 -/
theorem r27_0 (F : Fun) (x8 : Int) (x9 : Int) (b0_0 : List (List PV)) (b0_1 : Int) (c1 : List (List PV)) : lp E F 27 1 [] 0
  { vals := [AV.int IntKind.i64 x8, AV.int IntKind.i64 x9],
    blks := [Blk.box [AV.sl 1 b0_0, AV.int IntKind.i64 b0_1], Blk.arr 1 c1] } =
  ctl (ltB x9 x8)
    (bnd
      (F 49
        [AV.t (TV.ptr 0 0),
          AV.sl 1
            [[PV.int IntKind.i64 0], [PV.int IntKind.i64 3], [PV.int IntKind.i64 10],
              [PV.int IntKind.i64 50], [PV.int IntKind.i64 5000]]]
        [Blk.box [AV.sl 1 b0_0, AV.int IntKind.i64 b0_1]])
      fun (r : Res) =>
      ctl
        (okR [RSh.one (Sh.int IntKind.i64)] r.fst &&
          okB [Sum.inl [Sh.sl 1, Sh.int IntKind.i64]] r.snd)
        (ctl (leN ((c1.length + 1) * 8) 140737488355328)
          (lp E F 27 1 [] 0
            { vals := [AV.int IntKind.i64 x8, AV.int IntKind.i64 (IntKind.i64.wrap (x9 + 1))],
              blks :=
                [Blk.box
                    [AV.sl 1
                        (nth PV.nilp
                            (List.map AV.toPV (nth (Blk.box []) r.snd 0).toCs) 0).toEs,
                      AV.int IntKind.i64
                        (nth PV.nilp
                            (List.map AV.toPV (nth (Blk.box []) r.snd 0).toCs) 1).toInt],
                  Blk.arr 1
                    (c1 ++ [[PV.int IntKind.i64 (nth (RV.p PV.nilp) r.fst 0).toPV.toInt]])] })
          Option.none)
        Option.none)
    (Option.some
      (Ex.exit 0,
        { vals := [],
          blks := [Blk.box [AV.sl 1 b0_0, AV.int IntKind.i64 b0_1], Blk.arr 1 c1] })) := (lp_unfold ..).trans (by kernel_rfl)

/-- (*dynpos/dynposmake.Src).Most -/
theorem r27 (F : Fun) (s0 : List (List PV)) (s1 : Int) (x0 : Int) (x1 : Int) (x2 : List (List PV)) : funK E F 27 [AV.t (TV.ptr 0 0),
  AV.agg [PV.int IntKind.i64 x0, PV.int IntKind.i64 x1, PV.sl 6 x2]] [Blk.box [AV.sl 1 s0, AV.int IntKind.i64 s1]] =
  bnd
    (lp E F 27 1 [] 0
      { vals := [AV.int IntKind.i64 (↑x2.length : Int), AV.int IntKind.i64 0],
        blks := [Blk.box [AV.sl 1 s0, AV.int IntKind.i64 s1], Blk.arr 1 []] })
    fun (p : Ex × Pack) =>
    ctl (p.fst.eqb (Ex.exit 0))
      (ctl
        (okPack
          { slots := [(5, Sum.inr (Sum.inr (AV.t (TV.hsl 1))))],
            blks := [Sum.inl [Sum.inl (Sh.sl 1), Sum.inl (Sh.int IntKind.i64)], Sum.inr 1] }
          p.snd)
        (Option.some
          ([RV.p (PV.sl 1 (nth (Blk.box []) p.snd.blks 1).toEs)],
            [Blk.box
                [AV.sl 1
                    (nth AV.undef (nth (Blk.box []) p.snd.blks 0).toCs 0).toPV.toEs,
                  AV.int IntKind.i64
                    (nth AV.undef (nth (Blk.box []) p.snd.blks 0).toCs 1).toPV.toInt]]))
        Option.none)
      Option.none := by kernel_rfl

/-- (*dynpos/dynposmake.Src).Demand -/
theorem r28 (F : Fun) (s0 : List (List PV)) (s1 : Int) : funK E F 28 [AV.t (TV.ptr 0 0)] [Blk.box [AV.sl 1 s0, AV.int IntKind.i64 s1]] =
  bnd
    (F 13 [AV.t (TV.ptr 0 0), AV.int IntKind.i64 (-60), AV.int IntKind.i64 60]
      [Blk.box [AV.sl 1 s0, AV.int IntKind.i64 s1]])
    fun (r : Res) =>
    ctl
      (okR [RSh.one (Sh.int IntKind.i64)] r.fst &&
        okB [Sum.inl [Sh.sl 1, Sh.int IntKind.i64]] r.snd)
      (bnd
        (F 13 [AV.t (TV.ptr 0 0), AV.int IntKind.i64 (-50), AV.int IntKind.i64 50]
          [Blk.box
              [AV.sl 1
                  (nth PV.nilp
                      (List.map AV.toPV (nth (Blk.box []) r.snd 0).toCs) 0).toEs,
                AV.int IntKind.i64
                  (nth PV.nilp
                      (List.map AV.toPV (nth (Blk.box []) r.snd 0).toCs) 1).toInt]])
        fun (r_1 : Res) =>
        ctl
          (okR [RSh.one (Sh.int IntKind.i64)] r_1.fst &&
            okB [Sum.inl [Sh.sl 1, Sh.int IntKind.i64]] r_1.snd)
          (bnd
            (F 13 [AV.t (TV.ptr 0 0), AV.int IntKind.i64 (-50), AV.int IntKind.i64 50]
              [Blk.box
                  [AV.sl 1
                      (nth PV.nilp
                          (List.map AV.toPV (nth (Blk.box []) r_1.snd 0).toCs) 0).toEs,
                    AV.int IntKind.i64
                      (nth PV.nilp
                          (List.map AV.toPV (nth (Blk.box []) r_1.snd 0).toCs) 1).toInt]])
            fun (r_2 : Res) =>
            ctl
              (okR [RSh.one (Sh.int IntKind.i64)] r_2.fst &&
                okB [Sum.inl [Sh.sl 1, Sh.int IntKind.i64]] r_2.snd)
              (Option.some
                ([RV.agg
                      [PV.int IntKind.i64 (nth (RV.p PV.nilp) r.fst 0).toPV.toInt,
                        PV.int IntKind.i64 (nth (RV.p PV.nilp) r_1.fst 0).toPV.toInt,
                        PV.int IntKind.i64 (nth (RV.p PV.nilp) r_2.fst 0).toPV.toInt]],
                  [Blk.box
                      [AV.sl 1
                          (nth PV.nilp
                              (List.map AV.toPV (nth (Blk.box []) r_2.snd 0).toCs) 0).toEs,
                        AV.int IntKind.i64
                          (nth PV.nilp
                              (List.map AV.toPV (nth (Blk.box []) r_2.snd 0).toCs) 1).toInt]]))
              Option.none)
          Option.none)
      Option.none := by kernel_rfl

/-- dynpos/allocate.open -/
theorem r29 (F : Fun) (s0 : Int) (s1 : Int) (s2 : List (List PV)) (max : List (List PV)) (last : List (List PV)) (d0 : Int) (d1 : Int) (d2 : Int) : funK E F 29 [AV.agg [PV.int IntKind.i64 s0, PV.int IntKind.i64 s1, PV.sl 6 s2],
  AV.sl 1 max, AV.sl 2 last,
  AV.agg [PV.int IntKind.i64 d0, PV.int IntKind.i64 d1, PV.int IntKind.i64 d2]] [] =
  ctl
    (Bool.true &&
      (leB (↑s2.length : Int) (↑s2.length : Int) &&
        (leB (↑s2.length : Int) 9223372036854775807 && leB ((↑s2.length : Int) * 8) 140737488355328)))
    (bnd
      (F 47
        [AV.agg [PV.int IntKind.i64 s0, PV.int IntKind.i64 s1, PV.sl 6 s2],
          AV.sl 1 max, AV.sl 2 last,
          AV.sl 1 (reps [PV.int IntKind.i64 0] (↑s2.length : Int).toNat)]
        [])
      fun (r : Res) =>
      ctl
        (okR
            [RSh.agg [Sh.sl 6, Sh.sl 2],
              RSh.one (Sh.int IntKind.i64)]
            r.fst &&
          okB [] r.snd)
        (ctl ((nth (RV.p PV.nilp) r.fst 1).toPV.toInt == 0)
          (bnd
            (bnd
              (F 38
                [AV.sl 1
                    [[PV.int IntKind.i64 d0], [PV.int IntKind.i64 d1], [PV.int IntKind.i64 d2]],
                  AV.int IntKind.i64 (-500000), AV.int IntKind.i64 500000]
                [])
              fun (r : Res) =>
              ctl
                (okR [RSh.one Sh.bool] r.fst && okB [] r.snd &&
                  (noslR r.fst && noslB r.snd))
                (Option.some !(nth (RV.p PV.nilp) r.fst 0).toPV.toBool) Option.none)
            fun (v : Bool) =>
            ctl v
              (Option.some
                ([RV.agg
                      [PV.sl 6
                          (nth PV.nilp
                              (nth (RV.p PV.nilp) r.fst 0).toCs 0).toEs,
                        PV.sl 2
                          (nth PV.nilp
                              (nth (RV.p PV.nilp) r.fst 0).toCs 1).toEs],
                    RV.p (PV.int IntKind.i64 1)],
                  []))
              (Option.some
                ([RV.agg
                      [PV.sl 6
                          (nth PV.nilp
                              (nth (RV.p PV.nilp) r.fst 0).toCs 0).toEs,
                        PV.sl 2
                          (nth PV.nilp
                              (nth (RV.p PV.nilp) r.fst 0).toCs 1).toEs],
                    RV.p
                      (PV.int IntKind.i64 (nth (RV.p PV.nilp) r.fst 1).toPV.toInt)],
                  [])))
          (Option.some
            ([RV.agg
                  [PV.sl 6
                      (nth PV.nilp
                          (nth (RV.p PV.nilp) r.fst 0).toCs 0).toEs,
                    PV.sl 2
                      (nth PV.nilp
                          (nth (RV.p PV.nilp) r.fst 0).toCs 1).toEs],
                RV.p
                  (PV.int IntKind.i64 (nth (RV.p PV.nilp) r.fst 1).toPV.toInt)],
              [])))
        Option.none)
    Option.none := by kernel_rfl

/-- dynpos/share.Divide, the loop of block 0 -/
theorem r30_0 (F : Fun) (l0 : List (List PV)) (total1 : Int) (sum10 : Int) (least11 : Int) (most12 : Int) : lp E F 30 0 [] 0
  {
    vals :=
      [AV.sl 3 l0, AV.int IntKind.i64 total1, AV.int IntKind.i64 sum10,
        AV.int IntKind.i64 least11, AV.int IntKind.i64 most12],
    blks := [] } =
  ctl (ltB least11 most12)
    (bnd (F 53 [AV.int IntKind.i64 (IntKind.i64.wrap (least11 + most12)), AV.int IntKind.i64 2] [])
      fun (r : Res) =>
      ctl
        (okR
            [RSh.one (Sh.int IntKind.i64), RSh.one (Sh.int IntKind.i64)] r.fst &&
          okB [] r.snd)
        (bnd
          (F 54
            [AV.sl 3 l0,
              AV.int IntKind.i64 (nth (RV.p PV.nilp) r.fst 0).toPV.toInt]
            [])
          fun (r_1 : Res) =>
          ctl
            (okR [RSh.own 1, RSh.one (Sh.int IntKind.i64)] r_1.fst &&
              okB [] r_1.snd)
            (ctl
              (leB sum10 (nth (RV.p PV.nilp) r_1.fst 1).toPV.toInt)
              (lp E F 30 0 [] 0
                {
                  vals :=
                    [AV.sl 3 l0, AV.int IntKind.i64 total1, AV.int IntKind.i64 sum10,
                      AV.int IntKind.i64 least11,
                      AV.int IntKind.i64 (nth (RV.p PV.nilp) r.fst 0).toPV.toInt],
                  blks := [] })
              (lp E F 30 0 [] 0
                {
                  vals :=
                    [AV.sl 3 l0, AV.int IntKind.i64 total1, AV.int IntKind.i64 sum10,
                      AV.int IntKind.i64
                        (IntKind.i64.wrap ((nth (RV.p PV.nilp) r.fst 0).toPV.toInt + 1)),
                      AV.int IntKind.i64 most12],
                  blks := [] }))
            Option.none)
        Option.none)
    (Option.some
      (Ex.exit 0,
        {
          vals :=
            [AV.sl 3 l0, AV.int IntKind.i64 total1, AV.int IntKind.i64 sum10,
              AV.int IntKind.i64 least11],
          blks := [] })) := (lp_unfold ..).trans (by kernel_rfl)

/-- dynpos/share.Divide, the loop of block 2 -/
theorem r30_2 (F : Fun) (total1 : Int) (sum10 : Int) (least11 : Int) (n18 : Int) (x69 : List (List PV)) (x70 : Int) (x71 : Int) (c0 : List (List PV)) : lp E F 30 0 [] 2
  {
    vals :=
      [AV.int IntKind.i64 total1, AV.int IntKind.i64 sum10, AV.int IntKind.i64 least11,
        AV.int IntKind.i64 n18, AV.sl 3 x69, AV.int IntKind.i64 x70,
        AV.int IntKind.i64 x71],
    blks := [Blk.arr 1 c0] } =
  ctl (ltB x71 x70)
    (getE x69 x71 fun (c : List PV) =>
      ctl
        (okCs [Sh.int IntKind.i64, Sh.int IntKind.i64, Sh.int IntKind.i64] c)
        (bnd
          (ctl (ltB n18 sum10)
            (ctl (leB 0 x71 && ltB x71 (↑c0.length : Int))
              (ctl
                (okCs [Sh.int IntKind.i64] (List.take 1 (List.drop 0 (nth [] c0 x71.toNat))))
                (Option.some
                  (ltB (nth PV.nilp (nth [] c0 x71.toNat) 0).toInt
                    (nth PV.nilp c 1).toInt))
                Option.none)
              Option.none)
            (Option.some Bool.false))
          fun (v : Bool) =>
          bnd
            (ctl v
              (ctl (leB 0 x71 && ltB x71 (↑c0.length : Int))
                (ctl
                  (okCs [Sh.int IntKind.i64] (List.take 1 (List.drop 0 (nth [] c0 x71.toNat))))
                  (bnd
                    (F 55
                      [AV.agg
                          [PV.int IntKind.i64 (nth PV.nilp c 0).toInt,
                            PV.int IntKind.i64 (nth PV.nilp c 1).toInt,
                            PV.int IntKind.i64 (nth PV.nilp c 2).toInt],
                        AV.int IntKind.i64 (nth PV.nilp (nth [] c0 x71.toNat) 0).toInt]
                      [])
                    fun (r : Res) =>
                    ctl
                      (okR [RSh.one (Sh.int IntKind.i64)] r.fst && okB [] r.snd)
                      (Option.some ((nth (RV.p PV.nilp) r.fst 0).toPV.toInt == least11)) Option.none)
                  Option.none)
                Option.none)
              (Option.some Bool.false))
            fun (v : Bool) =>
            ctl v
              (ctl (leB 0 x71 && ltB x71 (↑c0.length : Int))
                (ctl
                  (okCs [Sh.int IntKind.i64] (List.take 1 (List.drop 0 (nth [] c0 x71.toNat))))
                  (ctl (leB 0 x71 && ltB x71 (↑c0.length : Int))
                    (lp E F 30 0 [] 2
                      {
                        vals :=
                          [AV.int IntKind.i64 total1, AV.int IntKind.i64 sum10, AV.int IntKind.i64 least11,
                            AV.int IntKind.i64 (IntKind.i64.wrap (n18 + 1)), AV.sl 3 x69, AV.int IntKind.i64 x70,
                            AV.int IntKind.i64 (IntKind.i64.wrap (x71 + 1))],
                        blks :=
                          [Blk.arr 1
                              (setEs c0 x71.toNat 0
                                [PV.int IntKind.i64
                                    (IntKind.i64.wrap ((nth PV.nilp (nth [] c0 x71.toNat) 0).toInt + 1))])] })
                    Option.none)
                  Option.none)
                Option.none)
              (lp E F 30 0 [] 2
                {
                  vals :=
                    [AV.int IntKind.i64 total1, AV.int IntKind.i64 sum10, AV.int IntKind.i64 least11,
                      AV.int IntKind.i64 n18, AV.sl 3 x69, AV.int IntKind.i64 x70,
                      AV.int IntKind.i64 (IntKind.i64.wrap (x71 + 1))],
                  blks := [Blk.arr 1 c0] }))
        Option.none)
    (Option.some
      (Ex.exit 2,
        { vals := [AV.int IntKind.i64 total1, AV.int IntKind.i64 sum10], blks := [Blk.arr 1 c0] })) := (lp_unfold ..).trans (by kernel_rfl)

/-- dynpos/share.Divide -/
theorem r30 (F : Fun) (l : List (List PV)) (total : Int) : funK E F 30 [AV.sl 3 l, AV.int IntKind.i64 total] [] =
  bnd (F 51 [AV.sl 3 l] []) fun (r : Res) =>
    ctl
      (okR
          [RSh.one (Sh.int IntKind.i64), RSh.one (Sh.int IntKind.i64),
            RSh.one (Sh.int IntKind.i64)]
          r.fst &&
        okB [] r.snd)
      (ctl ((nth (RV.p PV.nilp) r.fst 2).toPV.toInt != 0)
        (Option.some
          ([RV.own 1 [], RV.p (PV.int IntKind.i64 0),
              RV.p
                (PV.int IntKind.i64 (nth (RV.p PV.nilp) r.fst 2).toPV.toInt)],
            []))
        (bnd (ctl (!ltB total (-500000)) (Option.some (ltB 500000 total)) (Option.some Bool.true))
          fun (v : Bool) =>
          ctl v
            (Option.some
              ([RV.own 1 [], RV.p (PV.int IntKind.i64 0),
                  RV.p (PV.int IntKind.i64 1)],
                []))
            (bnd
              (F 52
                [AV.int IntKind.i64 total,
                  AV.int IntKind.i64 (nth (RV.p PV.nilp) r.fst 0).toPV.toInt,
                  AV.int IntKind.i64 (nth (RV.p PV.nilp) r.fst 1).toPV.toInt]
                [])
              fun (r : Res) =>
              ctl
                (okR [RSh.one (Sh.int IntKind.i64)] r.fst && okB [] r.snd)
                (bnd
                  (lp E F 30 0 [] 0
                    {
                      vals :=
                        [AV.sl 3 l, AV.int IntKind.i64 total,
                          AV.int IntKind.i64 (nth (RV.p PV.nilp) r.fst 0).toPV.toInt,
                          AV.int IntKind.i64 (-1000200), AV.int IntKind.i64 1000200],
                      blks := [] })
                  fun (p : Ex × Pack) =>
                  ctl (p.fst.eqb (Ex.exit 0))
                    (ctl
                      (okPack
                        {
                          slots :=
                            [(0, Sum.inl (Sh.sl 3)), (1, Sum.inl (Sh.int IntKind.i64)), (10, Sum.inl (Sh.int IntKind.i64)),
                              (11, Sum.inl (Sh.int IntKind.i64))],
                          blks := [] }
                        p.snd)
                      (bnd
                        (F 54
                          [AV.sl 3 (nth AV.undef p.snd.vals 0).toPV.toEs,
                            AV.int IntKind.i64 (IntKind.i64.wrap ((nth AV.undef p.snd.vals 3).toPV.toInt - 1))]
                          [])
                        fun (r : Res) =>
                        ctl
                          (okR [RSh.own 1, RSh.one (Sh.int IntKind.i64)] r.fst &&
                            okB [] r.snd)
                          (bnd
                            (lp E F 30 0 [] 2
                              {
                                vals :=
                                  [AV.int IntKind.i64 (nth AV.undef p.snd.vals 1).toPV.toInt,
                                    AV.int IntKind.i64 (nth AV.undef p.snd.vals 2).toPV.toInt,
                                    AV.int IntKind.i64 (nth AV.undef p.snd.vals 3).toPV.toInt,
                                    AV.int IntKind.i64 (nth (RV.p PV.nilp) r.fst 1).toPV.toInt,
                                    AV.sl 3 (nth AV.undef p.snd.vals 0).toPV.toEs,
                                    AV.int IntKind.i64 (↑(nth AV.undef p.snd.vals 0).toPV.toEs.length : Int),
                                    AV.int IntKind.i64 0],
                                blks := [Blk.arr 1 (nth (RV.p PV.nilp) r.fst 0).toEs] })
                            fun (p : Ex × Pack) =>
                            ctl (p.fst.eqb (Ex.exit 2))
                              (ctl
                                (okPack
                                  {
                                    slots :=
                                      [(1, Sum.inl (Sh.int IntKind.i64)), (10, Sum.inl (Sh.int IntKind.i64)),
                                        (17, Sum.inr (Sum.inr (AV.t (TV.hsl 0))))],
                                    blks := [Sum.inr 1] }
                                  p.snd)
                                (Option.some
                                  ([RV.own 1 (nth (Blk.box []) p.snd.blks 0).toEs,
                                      RV.p
                                        (PV.int IntKind.i64
                                          (IntKind.i64.wrap
                                            ((nth AV.undef p.snd.vals 0).toPV.toInt -
                                              (nth AV.undef p.snd.vals 1).toPV.toInt))),
                                      RV.p (PV.int IntKind.i64 0)],
                                    []))
                                Option.none)
                              Option.none)
                          Option.none)
                      Option.none)
                    Option.none)
                Option.none)))
      Option.none := by kernel_rfl

/-- (dynpos/allocate.moment).laterals, the loop of block 0 -/
theorem r31_0 (F : Fun) (station1 : Int) (x11 : List (List PV)) (x12 : Int) (x13 : Int) (b0_0 : List (List PV)) (b0_1 : List (List PV)) (c1 : List (List PV)) : lp E F 31 0 [] 0
  {
    vals :=
      [AV.int IntKind.i64 station1, AV.sl 6 x11, AV.int IntKind.i64 x12,
        AV.int IntKind.i64 x13],
    blks := [Blk.box [AV.sl 6 b0_0, AV.sl 2 b0_1], Blk.arr 3 c1] } =
  ctl (ltB x13 x12)
    (getE x11 x13 fun (c : List PV) =>
      ctl
        (okCs
          [Sh.int IntKind.i64, Sh.int IntKind.i64, Sh.int IntKind.i64,
            Sh.int IntKind.i64, Sh.int IntKind.i64, Sh.sl 2]
          c)
        (ctl ((nth PV.nilp c 1).toInt != station1)
          (ctl (leN ((c1.length + 1) * 24) 140737488355328)
            (lp E F 31 0 [] 0
              {
                vals :=
                  [AV.int IntKind.i64 station1, AV.sl 6 x11, AV.int IntKind.i64 x12,
                    AV.int IntKind.i64 (IntKind.i64.wrap (x13 + 1))],
                blks :=
                  [Blk.box [AV.sl 6 b0_0, AV.sl 2 b0_1],
                    Blk.arr 3
                      (c1 ++
                        [[PV.int IntKind.i64 0, PV.int IntKind.i64 0,
                            PV.int IntKind.i64 (nth PV.nilp c 4).toInt]])] })
            Option.none)
          (bnd
            (F 56
              [AV.agg
                  [PV.int IntKind.i64 (nth PV.nilp c 0).toInt,
                    PV.int IntKind.i64 (nth PV.nilp c 1).toInt,
                    PV.int IntKind.i64 (nth PV.nilp c 2).toInt,
                    PV.int IntKind.i64 (nth PV.nilp c 3).toInt,
                    PV.int IntKind.i64 (nth PV.nilp c 4).toInt,
                    PV.sl 2 (nth PV.nilp c 5).toEs]]
              [])
            fun (r : Res) =>
            ctl
              (okR
                  [RSh.one (Sh.int IntKind.i64), RSh.one (Sh.int IntKind.i64)] r.fst &&
                okB [] r.snd)
              (bnd
                (F 57
                  [AV.agg [PV.sl 6 b0_0, PV.sl 2 b0_1], AV.int IntKind.i64 x13,
                    AV.int IntKind.i64 (nth (RV.p PV.nilp) r.fst 0).toPV.toInt,
                    AV.int IntKind.i64 (nth (RV.p PV.nilp) r.fst 1).toPV.toInt,
                    AV.fn 58 []]
                  [])
                fun (r : Res) =>
                ctl
                  (okR
                      [RSh.agg
                          [Sh.int IntKind.i64, Sh.int IntKind.i64, Sh.int IntKind.i64]]
                      r.fst &&
                    okB [] r.snd)
                  (ctl (leN ((c1.length + 1) * 24) 140737488355328)
                    (lp E F 31 0 [] 0
                      {
                        vals :=
                          [AV.int IntKind.i64 station1, AV.sl 6 x11, AV.int IntKind.i64 x12,
                            AV.int IntKind.i64 (IntKind.i64.wrap (x13 + 1))],
                        blks :=
                          [Blk.box [AV.sl 6 b0_0, AV.sl 2 b0_1],
                            Blk.arr 3
                              (c1 ++
                                [[PV.int IntKind.i64
                                      (nth PV.nilp
                                          (nth (RV.p PV.nilp) r.fst 0).toCs 0).toInt,
                                    PV.int IntKind.i64
                                      (nth PV.nilp
                                          (nth (RV.p PV.nilp) r.fst 0).toCs 1).toInt,
                                    PV.int IntKind.i64
                                      (nth PV.nilp
                                          (nth (RV.p PV.nilp) r.fst 0).toCs 2).toInt]])] })
                    Option.none)
                  Option.none)
              Option.none))
        Option.none)
    (Option.some (Ex.exit 0, { vals := [], blks := [Blk.arr 3 c1] })) := (lp_unfold ..).trans (by kernel_rfl)

/-- (dynpos/allocate.moment).laterals -/
theorem r31 (F : Fun) (m0 : List (List PV)) (m1 : List (List PV)) (station : Int) : funK E F 31 [AV.agg [PV.sl 6 m0, PV.sl 2 m1], AV.int IntKind.i64 station] [] =
  bnd
    (lp E F 31 0 [] 0
      {
        vals :=
          [AV.int IntKind.i64 station, AV.sl 6 m0, AV.int IntKind.i64 (↑m0.length : Int),
            AV.int IntKind.i64 0],
        blks := [Blk.box [AV.sl 6 m0, AV.sl 2 m1], Blk.arr 3 []] })
    fun (p : Ex × Pack) =>
    ctl (p.fst.eqb (Ex.exit 0))
      (ctl
        (okPack { slots := [(5, Sum.inr (Sum.inr (AV.t (TV.hsl 0))))], blks := [Sum.inr 3] } p.snd)
        (Option.some ([RV.p (PV.sl 3 (nth (Blk.box []) p.snd.blks 0).toEs)], [])) Option.none)
      Option.none := by kernel_rfl

/-- (dynpos/allocate.moment).surges, the loop of block 0 -/
theorem r32_0 (F : Fun) (y1 : List (List PV)) (x11 : List (List PV)) (x12 : Int) (x13 : Int) (b0_0 : List (List PV)) (b0_1 : List (List PV)) (c1 : List (List PV)) : lp E F 32 0 [] 0
  { vals := [AV.sl 1 y1, AV.sl 6 x11, AV.int IntKind.i64 x12, AV.int IntKind.i64 x13],
    blks := [Blk.box [AV.sl 6 b0_0, AV.sl 2 b0_1], Blk.arr 3 c1] } =
  ctl (ltB x13 x12)
    (getE x11 x13 fun (c : List PV) =>
      ctl
        (okCs
          [Sh.int IntKind.i64, Sh.int IntKind.i64, Sh.int IntKind.i64,
            Sh.int IntKind.i64, Sh.int IntKind.i64, Sh.sl 2]
          c)
        (getE y1 x13 fun (c_1 : List PV) =>
          ctl (okCs [Sh.int IntKind.i64] c_1)
            (bnd
              (F 59
                [AV.agg
                    [PV.int IntKind.i64 (nth PV.nilp c 0).toInt,
                      PV.int IntKind.i64 (nth PV.nilp c 1).toInt,
                      PV.int IntKind.i64 (nth PV.nilp c 2).toInt,
                      PV.int IntKind.i64 (nth PV.nilp c 3).toInt,
                      PV.int IntKind.i64 (nth PV.nilp c 4).toInt,
                      PV.sl 2 (nth PV.nilp c 5).toEs],
                  AV.int IntKind.i64 (nth PV.nilp c_1 0).toInt]
                [])
              fun (r : Res) =>
              ctl
                (okR
                    [RSh.one (Sh.int IntKind.i64), RSh.one (Sh.int IntKind.i64)] r.fst &&
                  okB [] r.snd)
                (bnd
                  (F 57
                    [AV.agg [PV.sl 6 b0_0, PV.sl 2 b0_1], AV.int IntKind.i64 x13,
                      AV.int IntKind.i64 (nth (RV.p PV.nilp) r.fst 0).toPV.toInt,
                      AV.int IntKind.i64 (nth (RV.p PV.nilp) r.fst 1).toPV.toInt,
                      AV.fn 60 []]
                    [])
                  fun (r : Res) =>
                  ctl
                    (okR
                        [RSh.agg
                            [Sh.int IntKind.i64, Sh.int IntKind.i64, Sh.int IntKind.i64]]
                        r.fst &&
                      okB [] r.snd)
                    (ctl (leN ((c1.length + 1) * 24) 140737488355328)
                      (lp E F 32 0 [] 0
                        {
                          vals :=
                            [AV.sl 1 y1, AV.sl 6 x11, AV.int IntKind.i64 x12,
                              AV.int IntKind.i64 (IntKind.i64.wrap (x13 + 1))],
                          blks :=
                            [Blk.box [AV.sl 6 b0_0, AV.sl 2 b0_1],
                              Blk.arr 3
                                (c1 ++
                                  [[PV.int IntKind.i64
                                        (nth PV.nilp
                                            (nth (RV.p PV.nilp) r.fst 0).toCs 0).toInt,
                                      PV.int IntKind.i64
                                        (nth PV.nilp
                                            (nth (RV.p PV.nilp) r.fst 0).toCs 1).toInt,
                                      PV.int IntKind.i64
                                        (nth PV.nilp
                                            (nth (RV.p PV.nilp) r.fst 0).toCs 2).toInt]])] })
                      Option.none)
                    Option.none)
                Option.none)
            Option.none)
        Option.none)
    (Option.some (Ex.exit 0, { vals := [], blks := [Blk.arr 3 c1] })) := (lp_unfold ..).trans (by kernel_rfl)

/-- (dynpos/allocate.moment).surges -/
theorem r32 (F : Fun) (m0 : List (List PV)) (m1 : List (List PV)) (y : List (List PV)) : funK E F 32 [AV.agg [PV.sl 6 m0, PV.sl 2 m1], AV.sl 1 y] [] =
  bnd
    (lp E F 32 0 [] 0
      {
        vals :=
          [AV.sl 1 y, AV.sl 6 m0, AV.int IntKind.i64 (↑m0.length : Int),
            AV.int IntKind.i64 0],
        blks := [Blk.box [AV.sl 6 m0, AV.sl 2 m1], Blk.arr 3 []] })
    fun (p : Ex × Pack) =>
    ctl (p.fst.eqb (Ex.exit 0))
      (ctl
        (okPack { slots := [(5, Sum.inr (Sum.inr (AV.t (TV.hsl 0))))], blks := [Sum.inr 3] } p.snd)
        (Option.some ([RV.own 3 (nth (Blk.box []) p.snd.blks 0).toEs], [])) Option.none)
      Option.none := by kernel_rfl

/-- dynpos/thruster.Total, the loop of block 1 -/
theorem r33_1 (F : Fun) (x24 : List (List PV)) (x25 : Int) (x26 : Int) (b0_0 : Int) (b0_1 : Int) (b0_2 : List (List PV)) (b1_0 : Int) (b1_1 : Int) (b1_2 : Int) (b2_0 : Int) (b2_1 : Int) (b2_2 : Int) : lp E F 33 0 [] 1
  { vals := [AV.sl 2 x24, AV.int IntKind.i64 x25, AV.int IntKind.i64 x26],
    blks :=
      [Blk.box [AV.int IntKind.i64 b0_0, AV.int IntKind.i64 b0_1, AV.sl 6 b0_2],
        Blk.box
          [AV.int IntKind.i64 b1_0, AV.int IntKind.i64 b1_1, AV.int IntKind.i64 b1_2],
        Blk.box
          [AV.int IntKind.i64 b2_0, AV.int IntKind.i64 b2_1, AV.int IntKind.i64 b2_2]] } =
  ctl (ltB x26 x25)
    (getE x24 x26 fun (c : List PV) =>
      ctl (okCs [Sh.int IntKind.i64, Sh.int IntKind.i64] c)
        (bnd
          (F 61
            [AV.agg
                [PV.int IntKind.i64 (nth PV.nilp c 0).toInt,
                  PV.int IntKind.i64 (nth PV.nilp c 1).toInt]]
            [])
          fun (r : Res) =>
          ctl (okR [RSh.one Sh.bool] r.fst && okB [] r.snd)
            (ctl (!(nth (RV.p PV.nilp) r.fst 0).toPV.toBool)
              (Option.some
                (Ex.ret,
                  { vals := [AV.int IntKind.i64 1],
                    blks :=
                      [Blk.box
                          [AV.int IntKind.i64 0, AV.int IntKind.i64 0, AV.int IntKind.i64 0]] }))
              (getE b0_2 x26 fun (c_1 : List PV) =>
                ctl
                  (okCs
                    [Sh.int IntKind.i64, Sh.int IntKind.i64, Sh.int IntKind.i64,
                      Sh.int IntKind.i64, Sh.int IntKind.i64, Sh.sl 2]
                    c_1)
                  (ctl ((nth PV.nilp c_1 1).toInt == 0)
                    (lp E F 33 0 [] 1
                      { vals := [AV.sl 2 x24, AV.int IntKind.i64 x25, AV.int IntKind.i64 (IntKind.i64.wrap (x26 + 1))],
                        blks :=
                          [Blk.box
                              [AV.int IntKind.i64 b0_0, AV.int IntKind.i64 b0_1, AV.sl 6 b0_2],
                            Blk.box
                              [AV.int IntKind.i64 b1_0, AV.int IntKind.i64 b1_1, AV.int IntKind.i64 b1_2],
                            Blk.box
                              [AV.int IntKind.i64 (IntKind.i64.wrap (b2_0 + (nth PV.nilp c 0).toInt)),
                                AV.int IntKind.i64 (IntKind.i64.wrap (b2_1 + (nth PV.nilp c 1).toInt)),
                                AV.int IntKind.i64 b2_2]] })
                    (lp E F 33 0 [] 1
                      { vals := [AV.sl 2 x24, AV.int IntKind.i64 x25, AV.int IntKind.i64 (IntKind.i64.wrap (x26 + 1))],
                        blks :=
                          [Blk.box
                              [AV.int IntKind.i64 b0_0, AV.int IntKind.i64 b0_1, AV.sl 6 b0_2],
                            Blk.box
                              [AV.int IntKind.i64 b1_0, AV.int IntKind.i64 b1_1, AV.int IntKind.i64 b1_2],
                            Blk.box
                              [AV.int IntKind.i64 (IntKind.i64.wrap (b2_0 + (nth PV.nilp c 0).toInt)),
                                AV.int IntKind.i64 b2_1,
                                AV.int IntKind.i64 (IntKind.i64.wrap (b2_2 + (nth PV.nilp c 1).toInt))]] }))
                  Option.none))
            Option.none)
        Option.none)
    (Option.some
      (Ex.exit 1,
        { vals := [],
          blks :=
            [Blk.box
                [AV.int IntKind.i64 b1_0, AV.int IntKind.i64 b1_1, AV.int IntKind.i64 b1_2],
              Blk.box
                [AV.int IntKind.i64 b2_0, AV.int IntKind.i64 b2_1, AV.int IntKind.i64 b2_2]] })) := (lp_unfold ..).trans (by kernel_rfl)

/-- dynpos/thruster.Total -/
theorem r33 (F : Fun) (s0 : Int) (s1 : Int) (s2 : List (List PV)) (l : List (List PV)) : funK E F 33 [AV.agg [PV.int IntKind.i64 s0, PV.int IntKind.i64 s1, PV.sl 6 s2],
  AV.sl 2 l] [] =
  bnd
    (F 37 [AV.agg [PV.int IntKind.i64 s0, PV.int IntKind.i64 s1, PV.sl 6 s2]] [])
    fun (r : Res) =>
    ctl
      (okR [RSh.one (Sh.int IntKind.i64)] r.fst && okB [] r.snd)
      (ctl ((nth (RV.p PV.nilp) r.fst 0).toPV.toInt != 0)
        (bnd
          (F 37 [AV.agg [PV.int IntKind.i64 s0, PV.int IntKind.i64 s1, PV.sl 6 s2]] [])
          fun (r : Res) =>
          ctl
            (okR [RSh.one (Sh.int IntKind.i64)] r.fst && okB [] r.snd)
            (Option.some
              ([RV.agg
                    [PV.int IntKind.i64 0, PV.int IntKind.i64 0, PV.int IntKind.i64 0],
                  RV.p
                    (PV.int IntKind.i64 (nth (RV.p PV.nilp) r.fst 0).toPV.toInt)],
                []))
            Option.none)
        (ctl ((↑l.length : Int) != (↑s2.length : Int))
          (Option.some
            ([RV.agg [PV.int IntKind.i64 0, PV.int IntKind.i64 0, PV.int IntKind.i64 0],
                RV.p (PV.int IntKind.i64 8)],
              []))
          (bnd
            (lp E F 33 0 [] 1
              { vals := [AV.sl 2 l, AV.int IntKind.i64 (↑l.length : Int), AV.int IntKind.i64 0],
                blks :=
                  [Blk.box [AV.int IntKind.i64 s0, AV.int IntKind.i64 s1, AV.sl 6 s2],
                    Blk.box
                      [AV.int IntKind.i64 0, AV.int IntKind.i64 0, AV.int IntKind.i64 0],
                    Blk.box
                      [AV.int IntKind.i64 0, AV.int IntKind.i64 0, AV.int IntKind.i64 0]] })
            fun (p : Ex × Pack) =>
            ctl (p.fst.eqb (Ex.exit 1))
              (ctl
                (okPack
                  {
                    slots :=
                      [(4, Sum.inr (Sum.inr (AV.t (TV.ptr 0 0)))),
                        (6, Sum.inr (Sum.inr (AV.t (TV.ptr 1 0))))],
                    blks :=
                      [Sum.inl
                          [Sum.inl (Sh.int IntKind.i64), Sum.inl (Sh.int IntKind.i64), Sum.inl (Sh.int IntKind.i64)],
                        Sum.inl
                          [Sum.inl (Sh.int IntKind.i64), Sum.inl (Sh.int IntKind.i64), Sum.inl (Sh.int IntKind.i64)]] }
                  p.snd)
                (Option.some
                  ([RV.agg
                        [PV.int IntKind.i64
                            (nth AV.undef (nth (Blk.box []) p.snd.blks 1).toCs 0).toPV.toInt,
                          PV.int IntKind.i64
                            (nth AV.undef (nth (Blk.box []) p.snd.blks 1).toCs 1).toPV.toInt,
                          PV.int IntKind.i64
                            (nth AV.undef (nth (Blk.box []) p.snd.blks 1).toCs 2).toPV.toInt],
                      RV.p (PV.int IntKind.i64 0)],
                    []))
                Option.none)
              (ctl (p.fst.eqb Ex.ret)
                (ctl
                  (okPack
                    { slots := [(4, Sum.inr (Sum.inr (AV.t (TV.ptr 0 0)))), (5, Sum.inl (Sh.int IntKind.i64))],
                      blks :=
                        [Sum.inl
                            [Sum.inl (Sh.int IntKind.i64), Sum.inl (Sh.int IntKind.i64),
                              Sum.inl (Sh.int IntKind.i64)]] }
                    p.snd)
                  (Option.some
                    ([RV.agg
                          [PV.int IntKind.i64
                              (nth AV.undef (nth (Blk.box []) p.snd.blks 0).toCs 0).toPV.toInt,
                            PV.int IntKind.i64
                              (nth AV.undef (nth (Blk.box []) p.snd.blks 0).toCs 1).toPV.toInt,
                            PV.int IntKind.i64
                              (nth AV.undef (nth (Blk.box []) p.snd.blks 0).toCs 2).toPV.toInt],
                        RV.p (PV.int IntKind.i64 (nth AV.undef p.snd.vals 0).toPV.toInt)],
                      []))
                  Option.none)
                Option.none))))
      Option.none := by kernel_rfl

/-- dynpos/allocate.less -/
theorem r34 (F : Fun) (a0 : Int) (a1 : Int) (a2 : Int) (b0 : Int) (b1 : Int) (b2 : Int) : funK E F 34 [AV.agg [PV.int IntKind.i64 a0, PV.int IntKind.i64 a1, PV.int IntKind.i64 a2],
  AV.agg [PV.int IntKind.i64 b0, PV.int IntKind.i64 b1, PV.int IntKind.i64 b2]] [] =
  Option.some
    ([RV.agg
          [PV.int IntKind.i64 (IntKind.i64.wrap (a0 - b0)), PV.int IntKind.i64 (IntKind.i64.wrap (a1 - b1)),
            PV.int IntKind.i64 (IntKind.i64.wrap (a2 - b2))]],
      []) := by kernel_rfl

/-- dynpos/dynposref14.Thrusts, the loop of block 0 -/
theorem r35_0 (F : Fun) (a0 : List (List PV)) (b1 : List (List PV)) (x12 : Int) (x13 : Int) : lp E F 35 0 [] 0
  { vals := [AV.sl 2 a0, AV.sl 2 b1, AV.int IntKind.i64 x12, AV.int IntKind.i64 x13],
    blks := [] } =
  ctl (ltB x13 x12)
    (getE a0 x13 fun (c : List PV) =>
      ctl (okCs [Sh.int IntKind.i64, Sh.int IntKind.i64] c)
        (getE b1 x13 fun (c_1 : List PV) =>
          ctl (okCs [Sh.int IntKind.i64, Sh.int IntKind.i64] c_1)
            (ctl
              (!((nth PV.nilp c 0).toInt == (nth PV.nilp c_1 0).toInt &&
                  ((nth PV.nilp c 1).toInt == (nth PV.nilp c_1 1).toInt && Bool.true)))
              (Option.some (Ex.ret, { vals := [AV.bool Bool.false], blks := [] }))
              (lp E F 35 0 [] 0
                {
                  vals :=
                    [AV.sl 2 a0, AV.sl 2 b1, AV.int IntKind.i64 x12,
                      AV.int IntKind.i64 (IntKind.i64.wrap (x13 + 1))],
                  blks := [] }))
            Option.none)
        Option.none)
    (Option.some (Ex.exit 0, { vals := [], blks := [] })) := (lp_unfold ..).trans (by kernel_rfl)

/-- dynpos/dynposref14.Thrusts -/
theorem r35 (F : Fun) (a : List (List PV)) (b : List (List PV)) : funK E F 35 [AV.sl 2 a, AV.sl 2 b] [] =
  ctl ((↑a.length : Int) != (↑b.length : Int)) (Option.some ([RV.p (PV.bool Bool.false)], []))
    (bnd
      (lp E F 35 0 [] 0
        {
          vals :=
            [AV.sl 2 a, AV.sl 2 b, AV.int IntKind.i64 (↑a.length : Int),
              AV.int IntKind.i64 0],
          blks := [] })
      fun (p : Ex × Pack) =>
      ctl (p.fst.eqb (Ex.exit 0)) (Option.some ([RV.p (PV.bool Bool.true)], []))
        (ctl (p.fst.eqb Ex.ret)
          (ctl (okPack { slots := [(4, Sum.inl Sh.bool)], blks := [] } p.snd)
            (Option.some ([RV.p (PV.bool (nth AV.undef p.snd.vals 0).toPV.toBool)], []))
            Option.none)
          Option.none)) := by kernel_rfl

/-- dynpos/dynposmake.Mod -/
theorem r36 (F : Fun) (x : Int) (n : Int) : funK E F 36 [AV.int IntKind.i64 x, AV.int IntKind.i64 n] [] =
  ctl (ltB n 1) (Option.some ([RV.p (PV.int IntKind.i64 0)], []))
    (ctl (Bool.true && neB n 0)
      (ctl (Bool.true && neB n 0)
        (Option.some ([RV.p (PV.int IntKind.i64 ((IntKind.i64.wrap (x.tmod n + n)).tmod n))], [])) Option.none)
      Option.none) := by kernel_rfl

/-- dynpos/thruster.Check -/
theorem r37 (F : Fun) (s0 : Int) (s1 : Int) (s2 : List (List PV)) : funK E F 37 [AV.agg [PV.int IntKind.i64 s0, PV.int IntKind.i64 s1, PV.sl 6 s2]] [] =
  ctl (ltB 8 (↑s2.length : Int)) (Option.some ([RV.p (PV.int IntKind.i64 2)], []))
    (bnd
      (ctl (!ltB (minI s1 s0) 0)
        (Option.some (ltB 200 (maxI s1 s0))) (Option.some Bool.true))
      fun (v : Bool) =>
      bnd (ctl (!v) (ctl (s0 == 0) (Option.some (s1 == 0)) (Option.some Bool.false)) (Option.some Bool.true)) fun (v : Bool) =>
        ctl v (Option.some ([RV.p (PV.int IntKind.i64 1)], []))
          (bnd (F 62 [AV.sl 6 s2, AV.fn 63 []] []) fun (r : Res) =>
            ctl (okR [RSh.one Sh.bool] r.fst && okB [] r.snd)
              (ctl (nth (RV.p PV.nilp) r.fst 0).toPV.toBool
                (Option.some ([RV.p (PV.int IntKind.i64 14)], []))
                (Option.some ([RV.p (PV.int IntKind.i64 0)], [])))
              Option.none)) := by kernel_rfl

/-- dynpos/allocate.within -/
theorem r38 (F : Fun) (l : List (List PV)) (low : Int) (high : Int) : funK E F 38 [AV.sl 1 l, AV.int IntKind.i64 low, AV.int IntKind.i64 high] [] =
  bnd
    (F 65 [AV.sl 1 l, AV.fn 66 [TV.ptr 0 0, TV.ptr 1 0]]
      [Blk.box [AV.int IntKind.i64 low], Blk.box [AV.int IntKind.i64 high]])
    fun (r : Res) =>
    ctl
      (okR [RSh.one Sh.bool] r.fst &&
        okB [Sum.inl [Sh.int IntKind.i64], Sum.inl [Sh.int IntKind.i64]] r.snd)
      (Option.some
        ([RV.p
              (PV.bool !(nth (RV.p PV.nilp) r.fst 0).toPV.toBool)],
          []))
      Option.none := by kernel_rfl

/-- dynpos/arith.Half -/
theorem r39 (F : Fun) (n : Int) (d : Int) : funK E F 39 [AV.int IntKind.i64 n, AV.int IntKind.i64 d] [] =
  bnd (F 67 [AV.int IntKind.i64 n, AV.int IntKind.i64 d, AV.fn 68 []] [])
    fun (r : Res) =>
    ctl
      (okR
          [RSh.one (Sh.int IntKind.i64), RSh.one (Sh.int IntKind.i64)] r.fst &&
        okB [] r.snd)
      (Option.some
        ([RV.p
              (PV.int IntKind.i64 (nth (RV.p PV.nilp) r.fst 0).toPV.toInt),
            RV.p
              (PV.int IntKind.i64 (nth (RV.p PV.nilp) r.fst 1).toPV.toInt)],
          []))
      Option.none := by kernel_rfl

/-- dynpos/dynposref11.Valid, the loop of block 0 -/
theorem r43_0 (F : Fun) (x60 : List (List PV)) (x61 : Int) (x62 : Int) : lp E F 43 0 [] 0
  { vals := [AV.sl 2 x60, AV.int IntKind.i64 x61, AV.int IntKind.i64 x62], blks := [] } =
  ctl (ltB x62 x61)
    (getE x60 x62 fun (c : List PV) =>
      ctl (okCs [Sh.int IntKind.i64, Sh.int IntKind.i64] c)
        (bnd
          (F 72
            [AV.agg
                [PV.int IntKind.i64 (nth PV.nilp c 0).toInt,
                  PV.int IntKind.i64 (nth PV.nilp c 1).toInt]]
            [])
          fun (r : Res) =>
          ctl (okR [RSh.one Sh.bool] r.fst && okB [] r.snd)
            (ctl (!(nth (RV.p PV.nilp) r.fst 0).toPV.toBool)
              (Option.some (Ex.ret, { vals := [AV.bool Bool.false], blks := [] }))
              (lp E F 43 0 [] 0
                { vals := [AV.sl 2 x60, AV.int IntKind.i64 x61, AV.int IntKind.i64 (IntKind.i64.wrap (x62 + 1))],
                  blks := [] }))
            Option.none)
        Option.none)
    (Option.some (Ex.exit 0, { vals := [], blks := [] })) := (lp_unfold ..).trans (by kernel_rfl)

/-- dynpos/dynposref11.Valid -/
theorem r43 (F : Fun) (t0 : Int) (t1 : Int) (t2 : Int) (t3 : Int) (t4 : Int) (t5 : List (List PV)) : funK E F 43 [AV.agg
    [PV.int IntKind.i64 t0, PV.int IntKind.i64 t1, PV.int IntKind.i64 t2,
      PV.int IntKind.i64 t3, PV.int IntKind.i64 t4, PV.sl 2 t5]] [] =
  bnd (ctl (!ltB t0 1) (Option.some (ltB 3 t0)) (Option.some Bool.true)) fun (v : Bool) =>
    bnd (ctl (!v) (Option.some (ltB t1 0)) (Option.some Bool.true)) fun (v : Bool) =>
      bnd (ctl (!v) (Option.some (ltB 1 t1)) (Option.some Bool.true)) fun (v : Bool) =>
        bnd (ctl (!v) (Option.some (ltB t2 0)) (Option.some Bool.true)) fun (v : Bool) =>
          bnd (ctl (!v) (Option.some (ltB 5000 t2)) (Option.some Bool.true)) fun (v : Bool) =>
            bnd (ctl (!v) (Option.some (ltB t3 0)) (Option.some Bool.true)) fun (v : Bool) =>
              bnd (ctl (!v) (Option.some (ltB 5000 t3)) (Option.some Bool.true)) fun (v : Bool) =>
                bnd (ctl (!v) (Option.some (ltB t4 1)) (Option.some Bool.true)) fun (v : Bool) =>
                  bnd (ctl (!v) (Option.some (ltB 100 t4)) (Option.some Bool.true)) fun (v : Bool) =>
                    bnd (ctl (!v) (Option.some (ltB 4 (↑t5.length : Int))) (Option.some Bool.true)) fun (v : Bool) =>
                      ctl v (Option.some ([RV.p (PV.bool Bool.false)], []))
                        (bnd
                          (lp E F 43 0 [] 0
                            { vals := [AV.sl 2 t5, AV.int IntKind.i64 (↑t5.length : Int), AV.int IntKind.i64 0],
                              blks := [] })
                          fun (p : Ex × Pack) =>
                          ctl (p.fst.eqb (Ex.exit 0))
                            (Option.some ([RV.p (PV.bool Bool.true)], []))
                            (ctl (p.fst.eqb Ex.ret)
                              (ctl (okPack { slots := [(2, Sum.inl Sh.bool)], blks := [] } p.snd)
                                (Option.some
                                  ([RV.p (PV.bool (nth AV.undef p.snd.vals 0).toPV.toBool)], []))
                                Option.none)
                              Option.none)) := by kernel_rfl

/-- dynpos/dynposref02.Within -/
theorem r44 (F : Fun) (x0 : Int) (x1 : Int) (px : Int) (py : Int) : funK E F 44 [AV.agg [PV.int IntKind.i64 x0, PV.int IntKind.i64 x1], AV.int IntKind.i64 px,
  AV.int IntKind.i64 py] [] =
  bnd (F 72 [AV.agg [PV.int IntKind.i64 x0, PV.int IntKind.i64 x1]] [])
    fun (r : Res) =>
    ctl (okR [RSh.one Sh.bool] r.fst && okB [] r.snd)
      (bnd
        (ctl (!!(nth (RV.p PV.nilp) r.fst 0).toPV.toBool)
          (bnd (F 73 [AV.int IntKind.i64 px, AV.int IntKind.i64 py] []) fun (r : Res) =>
            ctl (okR [RSh.one Sh.bool] r.fst && okB [] r.snd)
              (Option.some !(nth (RV.p PV.nilp) r.fst 0).toPV.toBool) Option.none)
          (Option.some Bool.true))
        fun (v : Bool) =>
        bnd (ctl (!v) (ctl (px == 0) (Option.some (py == 0)) (Option.some Bool.false)) (Option.some Bool.true)) fun (v : Bool) =>
          ctl v (Option.some ([RV.p (PV.bool Bool.false)], []))
            (bnd
              (F 74 [AV.int IntKind.i64 x0, AV.int IntKind.i64 px, AV.int IntKind.i64 py] [])
              fun (r : Res) =>
              ctl
                (okR [RSh.one (Sh.int IntKind.i64)] r.fst && okB [] r.snd)
                (bnd
                  (F 74 [AV.int IntKind.i64 x1, AV.int IntKind.i64 px, AV.int IntKind.i64 py] [])
                  fun (r_1 : Res) =>
                  ctl
                    (okR [RSh.one (Sh.int IntKind.i64)] r_1.fst && okB [] r_1.snd)
                    (bnd
                      (ctl
                        (leB 0 (nth (RV.p PV.nilp) r.fst 0).toPV.toInt)
                        (Option.some (leB (nth (RV.p PV.nilp) r_1.fst 0).toPV.toInt 0))
                        (Option.some Bool.false))
                      fun (v : Bool) =>
                      bnd
                        (ctl v
                          (ctl
                            (!ltB 0 (nth (RV.p PV.nilp) r.fst 0).toPV.toInt)
                            (bnd (F 75 [AV.int IntKind.i64 x0] []) fun (r : Res) =>
                              ctl
                                (okR [RSh.one (Sh.int IntKind.i64)] r.fst && okB [] r.snd)
                                (bnd (F 76 [AV.int IntKind.i64 x0] []) fun (r_2 : Res) =>
                                  ctl
                                    (okR [RSh.one (Sh.int IntKind.i64)] r_2.fst &&
                                      okB [] r_2.snd)
                                    (Option.some
                                      (ltB 0
                                        (IntKind.i64.wrap
                                          (IntKind.i64.wrap ((nth (RV.p PV.nilp) r.fst 0).toPV.toInt * px) +
                                            IntKind.i64.wrap ((nth (RV.p PV.nilp) r_2.fst 0).toPV.toInt * py)))))
                                    Option.none)
                                Option.none)
                            (Option.some Bool.true))
                          (Option.some Bool.false))
                        fun (v : Bool) => Option.some ([RV.p (PV.bool v)], []))
                    Option.none)
                Option.none))
      Option.none := by kernel_rfl

/-- dynpos/dynposref12.Check, the loop of block 0 -/
theorem r45_0 (F : Fun) (x36 : List (List PV)) (x37 : Int) (x38 : Int) : lp E F 45 0 [] 0
  { vals := [AV.sl 6 x36, AV.int IntKind.i64 x37, AV.int IntKind.i64 x38], blks := [] } =
  ctl (ltB x38 x37)
    (getE x36 x38 fun (c : List PV) =>
      ctl
        (okCs
          [Sh.int IntKind.i64, Sh.int IntKind.i64, Sh.int IntKind.i64,
            Sh.int IntKind.i64, Sh.int IntKind.i64, Sh.sl 2]
          c)
        (bnd
          (F 43
            [AV.agg
                [PV.int IntKind.i64 (nth PV.nilp c 0).toInt,
                  PV.int IntKind.i64 (nth PV.nilp c 1).toInt,
                  PV.int IntKind.i64 (nth PV.nilp c 2).toInt,
                  PV.int IntKind.i64 (nth PV.nilp c 3).toInt,
                  PV.int IntKind.i64 (nth PV.nilp c 4).toInt,
                  PV.sl 2 (nth PV.nilp c 5).toEs]]
            [])
          fun (r : Res) =>
          ctl (okR [RSh.one Sh.bool] r.fst && okB [] r.snd)
            (ctl (!(nth (RV.p PV.nilp) r.fst 0).toPV.toBool)
              (Option.some (Ex.ret, { vals := [AV.int IntKind.i64 14], blks := [] }))
              (lp E F 45 0 [] 0
                { vals := [AV.sl 6 x36, AV.int IntKind.i64 x37, AV.int IntKind.i64 (IntKind.i64.wrap (x38 + 1))],
                  blks := [] }))
            Option.none)
        Option.none)
    (Option.some (Ex.exit 0, { vals := [], blks := [] })) := (lp_unfold ..).trans (by kernel_rfl)

/-- dynpos/dynposref12.Check -/
theorem r45 (F : Fun) (s0 : Int) (s1 : Int) (s2 : List (List PV)) : funK E F 45 [AV.agg [PV.int IntKind.i64 s0, PV.int IntKind.i64 s1, PV.sl 6 s2]] [] =
  ctl (ltB 8 (↑s2.length : Int)) (Option.some ([RV.p (PV.int IntKind.i64 2)], []))
    (bnd (ctl (!ltB s0 0) (Option.some (ltB 200 s0)) (Option.some Bool.true)) fun (v : Bool) =>
      bnd (ctl (!v) (Option.some (ltB s1 0)) (Option.some Bool.true)) fun (v : Bool) =>
        bnd (ctl (!v) (Option.some (ltB 200 s1)) (Option.some Bool.true)) fun (v : Bool) =>
          bnd (ctl (!v) (Option.some (IntKind.i64.wrap (s0 + s1) == 0)) (Option.some Bool.true)) fun (v : Bool) =>
            ctl v (Option.some ([RV.p (PV.int IntKind.i64 1)], []))
              (bnd
                (lp E F 45 0 [] 0
                  { vals := [AV.sl 6 s2, AV.int IntKind.i64 (↑s2.length : Int), AV.int IntKind.i64 0], blks := [] })
                fun (p : Ex × Pack) =>
                ctl (p.fst.eqb (Ex.exit 0)) (Option.some ([RV.p (PV.int IntKind.i64 0)], []))
                  (ctl (p.fst.eqb Ex.ret)
                    (ctl (okPack { slots := [(2, Sum.inl (Sh.int IntKind.i64))], blks := [] } p.snd)
                      (Option.some
                        ([RV.p (PV.int IntKind.i64 (nth AV.undef p.snd.vals 0).toPV.toInt)],
                          []))
                      Option.none)
                    Option.none))) := by kernel_rfl

/-- dynpos/dynposref12.right -/
theorem r46 (F : Fun) (v0 : Int) (v1 : Int) : funK E F 46 [AV.agg [PV.int IntKind.i64 v0, PV.int IntKind.i64 v1]] [] =
  bnd (ctl (leB (-5000) v0) (Option.some (leB v0 5000)) (Option.some Bool.false))
    fun (v : Bool) =>
    bnd (ctl v (Option.some (leB (-5000) v1)) (Option.some Bool.false)) fun (v : Bool) =>
      bnd (ctl v (Option.some (leB v1 5000)) (Option.some Bool.false)) fun (v : Bool) =>
        Option.some ([RV.p (PV.bool v)], []) := by kernel_rfl

/-- dynpos/allocate.begin, the loop of block 1 -/
theorem r47_1 (F : Fun) (most1 : List (List PV)) (last2 : List (List PV)) (x62 : List (List PV)) (x63 : Int) (x64 : Int) (b0_0 : List (List PV)) (b0_1 : List (List PV)) (b1_1 : List (List PV)) (c2 : List (List PV)) : lp E F 47 0 [] 1
  {
    vals :=
      [AV.sl 1 most1, AV.sl 2 last2, AV.sl 6 x62, AV.int IntKind.i64 x63,
        AV.int IntKind.i64 x64],
    blks :=
      [Blk.box [AV.sl 6 b0_0, AV.sl 2 b0_1],
        Blk.box [AV.t (TV.hsl 2), AV.sl 2 b1_1], Blk.arr 6 c2] } =
  ctl (ltB x64 x63)
    (getE x62 x64 fun (c : List PV) =>
      ctl
        (okCs
          [Sh.int IntKind.i64, Sh.int IntKind.i64, Sh.int IntKind.i64,
            Sh.int IntKind.i64, Sh.int IntKind.i64, Sh.sl 2]
          c)
        (getE most1 x64 fun (c_1 : List PV) =>
          ctl (okCs [Sh.int IntKind.i64] c_1)
            (bnd
              (F 77
                [AV.agg
                    [PV.int IntKind.i64 (nth PV.nilp c 0).toInt,
                      PV.int IntKind.i64 (nth PV.nilp c 1).toInt,
                      PV.int IntKind.i64 (nth PV.nilp c 2).toInt,
                      PV.int IntKind.i64 (nth PV.nilp c 3).toInt,
                      PV.int IntKind.i64 (nth PV.nilp c 4).toInt,
                      PV.sl 2 (nth PV.nilp c 5).toEs],
                  AV.int IntKind.i64 (nth PV.nilp c_1 0).toInt]
                [])
              fun (r : Res) =>
              ctl
                (okR
                    [RSh.agg
                        [Sh.int IntKind.i64, Sh.int IntKind.i64, Sh.int IntKind.i64,
                          Sh.int IntKind.i64, Sh.int IntKind.i64, Sh.sl 2]]
                    r.fst &&
                  okB [] r.snd)
                (ctl (leN ((c2.length + 1) * 64) 140737488355328)
                  (lp E F 47 0 [] 1
                    {
                      vals :=
                        [AV.sl 1 most1, AV.sl 2 last2, AV.sl 6 x62, AV.int IntKind.i64 x63,
                          AV.int IntKind.i64 (IntKind.i64.wrap (x64 + 1))],
                      blks :=
                        [Blk.box [AV.sl 6 b0_0, AV.sl 2 b0_1],
                          Blk.box [AV.t (TV.hsl 2), AV.sl 2 b1_1],
                          Blk.arr 6
                            (c2 ++
                              [[PV.int IntKind.i64
                                    (nth PV.nilp
                                        (nth (RV.p PV.nilp) r.fst 0).toCs 0).toInt,
                                  PV.int IntKind.i64
                                    (nth PV.nilp
                                        (nth (RV.p PV.nilp) r.fst 0).toCs 1).toInt,
                                  PV.int IntKind.i64
                                    (nth PV.nilp
                                        (nth (RV.p PV.nilp) r.fst 0).toCs 2).toInt,
                                  PV.int IntKind.i64
                                    (nth PV.nilp
                                        (nth (RV.p PV.nilp) r.fst 0).toCs 3).toInt,
                                  PV.int IntKind.i64
                                    (nth PV.nilp
                                        (nth (RV.p PV.nilp) r.fst 0).toCs 4).toInt,
                                  PV.sl 2
                                    (nth PV.nilp
                                        (nth (RV.p PV.nilp) r.fst 0).toCs 5).toEs]])] })
                  Option.none)
                Option.none)
            Option.none)
        Option.none)
    (Option.some
      (Ex.exit 1,
        { vals := [AV.sl 2 last2],
          blks :=
            [Blk.box [AV.sl 6 b0_0, AV.sl 2 b0_1],
              Blk.box [AV.t (TV.hsl 2), AV.sl 2 b1_1],
              Blk.arr 6 c2] })) := (lp_unfold ..).trans (by kernel_rfl)

/-- dynpos/allocate.begin, the loop of block 3 -/
theorem r47_3 (F : Fun) (x81 : List (List PV)) (x82 : Int) (x83 : Int) (b0_0 : List (List PV)) (b0_1 : List (List PV)) (b1_1 : List (List PV)) (c2 : List (List PV)) : lp E F 47 0 [] 3
  { vals := [AV.sl 2 x81, AV.int IntKind.i64 x82, AV.int IntKind.i64 x83],
    blks :=
      [Blk.box [AV.sl 6 b0_0, AV.sl 2 b0_1],
        Blk.box [AV.t (TV.hsl 2), AV.sl 2 b1_1], Blk.arr 6 c2] } =
  ctl (ltB x83 x82)
    (getE x81 x83 fun (c : List PV) =>
      ctl (okCs [Sh.int IntKind.i64, Sh.int IntKind.i64] c)
        (bnd
          (F 38
            [AV.sl 1
                [[PV.int IntKind.i64 (nth PV.nilp c 0).toInt],
                  [PV.int IntKind.i64 (nth PV.nilp c 1).toInt]],
              AV.int IntKind.i64 (-5000), AV.int IntKind.i64 5000]
            [])
          fun (r : Res) =>
          ctl
            (okR [RSh.one Sh.bool] r.fst && okB [] r.snd &&
              (noslR r.fst && noslB r.snd))
            (ctl (!(nth (RV.p PV.nilp) r.fst 0).toPV.toBool)
              (Option.some
                (Ex.ret,
                  { vals := [AV.int IntKind.i64 1],
                    blks := [Blk.box [AV.sl 6 [], AV.sl 2 []]] }))
              (lp E F 47 0 [] 3
                { vals := [AV.sl 2 x81, AV.int IntKind.i64 x82, AV.int IntKind.i64 (IntKind.i64.wrap (x83 + 1))],
                  blks :=
                    [Blk.box [AV.sl 6 b0_0, AV.sl 2 b0_1],
                      Blk.box [AV.t (TV.hsl 2), AV.sl 2 b1_1],
                      Blk.arr 6 c2] }))
            Option.none)
        Option.none)
    (Option.some
      (Ex.exit 3,
        { vals := [],
          blks :=
            [Blk.box [AV.sl 6 b0_0, AV.sl 2 b0_1],
              Blk.box [AV.t (TV.hsl 2), AV.sl 2 b1_1],
              Blk.arr 6 c2] })) := (lp_unfold ..).trans (by kernel_rfl)

/-- dynpos/allocate.begin -/
theorem r47 (F : Fun) (s0 : Int) (s1 : Int) (s2 : List (List PV)) (most : List (List PV)) (last : List (List PV)) (numbers : List (List PV)) : funK E F 47 [AV.agg [PV.int IntKind.i64 s0, PV.int IntKind.i64 s1, PV.sl 6 s2],
  AV.sl 1 most, AV.sl 2 last, AV.sl 1 numbers] [] =
  bnd
    (F 37 [AV.agg [PV.int IntKind.i64 s0, PV.int IntKind.i64 s1, PV.sl 6 s2]] [])
    fun (r : Res) =>
    ctl
      (okR [RSh.one (Sh.int IntKind.i64)] r.fst && okB [] r.snd)
      (ctl ((nth (RV.p PV.nilp) r.fst 0).toPV.toInt != 0)
        (bnd
          (F 37 [AV.agg [PV.int IntKind.i64 s0, PV.int IntKind.i64 s1, PV.sl 6 s2]] [])
          fun (r : Res) =>
          ctl
            (okR [RSh.one (Sh.int IntKind.i64)] r.fst && okB [] r.snd)
            (Option.some
              ([RV.agg [PV.nils, PV.nils],
                  RV.p
                    (PV.int IntKind.i64 (nth (RV.p PV.nilp) r.fst 0).toPV.toInt)],
                []))
            Option.none)
        (bnd
          (ctl (!(↑most.length : Int) != (↑s2.length : Int))
            (ctl (ltB 0 (↑last.length : Int)) (Option.some ((↑last.length : Int) != (↑s2.length : Int))) (Option.some Bool.false)) (Option.some Bool.true))
          fun (v : Bool) =>
          bnd (ctl (!v) (Option.some ((↑numbers.length : Int) != (↑s2.length : Int))) (Option.some Bool.true)) fun (v : Bool) =>
            ctl v
              (Option.some
                ([RV.agg [PV.nils, PV.nils],
                    RV.p (PV.int IntKind.i64 8)],
                  []))
              (bnd (F 38 [AV.sl 1 most, AV.int IntKind.i64 0, AV.int IntKind.i64 5000] [])
                fun (r : Res) =>
                ctl (okR [RSh.one Sh.bool] r.fst && okB [] r.snd)
                  (bnd
                    (ctl (!!(nth (RV.p PV.nilp) r.fst 0).toPV.toBool)
                      (bnd
                        (F 38 [AV.sl 1 numbers, AV.int IntKind.i64 (-5000), AV.int IntKind.i64 5000] [])
                        fun (r : Res) =>
                        ctl
                          (okR [RSh.one Sh.bool] r.fst && okB [] r.snd)
                          (Option.some !(nth (RV.p PV.nilp) r.fst 0).toPV.toBool) Option.none)
                      (Option.some Bool.true))
                    fun (v : Bool) =>
                    ctl v
                      (Option.some
                        ([RV.agg [PV.nils, PV.nils],
                            RV.p (PV.int IntKind.i64 1)],
                          []))
                      (bnd
                        (lp E F 47 0 [] 1
                          {
                            vals :=
                              [AV.sl 1 most, AV.sl 2 last, AV.sl 6 s2,
                                AV.int IntKind.i64 (↑s2.length : Int), AV.int IntKind.i64 0],
                            blks :=
                              [Blk.box [AV.sl 6 [], AV.sl 2 []],
                                Blk.box [AV.t (TV.hsl 2), AV.sl 2 last],
                                Blk.arr 6 []] })
                        fun (p : Ex × Pack) =>
                        ctl (p.fst.eqb (Ex.exit 1))
                          (ctl
                            (okPack
                              {
                                slots :=
                                  [(2, Sum.inl (Sh.sl 2)), (8, Sum.inr (Sum.inr (AV.t (TV.ptr 0 0)))),
                                    (11, Sum.inr (Sum.inr (AV.t (TV.ptr 1 0))))],
                                blks :=
                                  [Sum.inl [Sum.inl (Sh.sl 6), Sum.inl (Sh.sl 2)],
                                    Sum.inl [Sum.inr (AV.t (TV.hsl 2)), Sum.inl (Sh.sl 2)], Sum.inr 6] }
                              p.snd)
                            (bnd
                              (lp E F 47 0 [] 3
                                {
                                  vals :=
                                    [AV.sl 2 (nth AV.undef p.snd.vals 0).toPV.toEs,
                                      AV.int IntKind.i64 (↑(nth AV.undef p.snd.vals 0).toPV.toEs.length : Int),
                                      AV.int IntKind.i64 0],
                                  blks :=
                                    [Blk.box
                                        [AV.sl 6
                                            (nth AV.undef (nth (Blk.box []) p.snd.blks 0).toCs
                                                  0).toPV.toEs,
                                          AV.sl 2
                                            (nth AV.undef (nth (Blk.box []) p.snd.blks 0).toCs
                                                  1).toPV.toEs],
                                      Blk.box
                                        [AV.t (TV.hsl 2),
                                          AV.sl 2
                                            (nth AV.undef (nth (Blk.box []) p.snd.blks 1).toCs
                                                  1).toPV.toEs],
                                      Blk.arr 6 (nth (Blk.box []) p.snd.blks 2).toEs] })
                              fun (p : Ex × Pack) =>
                              ctl (p.fst.eqb (Ex.exit 3))
                                (ctl
                                  (okPack
                                    {
                                      slots :=
                                        [(8, Sum.inr (Sum.inr (AV.t (TV.ptr 0 0)))),
                                          (11, Sum.inr (Sum.inr (AV.t (TV.ptr 1 0))))],
                                      blks :=
                                        [Sum.inl [Sum.inl (Sh.sl 6), Sum.inl (Sh.sl 2)],
                                          Sum.inl [Sum.inr (AV.t (TV.hsl 2)), Sum.inl (Sh.sl 2)], Sum.inr 6] }
                                    p.snd)
                                  (Option.some
                                    ([RV.agg
                                          [PV.sl 6 (nth (Blk.box []) p.snd.blks 2).toEs,
                                            PV.sl 2
                                              (nth AV.undef (nth (Blk.box []) p.snd.blks 1).toCs
                                                    1).toPV.toEs],
                                        RV.p (PV.int IntKind.i64 0)],
                                      []))
                                  Option.none)
                                (ctl (p.fst.eqb Ex.ret)
                                  (ctl
                                    (okPack
                                      {
                                        slots :=
                                          [(8, Sum.inr (Sum.inr (AV.t (TV.ptr 0 0)))), (9, Sum.inl (Sh.int IntKind.i64))],
                                        blks := [Sum.inl [Sum.inl (Sh.sl 6), Sum.inl (Sh.sl 2)]] }
                                      p.snd)
                                    (Option.some
                                      ([RV.agg
                                            [PV.sl 6
                                                (nth AV.undef (nth (Blk.box []) p.snd.blks 0).toCs
                                                      0).toPV.toEs,
                                              PV.sl 2
                                                (nth AV.undef (nth (Blk.box []) p.snd.blks 0).toCs
                                                      1).toPV.toEs],
                                          RV.p
                                            (PV.int IntKind.i64 (nth AV.undef p.snd.vals 0).toPV.toInt)],
                                        []))
                                    Option.none)
                                  Option.none))
                            Option.none)
                          Option.none))
                  Option.none)))
      Option.none := by kernel_rfl

/-- dynpos/dynposref13.Valid, the loop of block 0 -/
theorem r48_0 (F : Fun) (x8 : List (List PV)) (x9 : Int) (x10 : Int) : lp E F 48 0 [] 0
  { vals := [AV.sl 3 x8, AV.int IntKind.i64 x9, AV.int IntKind.i64 x10], blks := [] } =
  ctl (ltB x10 x9)
    (getE x8 x10 fun (c : List PV) =>
      ctl
        (okCs [Sh.int IntKind.i64, Sh.int IntKind.i64, Sh.int IntKind.i64] c)
        (bnd
          (ctl (!ltB (nth PV.nilp c 0).toInt (-5000))
            (Option.some
              (ltB (nth PV.nilp c 1).toInt
                (nth PV.nilp c 0).toInt))
            (Option.some Bool.true))
          fun (v : Bool) =>
          bnd
            (ctl (!v) (Option.some (ltB 5000 (nth PV.nilp c 1).toInt)) (Option.some Bool.true))
            fun (v : Bool) =>
            bnd
              (ctl (!v) (Option.some (ltB (nth PV.nilp c 2).toInt 1)) (Option.some Bool.true))
              fun (v : Bool) =>
              bnd
                (ctl (!v) (Option.some (ltB 100 (nth PV.nilp c 2).toInt)) (Option.some Bool.true))
                fun (v : Bool) =>
                ctl v (Option.some (Ex.ret, { vals := [AV.int IntKind.i64 1], blks := [] }))
                  (lp E F 48 0 [] 0
                    { vals := [AV.sl 3 x8, AV.int IntKind.i64 x9, AV.int IntKind.i64 (IntKind.i64.wrap (x10 + 1))],
                      blks := [] }))
        Option.none)
    (Option.some (Ex.exit 0, { vals := [], blks := [] })) := (lp_unfold ..).trans (by kernel_rfl)

/-- dynpos/dynposref13.Valid -/
theorem r48 (F : Fun) (l : List (List PV)) : funK E F 48 [AV.sl 3 l] [] =
  ctl (ltB 8 (↑l.length : Int)) (Option.some ([RV.p (PV.int IntKind.i64 2)], []))
    (bnd
      (lp E F 48 0 [] 0
        { vals := [AV.sl 3 l, AV.int IntKind.i64 (↑l.length : Int), AV.int IntKind.i64 0], blks := [] })
      fun (p : Ex × Pack) =>
      ctl (p.fst.eqb (Ex.exit 0)) (Option.some ([RV.p (PV.int IntKind.i64 0)], []))
        (ctl (p.fst.eqb Ex.ret)
          (ctl (okPack { slots := [(2, Sum.inl (Sh.int IntKind.i64))], blks := [] } p.snd)
            (Option.some
              ([RV.p (PV.int IntKind.i64 (nth AV.undef p.snd.vals 0).toPV.toInt)], []))
            Option.none)
          Option.none)) := by kernel_rfl

/-- (*dynpos/dynposmake.Src).Pick -/
theorem r49 (F : Fun) (s0 : List (List PV)) (s1 : Int) (l : List (List PV)) : funK E F 49 [AV.t (TV.ptr 0 0), AV.sl 1 l] [Blk.box [AV.sl 1 s0, AV.int IntKind.i64 s1]] =
  bnd
    (F 12 [AV.t (TV.ptr 0 0), AV.int IntKind.i64 (↑l.length : Int)]
      [Blk.box [AV.sl 1 s0, AV.int IntKind.i64 s1]])
    fun (r : Res) =>
    ctl
      (okR [RSh.one (Sh.int IntKind.i64)] r.fst &&
        okB [Sum.inl [Sh.sl 1, Sh.int IntKind.i64]] r.snd)
      (getE l (nth (RV.p PV.nilp) r.fst 0).toPV.toInt
        fun (c : List PV) =>
        ctl (okCs [Sh.int IntKind.i64] c)
          (Option.some
            ([RV.p (PV.int IntKind.i64 (nth PV.nilp c 0).toInt)],
              [Blk.box
                  [AV.sl 1
                      (nth PV.nilp
                          (List.map AV.toPV (nth (Blk.box []) r.snd 0).toCs) 0).toEs,
                    AV.int IntKind.i64
                      (nth PV.nilp
                          (List.map AV.toPV (nth (Blk.box []) r.snd 0).toCs) 1).toInt]]))
          Option.none)
      Option.none := by kernel_rfl

/-- (*dynpos/dynposmake.Src).Thruster, the loop of block 0 -/
theorem r50_0 (F : Fun) (k4 : Int) (b0_0 : List (List PV)) (b0_1 : Int) (b1_0 : Int) (b1_1 : Int) (b1_2 : Int) (b1_3 : Int) (b1_4 : Int) (b1_5 : List (List PV)) (b2_0 : Int) (b2_1 : Int) (b2_2 : Int) (b2_3 : Int) (b2_4 : Int) (c3 : List (List PV)) : lp E F 50 1 [] 0
  { vals := [AV.int IntKind.i64 k4],
    blks :=
      [Blk.box [AV.sl 1 b0_0, AV.int IntKind.i64 b0_1],
        Blk.box
          [AV.int IntKind.i64 b1_0, AV.int IntKind.i64 b1_1, AV.int IntKind.i64 b1_2,
            AV.int IntKind.i64 b1_3, AV.int IntKind.i64 b1_4, AV.sl 2 b1_5],
        Blk.box
          [AV.int IntKind.i64 b2_0, AV.int IntKind.i64 b2_1, AV.int IntKind.i64 b2_2,
            AV.int IntKind.i64 b2_3, AV.int IntKind.i64 b2_4, AV.t (TV.hsl 3)],
        Blk.arr 2 c3] } =
  ctl (ltB 0 k4)
    (bnd
      (F 78 [AV.t (TV.ptr 0 0)]
        [Blk.box [AV.sl 1 b0_0, AV.int IntKind.i64 b0_1]])
      fun (r : Res) =>
      ctl
        (okR [RSh.agg [Sh.int IntKind.i64, Sh.int IntKind.i64]] r.fst &&
          okB [Sum.inl [Sh.sl 1, Sh.int IntKind.i64]] r.snd)
        (ctl (leN ((c3.length + 1) * 16) 140737488355328)
          (lp E F 50 1 [] 0
            { vals := [AV.int IntKind.i64 (IntKind.i64.wrap (k4 - 1))],
              blks :=
                [Blk.box
                    [AV.sl 1
                        (nth PV.nilp
                            (List.map AV.toPV (nth (Blk.box []) r.snd 0).toCs) 0).toEs,
                      AV.int IntKind.i64
                        (nth PV.nilp
                            (List.map AV.toPV (nth (Blk.box []) r.snd 0).toCs) 1).toInt],
                  Blk.box
                    [AV.int IntKind.i64 b1_0, AV.int IntKind.i64 b1_1, AV.int IntKind.i64 b1_2,
                      AV.int IntKind.i64 b1_3, AV.int IntKind.i64 b1_4, AV.sl 2 b1_5],
                  Blk.box
                    [AV.int IntKind.i64 b2_0, AV.int IntKind.i64 b2_1, AV.int IntKind.i64 b2_2,
                      AV.int IntKind.i64 b2_3, AV.int IntKind.i64 b2_4, AV.t (TV.hsl 3)],
                  Blk.arr 2
                    (c3 ++
                      [[PV.int IntKind.i64
                            (nth PV.nilp
                                (nth (RV.p PV.nilp) r.fst 0).toCs 0).toInt,
                          PV.int IntKind.i64
                            (nth PV.nilp
                                (nth (RV.p PV.nilp) r.fst 0).toCs 1).toInt]])] })
          Option.none)
        Option.none)
    (Option.some
      (Ex.exit 0,
        { vals := [],
          blks :=
            [Blk.box [AV.sl 1 b0_0, AV.int IntKind.i64 b0_1],
              Blk.box
                [AV.int IntKind.i64 b1_0, AV.int IntKind.i64 b1_1, AV.int IntKind.i64 b1_2,
                  AV.int IntKind.i64 b1_3, AV.int IntKind.i64 b1_4, AV.sl 2 b1_5],
              Blk.box
                [AV.int IntKind.i64 b2_0, AV.int IntKind.i64 b2_1, AV.int IntKind.i64 b2_2,
                  AV.int IntKind.i64 b2_3, AV.int IntKind.i64 b2_4, AV.t (TV.hsl 3)],
              Blk.arr 2 c3] })) := (lp_unfold ..).trans (by kernel_rfl)

/-- (*dynpos/dynposmake.Src).Thruster -/
theorem r50 (F : Fun) (s0 : List (List PV)) (s1 : Int) : funK E F 50 [AV.t (TV.ptr 0 0)] [Blk.box [AV.sl 1 s0, AV.int IntKind.i64 s1]] =
  bnd
    (F 13 [AV.t (TV.ptr 0 0), AV.int IntKind.i64 1, AV.int IntKind.i64 3]
      [Blk.box [AV.sl 1 s0, AV.int IntKind.i64 s1]])
    fun (r : Res) =>
    ctl
      (okR [RSh.one (Sh.int IntKind.i64)] r.fst &&
        okB [Sum.inl [Sh.sl 1, Sh.int IntKind.i64]] r.snd)
      (bnd
        (F 12 [AV.t (TV.ptr 0 0), AV.int IntKind.i64 2]
          [Blk.box
              [AV.sl 1
                  (nth PV.nilp
                      (List.map AV.toPV (nth (Blk.box []) r.snd 0).toCs) 0).toEs,
                AV.int IntKind.i64
                  (nth PV.nilp
                      (List.map AV.toPV (nth (Blk.box []) r.snd 0).toCs) 1).toInt]])
        fun (r_1 : Res) =>
        ctl
          (okR [RSh.one (Sh.int IntKind.i64)] r_1.fst &&
            okB [Sum.inl [Sh.sl 1, Sh.int IntKind.i64]] r_1.snd)
          (bnd
            (F 49
              [AV.t (TV.ptr 0 0),
                AV.sl 1
                  [[PV.int IntKind.i64 0], [PV.int IntKind.i64 1], [PV.int IntKind.i64 7],
                    [PV.int IntKind.i64 20], [PV.int IntKind.i64 40]]]
              [Blk.box
                  [AV.sl 1
                      (nth PV.nilp
                          (List.map AV.toPV (nth (Blk.box []) r_1.snd 0).toCs) 0).toEs,
                    AV.int IntKind.i64
                      (nth PV.nilp
                          (List.map AV.toPV (nth (Blk.box []) r_1.snd 0).toCs) 1).toInt]])
            fun (r_2 : Res) =>
            ctl
              (okR [RSh.one (Sh.int IntKind.i64)] r_2.fst &&
                okB [Sum.inl [Sh.sl 1, Sh.int IntKind.i64]] r_2.snd)
              (bnd
                (F 49
                  [AV.t (TV.ptr 0 0),
                    AV.sl 1
                      [[PV.int IntKind.i64 0], [PV.int IntKind.i64 1], [PV.int IntKind.i64 5],
                        [PV.int IntKind.i64 50]]]
                  [Blk.box
                      [AV.sl 1
                          (nth PV.nilp
                              (List.map AV.toPV (nth (Blk.box []) r_2.snd 0).toCs) 0).toEs,
                        AV.int IntKind.i64
                          (nth PV.nilp
                              (List.map AV.toPV (nth (Blk.box []) r_2.snd 0).toCs) 1).toInt]])
                fun (r_3 : Res) =>
                ctl
                  (okR [RSh.one (Sh.int IntKind.i64)] r_3.fst &&
                    okB [Sum.inl [Sh.sl 1, Sh.int IntKind.i64]] r_3.snd)
                  (bnd
                    (F 49
                      [AV.t (TV.ptr 0 0),
                        AV.sl 1
                          [[PV.int IntKind.i64 1], [PV.int IntKind.i64 2], [PV.int IntKind.i64 3],
                            [PV.int IntKind.i64 100]]]
                      [Blk.box
                          [AV.sl 1
                              (nth PV.nilp
                                  (List.map AV.toPV (nth (Blk.box []) r_3.snd 0).toCs) 0).toEs,
                            AV.int IntKind.i64
                              (nth PV.nilp
                                  (List.map AV.toPV (nth (Blk.box []) r_3.snd 0).toCs) 1).toInt]])
                    fun (r_4 : Res) =>
                    ctl
                      (okR [RSh.one (Sh.int IntKind.i64)] r_4.fst &&
                        okB [Sum.inl [Sh.sl 1, Sh.int IntKind.i64]] r_4.snd)
                      (bnd
                        (F 12 [AV.t (TV.ptr 0 0), AV.int IntKind.i64 3]
                          [Blk.box
                              [AV.sl 1
                                  (nth PV.nilp
                                      (List.map AV.toPV (nth (Blk.box []) r_4.snd 0).toCs) 0).toEs,
                                AV.int IntKind.i64
                                  (nth PV.nilp
                                      (List.map AV.toPV (nth (Blk.box []) r_4.snd 0).toCs) 1).toInt]])
                        fun (r_5 : Res) =>
                        ctl
                          (okR [RSh.one (Sh.int IntKind.i64)] r_5.fst &&
                            okB [Sum.inl [Sh.sl 1, Sh.int IntKind.i64]] r_5.snd)
                          (bnd
                            (lp E F 50 1 [] 0
                              {
                                vals :=
                                  [AV.int IntKind.i64
                                      (nth (RV.p PV.nilp) r_5.fst 0).toPV.toInt],
                                blks :=
                                  [Blk.box
                                      [AV.sl 1
                                          (nth PV.nilp
                                              (List.map AV.toPV (nth (Blk.box []) r_5.snd 0).toCs) 0).toEs,
                                        AV.int IntKind.i64
                                          (nth PV.nilp
                                              (List.map AV.toPV (nth (Blk.box []) r_5.snd 0).toCs) 1).toInt],
                                    Blk.box
                                      [AV.int IntKind.i64 0, AV.int IntKind.i64 0, AV.int IntKind.i64 0,
                                        AV.int IntKind.i64 0, AV.int IntKind.i64 0, AV.sl 2 []],
                                    Blk.box
                                      [AV.int IntKind.i64
                                          (nth (RV.p PV.nilp) r.fst 0).toPV.toInt,
                                        AV.int IntKind.i64
                                          (nth (RV.p PV.nilp) r_1.fst 0).toPV.toInt,
                                        AV.int IntKind.i64
                                          (nth (RV.p PV.nilp) r_2.fst 0).toPV.toInt,
                                        AV.int IntKind.i64
                                          (nth (RV.p PV.nilp) r_3.fst 0).toPV.toInt,
                                        AV.int IntKind.i64
                                          (nth (RV.p PV.nilp) r_4.fst 0).toPV.toInt,
                                        AV.t (TV.hsl 3)],
                                    Blk.arr 2 []] })
                            fun (p : Ex × Pack) =>
                            ctl (p.fst.eqb (Ex.exit 0))
                              (ctl
                                (okPack
                                  {
                                    slots :=
                                      [(2, Sum.inr (Sum.inr (AV.t (TV.ptr 1 0)))),
                                        (3, Sum.inr (Sum.inr (AV.t (TV.ptr 2 0))))],
                                    blks :=
                                      [Sum.inl [Sum.inl (Sh.sl 1), Sum.inl (Sh.int IntKind.i64)],
                                        Sum.inl
                                          [Sum.inl (Sh.int IntKind.i64), Sum.inl (Sh.int IntKind.i64),
                                            Sum.inl (Sh.int IntKind.i64), Sum.inl (Sh.int IntKind.i64),
                                            Sum.inl (Sh.int IntKind.i64), Sum.inl (Sh.sl 2)],
                                        Sum.inl
                                          [Sum.inl (Sh.int IntKind.i64), Sum.inl (Sh.int IntKind.i64),
                                            Sum.inl (Sh.int IntKind.i64), Sum.inl (Sh.int IntKind.i64),
                                            Sum.inl (Sh.int IntKind.i64), Sum.inr (AV.t (TV.hsl 3))],
                                        Sum.inr 2] }
                                  p.snd)
                                (Option.some
                                  ([RV.agg
                                        [PV.int IntKind.i64
                                            (nth AV.undef (nth (Blk.box []) p.snd.blks 2).toCs
                                                  0).toPV.toInt,
                                          PV.int IntKind.i64
                                            (nth AV.undef (nth (Blk.box []) p.snd.blks 2).toCs
                                                  1).toPV.toInt,
                                          PV.int IntKind.i64
                                            (nth AV.undef (nth (Blk.box []) p.snd.blks 2).toCs
                                                  2).toPV.toInt,
                                          PV.int IntKind.i64
                                            (nth AV.undef (nth (Blk.box []) p.snd.blks 2).toCs
                                                  3).toPV.toInt,
                                          PV.int IntKind.i64
                                            (nth AV.undef (nth (Blk.box []) p.snd.blks 2).toCs
                                                  4).toPV.toInt,
                                          PV.sl 2 (nth (Blk.box []) p.snd.blks 3).toEs]],
                                    [Blk.box
                                        [AV.sl 1
                                            (nth AV.undef (nth (Blk.box []) p.snd.blks 0).toCs
                                                  0).toPV.toEs,
                                          AV.int IntKind.i64
                                            (nth AV.undef (nth (Blk.box []) p.snd.blks 0).toCs
                                                  1).toPV.toInt]]))
                                Option.none)
                              Option.none)
                          Option.none)
                      Option.none)
                  Option.none)
              Option.none)
          Option.none)
      Option.none := by kernel_rfl

/-- dynpos/share.Reach, the loop of block 0 -/
theorem r51_0 (F : Fun) (low2 : Int) (high3 : Int) (x13 : List (List PV)) (x14 : Int) (x15 : Int) : lp E F 51 0 [] 0
  {
    vals :=
      [AV.int IntKind.i64 low2, AV.int IntKind.i64 high3, AV.sl 3 x13,
        AV.int IntKind.i64 x14, AV.int IntKind.i64 x15],
    blks := [] } =
  ctl (ltB x15 x14)
    (getE x13 x15 fun (c : List PV) =>
      ctl
        (okCs [Sh.int IntKind.i64, Sh.int IntKind.i64, Sh.int IntKind.i64] c)
        (lp E F 51 0 [] 0
          {
            vals :=
              [AV.int IntKind.i64 (IntKind.i64.wrap (low2 + (nth PV.nilp c 0).toInt)),
                AV.int IntKind.i64 (IntKind.i64.wrap (high3 + (nth PV.nilp c 1).toInt)),
                AV.sl 3 x13, AV.int IntKind.i64 x14, AV.int IntKind.i64 (IntKind.i64.wrap (x15 + 1))],
            blks := [] })
        Option.none)
    (Option.some (Ex.exit 0, { vals := [AV.int IntKind.i64 low2, AV.int IntKind.i64 high3], blks := [] })) := (lp_unfold ..).trans (by kernel_rfl)

/-- dynpos/share.Reach -/
theorem r51 (F : Fun) (l : List (List PV)) : funK E F 51 [AV.sl 3 l] [] =
  bnd (F 79 [AV.sl 3 l] []) fun (r : Res) =>
    ctl
      (okR [RSh.one (Sh.int IntKind.i64)] r.fst && okB [] r.snd)
      (ctl ((nth (RV.p PV.nilp) r.fst 0).toPV.toInt != 0)
        (Option.some
          ([RV.p (PV.int IntKind.i64 0), RV.p (PV.int IntKind.i64 0),
              RV.p
                (PV.int IntKind.i64 (nth (RV.p PV.nilp) r.fst 0).toPV.toInt)],
            []))
        (bnd
          (lp E F 51 0 [] 0
            {
              vals :=
                [AV.int IntKind.i64 0, AV.int IntKind.i64 0, AV.sl 3 l,
                  AV.int IntKind.i64 (↑l.length : Int), AV.int IntKind.i64 0],
              blks := [] })
          fun (p : Ex × Pack) =>
          ctl (p.fst.eqb (Ex.exit 0))
            (ctl
              (okPack { slots := [(2, Sum.inl (Sh.int IntKind.i64)), (3, Sum.inl (Sh.int IntKind.i64))], blks := [] }
                p.snd)
              (Option.some
                ([RV.p (PV.int IntKind.i64 (nth AV.undef p.snd.vals 0).toPV.toInt),
                    RV.p (PV.int IntKind.i64 (nth AV.undef p.snd.vals 1).toPV.toInt),
                    RV.p (PV.int IntKind.i64 0)],
                  []))
              Option.none)
            Option.none))
      Option.none := by kernel_rfl

/-- dynpos/arith.Clamp -/
theorem r52 (F : Fun) (x : Int) (low : Int) (high : Int) : funK E F 52 [AV.int IntKind.i64 x, AV.int IntKind.i64 low, AV.int IntKind.i64 high] [] =
  Option.some ([RV.p (PV.int IntKind.i64 (maxI (minI high x) low))], []) := by kernel_rfl

/-- dynpos/arith.Floor -/
theorem r53 (F : Fun) (n : Int) (d : Int) : funK E F 53 [AV.int IntKind.i64 n, AV.int IntKind.i64 d] [] =
  bnd (F 67 [AV.int IntKind.i64 n, AV.int IntKind.i64 d, AV.fn 69 []] [])
    fun (r : Res) =>
    ctl
      (okR
          [RSh.one (Sh.int IntKind.i64), RSh.one (Sh.int IntKind.i64)] r.fst &&
        okB [] r.snd)
      (Option.some
        ([RV.p
              (PV.int IntKind.i64 (nth (RV.p PV.nilp) r.fst 0).toPV.toInt),
            RV.p
              (PV.int IntKind.i64 (nth (RV.p PV.nilp) r.fst 1).toPV.toInt)],
          []))
      Option.none := by kernel_rfl

/-- dynpos/share.priced, the loop of block 0 -/
theorem r54_0 (F : Fun) (price1 : Int) (sum5 : Int) (x10 : List (List PV)) (x11 : Int) (x12 : Int) (c0 : List (List PV)) : lp E F 54 0 [] 0
  {
    vals :=
      [AV.int IntKind.i64 price1, AV.int IntKind.i64 sum5, AV.sl 3 x10,
        AV.int IntKind.i64 x11, AV.int IntKind.i64 x12],
    blks := [Blk.arr 1 c0] } =
  ctl (ltB x12 x11)
    (getE x10 x12 fun (c : List PV) =>
      ctl
        (okCs [Sh.int IntKind.i64, Sh.int IntKind.i64, Sh.int IntKind.i64] c)
        (bnd
          (F 53
            [AV.int IntKind.i64 (IntKind.i64.wrap (price1 + (nth PV.nilp c 2).toInt)),
              AV.int IntKind.i64 (IntKind.i64.wrap (2 * (nth PV.nilp c 2).toInt))]
            [])
          fun (r : Res) =>
          ctl
            (okR
                [RSh.one (Sh.int IntKind.i64), RSh.one (Sh.int IntKind.i64)] r.fst &&
              okB [] r.snd)
            (bnd
              (F 52
                [AV.int IntKind.i64 (nth (RV.p PV.nilp) r.fst 0).toPV.toInt,
                  AV.int IntKind.i64 (nth PV.nilp c 0).toInt,
                  AV.int IntKind.i64 (nth PV.nilp c 1).toInt]
                [])
              fun (r : Res) =>
              ctl
                (okR [RSh.one (Sh.int IntKind.i64)] r.fst && okB [] r.snd)
                (ctl (leN ((c0.length + 1) * 8) 140737488355328)
                  (lp E F 54 0 [] 0
                    {
                      vals :=
                        [AV.int IntKind.i64 price1,
                          AV.int IntKind.i64
                            (IntKind.i64.wrap (sum5 + (nth (RV.p PV.nilp) r.fst 0).toPV.toInt)),
                          AV.sl 3 x10, AV.int IntKind.i64 x11, AV.int IntKind.i64 (IntKind.i64.wrap (x12 + 1))],
                      blks :=
                        [Blk.arr 1
                            (c0 ++
                              [[PV.int IntKind.i64
                                    (nth (RV.p PV.nilp) r.fst 0).toPV.toInt]])] })
                  Option.none)
                Option.none)
            Option.none)
        Option.none)
    (Option.some (Ex.exit 0, { vals := [AV.int IntKind.i64 sum5], blks := [Blk.arr 1 c0] })) := (lp_unfold ..).trans (by kernel_rfl)

/-- dynpos/share.priced -/
theorem r54 (F : Fun) (l : List (List PV)) (price : Int) : funK E F 54 [AV.sl 3 l, AV.int IntKind.i64 price] [] =
  bnd
    (lp E F 54 0 [] 0
      {
        vals :=
          [AV.int IntKind.i64 price, AV.int IntKind.i64 0, AV.sl 3 l,
            AV.int IntKind.i64 (↑l.length : Int), AV.int IntKind.i64 0],
        blks := [Blk.arr 1 []] })
    fun (p : Ex × Pack) =>
    ctl (p.fst.eqb (Ex.exit 0))
      (ctl
        (okPack
          { slots := [(4, Sum.inr (Sum.inr (AV.t (TV.hsl 0)))), (5, Sum.inl (Sh.int IntKind.i64))], blks := [Sum.inr 1] }
          p.snd)
        (Option.some
          ([RV.own 1 (nth (Blk.box []) p.snd.blks 0).toEs,
              RV.p (PV.int IntKind.i64 (nth AV.undef p.snd.vals 0).toPV.toInt)],
            []))
        Option.none)
      Option.none := by kernel_rfl

/-- dynpos/share.next -/
theorem r55 (F : Fun) (s0 : Int) (s1 : Int) (s2 : Int) (x : Int) : funK E F 55 [AV.agg [PV.int IntKind.i64 s0, PV.int IntKind.i64 s1, PV.int IntKind.i64 s2],
  AV.int IntKind.i64 x] [] =
  Option.some ([RV.p (PV.int IntKind.i64 (IntKind.i64.wrap (s2 * IntKind.i64.wrap (IntKind.i64.wrap (2 * x) + 1))))], []) := by kernel_rfl

/-- dynpos/sector.Lateral -/
theorem r56 (F : Fun) (t0 : Int) (t1 : Int) (t2 : Int) (t3 : Int) (t4 : Int) (t5 : List (List PV)) : funK E F 56 [AV.agg
    [PV.int IntKind.i64 t0, PV.int IntKind.i64 t1, PV.int IntKind.i64 t2,
      PV.int IntKind.i64 t3, PV.int IntKind.i64 t4, PV.sl 2 t5]] [] =
  bnd
    (F 64
      [AV.agg
          [PV.int IntKind.i64 t0, PV.int IntKind.i64 t1, PV.int IntKind.i64 t2,
            PV.int IntKind.i64 t3, PV.int IntKind.i64 t4, PV.sl 2 t5]]
      [])
    fun (r : Res) =>
    ctl (okR [RSh.one Sh.bool] r.fst && okB [] r.snd)
      (ctl (!(nth (RV.p PV.nilp) r.fst 0).toPV.toBool)
        (Option.some ([RV.p (PV.int IntKind.i64 0), RV.p (PV.int IntKind.i64 0)], []))
        (bnd
          (F 80 [AV.fn 81 [TV.ptr 0 0]]
            [Blk.box
                [AV.int IntKind.i64 t0, AV.int IntKind.i64 t1, AV.int IntKind.i64 t2,
                  AV.int IntKind.i64 t3, AV.int IntKind.i64 t4, AV.sl 2 t5]])
          fun (r : Res) =>
          ctl
            (okR
                [RSh.one (Sh.int IntKind.i64), RSh.one (Sh.int IntKind.i64)] r.fst &&
              okB
                [Sum.inl
                    [Sh.int IntKind.i64, Sh.int IntKind.i64, Sh.int IntKind.i64,
                      Sh.int IntKind.i64, Sh.int IntKind.i64, Sh.sl 2]]
                r.snd)
            (Option.some
              ([RV.p
                    (PV.int IntKind.i64 (nth (RV.p PV.nilp) r.fst 0).toPV.toInt),
                  RV.p
                    (PV.int IntKind.i64 (nth (RV.p PV.nilp) r.fst 1).toPV.toInt)],
                []))
            Option.none))
      Option.none := by kernel_rfl

/-- (dynpos/allocate.moment).rated -/
theorem r57a (F : Fun) (m0 : List (List PV)) (m1 : List (List PV)) (i : Int) (low : Int) (high : Int) : funK E F 57 [AV.agg [PV.sl 6 m0, PV.sl 2 m1], AV.int IntKind.i64 i,
  AV.int IntKind.i64 low, AV.int IntKind.i64 high, AV.fn 58 []] [] =
  getE m0 i fun (c : List PV) =>
    ctl
      (okCs
        [Sh.int IntKind.i64, Sh.int IntKind.i64, Sh.int IntKind.i64,
          Sh.int IntKind.i64, Sh.int IntKind.i64, Sh.sl 2]
        c)
      (ctl (ltB 0 (↑m1.length : Int))
        (getE m1 i fun (c_1 : List PV) =>
          ctl (okCs [Sh.int IntKind.i64, Sh.int IntKind.i64] c_1)
            (bnd
              (F 58
                [AV.agg
                    [PV.int IntKind.i64 (nth PV.nilp c_1 0).toInt,
                      PV.int IntKind.i64 (nth PV.nilp c_1 1).toInt]]
                [])
              fun (r : Res) =>
              ctl
                (okR [RSh.one (Sh.int IntKind.i64)] r.fst && okB [] r.snd)
                (bnd
                  (F 83
                    [AV.int IntKind.i64 low, AV.int IntKind.i64 high,
                      AV.int IntKind.i64 (nth (RV.p PV.nilp) r.fst 0).toPV.toInt,
                      AV.int IntKind.i64 (nth PV.nilp c 3).toInt]
                    [])
                  fun (r : Res) =>
                  ctl
                    (okR
                        [RSh.one (Sh.int IntKind.i64), RSh.one (Sh.int IntKind.i64)]
                        r.fst &&
                      okB [] r.snd)
                    (Option.some
                      ([RV.agg
                            [PV.int IntKind.i64 (nth (RV.p PV.nilp) r.fst 0).toPV.toInt,
                              PV.int IntKind.i64 (nth (RV.p PV.nilp) r.fst 1).toPV.toInt,
                              PV.int IntKind.i64 (nth PV.nilp c 4).toInt]],
                        []))
                    Option.none)
                Option.none)
            Option.none)
        (Option.some
          ([RV.agg
                [PV.int IntKind.i64 low, PV.int IntKind.i64 high,
                  PV.int IntKind.i64 (nth PV.nilp c 4).toInt]],
            [])))
      Option.none := by kernel_rfl

/-- (dynpos/allocate.moment).rated -/
theorem r57b (F : Fun) (m0 : List (List PV)) (m1 : List (List PV)) (i : Int) (low : Int) (high : Int) : funK E F 57 [AV.agg [PV.sl 6 m0, PV.sl 2 m1], AV.int IntKind.i64 i,
  AV.int IntKind.i64 low, AV.int IntKind.i64 high, AV.fn 60 []] [] =
  getE m0 i fun (c : List PV) =>
    ctl
      (okCs
        [Sh.int IntKind.i64, Sh.int IntKind.i64, Sh.int IntKind.i64,
          Sh.int IntKind.i64, Sh.int IntKind.i64, Sh.sl 2]
        c)
      (ctl (ltB 0 (↑m1.length : Int))
        (getE m1 i fun (c_1 : List PV) =>
          ctl (okCs [Sh.int IntKind.i64, Sh.int IntKind.i64] c_1)
            (bnd
              (F 60
                [AV.agg
                    [PV.int IntKind.i64 (nth PV.nilp c_1 0).toInt,
                      PV.int IntKind.i64 (nth PV.nilp c_1 1).toInt]]
                [])
              fun (r : Res) =>
              ctl
                (okR [RSh.one (Sh.int IntKind.i64)] r.fst && okB [] r.snd)
                (bnd
                  (F 83
                    [AV.int IntKind.i64 low, AV.int IntKind.i64 high,
                      AV.int IntKind.i64 (nth (RV.p PV.nilp) r.fst 0).toPV.toInt,
                      AV.int IntKind.i64 (nth PV.nilp c 3).toInt]
                    [])
                  fun (r : Res) =>
                  ctl
                    (okR
                        [RSh.one (Sh.int IntKind.i64), RSh.one (Sh.int IntKind.i64)]
                        r.fst &&
                      okB [] r.snd)
                    (Option.some
                      ([RV.agg
                            [PV.int IntKind.i64 (nth (RV.p PV.nilp) r.fst 0).toPV.toInt,
                              PV.int IntKind.i64 (nth (RV.p PV.nilp) r.fst 1).toPV.toInt,
                              PV.int IntKind.i64 (nth PV.nilp c 4).toInt]],
                        []))
                    Option.none)
                Option.none)
            Option.none)
        (Option.some
          ([RV.agg
                [PV.int IntKind.i64 low, PV.int IntKind.i64 high,
                  PV.int IntKind.i64 (nth PV.nilp c 4).toInt]],
            [])))
      Option.none := by kernel_rfl

/-- (dynpos/allocate.moment).laterals$1 -/
theorem r58 (F : Fun) (v0 : Int) (v1 : Int) : funK E F 58 [AV.agg [PV.int IntKind.i64 v0, PV.int IntKind.i64 v1]] [] =
  Option.some ([RV.p (PV.int IntKind.i64 v1)], []) := by kernel_rfl

/-- dynpos/sector.Longitudinal -/
theorem r59 (F : Fun) (t0 : Int) (t1 : Int) (t2 : Int) (t3 : Int) (t4 : Int) (t5 : List (List PV)) (y : Int) : funK E F 59 [AV.agg
    [PV.int IntKind.i64 t0, PV.int IntKind.i64 t1, PV.int IntKind.i64 t2,
      PV.int IntKind.i64 t3, PV.int IntKind.i64 t4, PV.sl 2 t5],
  AV.int IntKind.i64 y] [] =
  bnd
    (F 64
      [AV.agg
          [PV.int IntKind.i64 t0, PV.int IntKind.i64 t1, PV.int IntKind.i64 t2,
            PV.int IntKind.i64 t3, PV.int IntKind.i64 t4, PV.sl 2 t5]]
      [])
    fun (r : Res) =>
    ctl (okR [RSh.one Sh.bool] r.fst && okB [] r.snd)
      (ctl (!(nth (RV.p PV.nilp) r.fst 0).toPV.toBool)
        (Option.some ([RV.p (PV.int IntKind.i64 0), RV.p (PV.int IntKind.i64 0)], []))
        (bnd
          (F 80 [AV.fn 84 [TV.ptr 0 0, TV.ptr 1 0]]
            [Blk.box
                [AV.int IntKind.i64 t0, AV.int IntKind.i64 t1, AV.int IntKind.i64 t2,
                  AV.int IntKind.i64 t3, AV.int IntKind.i64 t4, AV.sl 2 t5],
              Blk.box [AV.int IntKind.i64 y]])
          fun (r : Res) =>
          ctl
            (okR
                [RSh.one (Sh.int IntKind.i64), RSh.one (Sh.int IntKind.i64)] r.fst &&
              okB
                [Sum.inl
                    [Sh.int IntKind.i64, Sh.int IntKind.i64, Sh.int IntKind.i64,
                      Sh.int IntKind.i64, Sh.int IntKind.i64, Sh.sl 2],
                  Sum.inl [Sh.int IntKind.i64]]
                r.snd)
            (Option.some
              ([RV.p
                    (PV.int IntKind.i64 (nth (RV.p PV.nilp) r.fst 0).toPV.toInt),
                  RV.p
                    (PV.int IntKind.i64 (nth (RV.p PV.nilp) r.fst 1).toPV.toInt)],
                []))
            Option.none))
      Option.none := by kernel_rfl

/-- (dynpos/allocate.moment).surges$1 -/
theorem r60 (F : Fun) (v0 : Int) (v1 : Int) : funK E F 60 [AV.agg [PV.int IntKind.i64 v0, PV.int IntKind.i64 v1]] [] =
  Option.some ([RV.p (PV.int IntKind.i64 v0)], []) := by kernel_rfl

/-- dynpos/thruster.small -/
theorem r61 (F : Fun) (v0 : Int) (v1 : Int) : funK E F 61 [AV.agg [PV.int IntKind.i64 v0, PV.int IntKind.i64 v1]] [] =
  bnd
    (ctl (leB (maxI v1 v0) 5000)
      (Option.some (leB (-5000) (minI v1 v0))) (Option.some Bool.false))
    fun (v : Bool) => Option.some ([RV.p (PV.bool v)], []) := by kernel_rfl

/-- slices.ContainsFunc[[]dynpos/api.Thruster,dynpos/api.Thruster] -/
theorem r62a (F : Fun) (s : List (List PV)) : funK E F 62 [AV.sl 6 s, AV.fn 63 []] [] =
  bnd (F 85 [AV.sl 6 s, AV.fn 63 []] []) fun (r : Res) =>
    ctl
      (okR [RSh.one (Sh.int IntKind.i64)] r.fst && okB [] r.snd)
      (Option.some
        ([RV.p
              (PV.bool
                (leB 0 (nth (RV.p PV.nilp) r.fst 0).toPV.toInt))],
          []))
      Option.none := by kernel_rfl

/-- dynpos/thruster.Check$1 -/
theorem r63 (F : Fun) (t0 : Int) (t1 : Int) (t2 : Int) (t3 : Int) (t4 : Int) (t5 : List (List PV)) : funK E F 63 [AV.agg
    [PV.int IntKind.i64 t0, PV.int IntKind.i64 t1, PV.int IntKind.i64 t2,
      PV.int IntKind.i64 t3, PV.int IntKind.i64 t4, PV.sl 2 t5]] [] =
  bnd
    (F 64
      [AV.agg
          [PV.int IntKind.i64 t0, PV.int IntKind.i64 t1, PV.int IntKind.i64 t2,
            PV.int IntKind.i64 t3, PV.int IntKind.i64 t4, PV.sl 2 t5]]
      [])
    fun (r : Res) =>
    ctl (okR [RSh.one Sh.bool] r.fst && okB [] r.snd)
      (Option.some
        ([RV.p
              (PV.bool !(nth (RV.p PV.nilp) r.fst 0).toPV.toBool)],
          []))
      Option.none := by kernel_rfl

/-- dynpos/sector.Valid -/
theorem r64 (F : Fun) (t0 : Int) (t1 : Int) (t2 : Int) (t3 : Int) (t4 : Int) (t5 : List (List PV)) : funK E F 64 [AV.agg
    [PV.int IntKind.i64 t0, PV.int IntKind.i64 t1, PV.int IntKind.i64 t2,
      PV.int IntKind.i64 t3, PV.int IntKind.i64 t4, PV.sl 2 t5]] [] =
  bnd (F 86 [AV.int IntKind.i64 t0, AV.int IntKind.i64 1, AV.int IntKind.i64 3] [])
    fun (r : Res) =>
    ctl (okR [RSh.one Sh.bool] r.fst && okB [] r.snd)
      (bnd
        (ctl (nth (RV.p PV.nilp) r.fst 0).toPV.toBool
          (bnd
            (F 86 [AV.int IntKind.i64 t1, AV.int IntKind.i64 0, AV.int IntKind.i64 1] [])
            fun (r : Res) =>
            ctl (okR [RSh.one Sh.bool] r.fst && okB [] r.snd)
              (Option.some (nth (RV.p PV.nilp) r.fst 0).toPV.toBool) Option.none)
          (Option.some Bool.false))
        fun (v : Bool) =>
        bnd
          (ctl v
            (bnd
              (F 86 [AV.int IntKind.i64 t2, AV.int IntKind.i64 0, AV.int IntKind.i64 5000] [])
              fun (r : Res) =>
              ctl (okR [RSh.one Sh.bool] r.fst && okB [] r.snd)
                (Option.some (nth (RV.p PV.nilp) r.fst 0).toPV.toBool) Option.none)
            (Option.some Bool.false))
          fun (v : Bool) =>
          bnd
            (ctl v
              (bnd
                (F 86 [AV.int IntKind.i64 t3, AV.int IntKind.i64 0, AV.int IntKind.i64 5000] [])
                fun (r : Res) =>
                ctl (okR [RSh.one Sh.bool] r.fst && okB [] r.snd)
                  (Option.some (nth (RV.p PV.nilp) r.fst 0).toPV.toBool) Option.none)
              (Option.some Bool.false))
            fun (v : Bool) =>
            bnd
              (ctl v
                (bnd
                  (F 86 [AV.int IntKind.i64 t4, AV.int IntKind.i64 1, AV.int IntKind.i64 100] [])
                  fun (r : Res) =>
                  ctl (okR [RSh.one Sh.bool] r.fst && okB [] r.snd)
                    (Option.some (nth (RV.p PV.nilp) r.fst 0).toPV.toBool) Option.none)
                (Option.some Bool.false))
              fun (v : Bool) =>
              bnd (ctl v (Option.some (leB (↑t5.length : Int) 4)) (Option.some Bool.false)) fun (v : Bool) =>
                ctl v
                  (bnd (F 87 [AV.sl 2 t5, AV.fn 88 []] []) fun (r : Res) =>
                    ctl
                      (okR [RSh.one Sh.bool] r.fst && okB [] r.snd)
                      (Option.some
                        ([RV.p
                              (PV.bool !(nth (RV.p PV.nilp) r.fst 0).toPV.toBool)],
                          []))
                      Option.none)
                  (Option.some ([RV.p (PV.bool Bool.false)], [])))
      Option.none := by kernel_rfl

/-- slices.ContainsFunc[[]int,int] -/
theorem r65a (F : Fun) (s : List (List PV)) (k0_0 : Int) (k1_0 : Int) : funK E F 65 [AV.sl 1 s, AV.fn 66 [TV.ptr 0 0, TV.ptr 1 0]] [Blk.box [AV.int IntKind.i64 k0_0], Blk.box [AV.int IntKind.i64 k1_0]] =
  bnd
    (F 90 [AV.sl 1 s, AV.fn 66 [TV.ptr 0 0, TV.ptr 1 0]]
      [Blk.box [AV.int IntKind.i64 k0_0], Blk.box [AV.int IntKind.i64 k1_0]])
    fun (r : Res) =>
    ctl
      (okR [RSh.one (Sh.int IntKind.i64)] r.fst &&
        okB [Sum.inl [Sh.int IntKind.i64], Sum.inl [Sh.int IntKind.i64]] r.snd)
      (Option.some
        ([RV.p
              (PV.bool
                (leB 0 (nth (RV.p PV.nilp) r.fst 0).toPV.toInt))],
          [Blk.box
              [AV.int IntKind.i64
                  (nth PV.nilp
                      (List.map AV.toPV (nth (Blk.box []) r.snd 0).toCs) 0).toInt],
            Blk.box
              [AV.int IntKind.i64
                  (nth PV.nilp
                      (List.map AV.toPV (nth (Blk.box []) r.snd 1).toCs) 0).toInt]]))
      Option.none := by kernel_rfl

/-- dynpos/allocate.within$1 -/
theorem r66 (F : Fun) (n : Int) (k0_0 : Int) (k1_0 : Int) : funK E F 66 [AV.int IntKind.i64 n, AV.t (TV.ptr 0 0), AV.t (TV.ptr 1 0)] [Blk.box [AV.int IntKind.i64 k0_0], Blk.box [AV.int IntKind.i64 k1_0]] =
  bnd (ctl (!ltB n k0_0) (Option.some (ltB k1_0 n)) (Option.some Bool.true)) fun (v : Bool) =>
    Option.some
      ([RV.p (PV.bool v)],
        [Blk.box [AV.int IntKind.i64 k0_0], Blk.box [AV.int IntKind.i64 k1_0]]) := by kernel_rfl

/-- dynpos/arith.divide -/
theorem r67a (F : Fun) (n : Int) (d : Int) : funK E F 67 [AV.int IntKind.i64 n, AV.int IntKind.i64 d, AV.fn 68 []] [] =
  bnd
    (ctl (!ltB n (-1000000000000000000)) (Option.some (ltB 1000000000000000000 n)) (Option.some Bool.true)) fun (v : Bool) =>
    bnd (ctl (!v) (Option.some (ltB d 1)) (Option.some Bool.true)) fun (v : Bool) =>
      bnd (ctl (!v) (Option.some (ltB 1000000000 d)) (Option.some Bool.true)) fun (v : Bool) =>
        ctl v
          (Option.some ([RV.p (PV.int IntKind.i64 0), RV.p (PV.int IntKind.i64 1)], []))
          (bnd (F 68 [AV.int IntKind.i64 n, AV.int IntKind.i64 d] []) fun (r : Res) =>
            ctl
              (okR [RSh.one (Sh.int IntKind.i64)] r.fst && okB [] r.snd)
              (Option.some
                ([RV.p
                      (PV.int IntKind.i64 (nth (RV.p PV.nilp) r.fst 0).toPV.toInt),
                    RV.p (PV.int IntKind.i64 0)],
                  []))
              Option.none) := by kernel_rfl

/-- dynpos/arith.divide -/
theorem r67b (F : Fun) (n : Int) (d : Int) : funK E F 67 [AV.int IntKind.i64 n, AV.int IntKind.i64 d, AV.fn 69 []] [] =
  bnd
    (ctl (!ltB n (-1000000000000000000)) (Option.some (ltB 1000000000000000000 n)) (Option.some Bool.true)) fun (v : Bool) =>
    bnd (ctl (!v) (Option.some (ltB d 1)) (Option.some Bool.true)) fun (v : Bool) =>
      bnd (ctl (!v) (Option.some (ltB 1000000000 d)) (Option.some Bool.true)) fun (v : Bool) =>
        ctl v
          (Option.some ([RV.p (PV.int IntKind.i64 0), RV.p (PV.int IntKind.i64 1)], []))
          (bnd (F 69 [AV.int IntKind.i64 n, AV.int IntKind.i64 d] []) fun (r : Res) =>
            ctl
              (okR [RSh.one (Sh.int IntKind.i64)] r.fst && okB [] r.snd)
              (Option.some
                ([RV.p
                      (PV.int IntKind.i64 (nth (RV.p PV.nilp) r.fst 0).toPV.toInt),
                    RV.p (PV.int IntKind.i64 0)],
                  []))
              Option.none) := by kernel_rfl

/-- dynpos/arith.Half$1 -/
theorem r68 (F : Fun) (n : Int) (d : Int) : funK E F 68 [AV.int IntKind.i64 n, AV.int IntKind.i64 d] [] =
  bnd
    (F 69 [AV.int IntKind.i64 (IntKind.i64.wrap (IntKind.i64.wrap (2 * n) + d)), AV.int IntKind.i64 (IntKind.i64.wrap (2 * d))] [])
    fun (r : Res) =>
    ctl
      (okR [RSh.one (Sh.int IntKind.i64)] r.fst && okB [] r.snd)
      (Option.some
        ([RV.p
              (PV.int IntKind.i64 (nth (RV.p PV.nilp) r.fst 0).toPV.toInt)],
          []))
      Option.none := by kernel_rfl

/-- dynpos/arith.floor -/
theorem r69 (F : Fun) (n : Int) (d : Int) : funK E F 69 [AV.int IntKind.i64 n, AV.int IntKind.i64 d] [] =
  ctl (Bool.true && neB d 0)
    (ctl (Bool.true && neB d 0)
      (ctl (ltB (n.tmod d) 0)
        (Option.some ([RV.p (PV.int IntKind.i64 (IntKind.i64.wrap (IntKind.i64.wrap (n.tdiv d) - 1)))], []))
        (Option.some ([RV.p (PV.int IntKind.i64 (IntKind.i64.wrap (n.tdiv d)))], [])))
      Option.none)
    Option.none := by kernel_rfl

/-- dynpos/share.ranged, the loop of block 0 -/
theorem r70_0 (F : Fun) (x1 : List (List PV)) (x17 : List (List PV)) (x18 : Int) (x19 : Int) : lp E F 70 0 [] 0
  { vals := [AV.sl 1 x1, AV.sl 3 x17, AV.int IntKind.i64 x18, AV.int IntKind.i64 x19],
    blks := [] } =
  ctl (ltB x19 x18)
    (getE x17 x19 fun (c : List PV) =>
      ctl
        (okCs [Sh.int IntKind.i64, Sh.int IntKind.i64, Sh.int IntKind.i64] c)
        (getE x1 x19 fun (c_1 : List PV) =>
          ctl (okCs [Sh.int IntKind.i64] c_1)
            (bnd
              (ctl
                (!ltB (nth PV.nilp c_1 0).toInt
                    (nth PV.nilp c 0).toInt)
                (getE x1 x19 fun (c_2 : List PV) =>
                  ctl (okCs [Sh.int IntKind.i64] c_2)
                    (Option.some
                      (ltB (nth PV.nilp c 1).toInt
                        (nth PV.nilp c_2 0).toInt))
                    Option.none)
                (Option.some Bool.true))
              fun (v : Bool) =>
              ctl v (Option.some (Ex.ret, { vals := [AV.bool Bool.false], blks := [] }))
                (lp E F 70 0 [] 0
                  {
                    vals :=
                      [AV.sl 1 x1, AV.sl 3 x17, AV.int IntKind.i64 x18,
                        AV.int IntKind.i64 (IntKind.i64.wrap (x19 + 1))],
                    blks := [] }))
            Option.none)
        Option.none)
    (Option.some (Ex.exit 0, { vals := [], blks := [] })) := (lp_unfold ..).trans (by kernel_rfl)

/-- dynpos/share.ranged -/
theorem r70 (F : Fun) (l : List (List PV)) (x : List (List PV)) : funK E F 70 [AV.sl 3 l, AV.sl 1 x] [] =
  bnd (F 79 [AV.sl 3 l] []) fun (r : Res) =>
    ctl
      (okR [RSh.one (Sh.int IntKind.i64)] r.fst && okB [] r.snd)
      (bnd
        (ctl (!(nth (RV.p PV.nilp) r.fst 0).toPV.toInt != 0)
          (Option.some ((↑x.length : Int) != (↑l.length : Int))) (Option.some Bool.true))
        fun (v : Bool) =>
        ctl v (Option.some ([RV.p (PV.bool Bool.false)], []))
          (bnd
            (lp E F 70 0 [] 0
              {
                vals :=
                  [AV.sl 1 x, AV.sl 3 l, AV.int IntKind.i64 (↑l.length : Int),
                    AV.int IntKind.i64 0],
                blks := [] })
            fun (p : Ex × Pack) =>
            ctl (p.fst.eqb (Ex.exit 0)) (Option.some ([RV.p (PV.bool Bool.true)], []))
              (ctl (p.fst.eqb Ex.ret)
                (ctl (okPack { slots := [(4, Sum.inl Sh.bool)], blks := [] } p.snd)
                  (Option.some ([RV.p (PV.bool (nth AV.undef p.snd.vals 0).toPV.toBool)], []))
                  Option.none)
                Option.none)))
      Option.none := by kernel_rfl

/-- dynpos/share.Price, the loop of block 0 -/
theorem r71_0 (F : Fun) (x1 : List (List PV)) (low4 : Int) (high5 : Int) (less7 : Bool) (more8 : Bool) (x17 : List (List PV)) (x18 : Int) (x19 : Int) : lp E F 71 0 [] 0
  {
    vals :=
      [AV.sl 1 x1, AV.int IntKind.i64 low4, AV.int IntKind.i64 high5, AV.bool less7,
        AV.bool more8, AV.sl 3 x17, AV.int IntKind.i64 x18, AV.int IntKind.i64 x19],
    blks := [] } =
  ctl (ltB x19 x18)
    (getE x17 x19 fun (c : List PV) =>
      ctl
        (okCs [Sh.int IntKind.i64, Sh.int IntKind.i64, Sh.int IntKind.i64] c)
        (getE x1 x19 fun (c_1 : List PV) =>
          ctl (okCs [Sh.int IntKind.i64] c_1)
            (bnd
              (F 91
                [AV.agg
                    [PV.int IntKind.i64 (nth PV.nilp c 0).toInt,
                      PV.int IntKind.i64 (nth PV.nilp c 1).toInt,
                      PV.int IntKind.i64 (nth PV.nilp c 2).toInt],
                  AV.int IntKind.i64 (nth PV.nilp c_1 0).toInt]
                [])
              fun (r : Res) =>
              ctl
                (okR [RSh.one (Sh.int IntKind.i64)] r.fst && okB [] r.snd)
                (getE x1 x19 fun (c_2 : List PV) =>
                  ctl (okCs [Sh.int IntKind.i64] c_2)
                    (bnd
                      (ctl
                        (ltB (nth PV.nilp c 0).toInt
                          (nth PV.nilp c_2 0).toInt)
                        (ctl (!!less7)
                          (Option.some (ltB low4 (nth (RV.p PV.nilp) r.fst 0).toPV.toInt))
                          (Option.some Bool.true))
                        (Option.some Bool.false))
                      fun (v : Bool) =>
                      ctl v
                        (getE x1 x19 fun (c_3 : List PV) =>
                          ctl (okCs [Sh.int IntKind.i64] c_3)
                            (bnd
                              (F 55
                                [AV.agg
                                    [PV.int IntKind.i64 (nth PV.nilp c 0).toInt,
                                      PV.int IntKind.i64 (nth PV.nilp c 1).toInt,
                                      PV.int IntKind.i64 (nth PV.nilp c 2).toInt],
                                  AV.int IntKind.i64 (nth PV.nilp c_3 0).toInt]
                                [])
                              fun (r_1 : Res) =>
                              ctl
                                (okR [RSh.one (Sh.int IntKind.i64)] r_1.fst && okB [] r_1.snd)
                                (getE x1 x19 fun (c_4 : List PV) =>
                                  ctl (okCs [Sh.int IntKind.i64] c_4)
                                    (bnd
                                      (ctl
                                        (ltB (nth PV.nilp c_4 0).toInt
                                          (nth PV.nilp c 1).toInt)
                                        (ctl (!!more8)
                                          (Option.some
                                            (ltB (nth (RV.p PV.nilp) r_1.fst 0).toPV.toInt high5))
                                          (Option.some Bool.true))
                                        (Option.some Bool.false))
                                      fun (v : Bool) =>
                                      ctl v
                                        (lp E F 71 0 [] 0
                                          {
                                            vals :=
                                              [AV.sl 1 x1,
                                                AV.int IntKind.i64
                                                  (nth (RV.p PV.nilp) r.fst 0).toPV.toInt,
                                                AV.int IntKind.i64
                                                  (nth (RV.p PV.nilp) r_1.fst 0).toPV.toInt,
                                                AV.bool Bool.true, AV.bool Bool.true, AV.sl 3 x17,
                                                AV.int IntKind.i64 x18, AV.int IntKind.i64 (IntKind.i64.wrap (x19 + 1))],
                                            blks := [] })
                                        (lp E F 71 0 [] 0
                                          {
                                            vals :=
                                              [AV.sl 1 x1,
                                                AV.int IntKind.i64
                                                  (nth (RV.p PV.nilp) r.fst 0).toPV.toInt,
                                                AV.int IntKind.i64 high5, AV.bool Bool.true, AV.bool more8,
                                                AV.sl 3 x17, AV.int IntKind.i64 x18,
                                                AV.int IntKind.i64 (IntKind.i64.wrap (x19 + 1))],
                                            blks := [] }))
                                    Option.none)
                                Option.none)
                            Option.none)
                        (getE x1 x19 fun (c_3 : List PV) =>
                          ctl (okCs [Sh.int IntKind.i64] c_3)
                            (bnd
                              (F 55
                                [AV.agg
                                    [PV.int IntKind.i64 (nth PV.nilp c 0).toInt,
                                      PV.int IntKind.i64 (nth PV.nilp c 1).toInt,
                                      PV.int IntKind.i64 (nth PV.nilp c 2).toInt],
                                  AV.int IntKind.i64 (nth PV.nilp c_3 0).toInt]
                                [])
                              fun (r : Res) =>
                              ctl
                                (okR [RSh.one (Sh.int IntKind.i64)] r.fst && okB [] r.snd)
                                (getE x1 x19 fun (c_4 : List PV) =>
                                  ctl (okCs [Sh.int IntKind.i64] c_4)
                                    (bnd
                                      (ctl
                                        (ltB (nth PV.nilp c_4 0).toInt
                                          (nth PV.nilp c 1).toInt)
                                        (ctl (!!more8)
                                          (Option.some
                                            (ltB (nth (RV.p PV.nilp) r.fst 0).toPV.toInt high5))
                                          (Option.some Bool.true))
                                        (Option.some Bool.false))
                                      fun (v : Bool) =>
                                      ctl v
                                        (lp E F 71 0 [] 0
                                          {
                                            vals :=
                                              [AV.sl 1 x1, AV.int IntKind.i64 low4,
                                                AV.int IntKind.i64
                                                  (nth (RV.p PV.nilp) r.fst 0).toPV.toInt,
                                                AV.bool less7, AV.bool Bool.true, AV.sl 3 x17,
                                                AV.int IntKind.i64 x18, AV.int IntKind.i64 (IntKind.i64.wrap (x19 + 1))],
                                            blks := [] })
                                        (lp E F 71 0 [] 0
                                          {
                                            vals :=
                                              [AV.sl 1 x1, AV.int IntKind.i64 low4, AV.int IntKind.i64 high5,
                                                AV.bool less7, AV.bool more8, AV.sl 3 x17,
                                                AV.int IntKind.i64 x18, AV.int IntKind.i64 (IntKind.i64.wrap (x19 + 1))],
                                            blks := [] }))
                                    Option.none)
                                Option.none)
                            Option.none))
                    Option.none)
                Option.none)
            Option.none)
        Option.none)
    (Option.some
      (Ex.exit 0,
        {
          vals :=
            [AV.int IntKind.i64 low4, AV.int IntKind.i64 high5, AV.bool less7,
              AV.bool more8],
          blks := [] })) := (lp_unfold ..).trans (by kernel_rfl)

/-- dynpos/share.Price -/
theorem r71 (F : Fun) (l : List (List PV)) (x : List (List PV)) : funK E F 71 [AV.sl 3 l, AV.sl 1 x] [] =
  bnd (F 70 [AV.sl 3 l, AV.sl 1 x] []) fun (r : Res) =>
    ctl (okR [RSh.one Sh.bool] r.fst && okB [] r.snd)
      (ctl (!(nth (RV.p PV.nilp) r.fst 0).toPV.toBool)
        (Option.some
          ([RV.p (PV.int IntKind.i64 0), RV.p (PV.int IntKind.i64 0),
              RV.p (PV.bool Bool.false)],
            []))
        (bnd
          (lp E F 71 0 [] 0
            {
              vals :=
                [AV.sl 1 x, AV.int IntKind.i64 0, AV.int IntKind.i64 0, AV.bool Bool.false,
                  AV.bool Bool.false, AV.sl 3 l, AV.int IntKind.i64 (↑l.length : Int),
                  AV.int IntKind.i64 0],
              blks := [] })
          fun (p : Ex × Pack) =>
          ctl (p.fst.eqb (Ex.exit 0))
            (ctl
              (okPack
                {
                  slots :=
                    [(4, Sum.inl (Sh.int IntKind.i64)), (5, Sum.inl (Sh.int IntKind.i64)), (7, Sum.inl Sh.bool),
                      (8, Sum.inl Sh.bool)],
                  blks := [] }
                p.snd)
              (bnd
                (ctl (!!(nth AV.undef p.snd.vals 2).toPV.toBool)
                  (Option.some !(nth AV.undef p.snd.vals 3).toPV.toBool) (Option.some Bool.true))
                fun (v : Bool) =>
                ctl v
                  (Option.some
                    ([RV.p (PV.int IntKind.i64 0), RV.p (PV.int IntKind.i64 0),
                        RV.p (PV.bool Bool.false)],
                      []))
                  (Option.some
                    ([RV.p (PV.int IntKind.i64 (nth AV.undef p.snd.vals 0).toPV.toInt),
                        RV.p (PV.int IntKind.i64 (nth AV.undef p.snd.vals 1).toPV.toInt),
                        RV.p (PV.bool Bool.true)],
                      [])))
              Option.none)
            Option.none))
      Option.none := by kernel_rfl

/-- dynpos/dynposref02.Valid -/
theorem r72 (F : Fun) (x0 : Int) (x1 : Int) : funK E F 72 [AV.agg [PV.int IntKind.i64 x0, PV.int IntKind.i64 x1]] [] =
  bnd (ctl (leB 0 x0) (Option.some (ltB x0 3600)) (Option.some Bool.false)) fun (v : Bool) =>
    bnd (ctl v (Option.some (leB 0 x1)) (Option.some Bool.false)) fun (v : Bool) =>
      bnd (ctl v (Option.some (ltB x1 3600)) (Option.some Bool.false)) fun (v : Bool) =>
        bnd
          (ctl v
            (bnd (F 92 [AV.agg [PV.int IntKind.i64 x0, PV.int IntKind.i64 x1]] [])
              fun (r : Res) =>
              ctl
                (okR [RSh.one (Sh.int IntKind.i64)] r.fst && okB [] r.snd)
                (Option.some (leB (nth (RV.p PV.nilp) r.fst 0).toPV.toInt 1799)) Option.none)
            (Option.some Bool.false))
          fun (v : Bool) => Option.some ([RV.p (PV.bool v)], []) := by kernel_rfl

/-- dynpos/dynposref02.small -/
theorem r73 (F : Fun) (x : Int) (y : Int) : funK E F 73 [AV.int IntKind.i64 x, AV.int IntKind.i64 y] [] =
  bnd (ctl (leB (-1000000000) x) (Option.some (leB x 1000000000)) (Option.some Bool.false))
    fun (v : Bool) =>
    bnd (ctl v (Option.some (leB (-1000000000) y)) (Option.some Bool.false)) fun (v : Bool) =>
      bnd (ctl v (Option.some (leB y 1000000000)) (Option.some Bool.false)) fun (v : Bool) =>
        Option.some ([RV.p (PV.bool v)], []) := by kernel_rfl

/-- dynpos/dynposref02.Cross -/
theorem r74 (F : Fun) (a : Int) (x : Int) (y : Int) : funK E F 74 [AV.int IntKind.i64 a, AV.int IntKind.i64 x, AV.int IntKind.i64 y] [] =
  bnd (F 73 [AV.int IntKind.i64 x, AV.int IntKind.i64 y] []) fun (r : Res) =>
    ctl (okR [RSh.one Sh.bool] r.fst && okB [] r.snd)
      (ctl (!(nth (RV.p PV.nilp) r.fst 0).toPV.toBool)
        (Option.some ([RV.p (PV.int IntKind.i64 0)], []))
        (bnd (F 75 [AV.int IntKind.i64 a] []) fun (r : Res) =>
          ctl
            (okR [RSh.one (Sh.int IntKind.i64)] r.fst && okB [] r.snd)
            (bnd (F 76 [AV.int IntKind.i64 a] []) fun (r_1 : Res) =>
              ctl
                (okR [RSh.one (Sh.int IntKind.i64)] r_1.fst && okB [] r_1.snd)
                (Option.some
                  ([RV.p
                        (PV.int IntKind.i64
                          (IntKind.i64.wrap
                            (IntKind.i64.wrap ((nth (RV.p PV.nilp) r.fst 0).toPV.toInt * y) -
                              IntKind.i64.wrap ((nth (RV.p PV.nilp) r_1.fst 0).toPV.toInt * x))))],
                    []))
                Option.none)
            Option.none))
      Option.none := by kernel_rfl

/-- dynpos/dynposref02.Cos -/
theorem r75 (F : Fun) (a : Int) : funK E F 75 [AV.int IntKind.i64 a] [] =
  bnd (F 93 [AV.int IntKind.i64 a] []) fun (r : Res) =>
    ctl
      (okR [RSh.one (Sh.int IntKind.i64)] r.fst && okB [] r.snd)
      (bnd
        (F 76
          [AV.int IntKind.i64
              (IntKind.i64.wrap ((nth (RV.p PV.nilp) r.fst 0).toPV.toInt + 900))]
          [])
        fun (r : Res) =>
        ctl
          (okR [RSh.one (Sh.int IntKind.i64)] r.fst && okB [] r.snd)
          (Option.some
            ([RV.p
                  (PV.int IntKind.i64 (nth (RV.p PV.nilp) r.fst 0).toPV.toInt)],
              []))
          Option.none)
      Option.none := by kernel_rfl

/-- dynpos/dynposref02.Sin -/
theorem r76 (F : Fun) (a : Int) : funK E F 76 [AV.int IntKind.i64 a] [] =
  bnd (F 93 [AV.int IntKind.i64 a] []) fun (r : Res) =>
    ctl
      (okR [RSh.one (Sh.int IntKind.i64)] r.fst && okB [] r.snd)
      (ctl (ltB 1800 (nth (RV.p PV.nilp) r.fst 0).toPV.toInt)
        (bnd
          (F 76
            [AV.int IntKind.i64
                (IntKind.i64.wrap ((nth (RV.p PV.nilp) r.fst 0).toPV.toInt - 1800))]
            [])
          fun (r : Res) =>
          ctl
            (okR [RSh.one (Sh.int IntKind.i64)] r.fst && okB [] r.snd)
            (Option.some
              ([RV.p
                    (PV.int IntKind.i64
                      (IntKind.i64.wrap (0 - (nth (RV.p PV.nilp) r.fst 0).toPV.toInt)))],
                []))
            Option.none)
        (bnd
          (F 94
            [AV.int IntKind.i64
                (IntKind.i64.wrap
                  (40000 *
                    IntKind.i64.wrap
                      ((nth (RV.p PV.nilp) r.fst 0).toPV.toInt *
                        IntKind.i64.wrap (1800 - (nth (RV.p PV.nilp) r.fst 0).toPV.toInt)))),
              AV.int IntKind.i64
                (IntKind.i64.wrap
                  (4050000 -
                    IntKind.i64.wrap
                      ((nth (RV.p PV.nilp) r.fst 0).toPV.toInt *
                        IntKind.i64.wrap (1800 - (nth (RV.p PV.nilp) r.fst 0).toPV.toInt))))]
            [])
          fun (r : Res) =>
          ctl
            (okR
                [RSh.one (Sh.int IntKind.i64), RSh.one (Sh.int IntKind.i64)] r.fst &&
              okB [] r.snd)
            (Option.some
              ([RV.p
                    (PV.int IntKind.i64 (nth (RV.p PV.nilp) r.fst 0).toPV.toInt)],
                []))
            Option.none))
      Option.none := by kernel_rfl

/-- dynpos/thruster.With -/
theorem r77 (F : Fun) (t0 : Int) (t1 : Int) (t2 : Int) (t3 : Int) (t4 : Int) (t5 : List (List PV)) (most : Int) : funK E F 77 [AV.agg
    [PV.int IntKind.i64 t0, PV.int IntKind.i64 t1, PV.int IntKind.i64 t2,
      PV.int IntKind.i64 t3, PV.int IntKind.i64 t4, PV.sl 2 t5],
  AV.int IntKind.i64 most] [] =
  bnd (F 95 [AV.sl 2 t5] []) fun (r : Res) =>
    ctl (okR [RSh.one (Sh.sl 2)] r.fst && okB [] r.snd)
      (Option.some
        ([RV.agg
              [PV.int IntKind.i64 t0, PV.int IntKind.i64 t1,
                PV.int IntKind.i64 (minI (maxI 0 most) t2), PV.int IntKind.i64 t3,
                PV.int IntKind.i64 t4,
                PV.sl 2 (nth (RV.p PV.nilp) r.fst 0).toPV.toEs]],
          []))
      Option.none := by kernel_rfl

/-- (*dynpos/dynposmake.Src).Arc -/
theorem r78 (F : Fun) (s0 : List (List PV)) (s1 : Int) : funK E F 78 [AV.t (TV.ptr 0 0)] [Blk.box [AV.sl 1 s0, AV.int IntKind.i64 s1]] =
  bnd
    (F 49
      [AV.t (TV.ptr 0 0),
        AV.sl 1
          [[PV.int IntKind.i64 0], [PV.int IntKind.i64 450], [PV.int IntKind.i64 800],
            [PV.int IntKind.i64 1350], [PV.int IntKind.i64 1800], [PV.int IntKind.i64 2600],
            [PV.int IntKind.i64 3500]]]
      [Blk.box [AV.sl 1 s0, AV.int IntKind.i64 s1]])
    fun (r : Res) =>
    ctl
      (okR [RSh.one (Sh.int IntKind.i64)] r.fst &&
        okB [Sum.inl [Sh.sl 1, Sh.int IntKind.i64]] r.snd)
      (bnd
        (F 49
          [AV.t (TV.ptr 0 0),
            AV.sl 1
              [[PV.int IntKind.i64 0], [PV.int IntKind.i64 100], [PV.int IntKind.i64 300],
                [PV.int IntKind.i64 900], [PV.int IntKind.i64 1799]]]
          [Blk.box
              [AV.sl 1
                  (nth PV.nilp
                      (List.map AV.toPV (nth (Blk.box []) r.snd 0).toCs) 0).toEs,
                AV.int IntKind.i64
                  (nth PV.nilp
                      (List.map AV.toPV (nth (Blk.box []) r.snd 0).toCs) 1).toInt]])
        fun (r_1 : Res) =>
        ctl
          (okR [RSh.one (Sh.int IntKind.i64)] r_1.fst &&
            okB [Sum.inl [Sh.sl 1, Sh.int IntKind.i64]] r_1.snd)
          (Option.some
            ([RV.agg
                  [PV.int IntKind.i64 (nth (RV.p PV.nilp) r.fst 0).toPV.toInt,
                    PV.int IntKind.i64
                      ((IntKind.i64.wrap
                            ((nth (RV.p PV.nilp) r.fst 0).toPV.toInt +
                              (nth (RV.p PV.nilp) r_1.fst 0).toPV.toInt)).tmod
                        3600)]],
              [Blk.box
                  [AV.sl 1
                      (nth PV.nilp
                          (List.map AV.toPV (nth (Blk.box []) r_1.snd 0).toCs) 0).toEs,
                    AV.int IntKind.i64
                      (nth PV.nilp
                          (List.map AV.toPV (nth (Blk.box []) r_1.snd 0).toCs) 1).toInt]]))
          Option.none)
      Option.none := by kernel_rfl

/-- dynpos/share.Valid, the loop of block 0 -/
theorem r79_0 (F : Fun) (x8 : List (List PV)) (x9 : Int) (x10 : Int) : lp E F 79 0 [] 0
  { vals := [AV.sl 3 x8, AV.int IntKind.i64 x9, AV.int IntKind.i64 x10], blks := [] } =
  ctl (ltB x10 x9)
    (getE x8 x10 fun (c : List PV) =>
      ctl
        (okCs [Sh.int IntKind.i64, Sh.int IntKind.i64, Sh.int IntKind.i64] c)
        (bnd
          (ctl (!ltB (nth PV.nilp c 0).toInt (-5000))
            (Option.some
              (ltB (nth PV.nilp c 1).toInt
                (nth PV.nilp c 0).toInt))
            (Option.some Bool.true))
          fun (v : Bool) =>
          bnd
            (ctl (!v) (Option.some (ltB 5000 (nth PV.nilp c 1).toInt)) (Option.some Bool.true))
            fun (v : Bool) =>
            bnd
              (ctl (!v) (Option.some (ltB (nth PV.nilp c 2).toInt 1)) (Option.some Bool.true))
              fun (v : Bool) =>
              bnd
                (ctl (!v) (Option.some (ltB 100 (nth PV.nilp c 2).toInt)) (Option.some Bool.true))
                fun (v : Bool) =>
                ctl v (Option.some (Ex.ret, { vals := [AV.int IntKind.i64 1], blks := [] }))
                  (lp E F 79 0 [] 0
                    { vals := [AV.sl 3 x8, AV.int IntKind.i64 x9, AV.int IntKind.i64 (IntKind.i64.wrap (x10 + 1))],
                      blks := [] }))
        Option.none)
    (Option.some (Ex.exit 0, { vals := [], blks := [] })) := (lp_unfold ..).trans (by kernel_rfl)

/-- dynpos/share.Valid -/
theorem r79 (F : Fun) (l : List (List PV)) : funK E F 79 [AV.sl 3 l] [] =
  ctl (ltB 8 (↑l.length : Int)) (Option.some ([RV.p (PV.int IntKind.i64 2)], []))
    (bnd
      (lp E F 79 0 [] 0
        { vals := [AV.sl 3 l, AV.int IntKind.i64 (↑l.length : Int), AV.int IntKind.i64 0], blks := [] })
      fun (p : Ex × Pack) =>
      ctl (p.fst.eqb (Ex.exit 0)) (Option.some ([RV.p (PV.int IntKind.i64 0)], []))
        (ctl (p.fst.eqb Ex.ret)
          (ctl (okPack { slots := [(2, Sum.inl (Sh.int IntKind.i64))], blks := [] } p.snd)
            (Option.some
              ([RV.p (PV.int IntKind.i64 (nth AV.undef p.snd.vals 0).toPV.toInt)], []))
            Option.none)
          Option.none)) := by kernel_rfl

/-- dynpos/sector.run, the loop of block 0 -/
theorem r80_0a (F : Fun) (low2 : Int) (high3 : Int) (b0_0 : Int) (b0_1 : Int) (b0_2 : Int) (b0_3 : Int) (b0_4 : Int) (b0_5 : List (List PV)) : lp E F 80 1 [AV.fn 81 [TV.ptr 0 0]] 0
  { vals := [AV.int IntKind.i64 low2, AV.int IntKind.i64 high3],
    blks :=
      [Blk.box
          [AV.int IntKind.i64 b0_0, AV.int IntKind.i64 b0_1, AV.int IntKind.i64 b0_2,
            AV.int IntKind.i64 b0_3, AV.int IntKind.i64 b0_4, AV.sl 2 b0_5]] } =
  bnd
    (F 81 [AV.int IntKind.i64 (IntKind.i64.wrap (low2 - 1)), AV.t (TV.ptr 0 0)]
      [Blk.box
          [AV.int IntKind.i64 b0_0, AV.int IntKind.i64 b0_1, AV.int IntKind.i64 b0_2,
            AV.int IntKind.i64 b0_3, AV.int IntKind.i64 b0_4, AV.sl 2 b0_5]])
    fun (r : Res) =>
    ctl
      (okR [RSh.one Sh.bool] r.fst &&
        okB
          [Sum.inl
              [Sh.int IntKind.i64, Sh.int IntKind.i64, Sh.int IntKind.i64,
                Sh.int IntKind.i64, Sh.int IntKind.i64, Sh.sl 2]]
          r.snd)
      (ctl (nth (RV.p PV.nilp) r.fst 0).toPV.toBool
        (lp E F 80 1 [AV.fn 81 [TV.ptr 0 0]] 0
          { vals := [AV.int IntKind.i64 (IntKind.i64.wrap (low2 - 1)), AV.int IntKind.i64 high3],
            blks :=
              [Blk.box
                  [AV.int IntKind.i64
                      (nth PV.nilp
                          (List.map AV.toPV (nth (Blk.box []) r.snd 0).toCs) 0).toInt,
                    AV.int IntKind.i64
                      (nth PV.nilp
                          (List.map AV.toPV (nth (Blk.box []) r.snd 0).toCs) 1).toInt,
                    AV.int IntKind.i64
                      (nth PV.nilp
                          (List.map AV.toPV (nth (Blk.box []) r.snd 0).toCs) 2).toInt,
                    AV.int IntKind.i64
                      (nth PV.nilp
                          (List.map AV.toPV (nth (Blk.box []) r.snd 0).toCs) 3).toInt,
                    AV.int IntKind.i64
                      (nth PV.nilp
                          (List.map AV.toPV (nth (Blk.box []) r.snd 0).toCs) 4).toInt,
                    AV.sl 2
                      (nth PV.nilp
                          (List.map AV.toPV (nth (Blk.box []) r.snd 0).toCs) 5).toEs]] })
        (Option.some
          (Ex.exit 0,
            { vals := [AV.int IntKind.i64 low2, AV.int IntKind.i64 high3],
              blks :=
                [Blk.box
                    [AV.int IntKind.i64
                        (nth PV.nilp
                            (List.map AV.toPV (nth (Blk.box []) r.snd 0).toCs) 0).toInt,
                      AV.int IntKind.i64
                        (nth PV.nilp
                            (List.map AV.toPV (nth (Blk.box []) r.snd 0).toCs) 1).toInt,
                      AV.int IntKind.i64
                        (nth PV.nilp
                            (List.map AV.toPV (nth (Blk.box []) r.snd 0).toCs) 2).toInt,
                      AV.int IntKind.i64
                        (nth PV.nilp
                            (List.map AV.toPV (nth (Blk.box []) r.snd 0).toCs) 3).toInt,
                      AV.int IntKind.i64
                        (nth PV.nilp
                            (List.map AV.toPV (nth (Blk.box []) r.snd 0).toCs) 4).toInt,
                      AV.sl 2
                        (nth PV.nilp
                            (List.map AV.toPV (nth (Blk.box []) r.snd 0).toCs) 5).toEs]] })))
      Option.none := (lp_unfold ..).trans (by kernel_rfl)

/-- dynpos/sector.run, the loop of block 0 -/
theorem r80_0b (F : Fun) (low2 : Int) (high3 : Int) (b0_0 : Int) (b0_1 : Int) (b0_2 : Int) (b0_3 : Int) (b0_4 : Int) (b0_5 : List (List PV)) (b1_0 : Int) : lp E F 80 2 [AV.fn 84 [TV.ptr 0 0, TV.ptr 1 0]] 0
  { vals := [AV.int IntKind.i64 low2, AV.int IntKind.i64 high3],
    blks :=
      [Blk.box
          [AV.int IntKind.i64 b0_0, AV.int IntKind.i64 b0_1, AV.int IntKind.i64 b0_2,
            AV.int IntKind.i64 b0_3, AV.int IntKind.i64 b0_4, AV.sl 2 b0_5],
        Blk.box [AV.int IntKind.i64 b1_0]] } =
  bnd
    (F 84
      [AV.int IntKind.i64 (IntKind.i64.wrap (low2 - 1)), AV.t (TV.ptr 0 0),
        AV.t (TV.ptr 1 0)]
      [Blk.box
          [AV.int IntKind.i64 b0_0, AV.int IntKind.i64 b0_1, AV.int IntKind.i64 b0_2,
            AV.int IntKind.i64 b0_3, AV.int IntKind.i64 b0_4, AV.sl 2 b0_5],
        Blk.box [AV.int IntKind.i64 b1_0]])
    fun (r : Res) =>
    ctl
      (okR [RSh.one Sh.bool] r.fst &&
        okB
          [Sum.inl
              [Sh.int IntKind.i64, Sh.int IntKind.i64, Sh.int IntKind.i64,
                Sh.int IntKind.i64, Sh.int IntKind.i64, Sh.sl 2],
            Sum.inl [Sh.int IntKind.i64]]
          r.snd)
      (ctl (nth (RV.p PV.nilp) r.fst 0).toPV.toBool
        (lp E F 80 2 [AV.fn 84 [TV.ptr 0 0, TV.ptr 1 0]] 0
          { vals := [AV.int IntKind.i64 (IntKind.i64.wrap (low2 - 1)), AV.int IntKind.i64 high3],
            blks :=
              [Blk.box
                  [AV.int IntKind.i64
                      (nth PV.nilp
                          (List.map AV.toPV (nth (Blk.box []) r.snd 0).toCs) 0).toInt,
                    AV.int IntKind.i64
                      (nth PV.nilp
                          (List.map AV.toPV (nth (Blk.box []) r.snd 0).toCs) 1).toInt,
                    AV.int IntKind.i64
                      (nth PV.nilp
                          (List.map AV.toPV (nth (Blk.box []) r.snd 0).toCs) 2).toInt,
                    AV.int IntKind.i64
                      (nth PV.nilp
                          (List.map AV.toPV (nth (Blk.box []) r.snd 0).toCs) 3).toInt,
                    AV.int IntKind.i64
                      (nth PV.nilp
                          (List.map AV.toPV (nth (Blk.box []) r.snd 0).toCs) 4).toInt,
                    AV.sl 2
                      (nth PV.nilp
                          (List.map AV.toPV (nth (Blk.box []) r.snd 0).toCs) 5).toEs],
                Blk.box
                  [AV.int IntKind.i64
                      (nth PV.nilp
                          (List.map AV.toPV (nth (Blk.box []) r.snd 1).toCs) 0).toInt]] })
        (Option.some
          (Ex.exit 0,
            { vals := [AV.int IntKind.i64 low2, AV.int IntKind.i64 high3],
              blks :=
                [Blk.box
                    [AV.int IntKind.i64
                        (nth PV.nilp
                            (List.map AV.toPV (nth (Blk.box []) r.snd 0).toCs) 0).toInt,
                      AV.int IntKind.i64
                        (nth PV.nilp
                            (List.map AV.toPV (nth (Blk.box []) r.snd 0).toCs) 1).toInt,
                      AV.int IntKind.i64
                        (nth PV.nilp
                            (List.map AV.toPV (nth (Blk.box []) r.snd 0).toCs) 2).toInt,
                      AV.int IntKind.i64
                        (nth PV.nilp
                            (List.map AV.toPV (nth (Blk.box []) r.snd 0).toCs) 3).toInt,
                      AV.int IntKind.i64
                        (nth PV.nilp
                            (List.map AV.toPV (nth (Blk.box []) r.snd 0).toCs) 4).toInt,
                      AV.sl 2
                        (nth PV.nilp
                            (List.map AV.toPV (nth (Blk.box []) r.snd 0).toCs) 5).toEs],
                  Blk.box
                    [AV.int IntKind.i64
                        (nth PV.nilp
                            (List.map AV.toPV (nth (Blk.box []) r.snd 1).toCs) 0).toInt]] })))
      Option.none := (lp_unfold ..).trans (by kernel_rfl)

/-- dynpos/sector.run, the loop of block 2 -/
theorem r80_2a (F : Fun) (low2 : Int) (high3 : Int) (b0_0 : Int) (b0_1 : Int) (b0_2 : Int) (b0_3 : Int) (b0_4 : Int) (b0_5 : List (List PV)) : lp E F 80 1 [AV.fn 81 [TV.ptr 0 0]] 2
  { vals := [AV.int IntKind.i64 low2, AV.int IntKind.i64 high3],
    blks :=
      [Blk.box
          [AV.int IntKind.i64 b0_0, AV.int IntKind.i64 b0_1, AV.int IntKind.i64 b0_2,
            AV.int IntKind.i64 b0_3, AV.int IntKind.i64 b0_4, AV.sl 2 b0_5]] } =
  bnd
    (F 81 [AV.int IntKind.i64 (IntKind.i64.wrap (high3 + 1)), AV.t (TV.ptr 0 0)]
      [Blk.box
          [AV.int IntKind.i64 b0_0, AV.int IntKind.i64 b0_1, AV.int IntKind.i64 b0_2,
            AV.int IntKind.i64 b0_3, AV.int IntKind.i64 b0_4, AV.sl 2 b0_5]])
    fun (r : Res) =>
    ctl
      (okR [RSh.one Sh.bool] r.fst &&
        okB
          [Sum.inl
              [Sh.int IntKind.i64, Sh.int IntKind.i64, Sh.int IntKind.i64,
                Sh.int IntKind.i64, Sh.int IntKind.i64, Sh.sl 2]]
          r.snd)
      (ctl (nth (RV.p PV.nilp) r.fst 0).toPV.toBool
        (lp E F 80 1 [AV.fn 81 [TV.ptr 0 0]] 2
          { vals := [AV.int IntKind.i64 low2, AV.int IntKind.i64 (IntKind.i64.wrap (high3 + 1))],
            blks :=
              [Blk.box
                  [AV.int IntKind.i64
                      (nth PV.nilp
                          (List.map AV.toPV (nth (Blk.box []) r.snd 0).toCs) 0).toInt,
                    AV.int IntKind.i64
                      (nth PV.nilp
                          (List.map AV.toPV (nth (Blk.box []) r.snd 0).toCs) 1).toInt,
                    AV.int IntKind.i64
                      (nth PV.nilp
                          (List.map AV.toPV (nth (Blk.box []) r.snd 0).toCs) 2).toInt,
                    AV.int IntKind.i64
                      (nth PV.nilp
                          (List.map AV.toPV (nth (Blk.box []) r.snd 0).toCs) 3).toInt,
                    AV.int IntKind.i64
                      (nth PV.nilp
                          (List.map AV.toPV (nth (Blk.box []) r.snd 0).toCs) 4).toInt,
                    AV.sl 2
                      (nth PV.nilp
                          (List.map AV.toPV (nth (Blk.box []) r.snd 0).toCs) 5).toEs]] })
        (Option.some
          (Ex.exit 2,
            { vals := [AV.int IntKind.i64 low2, AV.int IntKind.i64 high3],
              blks :=
                [Blk.box
                    [AV.int IntKind.i64
                        (nth PV.nilp
                            (List.map AV.toPV (nth (Blk.box []) r.snd 0).toCs) 0).toInt,
                      AV.int IntKind.i64
                        (nth PV.nilp
                            (List.map AV.toPV (nth (Blk.box []) r.snd 0).toCs) 1).toInt,
                      AV.int IntKind.i64
                        (nth PV.nilp
                            (List.map AV.toPV (nth (Blk.box []) r.snd 0).toCs) 2).toInt,
                      AV.int IntKind.i64
                        (nth PV.nilp
                            (List.map AV.toPV (nth (Blk.box []) r.snd 0).toCs) 3).toInt,
                      AV.int IntKind.i64
                        (nth PV.nilp
                            (List.map AV.toPV (nth (Blk.box []) r.snd 0).toCs) 4).toInt,
                      AV.sl 2
                        (nth PV.nilp
                            (List.map AV.toPV (nth (Blk.box []) r.snd 0).toCs) 5).toEs]] })))
      Option.none := (lp_unfold ..).trans (by kernel_rfl)

/-- dynpos/sector.run, the loop of block 2 -/
theorem r80_2b (F : Fun) (low2 : Int) (high3 : Int) (b0_0 : Int) (b0_1 : Int) (b0_2 : Int) (b0_3 : Int) (b0_4 : Int) (b0_5 : List (List PV)) (b1_0 : Int) : lp E F 80 2 [AV.fn 84 [TV.ptr 0 0, TV.ptr 1 0]] 2
  { vals := [AV.int IntKind.i64 low2, AV.int IntKind.i64 high3],
    blks :=
      [Blk.box
          [AV.int IntKind.i64 b0_0, AV.int IntKind.i64 b0_1, AV.int IntKind.i64 b0_2,
            AV.int IntKind.i64 b0_3, AV.int IntKind.i64 b0_4, AV.sl 2 b0_5],
        Blk.box [AV.int IntKind.i64 b1_0]] } =
  bnd
    (F 84
      [AV.int IntKind.i64 (IntKind.i64.wrap (high3 + 1)), AV.t (TV.ptr 0 0),
        AV.t (TV.ptr 1 0)]
      [Blk.box
          [AV.int IntKind.i64 b0_0, AV.int IntKind.i64 b0_1, AV.int IntKind.i64 b0_2,
            AV.int IntKind.i64 b0_3, AV.int IntKind.i64 b0_4, AV.sl 2 b0_5],
        Blk.box [AV.int IntKind.i64 b1_0]])
    fun (r : Res) =>
    ctl
      (okR [RSh.one Sh.bool] r.fst &&
        okB
          [Sum.inl
              [Sh.int IntKind.i64, Sh.int IntKind.i64, Sh.int IntKind.i64,
                Sh.int IntKind.i64, Sh.int IntKind.i64, Sh.sl 2],
            Sum.inl [Sh.int IntKind.i64]]
          r.snd)
      (ctl (nth (RV.p PV.nilp) r.fst 0).toPV.toBool
        (lp E F 80 2 [AV.fn 84 [TV.ptr 0 0, TV.ptr 1 0]] 2
          { vals := [AV.int IntKind.i64 low2, AV.int IntKind.i64 (IntKind.i64.wrap (high3 + 1))],
            blks :=
              [Blk.box
                  [AV.int IntKind.i64
                      (nth PV.nilp
                          (List.map AV.toPV (nth (Blk.box []) r.snd 0).toCs) 0).toInt,
                    AV.int IntKind.i64
                      (nth PV.nilp
                          (List.map AV.toPV (nth (Blk.box []) r.snd 0).toCs) 1).toInt,
                    AV.int IntKind.i64
                      (nth PV.nilp
                          (List.map AV.toPV (nth (Blk.box []) r.snd 0).toCs) 2).toInt,
                    AV.int IntKind.i64
                      (nth PV.nilp
                          (List.map AV.toPV (nth (Blk.box []) r.snd 0).toCs) 3).toInt,
                    AV.int IntKind.i64
                      (nth PV.nilp
                          (List.map AV.toPV (nth (Blk.box []) r.snd 0).toCs) 4).toInt,
                    AV.sl 2
                      (nth PV.nilp
                          (List.map AV.toPV (nth (Blk.box []) r.snd 0).toCs) 5).toEs],
                Blk.box
                  [AV.int IntKind.i64
                      (nth PV.nilp
                          (List.map AV.toPV (nth (Blk.box []) r.snd 1).toCs) 0).toInt]] })
        (Option.some
          (Ex.exit 2,
            { vals := [AV.int IntKind.i64 low2, AV.int IntKind.i64 high3],
              blks :=
                [Blk.box
                    [AV.int IntKind.i64
                        (nth PV.nilp
                            (List.map AV.toPV (nth (Blk.box []) r.snd 0).toCs) 0).toInt,
                      AV.int IntKind.i64
                        (nth PV.nilp
                            (List.map AV.toPV (nth (Blk.box []) r.snd 0).toCs) 1).toInt,
                      AV.int IntKind.i64
                        (nth PV.nilp
                            (List.map AV.toPV (nth (Blk.box []) r.snd 0).toCs) 2).toInt,
                      AV.int IntKind.i64
                        (nth PV.nilp
                            (List.map AV.toPV (nth (Blk.box []) r.snd 0).toCs) 3).toInt,
                      AV.int IntKind.i64
                        (nth PV.nilp
                            (List.map AV.toPV (nth (Blk.box []) r.snd 0).toCs) 4).toInt,
                      AV.sl 2
                        (nth PV.nilp
                            (List.map AV.toPV (nth (Blk.box []) r.snd 0).toCs) 5).toEs],
                  Blk.box
                    [AV.int IntKind.i64
                        (nth PV.nilp
                            (List.map AV.toPV (nth (Blk.box []) r.snd 1).toCs) 0).toInt]] })))
      Option.none := (lp_unfold ..).trans (by kernel_rfl)

/-- dynpos/sector.run -/
theorem r80a (F : Fun) (k0_0 : Int) (k0_1 : Int) (k0_2 : Int) (k0_3 : Int) (k0_4 : Int) (k0_5 : List (List PV)) : funK E F 80 [AV.fn 81 [TV.ptr 0 0]] [Blk.box
    [AV.int IntKind.i64 k0_0, AV.int IntKind.i64 k0_1, AV.int IntKind.i64 k0_2,
      AV.int IntKind.i64 k0_3, AV.int IntKind.i64 k0_4, AV.sl 2 k0_5]] =
  bnd
    (F 81 [AV.int IntKind.i64 0, AV.t (TV.ptr 0 0)]
      [Blk.box
          [AV.int IntKind.i64 k0_0, AV.int IntKind.i64 k0_1, AV.int IntKind.i64 k0_2,
            AV.int IntKind.i64 k0_3, AV.int IntKind.i64 k0_4, AV.sl 2 k0_5]])
    fun (r : Res) =>
    ctl
      (okR [RSh.one Sh.bool] r.fst &&
        okB
          [Sum.inl
              [Sh.int IntKind.i64, Sh.int IntKind.i64, Sh.int IntKind.i64,
                Sh.int IntKind.i64, Sh.int IntKind.i64, Sh.sl 2]]
          r.snd)
      (ctl (!(nth (RV.p PV.nilp) r.fst 0).toPV.toBool)
        (Option.some
          ([RV.p (PV.int IntKind.i64 0), RV.p (PV.int IntKind.i64 0)],
            [Blk.box
                [AV.int IntKind.i64
                    (nth PV.nilp
                        (List.map AV.toPV (nth (Blk.box []) r.snd 0).toCs) 0).toInt,
                  AV.int IntKind.i64
                    (nth PV.nilp
                        (List.map AV.toPV (nth (Blk.box []) r.snd 0).toCs) 1).toInt,
                  AV.int IntKind.i64
                    (nth PV.nilp
                        (List.map AV.toPV (nth (Blk.box []) r.snd 0).toCs) 2).toInt,
                  AV.int IntKind.i64
                    (nth PV.nilp
                        (List.map AV.toPV (nth (Blk.box []) r.snd 0).toCs) 3).toInt,
                  AV.int IntKind.i64
                    (nth PV.nilp
                        (List.map AV.toPV (nth (Blk.box []) r.snd 0).toCs) 4).toInt,
                  AV.sl 2
                    (nth PV.nilp
                        (List.map AV.toPV (nth (Blk.box []) r.snd 0).toCs) 5).toEs]]))
        (bnd
          (lp E F 80 1 [AV.fn 81 [TV.ptr 0 0]] 0
            { vals := [AV.int IntKind.i64 0, AV.int IntKind.i64 0],
              blks :=
                [Blk.box
                    [AV.int IntKind.i64
                        (nth PV.nilp
                            (List.map AV.toPV (nth (Blk.box []) r.snd 0).toCs) 0).toInt,
                      AV.int IntKind.i64
                        (nth PV.nilp
                            (List.map AV.toPV (nth (Blk.box []) r.snd 0).toCs) 1).toInt,
                      AV.int IntKind.i64
                        (nth PV.nilp
                            (List.map AV.toPV (nth (Blk.box []) r.snd 0).toCs) 2).toInt,
                      AV.int IntKind.i64
                        (nth PV.nilp
                            (List.map AV.toPV (nth (Blk.box []) r.snd 0).toCs) 3).toInt,
                      AV.int IntKind.i64
                        (nth PV.nilp
                            (List.map AV.toPV (nth (Blk.box []) r.snd 0).toCs) 4).toInt,
                      AV.sl 2
                        (nth PV.nilp
                            (List.map AV.toPV (nth (Blk.box []) r.snd 0).toCs) 5).toEs]] })
          fun (p : Ex × Pack) =>
          ctl (p.fst.eqb (Ex.exit 0))
            (ctl
              (okPack
                {
                  slots :=
                    [(0, Sum.inr (Sum.inr (AV.fn 81 [TV.ptr 0 0]))), (2, Sum.inl (Sh.int IntKind.i64)),
                      (3, Sum.inl (Sh.int IntKind.i64))],
                  blks :=
                    [Sum.inl
                        [Sum.inl (Sh.int IntKind.i64), Sum.inl (Sh.int IntKind.i64), Sum.inl (Sh.int IntKind.i64),
                          Sum.inl (Sh.int IntKind.i64), Sum.inl (Sh.int IntKind.i64), Sum.inl (Sh.sl 2)]] }
                p.snd)
              (bnd
                (lp E F 80 1 [AV.fn 81 [TV.ptr 0 0]] 2
                  {
                    vals :=
                      [AV.int IntKind.i64 (nth AV.undef p.snd.vals 0).toPV.toInt,
                        AV.int IntKind.i64 (nth AV.undef p.snd.vals 1).toPV.toInt],
                    blks :=
                      [Blk.box
                          [AV.int IntKind.i64
                              (nth AV.undef (nth (Blk.box []) p.snd.blks 0).toCs 0).toPV.toInt,
                            AV.int IntKind.i64
                              (nth AV.undef (nth (Blk.box []) p.snd.blks 0).toCs 1).toPV.toInt,
                            AV.int IntKind.i64
                              (nth AV.undef (nth (Blk.box []) p.snd.blks 0).toCs 2).toPV.toInt,
                            AV.int IntKind.i64
                              (nth AV.undef (nth (Blk.box []) p.snd.blks 0).toCs 3).toPV.toInt,
                            AV.int IntKind.i64
                              (nth AV.undef (nth (Blk.box []) p.snd.blks 0).toCs 4).toPV.toInt,
                            AV.sl 2
                              (nth AV.undef (nth (Blk.box []) p.snd.blks 0).toCs 5).toPV.toEs]] })
                fun (p : Ex × Pack) =>
                ctl (p.fst.eqb (Ex.exit 2))
                  (ctl
                    (okPack
                      { slots := [(2, Sum.inl (Sh.int IntKind.i64)), (3, Sum.inl (Sh.int IntKind.i64))],
                        blks :=
                          [Sum.inl
                              [Sum.inl (Sh.int IntKind.i64), Sum.inl (Sh.int IntKind.i64), Sum.inl (Sh.int IntKind.i64),
                                Sum.inl (Sh.int IntKind.i64), Sum.inl (Sh.int IntKind.i64), Sum.inl (Sh.sl 2)]] }
                      p.snd)
                    (Option.some
                      ([RV.p (PV.int IntKind.i64 (nth AV.undef p.snd.vals 0).toPV.toInt),
                          RV.p (PV.int IntKind.i64 (nth AV.undef p.snd.vals 1).toPV.toInt)],
                        [Blk.box
                            [AV.int IntKind.i64
                                (nth AV.undef (nth (Blk.box []) p.snd.blks 0).toCs 0).toPV.toInt,
                              AV.int IntKind.i64
                                (nth AV.undef (nth (Blk.box []) p.snd.blks 0).toCs 1).toPV.toInt,
                              AV.int IntKind.i64
                                (nth AV.undef (nth (Blk.box []) p.snd.blks 0).toCs 2).toPV.toInt,
                              AV.int IntKind.i64
                                (nth AV.undef (nth (Blk.box []) p.snd.blks 0).toCs 3).toPV.toInt,
                              AV.int IntKind.i64
                                (nth AV.undef (nth (Blk.box []) p.snd.blks 0).toCs 4).toPV.toInt,
                              AV.sl 2
                                (nth AV.undef (nth (Blk.box []) p.snd.blks 0).toCs
                                      5).toPV.toEs]]))
                    Option.none)
                  Option.none)
              Option.none)
            Option.none))
      Option.none := by kernel_rfl

/-- dynpos/sector.run -/
theorem r80b (F : Fun) (k0_0 : Int) (k0_1 : Int) (k0_2 : Int) (k0_3 : Int) (k0_4 : Int) (k0_5 : List (List PV)) (k1_0 : Int) : funK E F 80 [AV.fn 84 [TV.ptr 0 0, TV.ptr 1 0]] [Blk.box
    [AV.int IntKind.i64 k0_0, AV.int IntKind.i64 k0_1, AV.int IntKind.i64 k0_2,
      AV.int IntKind.i64 k0_3, AV.int IntKind.i64 k0_4, AV.sl 2 k0_5],
  Blk.box [AV.int IntKind.i64 k1_0]] =
  bnd
    (F 84
      [AV.int IntKind.i64 0, AV.t (TV.ptr 0 0),
        AV.t (TV.ptr 1 0)]
      [Blk.box
          [AV.int IntKind.i64 k0_0, AV.int IntKind.i64 k0_1, AV.int IntKind.i64 k0_2,
            AV.int IntKind.i64 k0_3, AV.int IntKind.i64 k0_4, AV.sl 2 k0_5],
        Blk.box [AV.int IntKind.i64 k1_0]])
    fun (r : Res) =>
    ctl
      (okR [RSh.one Sh.bool] r.fst &&
        okB
          [Sum.inl
              [Sh.int IntKind.i64, Sh.int IntKind.i64, Sh.int IntKind.i64,
                Sh.int IntKind.i64, Sh.int IntKind.i64, Sh.sl 2],
            Sum.inl [Sh.int IntKind.i64]]
          r.snd)
      (ctl (!(nth (RV.p PV.nilp) r.fst 0).toPV.toBool)
        (Option.some
          ([RV.p (PV.int IntKind.i64 0), RV.p (PV.int IntKind.i64 0)],
            [Blk.box
                [AV.int IntKind.i64
                    (nth PV.nilp
                        (List.map AV.toPV (nth (Blk.box []) r.snd 0).toCs) 0).toInt,
                  AV.int IntKind.i64
                    (nth PV.nilp
                        (List.map AV.toPV (nth (Blk.box []) r.snd 0).toCs) 1).toInt,
                  AV.int IntKind.i64
                    (nth PV.nilp
                        (List.map AV.toPV (nth (Blk.box []) r.snd 0).toCs) 2).toInt,
                  AV.int IntKind.i64
                    (nth PV.nilp
                        (List.map AV.toPV (nth (Blk.box []) r.snd 0).toCs) 3).toInt,
                  AV.int IntKind.i64
                    (nth PV.nilp
                        (List.map AV.toPV (nth (Blk.box []) r.snd 0).toCs) 4).toInt,
                  AV.sl 2
                    (nth PV.nilp
                        (List.map AV.toPV (nth (Blk.box []) r.snd 0).toCs) 5).toEs],
              Blk.box
                [AV.int IntKind.i64
                    (nth PV.nilp
                        (List.map AV.toPV (nth (Blk.box []) r.snd 1).toCs) 0).toInt]]))
        (bnd
          (lp E F 80 2 [AV.fn 84 [TV.ptr 0 0, TV.ptr 1 0]] 0
            { vals := [AV.int IntKind.i64 0, AV.int IntKind.i64 0],
              blks :=
                [Blk.box
                    [AV.int IntKind.i64
                        (nth PV.nilp
                            (List.map AV.toPV (nth (Blk.box []) r.snd 0).toCs) 0).toInt,
                      AV.int IntKind.i64
                        (nth PV.nilp
                            (List.map AV.toPV (nth (Blk.box []) r.snd 0).toCs) 1).toInt,
                      AV.int IntKind.i64
                        (nth PV.nilp
                            (List.map AV.toPV (nth (Blk.box []) r.snd 0).toCs) 2).toInt,
                      AV.int IntKind.i64
                        (nth PV.nilp
                            (List.map AV.toPV (nth (Blk.box []) r.snd 0).toCs) 3).toInt,
                      AV.int IntKind.i64
                        (nth PV.nilp
                            (List.map AV.toPV (nth (Blk.box []) r.snd 0).toCs) 4).toInt,
                      AV.sl 2
                        (nth PV.nilp
                            (List.map AV.toPV (nth (Blk.box []) r.snd 0).toCs) 5).toEs],
                  Blk.box
                    [AV.int IntKind.i64
                        (nth PV.nilp
                            (List.map AV.toPV (nth (Blk.box []) r.snd 1).toCs) 0).toInt]] })
          fun (p : Ex × Pack) =>
          ctl (p.fst.eqb (Ex.exit 0))
            (ctl
              (okPack
                {
                  slots :=
                    [(0, Sum.inr (Sum.inr (AV.fn 84 [TV.ptr 0 0, TV.ptr 1 0]))),
                      (2, Sum.inl (Sh.int IntKind.i64)), (3, Sum.inl (Sh.int IntKind.i64))],
                  blks :=
                    [Sum.inl
                        [Sum.inl (Sh.int IntKind.i64), Sum.inl (Sh.int IntKind.i64), Sum.inl (Sh.int IntKind.i64),
                          Sum.inl (Sh.int IntKind.i64), Sum.inl (Sh.int IntKind.i64), Sum.inl (Sh.sl 2)],
                      Sum.inl [Sum.inl (Sh.int IntKind.i64)]] }
                p.snd)
              (bnd
                (lp E F 80 2 [AV.fn 84 [TV.ptr 0 0, TV.ptr 1 0]] 2
                  {
                    vals :=
                      [AV.int IntKind.i64 (nth AV.undef p.snd.vals 0).toPV.toInt,
                        AV.int IntKind.i64 (nth AV.undef p.snd.vals 1).toPV.toInt],
                    blks :=
                      [Blk.box
                          [AV.int IntKind.i64
                              (nth AV.undef (nth (Blk.box []) p.snd.blks 0).toCs 0).toPV.toInt,
                            AV.int IntKind.i64
                              (nth AV.undef (nth (Blk.box []) p.snd.blks 0).toCs 1).toPV.toInt,
                            AV.int IntKind.i64
                              (nth AV.undef (nth (Blk.box []) p.snd.blks 0).toCs 2).toPV.toInt,
                            AV.int IntKind.i64
                              (nth AV.undef (nth (Blk.box []) p.snd.blks 0).toCs 3).toPV.toInt,
                            AV.int IntKind.i64
                              (nth AV.undef (nth (Blk.box []) p.snd.blks 0).toCs 4).toPV.toInt,
                            AV.sl 2
                              (nth AV.undef (nth (Blk.box []) p.snd.blks 0).toCs 5).toPV.toEs],
                        Blk.box
                          [AV.int IntKind.i64
                              (nth AV.undef (nth (Blk.box []) p.snd.blks 1).toCs
                                    0).toPV.toInt]] })
                fun (p : Ex × Pack) =>
                ctl (p.fst.eqb (Ex.exit 2))
                  (ctl
                    (okPack
                      { slots := [(2, Sum.inl (Sh.int IntKind.i64)), (3, Sum.inl (Sh.int IntKind.i64))],
                        blks :=
                          [Sum.inl
                              [Sum.inl (Sh.int IntKind.i64), Sum.inl (Sh.int IntKind.i64), Sum.inl (Sh.int IntKind.i64),
                                Sum.inl (Sh.int IntKind.i64), Sum.inl (Sh.int IntKind.i64), Sum.inl (Sh.sl 2)],
                            Sum.inl [Sum.inl (Sh.int IntKind.i64)]] }
                      p.snd)
                    (Option.some
                      ([RV.p (PV.int IntKind.i64 (nth AV.undef p.snd.vals 0).toPV.toInt),
                          RV.p (PV.int IntKind.i64 (nth AV.undef p.snd.vals 1).toPV.toInt)],
                        [Blk.box
                            [AV.int IntKind.i64
                                (nth AV.undef (nth (Blk.box []) p.snd.blks 0).toCs 0).toPV.toInt,
                              AV.int IntKind.i64
                                (nth AV.undef (nth (Blk.box []) p.snd.blks 0).toCs 1).toPV.toInt,
                              AV.int IntKind.i64
                                (nth AV.undef (nth (Blk.box []) p.snd.blks 0).toCs 2).toPV.toInt,
                              AV.int IntKind.i64
                                (nth AV.undef (nth (Blk.box []) p.snd.blks 0).toCs 3).toPV.toInt,
                              AV.int IntKind.i64
                                (nth AV.undef (nth (Blk.box []) p.snd.blks 0).toCs 4).toPV.toInt,
                              AV.sl 2
                                (nth AV.undef (nth (Blk.box []) p.snd.blks 0).toCs 5).toPV.toEs],
                          Blk.box
                            [AV.int IntKind.i64
                                (nth AV.undef (nth (Blk.box []) p.snd.blks 1).toCs
                                      0).toPV.toInt]]))
                    Option.none)
                  Option.none)
              Option.none)
            Option.none))
      Option.none := by kernel_rfl

/-- dynpos/sector.Lateral$1 -/
theorem r81 (F : Fun) (y : Int) (k0_0 : Int) (k0_1 : Int) (k0_2 : Int) (k0_3 : Int) (k0_4 : Int) (k0_5 : List (List PV)) : funK E F 81 [AV.int IntKind.i64 y, AV.t (TV.ptr 0 0)] [Blk.box
    [AV.int IntKind.i64 k0_0, AV.int IntKind.i64 k0_1, AV.int IntKind.i64 k0_2,
      AV.int IntKind.i64 k0_3, AV.int IntKind.i64 k0_4, AV.sl 2 k0_5]] =
  bnd
    (F 82
      [AV.agg
          [PV.int IntKind.i64 k0_0, PV.int IntKind.i64 k0_1, PV.int IntKind.i64 k0_2,
            PV.int IntKind.i64 k0_3, PV.int IntKind.i64 k0_4, PV.sl 2 k0_5],
        AV.int IntKind.i64 0, AV.int IntKind.i64 y]
      [])
    fun (r : Res) =>
    ctl (okR [RSh.one Sh.bool] r.fst && okB [] r.snd)
      (Option.some
        ([RV.p (PV.bool (nth (RV.p PV.nilp) r.fst 0).toPV.toBool)],
          [Blk.box
              [AV.int IntKind.i64 k0_0, AV.int IntKind.i64 k0_1, AV.int IntKind.i64 k0_2,
                AV.int IntKind.i64 k0_3, AV.int IntKind.i64 k0_4, AV.sl 2 k0_5]]))
      Option.none := by kernel_rfl

/-- dynpos/sector.allowed -/
theorem r82 (F : Fun) (t0 : Int) (t1 : Int) (t2 : Int) (t3 : Int) (t4 : Int) (t5 : List (List PV)) (x : Int) (y : Int) : funK E F 82 [AV.agg
    [PV.int IntKind.i64 t0, PV.int IntKind.i64 t1, PV.int IntKind.i64 t2,
      PV.int IntKind.i64 t3, PV.int IntKind.i64 t4, PV.sl 2 t5],
  AV.int IntKind.i64 x, AV.int IntKind.i64 y] [] =
  bnd
    (ctl (!ltB t2 (maxI y x))
      (Option.some (ltB (minI y x) (IntKind.i64.wrap (0 - t2)))) (Option.some Bool.true))
    fun (v : Bool) =>
    bnd
      (ctl (!v) (Option.some (ltB (IntKind.i64.wrap (t2 * t2)) (IntKind.i64.wrap (IntKind.i64.wrap (x * x) + IntKind.i64.wrap (y * y)))))
        (Option.some Bool.true))
      fun (v : Bool) =>
      bnd (ctl (!v) (ctl (t0 == 1) (Option.some (x != 0)) (Option.some Bool.false)) (Option.some Bool.true)) fun (v : Bool) =>
        bnd (ctl (!v) (ctl (t0 == 2) (Option.some (y != 0)) (Option.some Bool.false)) (Option.some Bool.true)) fun (v : Bool) =>
          ctl v (Option.some ([RV.p (PV.bool Bool.false)], []))
            (bnd
              (F 87 [AV.sl 2 t5, AV.fn 96 [TV.ptr 0 0, TV.ptr 1 0]]
                [Blk.box [AV.int IntKind.i64 x], Blk.box [AV.int IntKind.i64 y]])
              fun (r : Res) =>
              ctl
                (okR [RSh.one Sh.bool] r.fst &&
                  okB [Sum.inl [Sh.int IntKind.i64], Sum.inl [Sh.int IntKind.i64]] r.snd)
                (Option.some
                  ([RV.p
                        (PV.bool !(nth (RV.p PV.nilp) r.fst 0).toPV.toBool)],
                    []))
                Option.none) := by kernel_rfl

/-- dynpos/sector.Rated -/
theorem r83 (F : Fun) (low : Int) (high : Int) (last : Int) (rate : Int) : funK E F 83 [AV.int IntKind.i64 low, AV.int IntKind.i64 high, AV.int IntKind.i64 last,
  AV.int IntKind.i64 rate] [] =
  bnd
    (ctl (!ltB 1000000000 (maxI rate (maxI last (maxI high low))))
      (Option.some (ltB (minI last (minI high low)) (-1000000000))) (Option.some Bool.true))
    fun (v : Bool) =>
    bnd (ctl (!v) (Option.some (ltB high low)) (Option.some Bool.true)) fun (v : Bool) =>
      bnd (ctl (!v) (Option.some (ltB rate 0)) (Option.some Bool.true)) fun (v : Bool) =>
        ctl v
          (Option.some
            ([RV.p (PV.int IntKind.i64 low), RV.p (PV.int IntKind.i64 high)], []))
          (ctl
            (leB (maxI (IntKind.i64.wrap (last - rate)) low) (minI (IntKind.i64.wrap (last + rate)) high))
            (Option.some
              ([RV.p (PV.int IntKind.i64 (maxI (IntKind.i64.wrap (last - rate)) low)),
                  RV.p (PV.int IntKind.i64 (minI (IntKind.i64.wrap (last + rate)) high))],
                []))
            (ctl (ltB last low)
              (Option.some
                ([RV.p (PV.int IntKind.i64 low), RV.p (PV.int IntKind.i64 low)], []))
              (Option.some
                ([RV.p (PV.int IntKind.i64 high), RV.p (PV.int IntKind.i64 high)], [])))) := by kernel_rfl

/-- dynpos/sector.Longitudinal$1 -/
theorem r84 (F : Fun) (x : Int) (k0_0 : Int) (k0_1 : Int) (k0_2 : Int) (k0_3 : Int) (k0_4 : Int) (k0_5 : List (List PV)) (k1_0 : Int) : funK E F 84 [AV.int IntKind.i64 x, AV.t (TV.ptr 0 0), AV.t (TV.ptr 1 0)] [Blk.box
    [AV.int IntKind.i64 k0_0, AV.int IntKind.i64 k0_1, AV.int IntKind.i64 k0_2,
      AV.int IntKind.i64 k0_3, AV.int IntKind.i64 k0_4, AV.sl 2 k0_5],
  Blk.box [AV.int IntKind.i64 k1_0]] =
  bnd
    (F 82
      [AV.agg
          [PV.int IntKind.i64 k0_0, PV.int IntKind.i64 k0_1, PV.int IntKind.i64 k0_2,
            PV.int IntKind.i64 k0_3, PV.int IntKind.i64 k0_4, PV.sl 2 k0_5],
        AV.int IntKind.i64 x, AV.int IntKind.i64 k1_0]
      [])
    fun (r : Res) =>
    ctl (okR [RSh.one Sh.bool] r.fst && okB [] r.snd)
      (Option.some
        ([RV.p (PV.bool (nth (RV.p PV.nilp) r.fst 0).toPV.toBool)],
          [Blk.box
              [AV.int IntKind.i64 k0_0, AV.int IntKind.i64 k0_1, AV.int IntKind.i64 k0_2,
                AV.int IntKind.i64 k0_3, AV.int IntKind.i64 k0_4, AV.sl 2 k0_5],
            Blk.box [AV.int IntKind.i64 k1_0]]))
      Option.none := by kernel_rfl

/-- slices.IndexFunc[[]dynpos/api.Thruster,dynpos/api.Thruster], the loop of block 0 -/
theorem r85_0a (F : Fun) (s0 : List (List PV)) (x7 : Int) (x8 : Int) : lp E F 85 0 [AV.undef, AV.fn 63 []] 0
  { vals := [AV.sl 6 s0, AV.int IntKind.i64 x7, AV.int IntKind.i64 x8], blks := [] } =
  ctl (ltB x8 x7)
    (getE s0 x8 fun (c : List PV) =>
      ctl
        (okCs
          [Sh.int IntKind.i64, Sh.int IntKind.i64, Sh.int IntKind.i64,
            Sh.int IntKind.i64, Sh.int IntKind.i64, Sh.sl 2]
          c)
        (bnd
          (F 63
            [AV.agg
                [PV.int IntKind.i64 (nth PV.nilp c 0).toInt,
                  PV.int IntKind.i64 (nth PV.nilp c 1).toInt,
                  PV.int IntKind.i64 (nth PV.nilp c 2).toInt,
                  PV.int IntKind.i64 (nth PV.nilp c 3).toInt,
                  PV.int IntKind.i64 (nth PV.nilp c 4).toInt,
                  PV.sl 2 (nth PV.nilp c 5).toEs]]
            [])
          fun (r : Res) =>
          ctl (okR [RSh.one Sh.bool] r.fst && okB [] r.snd)
            (ctl (nth (RV.p PV.nilp) r.fst 0).toPV.toBool
              (Option.some (Ex.ret, { vals := [AV.int IntKind.i64 x8], blks := [] }))
              (lp E F 85 0 [AV.undef, AV.fn 63 []] 0
                { vals := [AV.sl 6 s0, AV.int IntKind.i64 x7, AV.int IntKind.i64 (IntKind.i64.wrap (x8 + 1))],
                  blks := [] }))
            Option.none)
        Option.none)
    (Option.some (Ex.exit 0, { vals := [], blks := [] })) := (lp_unfold ..).trans (by kernel_rfl)

/-- slices.IndexFunc[[]dynpos/api.Thruster,dynpos/api.Thruster] -/
theorem r85a (F : Fun) (s : List (List PV)) : funK E F 85 [AV.sl 6 s, AV.fn 63 []] [] =
  bnd
    (lp E F 85 0 [AV.undef, AV.fn 63 []] 0
      { vals := [AV.sl 6 s, AV.int IntKind.i64 (↑s.length : Int), AV.int IntKind.i64 0], blks := [] })
    fun (p : Ex × Pack) =>
    ctl (p.fst.eqb (Ex.exit 0)) (Option.some ([RV.p (PV.int IntKind.i64 (-1))], []))
      (ctl (p.fst.eqb Ex.ret)
        (ctl (okPack { slots := [(4, Sum.inl (Sh.int IntKind.i64))], blks := [] } p.snd)
          (Option.some
            ([RV.p (PV.int IntKind.i64 (nth AV.undef p.snd.vals 0).toPV.toInt)], []))
          Option.none)
        Option.none) := by kernel_rfl

/-- dynpos/sector.in -/
theorem r86 (F : Fun) (n : Int) (low : Int) (high : Int) : funK E F 86 [AV.int IntKind.i64 n, AV.int IntKind.i64 low, AV.int IntKind.i64 high] [] =
  bnd (ctl (leB low n) (Option.some (leB n high)) (Option.some Bool.false)) fun (v : Bool) =>
    Option.some ([RV.p (PV.bool v)], []) := by kernel_rfl

/-- slices.ContainsFunc[[]dynpos/api.Arc,dynpos/api.Arc] -/
theorem r87a (F : Fun) (s : List (List PV)) : funK E F 87 [AV.sl 2 s, AV.fn 88 []] [] =
  bnd (F 98 [AV.sl 2 s, AV.fn 88 []] []) fun (r : Res) =>
    ctl
      (okR [RSh.one (Sh.int IntKind.i64)] r.fst && okB [] r.snd)
      (Option.some
        ([RV.p
              (PV.bool
                (leB 0 (nth (RV.p PV.nilp) r.fst 0).toPV.toInt))],
          []))
      Option.none := by kernel_rfl

/-- slices.ContainsFunc[[]dynpos/api.Arc,dynpos/api.Arc] -/
theorem r87b (F : Fun) (s : List (List PV)) (k0_0 : Int) (k1_0 : Int) : funK E F 87 [AV.sl 2 s, AV.fn 96 [TV.ptr 0 0, TV.ptr 1 0]] [Blk.box [AV.int IntKind.i64 k0_0], Blk.box [AV.int IntKind.i64 k1_0]] =
  bnd
    (F 98 [AV.sl 2 s, AV.fn 96 [TV.ptr 0 0, TV.ptr 1 0]]
      [Blk.box [AV.int IntKind.i64 k0_0], Blk.box [AV.int IntKind.i64 k1_0]])
    fun (r : Res) =>
    ctl
      (okR [RSh.one (Sh.int IntKind.i64)] r.fst &&
        okB [Sum.inl [Sh.int IntKind.i64], Sum.inl [Sh.int IntKind.i64]] r.snd)
      (Option.some
        ([RV.p
              (PV.bool
                (leB 0 (nth (RV.p PV.nilp) r.fst 0).toPV.toInt))],
          [Blk.box
              [AV.int IntKind.i64
                  (nth PV.nilp
                      (List.map AV.toPV (nth (Blk.box []) r.snd 0).toCs) 0).toInt],
            Blk.box
              [AV.int IntKind.i64
                  (nth PV.nilp
                      (List.map AV.toPV (nth (Blk.box []) r.snd 1).toCs) 0).toInt]]))
      Option.none := by kernel_rfl

/-- dynpos/sector.Valid$1 -/
theorem r88 (F : Fun) (x0 : Int) (x1 : Int) : funK E F 88 [AV.agg [PV.int IntKind.i64 x0, PV.int IntKind.i64 x1]] [] =
  bnd (F 89 [AV.agg [PV.int IntKind.i64 x0, PV.int IntKind.i64 x1]] [])
    fun (r : Res) =>
    ctl (okR [RSh.one Sh.bool] r.fst && okB [] r.snd)
      (Option.some
        ([RV.p
              (PV.bool !(nth (RV.p PV.nilp) r.fst 0).toPV.toBool)],
          []))
      Option.none := by kernel_rfl

/-- dynpos/angle.Valid -/
theorem r89 (F : Fun) (x0 : Int) (x1 : Int) : funK E F 89 [AV.agg [PV.int IntKind.i64 x0, PV.int IntKind.i64 x1]] [] =
  bnd (F 99 [AV.int IntKind.i64 x0] []) fun (r : Res) =>
    ctl (okR [RSh.one Sh.bool] r.fst && okB [] r.snd)
      (ctl (nth (RV.p PV.nilp) r.fst 0).toPV.toBool
        (bnd (F 99 [AV.int IntKind.i64 x1] []) fun (r : Res) =>
          ctl (okR [RSh.one Sh.bool] r.fst && okB [] r.snd)
            (bnd
              (ctl (nth (RV.p PV.nilp) r.fst 0).toPV.toBool
                (bnd (F 100 [AV.agg [PV.int IntKind.i64 x0, PV.int IntKind.i64 x1]] [])
                  fun (r : Res) =>
                  ctl
                    (okR [RSh.one (Sh.int IntKind.i64)] r.fst && okB [] r.snd)
                    (Option.some (ltB (nth (RV.p PV.nilp) r.fst 0).toPV.toInt 1800)) Option.none)
                (Option.some Bool.false))
              fun (v : Bool) => Option.some ([RV.p (PV.bool v)], []))
            Option.none)
        (Option.some ([RV.p (PV.bool Bool.false)], [])))
      Option.none := by kernel_rfl

/-- slices.IndexFunc[[]int,int], the loop of block 0 -/
theorem r90_0a (F : Fun) (s0 : List (List PV)) (x7 : Int) (x8 : Int) (b0_0 : Int) (b1_0 : Int) : lp E F 90 2
  [AV.undef, AV.fn 66 [TV.ptr 0 0, TV.ptr 1 0]] 0
  { vals := [AV.sl 1 s0, AV.int IntKind.i64 x7, AV.int IntKind.i64 x8],
    blks := [Blk.box [AV.int IntKind.i64 b0_0], Blk.box [AV.int IntKind.i64 b1_0]] } =
  ctl (ltB x8 x7)
    (getE s0 x8 fun (c : List PV) =>
      ctl (okCs [Sh.int IntKind.i64] c)
        (bnd
          (F 66
            [AV.int IntKind.i64 (nth PV.nilp c 0).toInt,
              AV.t (TV.ptr 0 0), AV.t (TV.ptr 1 0)]
            [Blk.box [AV.int IntKind.i64 b0_0], Blk.box [AV.int IntKind.i64 b1_0]])
          fun (r : Res) =>
          ctl
            (okR [RSh.one Sh.bool] r.fst &&
              okB [Sum.inl [Sh.int IntKind.i64], Sum.inl [Sh.int IntKind.i64]] r.snd)
            (ctl (nth (RV.p PV.nilp) r.fst 0).toPV.toBool
              (Option.some
                (Ex.ret,
                  { vals := [AV.int IntKind.i64 x8],
                    blks :=
                      [Blk.box
                          [AV.int IntKind.i64
                              (nth PV.nilp
                                  (List.map AV.toPV (nth (Blk.box []) r.snd 0).toCs) 0).toInt],
                        Blk.box
                          [AV.int IntKind.i64
                              (nth PV.nilp
                                  (List.map AV.toPV (nth (Blk.box []) r.snd 1).toCs) 0).toInt]] }))
              (lp E F 90 2
                [AV.undef, AV.fn 66 [TV.ptr 0 0, TV.ptr 1 0]] 0
                { vals := [AV.sl 1 s0, AV.int IntKind.i64 x7, AV.int IntKind.i64 (IntKind.i64.wrap (x8 + 1))],
                  blks :=
                    [Blk.box
                        [AV.int IntKind.i64
                            (nth PV.nilp
                                (List.map AV.toPV (nth (Blk.box []) r.snd 0).toCs) 0).toInt],
                      Blk.box
                        [AV.int IntKind.i64
                            (nth PV.nilp
                                (List.map AV.toPV (nth (Blk.box []) r.snd 1).toCs) 0).toInt]] }))
            Option.none)
        Option.none)
    (Option.some
      (Ex.exit 0,
        { vals := [],
          blks := [Blk.box [AV.int IntKind.i64 b0_0], Blk.box [AV.int IntKind.i64 b1_0]] })) := (lp_unfold ..).trans (by kernel_rfl)

/-- slices.IndexFunc[[]int,int] -/
theorem r90a (F : Fun) (s : List (List PV)) (k0_0 : Int) (k1_0 : Int) : funK E F 90 [AV.sl 1 s, AV.fn 66 [TV.ptr 0 0, TV.ptr 1 0]] [Blk.box [AV.int IntKind.i64 k0_0], Blk.box [AV.int IntKind.i64 k1_0]] =
  bnd
    (lp E F 90 2
      [AV.undef, AV.fn 66 [TV.ptr 0 0, TV.ptr 1 0]] 0
      { vals := [AV.sl 1 s, AV.int IntKind.i64 (↑s.length : Int), AV.int IntKind.i64 0],
        blks := [Blk.box [AV.int IntKind.i64 k0_0], Blk.box [AV.int IntKind.i64 k1_0]] })
    fun (p : Ex × Pack) =>
    ctl (p.fst.eqb (Ex.exit 0))
      (ctl
        (okPack { slots := [], blks := [Sum.inl [Sum.inl (Sh.int IntKind.i64)], Sum.inl [Sum.inl (Sh.int IntKind.i64)]] }
          p.snd)
        (Option.some
          ([RV.p (PV.int IntKind.i64 (-1))],
            [Blk.box
                [AV.int IntKind.i64
                    (nth AV.undef (nth (Blk.box []) p.snd.blks 0).toCs 0).toPV.toInt],
              Blk.box
                [AV.int IntKind.i64
                    (nth AV.undef (nth (Blk.box []) p.snd.blks 1).toCs 0).toPV.toInt]]))
        Option.none)
      (ctl (p.fst.eqb Ex.ret)
        (ctl
          (okPack
            { slots := [(4, Sum.inl (Sh.int IntKind.i64))],
              blks := [Sum.inl [Sum.inl (Sh.int IntKind.i64)], Sum.inl [Sum.inl (Sh.int IntKind.i64)]] }
            p.snd)
          (Option.some
            ([RV.p (PV.int IntKind.i64 (nth AV.undef p.snd.vals 0).toPV.toInt)],
              [Blk.box
                  [AV.int IntKind.i64
                      (nth AV.undef (nth (Blk.box []) p.snd.blks 0).toCs 0).toPV.toInt],
                Blk.box
                  [AV.int IntKind.i64
                      (nth AV.undef (nth (Blk.box []) p.snd.blks 1).toCs 0).toPV.toInt]]))
          Option.none)
        Option.none) := by kernel_rfl

/-- dynpos/share.last -/
theorem r91 (F : Fun) (s0 : Int) (s1 : Int) (s2 : Int) (x : Int) : funK E F 91 [AV.agg [PV.int IntKind.i64 s0, PV.int IntKind.i64 s1, PV.int IntKind.i64 s2],
  AV.int IntKind.i64 x] [] =
  Option.some ([RV.p (PV.int IntKind.i64 (IntKind.i64.wrap (s2 * IntKind.i64.wrap (IntKind.i64.wrap (2 * x) - 1))))], []) := by kernel_rfl

/-- dynpos/dynposref02.Width -/
theorem r92 (F : Fun) (x0 : Int) (x1 : Int) : funK E F 92 [AV.agg [PV.int IntKind.i64 x0, PV.int IntKind.i64 x1]] [] =
  bnd (F 93 [AV.int IntKind.i64 (IntKind.i64.wrap (x1 - x0))] []) fun (r : Res) =>
    ctl
      (okR [RSh.one (Sh.int IntKind.i64)] r.fst && okB [] r.snd)
      (Option.some
        ([RV.p
              (PV.int IntKind.i64 (nth (RV.p PV.nilp) r.fst 0).toPV.toInt)],
          []))
      Option.none := by kernel_rfl

/-- dynpos/dynposref02.Norm -/
theorem r93 (F : Fun) (a : Int) : funK E F 93 [AV.int IntKind.i64 a] [] =
  Option.some ([RV.p (PV.int IntKind.i64 ((IntKind.i64.wrap (a.tmod 3600 + 3600)).tmod 3600))], []) := by kernel_rfl

/-- dynpos/dynposref01.Half -/
theorem r94 (F : Fun) (n : Int) (d : Int) : funK E F 94 [AV.int IntKind.i64 n, AV.int IntKind.i64 d] [] =
  bnd (F 101 [AV.int IntKind.i64 n, AV.int IntKind.i64 d] []) fun (r : Res) =>
    ctl (okR [RSh.one Sh.bool] r.fst && okB [] r.snd)
      (ctl (!(nth (RV.p PV.nilp) r.fst 0).toPV.toBool)
        (Option.some ([RV.p (PV.int IntKind.i64 0), RV.p (PV.int IntKind.i64 1)], []))
        (bnd
          (F 102 [AV.int IntKind.i64 (IntKind.i64.wrap (IntKind.i64.wrap (2 * n) + d)), AV.int IntKind.i64 (IntKind.i64.wrap (2 * d))] [])
          fun (r : Res) =>
          ctl
            (okR [RSh.one (Sh.int IntKind.i64)] r.fst && okB [] r.snd)
            (Option.some
              ([RV.p
                    (PV.int IntKind.i64 (nth (RV.p PV.nilp) r.fst 0).toPV.toInt),
                  RV.p (PV.int IntKind.i64 0)],
                []))
            Option.none))
      Option.none := by kernel_rfl

/-- dynpos/sector.allowed$1 -/
theorem r96 (F : Fun) (a0 : Int) (a1 : Int) (k0_0 : Int) (k1_0 : Int) : funK E F 96 [AV.agg [PV.int IntKind.i64 a0, PV.int IntKind.i64 a1],
  AV.t (TV.ptr 0 0), AV.t (TV.ptr 1 0)] [Blk.box [AV.int IntKind.i64 k0_0], Blk.box [AV.int IntKind.i64 k1_0]] =
  bnd
    (F 97
      [AV.agg [PV.int IntKind.i64 a0, PV.int IntKind.i64 a1], AV.int IntKind.i64 k0_0,
        AV.int IntKind.i64 k1_0]
      [])
    fun (r : Res) =>
    ctl (okR [RSh.one Sh.bool] r.fst && okB [] r.snd)
      (Option.some
        ([RV.p (PV.bool (nth (RV.p PV.nilp) r.fst 0).toPV.toBool)],
          [Blk.box [AV.int IntKind.i64 k0_0], Blk.box [AV.int IntKind.i64 k1_0]]))
      Option.none := by kernel_rfl

/-- dynpos/angle.Within -/
theorem r97 (F : Fun) (x0 : Int) (x1 : Int) (px : Int) (py : Int) : funK E F 97 [AV.agg [PV.int IntKind.i64 x0, PV.int IntKind.i64 x1], AV.int IntKind.i64 px,
  AV.int IntKind.i64 py] [] =
  bnd (F 89 [AV.agg [PV.int IntKind.i64 x0, PV.int IntKind.i64 x1]] [])
    fun (r : Res) =>
    ctl (okR [RSh.one Sh.bool] r.fst && okB [] r.snd)
      (bnd
        (ctl (!!(nth (RV.p PV.nilp) r.fst 0).toPV.toBool)
          (ctl (px == 0) (Option.some (py == 0)) (Option.some Bool.false)) (Option.some Bool.true))
        fun (v : Bool) =>
        bnd
          (ctl (!v)
            (bnd (F 103 [AV.int IntKind.i64 px, AV.int IntKind.i64 py] []) fun (r : Res) =>
              ctl (okR [RSh.one Sh.bool] r.fst && okB [] r.snd)
                (Option.some !(nth (RV.p PV.nilp) r.fst 0).toPV.toBool) Option.none)
            (Option.some Bool.true))
          fun (v : Bool) =>
          ctl v (Option.some ([RV.p (PV.bool Bool.false)], []))
            (bnd
              (F 104 [AV.int IntKind.i64 x0, AV.int IntKind.i64 px, AV.int IntKind.i64 py] [])
              fun (r : Res) =>
              ctl
                (okR [RSh.one (Sh.int IntKind.i64)] r.fst && okB [] r.snd)
                (bnd
                  (ctl
                    (!ltB 0 (nth (RV.p PV.nilp) r.fst 0).toPV.toInt)
                    (bnd (F 105 [AV.int IntKind.i64 x0] []) fun (r : Res) =>
                      ctl
                        (okR [RSh.one (Sh.int IntKind.i64)] r.fst && okB [] r.snd)
                        (bnd (F 106 [AV.int IntKind.i64 x0] []) fun (r_1 : Res) =>
                          ctl
                            (okR [RSh.one (Sh.int IntKind.i64)] r_1.fst && okB [] r_1.snd)
                            (Option.some
                              (ltB 0
                                (IntKind.i64.wrap
                                  (IntKind.i64.wrap ((nth (RV.p PV.nilp) r.fst 0).toPV.toInt * px) +
                                    IntKind.i64.wrap ((nth (RV.p PV.nilp) r_1.fst 0).toPV.toInt * py)))))
                            Option.none)
                        Option.none)
                    (Option.some Bool.true))
                  fun (v : Bool) =>
                  bnd
                    (ctl
                      (leB 0 (nth (RV.p PV.nilp) r.fst 0).toPV.toInt)
                      (bnd
                        (F 104 [AV.int IntKind.i64 x1, AV.int IntKind.i64 px, AV.int IntKind.i64 py] [])
                        fun (r : Res) =>
                        ctl
                          (okR [RSh.one (Sh.int IntKind.i64)] r.fst && okB [] r.snd)
                          (Option.some (leB (nth (RV.p PV.nilp) r.fst 0).toPV.toInt 0))
                          Option.none)
                      (Option.some Bool.false))
                    fun (v_1 : Bool) =>
                    bnd (ctl v_1 (Option.some v) (Option.some Bool.false)) fun (v : Bool) =>
                      Option.some ([RV.p (PV.bool v)], []))
                Option.none))
      Option.none := by kernel_rfl

/-- slices.IndexFunc[[]dynpos/api.Arc,dynpos/api.Arc], the loop of block 0 -/
theorem r98_0a (F : Fun) (s0 : List (List PV)) (x7 : Int) (x8 : Int) : lp E F 98 0 [AV.undef, AV.fn 88 []] 0
  { vals := [AV.sl 2 s0, AV.int IntKind.i64 x7, AV.int IntKind.i64 x8], blks := [] } =
  ctl (ltB x8 x7)
    (getE s0 x8 fun (c : List PV) =>
      ctl (okCs [Sh.int IntKind.i64, Sh.int IntKind.i64] c)
        (bnd
          (F 88
            [AV.agg
                [PV.int IntKind.i64 (nth PV.nilp c 0).toInt,
                  PV.int IntKind.i64 (nth PV.nilp c 1).toInt]]
            [])
          fun (r : Res) =>
          ctl (okR [RSh.one Sh.bool] r.fst && okB [] r.snd)
            (ctl (nth (RV.p PV.nilp) r.fst 0).toPV.toBool
              (Option.some (Ex.ret, { vals := [AV.int IntKind.i64 x8], blks := [] }))
              (lp E F 98 0 [AV.undef, AV.fn 88 []] 0
                { vals := [AV.sl 2 s0, AV.int IntKind.i64 x7, AV.int IntKind.i64 (IntKind.i64.wrap (x8 + 1))],
                  blks := [] }))
            Option.none)
        Option.none)
    (Option.some (Ex.exit 0, { vals := [], blks := [] })) := (lp_unfold ..).trans (by kernel_rfl)

/-- slices.IndexFunc[[]dynpos/api.Arc,dynpos/api.Arc], the loop of block 0 -/
theorem r98_0b (F : Fun) (s0 : List (List PV)) (x7 : Int) (x8 : Int) (b0_0 : Int) (b1_0 : Int) : lp E F 98 2
  [AV.undef, AV.fn 96 [TV.ptr 0 0, TV.ptr 1 0]] 0
  { vals := [AV.sl 2 s0, AV.int IntKind.i64 x7, AV.int IntKind.i64 x8],
    blks := [Blk.box [AV.int IntKind.i64 b0_0], Blk.box [AV.int IntKind.i64 b1_0]] } =
  ctl (ltB x8 x7)
    (getE s0 x8 fun (c : List PV) =>
      ctl (okCs [Sh.int IntKind.i64, Sh.int IntKind.i64] c)
        (bnd
          (F 96
            [AV.agg
                [PV.int IntKind.i64 (nth PV.nilp c 0).toInt,
                  PV.int IntKind.i64 (nth PV.nilp c 1).toInt],
              AV.t (TV.ptr 0 0), AV.t (TV.ptr 1 0)]
            [Blk.box [AV.int IntKind.i64 b0_0], Blk.box [AV.int IntKind.i64 b1_0]])
          fun (r : Res) =>
          ctl
            (okR [RSh.one Sh.bool] r.fst &&
              okB [Sum.inl [Sh.int IntKind.i64], Sum.inl [Sh.int IntKind.i64]] r.snd)
            (ctl (nth (RV.p PV.nilp) r.fst 0).toPV.toBool
              (Option.some
                (Ex.ret,
                  { vals := [AV.int IntKind.i64 x8],
                    blks :=
                      [Blk.box
                          [AV.int IntKind.i64
                              (nth PV.nilp
                                  (List.map AV.toPV (nth (Blk.box []) r.snd 0).toCs) 0).toInt],
                        Blk.box
                          [AV.int IntKind.i64
                              (nth PV.nilp
                                  (List.map AV.toPV (nth (Blk.box []) r.snd 1).toCs) 0).toInt]] }))
              (lp E F 98 2
                [AV.undef, AV.fn 96 [TV.ptr 0 0, TV.ptr 1 0]] 0
                { vals := [AV.sl 2 s0, AV.int IntKind.i64 x7, AV.int IntKind.i64 (IntKind.i64.wrap (x8 + 1))],
                  blks :=
                    [Blk.box
                        [AV.int IntKind.i64
                            (nth PV.nilp
                                (List.map AV.toPV (nth (Blk.box []) r.snd 0).toCs) 0).toInt],
                      Blk.box
                        [AV.int IntKind.i64
                            (nth PV.nilp
                                (List.map AV.toPV (nth (Blk.box []) r.snd 1).toCs) 0).toInt]] }))
            Option.none)
        Option.none)
    (Option.some
      (Ex.exit 0,
        { vals := [],
          blks := [Blk.box [AV.int IntKind.i64 b0_0], Blk.box [AV.int IntKind.i64 b1_0]] })) := (lp_unfold ..).trans (by kernel_rfl)

/-- slices.IndexFunc[[]dynpos/api.Arc,dynpos/api.Arc] -/
theorem r98a (F : Fun) (s : List (List PV)) : funK E F 98 [AV.sl 2 s, AV.fn 88 []] [] =
  bnd
    (lp E F 98 0 [AV.undef, AV.fn 88 []] 0
      { vals := [AV.sl 2 s, AV.int IntKind.i64 (↑s.length : Int), AV.int IntKind.i64 0], blks := [] })
    fun (p : Ex × Pack) =>
    ctl (p.fst.eqb (Ex.exit 0)) (Option.some ([RV.p (PV.int IntKind.i64 (-1))], []))
      (ctl (p.fst.eqb Ex.ret)
        (ctl (okPack { slots := [(4, Sum.inl (Sh.int IntKind.i64))], blks := [] } p.snd)
          (Option.some
            ([RV.p (PV.int IntKind.i64 (nth AV.undef p.snd.vals 0).toPV.toInt)], []))
          Option.none)
        Option.none) := by kernel_rfl

/-- slices.IndexFunc[[]dynpos/api.Arc,dynpos/api.Arc] -/
theorem r98b (F : Fun) (s : List (List PV)) (k0_0 : Int) (k1_0 : Int) : funK E F 98 [AV.sl 2 s, AV.fn 96 [TV.ptr 0 0, TV.ptr 1 0]] [Blk.box [AV.int IntKind.i64 k0_0], Blk.box [AV.int IntKind.i64 k1_0]] =
  bnd
    (lp E F 98 2
      [AV.undef, AV.fn 96 [TV.ptr 0 0, TV.ptr 1 0]] 0
      { vals := [AV.sl 2 s, AV.int IntKind.i64 (↑s.length : Int), AV.int IntKind.i64 0],
        blks := [Blk.box [AV.int IntKind.i64 k0_0], Blk.box [AV.int IntKind.i64 k1_0]] })
    fun (p : Ex × Pack) =>
    ctl (p.fst.eqb (Ex.exit 0))
      (ctl
        (okPack { slots := [], blks := [Sum.inl [Sum.inl (Sh.int IntKind.i64)], Sum.inl [Sum.inl (Sh.int IntKind.i64)]] }
          p.snd)
        (Option.some
          ([RV.p (PV.int IntKind.i64 (-1))],
            [Blk.box
                [AV.int IntKind.i64
                    (nth AV.undef (nth (Blk.box []) p.snd.blks 0).toCs 0).toPV.toInt],
              Blk.box
                [AV.int IntKind.i64
                    (nth AV.undef (nth (Blk.box []) p.snd.blks 1).toCs 0).toPV.toInt]]))
        Option.none)
      (ctl (p.fst.eqb Ex.ret)
        (ctl
          (okPack
            { slots := [(4, Sum.inl (Sh.int IntKind.i64))],
              blks := [Sum.inl [Sum.inl (Sh.int IntKind.i64)], Sum.inl [Sum.inl (Sh.int IntKind.i64)]] }
            p.snd)
          (Option.some
            ([RV.p (PV.int IntKind.i64 (nth AV.undef p.snd.vals 0).toPV.toInt)],
              [Blk.box
                  [AV.int IntKind.i64
                      (nth AV.undef (nth (Blk.box []) p.snd.blks 0).toCs 0).toPV.toInt],
                Blk.box
                  [AV.int IntKind.i64
                      (nth AV.undef (nth (Blk.box []) p.snd.blks 1).toCs 0).toPV.toInt]]))
          Option.none)
        Option.none) := by kernel_rfl

/-- dynpos/angle.Valid$1 -/
theorem r99 (F : Fun) (a : Int) : funK E F 99 [AV.int IntKind.i64 a] [] =
  bnd (ctl (leB 0 a) (Option.some (ltB a 3600)) (Option.some Bool.false)) fun (v : Bool) =>
    Option.some ([RV.p (PV.bool v)], []) := by kernel_rfl

/-- dynpos/angle.Width -/
theorem r100 (F : Fun) (x0 : Int) (x1 : Int) : funK E F 100 [AV.agg [PV.int IntKind.i64 x0, PV.int IntKind.i64 x1]] [] =
  bnd (F 107 [AV.int IntKind.i64 (IntKind.i64.wrap (x1 - x0))] []) fun (r : Res) =>
    ctl
      (okR [RSh.one (Sh.int IntKind.i64)] r.fst && okB [] r.snd)
      (Option.some
        ([RV.p
              (PV.int IntKind.i64 (nth (RV.p PV.nilp) r.fst 0).toPV.toInt)],
          []))
      Option.none := by kernel_rfl

/-- dynpos/dynposref01.fits -/
theorem r101 (F : Fun) (n : Int) (d : Int) : funK E F 101 [AV.int IntKind.i64 n, AV.int IntKind.i64 d] [] =
  bnd (F 108 [AV.int IntKind.i64 n, AV.int IntKind.i64 1000000000000000000] [])
    fun (r : Res) =>
    ctl (okR [RSh.one Sh.bool] r.fst && okB [] r.snd)
      (bnd
        (ctl (nth (RV.p PV.nilp) r.fst 0).toPV.toBool
          (Option.some (leB 1 d)) (Option.some Bool.false))
        fun (v : Bool) =>
        bnd (ctl v (Option.some (leB d 1000000000)) (Option.some Bool.false)) fun (v : Bool) =>
          Option.some ([RV.p (PV.bool v)], []))
      Option.none := by kernel_rfl

/-- dynpos/dynposref01.floor -/
theorem r102 (F : Fun) (n : Int) (d : Int) : funK E F 102 [AV.int IntKind.i64 n, AV.int IntKind.i64 d] [] =
  ctl (Bool.true && neB d 0)
    (ctl (Bool.true && neB d 0)
      (ctl (ltB (n.tmod d) 0)
        (Option.some ([RV.p (PV.int IntKind.i64 (IntKind.i64.wrap (IntKind.i64.wrap (n.tdiv d) - 1)))], []))
        (Option.some ([RV.p (PV.int IntKind.i64 (IntKind.i64.wrap (n.tdiv d)))], [])))
      Option.none)
    Option.none := by kernel_rfl

/-- dynpos/angle.small -/
theorem r103 (F : Fun) (x : Int) (y : Int) : funK E F 103 [AV.int IntKind.i64 x, AV.int IntKind.i64 y] [] =
  bnd
    (ctl (leB (maxI y x) 1000000000)
      (Option.some (leB (-1000000000) (minI y x))) (Option.some Bool.false))
    fun (v : Bool) => Option.some ([RV.p (PV.bool v)], []) := by kernel_rfl

/-- dynpos/angle.Cross -/
theorem r104 (F : Fun) (a : Int) (x : Int) (y : Int) : funK E F 104 [AV.int IntKind.i64 a, AV.int IntKind.i64 x, AV.int IntKind.i64 y] [] =
  bnd (F 103 [AV.int IntKind.i64 x, AV.int IntKind.i64 y] []) fun (r : Res) =>
    ctl (okR [RSh.one Sh.bool] r.fst && okB [] r.snd)
      (ctl (!(nth (RV.p PV.nilp) r.fst 0).toPV.toBool)
        (Option.some ([RV.p (PV.int IntKind.i64 0)], []))
        (bnd (F 105 [AV.int IntKind.i64 a] []) fun (r : Res) =>
          ctl
            (okR [RSh.one (Sh.int IntKind.i64)] r.fst && okB [] r.snd)
            (bnd (F 106 [AV.int IntKind.i64 a] []) fun (r_1 : Res) =>
              ctl
                (okR [RSh.one (Sh.int IntKind.i64)] r_1.fst && okB [] r_1.snd)
                (Option.some
                  ([RV.p
                        (PV.int IntKind.i64
                          (IntKind.i64.wrap
                            (IntKind.i64.wrap ((nth (RV.p PV.nilp) r.fst 0).toPV.toInt * y) -
                              IntKind.i64.wrap ((nth (RV.p PV.nilp) r_1.fst 0).toPV.toInt * x))))],
                    []))
                Option.none)
            Option.none))
      Option.none := by kernel_rfl

/-- dynpos/angle.Cos -/
theorem r105 (F : Fun) (a : Int) : funK E F 105 [AV.int IntKind.i64 a] [] =
  bnd (F 107 [AV.int IntKind.i64 a] []) fun (r : Res) =>
    ctl
      (okR [RSh.one (Sh.int IntKind.i64)] r.fst && okB [] r.snd)
      (bnd
        (F 106
          [AV.int IntKind.i64
              (IntKind.i64.wrap ((nth (RV.p PV.nilp) r.fst 0).toPV.toInt + 900))]
          [])
        fun (r : Res) =>
        ctl
          (okR [RSh.one (Sh.int IntKind.i64)] r.fst && okB [] r.snd)
          (Option.some
            ([RV.p
                  (PV.int IntKind.i64 (nth (RV.p PV.nilp) r.fst 0).toPV.toInt)],
              []))
          Option.none)
      Option.none := by kernel_rfl

/-- dynpos/angle.Sin -/
theorem r106 (F : Fun) (a : Int) : funK E F 106 [AV.int IntKind.i64 a] [] =
  bnd (F 107 [AV.int IntKind.i64 a] []) fun (r : Res) =>
    ctl
      (okR [RSh.one (Sh.int IntKind.i64)] r.fst && okB [] r.snd)
      (ctl (ltB 1800 (nth (RV.p PV.nilp) r.fst 0).toPV.toInt)
        (bnd
          (F 39
            [AV.int IntKind.i64
                (IntKind.i64.wrap
                  (40000 *
                    IntKind.i64.wrap
                      (IntKind.i64.wrap ((nth (RV.p PV.nilp) r.fst 0).toPV.toInt - 1800) *
                        IntKind.i64.wrap (1800 - IntKind.i64.wrap ((nth (RV.p PV.nilp) r.fst 0).toPV.toInt - 1800))))),
              AV.int IntKind.i64
                (IntKind.i64.wrap
                  (4050000 -
                    IntKind.i64.wrap
                      (IntKind.i64.wrap ((nth (RV.p PV.nilp) r.fst 0).toPV.toInt - 1800) *
                        IntKind.i64.wrap (1800 - IntKind.i64.wrap ((nth (RV.p PV.nilp) r.fst 0).toPV.toInt - 1800)))))]
            [])
          fun (r : Res) =>
          ctl
            (okR
                [RSh.one (Sh.int IntKind.i64), RSh.one (Sh.int IntKind.i64)] r.fst &&
              okB [] r.snd)
            (Option.some
              ([RV.p
                    (PV.int IntKind.i64
                      (IntKind.i64.wrap (-1 * (nth (RV.p PV.nilp) r.fst 0).toPV.toInt)))],
                []))
            Option.none)
        (bnd
          (F 39
            [AV.int IntKind.i64
                (IntKind.i64.wrap
                  (40000 *
                    IntKind.i64.wrap
                      ((nth (RV.p PV.nilp) r.fst 0).toPV.toInt *
                        IntKind.i64.wrap (1800 - (nth (RV.p PV.nilp) r.fst 0).toPV.toInt)))),
              AV.int IntKind.i64
                (IntKind.i64.wrap
                  (4050000 -
                    IntKind.i64.wrap
                      ((nth (RV.p PV.nilp) r.fst 0).toPV.toInt *
                        IntKind.i64.wrap (1800 - (nth (RV.p PV.nilp) r.fst 0).toPV.toInt))))]
            [])
          fun (r : Res) =>
          ctl
            (okR
                [RSh.one (Sh.int IntKind.i64), RSh.one (Sh.int IntKind.i64)] r.fst &&
              okB [] r.snd)
            (Option.some
              ([RV.p
                    (PV.int IntKind.i64
                      (IntKind.i64.wrap (1 * (nth (RV.p PV.nilp) r.fst 0).toPV.toInt)))],
                []))
            Option.none))
      Option.none := by kernel_rfl

/-- dynpos/angle.Norm -/
theorem r107 (F : Fun) (a : Int) : funK E F 107 [AV.int IntKind.i64 a] [] =
  ctl (ltB (a.tmod 3600) 0)
    (Option.some ([RV.p (PV.int IntKind.i64 (IntKind.i64.wrap (a.tmod 3600 + 3600)))], []))
    (Option.some ([RV.p (PV.int IntKind.i64 (a.tmod 3600))], [])) := by kernel_rfl

/-- dynpos/dynposref01.in -/
theorem r108 (F : Fun) (x : Int) (m : Int) : funK E F 108 [AV.int IntKind.i64 x, AV.int IntKind.i64 m] [] =
  bnd (ctl (leB (IntKind.i64.wrap (0 - m)) x) (Option.some (leB x m)) (Option.some Bool.false))
    fun (v : Bool) => Option.some ([RV.p (PV.bool v)], []) := by kernel_rfl

end Go.Proofs.Ytcnjaffogkkpnaa.Vm
