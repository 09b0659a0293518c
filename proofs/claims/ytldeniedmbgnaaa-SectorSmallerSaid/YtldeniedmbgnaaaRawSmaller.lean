/- The raw theorems, by program: what each function and each loop comes to. -/
import Derived.Test.YtldeniedmbgnaaaEnv
import Derived.Test.YtldeniedmbgnaaaVm34
import Derived.KernelRfl
namespace Go.Proofs.Ytldeniedmbgnaaa.Vm
open Go
set_option maxRecDepth 100000
set_option linter.unusedVariables false

/-- dynpos/dynposlaw11.SectorSmaller, the loop of block 0 -/
theorem r6_0 (F : Fun) (a8 : Int) (b9 : Int) (x62_0 : Int) (x62_1 : Int) (x62_2 : Int) (x62_3 : Int) (x62_4 : Int) (x62_5 : List (List PV)) (x62_6 : Int) (x62_7 : Int) (x62_8 : Int) (x62_9 : Int) (x62_10 : Int) (x62_11 : List (List PV)) (x63 : Int) (b0_0 : List (List PV)) (b0_1 : Int) (b1_0 : Int) (b1_1 : Int) (b1_2 : Int) (b1_3 : Int) (b1_4 : Int) (b1_5 : List (List PV)) (b2_0 : Int) (b2_1 : Int) (b2_2 : Int) (b2_3 : Int) (b2_4 : Int) (b2_5 : List (List PV)) : lp E F 6 0 [] 0
  {
    vals :=
      [AV.int IntKind.i64 a8, AV.int IntKind.i64 b9,
        AV.agg
          [PV.int IntKind.i64 x62_0, PV.int IntKind.i64 x62_1, PV.int IntKind.i64 x62_2,
            PV.int IntKind.i64 x62_3, PV.int IntKind.i64 x62_4, PV.sl 2 x62_5,
            PV.int IntKind.i64 x62_6, PV.int IntKind.i64 x62_7, PV.int IntKind.i64 x62_8,
            PV.int IntKind.i64 x62_9, PV.int IntKind.i64 x62_10, PV.sl 2 x62_11],
        AV.int IntKind.i64 x63],
    blks :=
      [Blk.box [AV.sl 1 b0_0, AV.int IntKind.i64 b0_1],
        Blk.box
          [AV.int IntKind.i64 b1_0, AV.int IntKind.i64 b1_1, AV.int IntKind.i64 b1_2,
            AV.int IntKind.i64 b1_3, AV.int IntKind.i64 b1_4, AV.sl 2 b1_5],
        Blk.box
          [AV.int IntKind.i64 b2_0, AV.int IntKind.i64 b2_1, AV.int IntKind.i64 b2_2,
            AV.int IntKind.i64 b2_3, AV.int IntKind.i64 b2_4, AV.sl 2 b2_5]] } =
  ctl (ltB x63 2)
    (getE
      [[PV.int IntKind.i64 x62_0, PV.int IntKind.i64 x62_1, PV.int IntKind.i64 x62_2,
          PV.int IntKind.i64 x62_3, PV.int IntKind.i64 x62_4, PV.sl 2 x62_5],
        [PV.int IntKind.i64 x62_6, PV.int IntKind.i64 x62_7, PV.int IntKind.i64 x62_8,
          PV.int IntKind.i64 x62_9, PV.int IntKind.i64 x62_10, PV.sl 2 x62_11]]
      x63 fun (c : List PV) =>
      ctl
        (okCs
          [Sh.int IntKind.i64, Sh.int IntKind.i64, Sh.int IntKind.i64,
            Sh.int IntKind.i64, Sh.int IntKind.i64, Sh.sl 2]
          c)
        (bnd
          (F 10
            [AV.agg
                [PV.int IntKind.i64 (nth PV.nilp c 0).toInt,
                  PV.int IntKind.i64 (nth PV.nilp c 1).toInt,
                  PV.int IntKind.i64 (nth PV.nilp c 2).toInt,
                  PV.int IntKind.i64 (nth PV.nilp c 3).toInt,
                  PV.int IntKind.i64 (nth PV.nilp c 4).toInt,
                  PV.sl 2 (nth PV.nilp c 5).toEs]]
            [])
          fun (r : Res) =>
          ctl
            (okR
                [RSh.one (Sh.int IntKind.i64), RSh.one (Sh.int IntKind.i64)] r.fst &&
              okB [] r.snd)
            (bnd
              (ctl
                (!ltB (nth (RV.p PV.nilp) r.fst 0).toPV.toInt a8)
                (Option.some (ltB b9 (nth (RV.p PV.nilp) r.fst 1).toPV.toInt))
                (Option.some Bool.true))
              fun (v : Bool) =>
              ctl v (Option.some (Ex.ret, { vals := [AV.bool Bool.false], blks := [] }))
                (bnd
                  (F 11
                    [AV.t (TV.ptr 0 0),
                      AV.int IntKind.i64 (nth (RV.p PV.nilp) r.fst 0).toPV.toInt,
                      AV.int IntKind.i64 (nth (RV.p PV.nilp) r.fst 1).toPV.toInt]
                    [Blk.box [AV.sl 1 b0_0, AV.int IntKind.i64 b0_1]])
                  fun (r : Res) =>
                  ctl
                    (okR [RSh.one (Sh.int IntKind.i64)] r.fst &&
                      okB [Sum.inl [Sh.sl 1, Sh.int IntKind.i64]] r.snd)
                    (bnd
                      (F 12
                        [AV.agg
                            [PV.int IntKind.i64 b1_0, PV.int IntKind.i64 b1_1, PV.int IntKind.i64 b1_2,
                              PV.int IntKind.i64 b1_3, PV.int IntKind.i64 b1_4, PV.sl 2 b1_5],
                          AV.int IntKind.i64 (nth (RV.p PV.nilp) r.fst 0).toPV.toInt]
                        [])
                      fun (r_1 : Res) =>
                      ctl
                        (okR
                            [RSh.one (Sh.int IntKind.i64), RSh.one (Sh.int IntKind.i64)]
                            r_1.fst &&
                          okB [] r_1.snd)
                        (bnd
                          (F 12
                            [AV.agg
                                [PV.int IntKind.i64 (nth PV.nilp c 0).toInt,
                                  PV.int IntKind.i64 (nth PV.nilp c 1).toInt,
                                  PV.int IntKind.i64 (nth PV.nilp c 2).toInt,
                                  PV.int IntKind.i64 (nth PV.nilp c 3).toInt,
                                  PV.int IntKind.i64 (nth PV.nilp c 4).toInt,
                                  PV.sl 2 (nth PV.nilp c 5).toEs],
                              AV.int IntKind.i64 (nth (RV.p PV.nilp) r.fst 0).toPV.toInt]
                            [])
                          fun (r_2 : Res) =>
                          ctl
                            (okR
                                [RSh.one (Sh.int IntKind.i64), RSh.one (Sh.int IntKind.i64)]
                                r_2.fst &&
                              okB [] r_2.snd)
                            (bnd
                              (ctl
                                (!ltB (nth (RV.p PV.nilp) r_2.fst 0).toPV.toInt
                                    (nth (RV.p PV.nilp) r_1.fst 0).toPV.toInt)
                                (Option.some
                                  (ltB (nth (RV.p PV.nilp) r_1.fst 1).toPV.toInt
                                    (nth (RV.p PV.nilp) r_2.fst 1).toPV.toInt))
                                (Option.some Bool.true))
                              fun (v : Bool) =>
                              ctl v (Option.some (Ex.ret, { vals := [AV.bool Bool.false], blks := [] }))
                                (lp E F 6 0 [] 0
                                  {
                                    vals :=
                                      [AV.int IntKind.i64 a8, AV.int IntKind.i64 b9,
                                        AV.agg
                                          [PV.int IntKind.i64 x62_0, PV.int IntKind.i64 x62_1, PV.int IntKind.i64 x62_2,
                                            PV.int IntKind.i64 x62_3, PV.int IntKind.i64 x62_4, PV.sl 2 x62_5,
                                            PV.int IntKind.i64 x62_6, PV.int IntKind.i64 x62_7,
                                            PV.int IntKind.i64 x62_8, PV.int IntKind.i64 x62_9,
                                            PV.int IntKind.i64 x62_10, PV.sl 2 x62_11],
                                        AV.int IntKind.i64 (IntKind.i64.wrap (x63 + 1))],
                                    blks :=
                                      [Blk.box
                                          [AV.sl 1
                                              (nth PV.nilp
                                                  (List.map AV.toPV (nth (Blk.box []) r.snd 0).toCs) 0).toEs,
                                            AV.int IntKind.i64
                                              (nth PV.nilp
                                                  (List.map AV.toPV (nth (Blk.box []) r.snd 0).toCs) 1).toInt],
                                        Blk.box
                                          [AV.int IntKind.i64 b1_0, AV.int IntKind.i64 b1_1, AV.int IntKind.i64 b1_2,
                                            AV.int IntKind.i64 b1_3, AV.int IntKind.i64 b1_4, AV.sl 2 b1_5],
                                        Blk.box
                                          [AV.int IntKind.i64 b2_0, AV.int IntKind.i64 b2_1, AV.int IntKind.i64 b2_2,
                                            AV.int IntKind.i64 b2_3, AV.int IntKind.i64 b2_4, AV.sl 2 b2_5]] }))
                            Option.none)
                        Option.none)
                    Option.none))
            Option.none)
        Option.none)
    (Option.some
      (Ex.exit 0,
        { vals := [],
          blks :=
            [Blk.box
                [AV.int IntKind.i64 b1_0, AV.int IntKind.i64 b1_1, AV.int IntKind.i64 b1_2,
                  AV.int IntKind.i64 b1_3, AV.int IntKind.i64 b1_4, AV.sl 2 b1_5],
              Blk.box
                [AV.int IntKind.i64 b2_0, AV.int IntKind.i64 b2_1, AV.int IntKind.i64 b2_2,
                  AV.int IntKind.i64 b2_3, AV.int IntKind.i64 b2_4, AV.sl 2 b2_5]] })) := (lp_unfold ..).trans (by kernel_rfl)

/-- dynpos/dynposlaw11.SectorSmaller -/
theorem r6 (F : Fun) (t : List (List PV)) : funK E F 6 [AV.sl 1 t] [] =
  bnd (F 8 [AV.sl 1 t] []) fun (r : Res) =>
    ctl
      (okR [RSh.ownp [Sh.sl 1, Sh.int IntKind.i64]] r.fst &&
        okB [] r.snd)
      (bnd
        (F 9 [AV.t (TV.ptr 0 0)]
          [Blk.box
              [AV.sl 1
                  (nth PV.nilp (nth (RV.p PV.nilp) r.fst 0).toCs
                      0).toEs,
                AV.int IntKind.i64
                  (nth PV.nilp (nth (RV.p PV.nilp) r.fst 0).toCs
                      1).toInt]])
        fun (r : Res) =>
        ctl
          (okR
              [RSh.agg
                  [Sh.int IntKind.i64, Sh.int IntKind.i64, Sh.int IntKind.i64,
                    Sh.int IntKind.i64, Sh.int IntKind.i64, Sh.sl 2]]
              r.fst &&
            okB [Sum.inl [Sh.sl 1, Sh.int IntKind.i64]] r.snd)
          (ctl
            (Bool.true &&
              (leB 0
                  (minI 3
                    (↑(nth PV.nilp
                              (nth (RV.p PV.nilp) r.fst 0).toCs 5).toEs.length :
                      Int)) &&
                leB
                  (minI 3
                    (↑(nth PV.nilp
                              (nth (RV.p PV.nilp) r.fst 0).toCs 5).toEs.length :
                      Int))
                  (↑(nth PV.nilp (nth (RV.p PV.nilp) r.fst 0).toCs
                            5).toEs.length :
                    Int)))
            (bnd
              (F 25
                [AV.t (TV.ptr 0 0),
                  AV.int IntKind.i64
                    (IntKind.i64.wrap
                      ((nth PV.nilp
                            (nth (RV.p PV.nilp) r.fst 0).toCs 2).toInt +
                        1))]
                [Blk.box
                    [AV.sl 1
                        (nth PV.nilp
                            (List.map AV.toPV (nth (Blk.box []) r.snd 0).toCs) 0).toEs,
                      AV.int IntKind.i64
                        (nth PV.nilp
                            (List.map AV.toPV (nth (Blk.box []) r.snd 0).toCs) 1).toInt]])
              fun (r_1 : Res) =>
              ctl
                (okR [RSh.one (Sh.int IntKind.i64)] r_1.fst &&
                  okB [Sum.inl [Sh.sl 1, Sh.int IntKind.i64]] r_1.snd)
                (ctl
                  (leN
                    ((cutI
                          (nth PV.nilp
                              (nth (RV.p PV.nilp) r.fst 0).toCs 5).toEs
                          0
                          (minI 3
                            (↑(nth PV.nilp
                                      (nth (RV.p PV.nilp) r.fst 0).toCs 5).toEs.length :
                              Int))).length *
                      16)
                    140737488355328)
                  (bnd
                    (F 26 [AV.t (TV.ptr 0 0)]
                      [Blk.box
                          [AV.sl 1
                              (nth PV.nilp
                                  (List.map AV.toPV (nth (Blk.box []) r_1.snd 0).toCs) 0).toEs,
                            AV.int IntKind.i64
                              (nth PV.nilp
                                  (List.map AV.toPV (nth (Blk.box []) r_1.snd 0).toCs) 1).toInt]])
                    fun (r_2 : Res) =>
                    ctl
                      (okR [RSh.agg [Sh.int IntKind.i64, Sh.int IntKind.i64]] r_2.fst &&
                        okB [Sum.inl [Sh.sl 1, Sh.int IntKind.i64]] r_2.snd)
                      (ctl
                        (leN
                          (((cutI
                                  (nth PV.nilp
                                      (nth (RV.p PV.nilp) r.fst 0).toCs 5).toEs
                                  0
                                  (minI 3
                                    (↑(nth PV.nilp
                                              (nth (RV.p PV.nilp) r.fst 0).toCs 5).toEs.length :
                                      Int))).length +
                              1) *
                            16)
                          140737488355328)
                        (bnd
                          (F 10
                            [AV.agg
                                [PV.int IntKind.i64
                                    (nth PV.nilp
                                        (nth (RV.p PV.nilp) r.fst 0).toCs 0).toInt,
                                  PV.int IntKind.i64
                                    (nth PV.nilp
                                        (nth (RV.p PV.nilp) r.fst 0).toCs 1).toInt,
                                  PV.int IntKind.i64
                                    (nth PV.nilp
                                        (nth (RV.p PV.nilp) r.fst 0).toCs 2).toInt,
                                  PV.int IntKind.i64
                                    (nth PV.nilp
                                        (nth (RV.p PV.nilp) r.fst 0).toCs 3).toInt,
                                  PV.int IntKind.i64
                                    (nth PV.nilp
                                        (nth (RV.p PV.nilp) r.fst 0).toCs 4).toInt,
                                  PV.sl 2
                                    (cutI
                                      (nth PV.nilp
                                          (nth (RV.p PV.nilp) r.fst 0).toCs 5).toEs
                                      0
                                      (minI 3
                                        (↑(nth PV.nilp
                                                  (nth (RV.p PV.nilp) r.fst 0).toCs 5).toEs.length :
                                          Int)))]]
                            [])
                          fun (r_3 : Res) =>
                          ctl
                            (okR
                                [RSh.one (Sh.int IntKind.i64), RSh.one (Sh.int IntKind.i64)]
                                r_3.fst &&
                              okB [] r_3.snd)
                            (bnd
                              (lp E F 6 0 [] 0
                                {
                                  vals :=
                                    [AV.int IntKind.i64
                                        (nth (RV.p PV.nilp) r_3.fst 0).toPV.toInt,
                                      AV.int IntKind.i64
                                        (nth (RV.p PV.nilp) r_3.fst 1).toPV.toInt,
                                      AV.agg
                                        [PV.int IntKind.i64
                                            (nth PV.nilp
                                                (nth (RV.p PV.nilp) r.fst 0).toCs 0).toInt,
                                          PV.int IntKind.i64
                                            (nth PV.nilp
                                                (nth (RV.p PV.nilp) r.fst 0).toCs 1).toInt,
                                          PV.int IntKind.i64
                                            (nth (RV.p PV.nilp) r_1.fst 0).toPV.toInt,
                                          PV.int IntKind.i64
                                            (nth PV.nilp
                                                (nth (RV.p PV.nilp) r.fst 0).toCs 3).toInt,
                                          PV.int IntKind.i64
                                            (nth PV.nilp
                                                (nth (RV.p PV.nilp) r.fst 0).toCs 4).toInt,
                                          PV.sl 2
                                            (cutI
                                              (nth PV.nilp
                                                  (nth (RV.p PV.nilp) r.fst 0).toCs 5).toEs
                                              0
                                              (minI 3
                                                (↑(nth PV.nilp
                                                          (nth (RV.p PV.nilp) r.fst 0).toCs 5).toEs.length :
                                                  Int))),
                                          PV.int IntKind.i64
                                            (nth PV.nilp
                                                (nth (RV.p PV.nilp) r.fst 0).toCs 0).toInt,
                                          PV.int IntKind.i64
                                            (nth PV.nilp
                                                (nth (RV.p PV.nilp) r.fst 0).toCs 1).toInt,
                                          PV.int IntKind.i64
                                            (nth PV.nilp
                                                (nth (RV.p PV.nilp) r.fst 0).toCs 2).toInt,
                                          PV.int IntKind.i64
                                            (nth PV.nilp
                                                (nth (RV.p PV.nilp) r.fst 0).toCs 3).toInt,
                                          PV.int IntKind.i64
                                            (nth PV.nilp
                                                (nth (RV.p PV.nilp) r.fst 0).toCs 4).toInt,
                                          PV.sl 2
                                            (cutI
                                                (nth PV.nilp
                                                    (nth (RV.p PV.nilp) r.fst 0).toCs 5).toEs
                                                0
                                                (minI 3
                                                  (↑(nth PV.nilp
                                                            (nth (RV.p PV.nilp) r.fst 0).toCs 5).toEs.length :
                                                    Int)) ++
                                              [[PV.int IntKind.i64
                                                    (nth PV.nilp
                                                        (nth (RV.p PV.nilp) r_2.fst 0).toCs 0).toInt,
                                                  PV.int IntKind.i64
                                                    (nth PV.nilp
                                                        (nth (RV.p PV.nilp) r_2.fst 0).toCs 1).toInt]])],
                                      AV.int IntKind.i64 0],
                                  blks :=
                                    [Blk.box
                                        [AV.sl 1
                                            (nth PV.nilp
                                                (List.map AV.toPV (nth (Blk.box []) r_2.snd 0).toCs) 0).toEs,
                                          AV.int IntKind.i64
                                            (nth PV.nilp
                                                (List.map AV.toPV (nth (Blk.box []) r_2.snd 0).toCs) 1).toInt],
                                      Blk.box
                                        [AV.int IntKind.i64
                                            (nth PV.nilp
                                                (nth (RV.p PV.nilp) r.fst 0).toCs 0).toInt,
                                          AV.int IntKind.i64
                                            (nth PV.nilp
                                                (nth (RV.p PV.nilp) r.fst 0).toCs 1).toInt,
                                          AV.int IntKind.i64
                                            (nth PV.nilp
                                                (nth (RV.p PV.nilp) r.fst 0).toCs 2).toInt,
                                          AV.int IntKind.i64
                                            (nth PV.nilp
                                                (nth (RV.p PV.nilp) r.fst 0).toCs 3).toInt,
                                          AV.int IntKind.i64
                                            (nth PV.nilp
                                                (nth (RV.p PV.nilp) r.fst 0).toCs 4).toInt,
                                          AV.sl 2
                                            (cutI
                                              (nth PV.nilp
                                                  (nth (RV.p PV.nilp) r.fst 0).toCs 5).toEs
                                              0
                                              (minI 3
                                                (↑(nth PV.nilp
                                                          (nth (RV.p PV.nilp) r.fst 0).toCs 5).toEs.length :
                                                  Int)))],
                                      Blk.box
                                        [AV.int IntKind.i64
                                            (nth PV.nilp
                                                (nth (RV.p PV.nilp) r.fst 0).toCs 0).toInt,
                                          AV.int IntKind.i64
                                            (nth PV.nilp
                                                (nth (RV.p PV.nilp) r.fst 0).toCs 1).toInt,
                                          AV.int IntKind.i64
                                            (nth PV.nilp
                                                (nth (RV.p PV.nilp) r.fst 0).toCs 2).toInt,
                                          AV.int IntKind.i64
                                            (nth PV.nilp
                                                (nth (RV.p PV.nilp) r.fst 0).toCs 3).toInt,
                                          AV.int IntKind.i64
                                            (nth PV.nilp
                                                (nth (RV.p PV.nilp) r.fst 0).toCs 4).toInt,
                                          AV.sl 2 []]] })
                              fun (p : Ex × Pack) =>
                              ctl (p.fst.eqb (Ex.exit 0))
                                (ctl
                                  (okPack
                                    {
                                      slots :=
                                        [(4, Sum.inr (Sum.inr (AV.t (TV.ptr 0 0)))),
                                          (7, Sum.inr (Sum.inr (AV.t (TV.ptr 1 0))))],
                                      blks :=
                                        [Sum.inl
                                            [Sum.inl (Sh.int IntKind.i64), Sum.inl (Sh.int IntKind.i64),
                                              Sum.inl (Sh.int IntKind.i64), Sum.inl (Sh.int IntKind.i64),
                                              Sum.inl (Sh.int IntKind.i64), Sum.inl (Sh.sl 2)],
                                          Sum.inl
                                            [Sum.inl (Sh.int IntKind.i64), Sum.inl (Sh.int IntKind.i64),
                                              Sum.inl (Sh.int IntKind.i64), Sum.inl (Sh.int IntKind.i64),
                                              Sum.inl (Sh.int IntKind.i64), Sum.inl (Sh.sl 2)]] }
                                    p.snd)
                                  (bnd
                                    (F 10
                                      [AV.agg
                                          [PV.int IntKind.i64
                                              (nth AV.undef (nth (Blk.box []) p.snd.blks 1).toCs
                                                    0).toPV.toInt,
                                            PV.int IntKind.i64
                                              (nth AV.undef (nth (Blk.box []) p.snd.blks 1).toCs
                                                    1).toPV.toInt,
                                            PV.int IntKind.i64
                                              (nth AV.undef (nth (Blk.box []) p.snd.blks 1).toCs
                                                    2).toPV.toInt,
                                            PV.int IntKind.i64
                                              (nth AV.undef (nth (Blk.box []) p.snd.blks 1).toCs
                                                    3).toPV.toInt,
                                            PV.int IntKind.i64
                                              (nth AV.undef (nth (Blk.box []) p.snd.blks 1).toCs
                                                    4).toPV.toInt,
                                            PV.sl 2
                                              (nth AV.undef (nth (Blk.box []) p.snd.blks 1).toCs
                                                    5).toPV.toEs]]
                                      [])
                                    fun (r : Res) =>
                                    ctl
                                      (okR
                                          [RSh.one (Sh.int IntKind.i64),
                                            RSh.one (Sh.int IntKind.i64)]
                                          r.fst &&
                                        okB [] r.snd)
                                      (bnd
                                        (F 12
                                          [AV.agg
                                              [PV.int IntKind.i64
                                                  (nth AV.undef
                                                        (nth (Blk.box []) p.snd.blks 1).toCs 0).toPV.toInt,
                                                PV.int IntKind.i64
                                                  (nth AV.undef
                                                        (nth (Blk.box []) p.snd.blks 1).toCs 1).toPV.toInt,
                                                PV.int IntKind.i64
                                                  (nth AV.undef
                                                        (nth (Blk.box []) p.snd.blks 1).toCs 2).toPV.toInt,
                                                PV.int IntKind.i64
                                                  (nth AV.undef
                                                        (nth (Blk.box []) p.snd.blks 1).toCs 3).toPV.toInt,
                                                PV.int IntKind.i64
                                                  (nth AV.undef
                                                        (nth (Blk.box []) p.snd.blks 1).toCs 4).toPV.toInt,
                                                PV.sl 2
                                                  (nth AV.undef
                                                        (nth (Blk.box []) p.snd.blks 1).toCs 5).toPV.toEs],
                                            AV.int IntKind.i64 0]
                                          [])
                                        fun (r_4 : Res) =>
                                        ctl
                                          (okR
                                              [RSh.one (Sh.int IntKind.i64),
                                                RSh.one (Sh.int IntKind.i64)]
                                              r_4.fst &&
                                            okB [] r_4.snd)
                                          (ctl
                                            ((nth AV.undef (nth (Blk.box []) p.snd.blks 0).toCs
                                                    0).toPV.toInt ==
                                              2)
                                            (ctl
                                              ((nth AV.undef (nth (Blk.box []) p.snd.blks 0).toCs
                                                      0).toPV.toInt ==
                                                1)
                                              (bnd
                                                (ctl
                                                  ((nth (RV.p PV.nilp) r.fst 0).toPV.toInt == 0)
                                                  (Option.some ((nth (RV.p PV.nilp) r.fst 1).toPV.toInt == 0))
                                                  (Option.some Bool.false))
                                                fun (v : Bool) =>
                                                bnd
                                                  (ctl v
                                                    (Option.some ((nth (RV.p PV.nilp) r_4.fst 0).toPV.toInt == 0))
                                                    (Option.some Bool.false))
                                                  fun (v : Bool) =>
                                                  bnd
                                                    (ctl v
                                                      (Option.some ((nth (RV.p PV.nilp) r_4.fst 1).toPV.toInt == 0))
                                                      (Option.some Bool.false))
                                                    fun (v : Bool) =>
                                                    bnd
                                                      (ctl v
                                                        (bnd (F 14 [] []) fun (r : Res) =>
                                                          ctl
                                                            (okR [RSh.one Sh.bool] r.fst &&
                                                              okB [] r.snd)
                                                            (Option.some (nth (RV.p PV.nilp) r.fst 0).toPV.toBool) Option.none)
                                                        (Option.some Bool.false))
                                                      fun (v : Bool) => Option.some ([RV.p (PV.bool v)], []))
                                              (bnd
                                                (ctl
                                                  ((nth (RV.p PV.nilp) r.fst 0).toPV.toInt == 0)
                                                  (Option.some ((nth (RV.p PV.nilp) r.fst 1).toPV.toInt == 0))
                                                  (Option.some Bool.false))
                                                fun (v : Bool) =>
                                                bnd
                                                  (ctl v
                                                    (Option.some
                                                      ((nth (RV.p PV.nilp) r_4.fst 0).toPV.toInt ==
                                                        IntKind.i64.wrap
                                                          (0 -
                                                            (nth AV.undef
                                                                  (nth (Blk.box []) p.snd.blks 0).toCs 2).toPV.toInt)))
                                                    (Option.some Bool.false))
                                                  fun (v : Bool) =>
                                                  bnd
                                                    (ctl v
                                                      (Option.some
                                                        ((nth (RV.p PV.nilp) r_4.fst 1).toPV.toInt ==
                                                          (nth AV.undef
                                                                (nth (Blk.box []) p.snd.blks 0).toCs 2).toPV.toInt))
                                                      (Option.some Bool.false))
                                                    fun (v : Bool) =>
                                                    bnd
                                                      (ctl v
                                                        (bnd (F 14 [] []) fun (r : Res) =>
                                                          ctl
                                                            (okR [RSh.one Sh.bool] r.fst &&
                                                              okB [] r.snd)
                                                            (Option.some (nth (RV.p PV.nilp) r.fst 0).toPV.toBool) Option.none)
                                                        (Option.some Bool.false))
                                                      fun (v : Bool) => Option.some ([RV.p (PV.bool v)], [])))
                                            (ctl
                                              ((nth AV.undef (nth (Blk.box []) p.snd.blks 0).toCs
                                                      0).toPV.toInt ==
                                                1)
                                              (bnd
                                                (ctl
                                                  ((nth (RV.p PV.nilp) r.fst 0).toPV.toInt ==
                                                    IntKind.i64.wrap
                                                      (0 -
                                                        (nth AV.undef
                                                              (nth (Blk.box []) p.snd.blks 0).toCs 2).toPV.toInt))
                                                  (Option.some
                                                    ((nth (RV.p PV.nilp) r.fst 1).toPV.toInt ==
                                                      (nth AV.undef
                                                            (nth (Blk.box []) p.snd.blks 0).toCs 2).toPV.toInt))
                                                  (Option.some Bool.false))
                                                fun (v : Bool) =>
                                                bnd
                                                  (ctl v
                                                    (Option.some ((nth (RV.p PV.nilp) r_4.fst 0).toPV.toInt == 0))
                                                    (Option.some Bool.false))
                                                  fun (v : Bool) =>
                                                  bnd
                                                    (ctl v
                                                      (Option.some ((nth (RV.p PV.nilp) r_4.fst 1).toPV.toInt == 0))
                                                      (Option.some Bool.false))
                                                    fun (v : Bool) =>
                                                    bnd
                                                      (ctl v
                                                        (bnd (F 14 [] []) fun (r : Res) =>
                                                          ctl
                                                            (okR [RSh.one Sh.bool] r.fst &&
                                                              okB [] r.snd)
                                                            (Option.some (nth (RV.p PV.nilp) r.fst 0).toPV.toBool) Option.none)
                                                        (Option.some Bool.false))
                                                      fun (v : Bool) => Option.some ([RV.p (PV.bool v)], []))
                                              (bnd
                                                (ctl
                                                  ((nth (RV.p PV.nilp) r.fst 0).toPV.toInt ==
                                                    IntKind.i64.wrap
                                                      (0 -
                                                        (nth AV.undef
                                                              (nth (Blk.box []) p.snd.blks 0).toCs 2).toPV.toInt))
                                                  (Option.some
                                                    ((nth (RV.p PV.nilp) r.fst 1).toPV.toInt ==
                                                      (nth AV.undef
                                                            (nth (Blk.box []) p.snd.blks 0).toCs 2).toPV.toInt))
                                                  (Option.some Bool.false))
                                                fun (v : Bool) =>
                                                bnd
                                                  (ctl v
                                                    (Option.some
                                                      ((nth (RV.p PV.nilp) r_4.fst 0).toPV.toInt ==
                                                        IntKind.i64.wrap
                                                          (0 -
                                                            (nth AV.undef
                                                                  (nth (Blk.box []) p.snd.blks 0).toCs 2).toPV.toInt)))
                                                    (Option.some Bool.false))
                                                  fun (v : Bool) =>
                                                  bnd
                                                    (ctl v
                                                      (Option.some
                                                        ((nth (RV.p PV.nilp) r_4.fst 1).toPV.toInt ==
                                                          (nth AV.undef
                                                                (nth (Blk.box []) p.snd.blks 0).toCs 2).toPV.toInt))
                                                      (Option.some Bool.false))
                                                    fun (v : Bool) =>
                                                    bnd
                                                      (ctl v
                                                        (bnd (F 14 [] []) fun (r : Res) =>
                                                          ctl
                                                            (okR [RSh.one Sh.bool] r.fst &&
                                                              okB [] r.snd)
                                                            (Option.some (nth (RV.p PV.nilp) r.fst 0).toPV.toBool) Option.none)
                                                        (Option.some Bool.false))
                                                      fun (v : Bool) => Option.some ([RV.p (PV.bool v)], []))))
                                          Option.none)
                                      Option.none)
                                  Option.none)
                                (ctl (p.fst.eqb Ex.ret)
                                  (ctl (okPack { slots := [(2, Sum.inl Sh.bool)], blks := [] } p.snd)
                                    (Option.some
                                      ([RV.p (PV.bool (nth AV.undef p.snd.vals 0).toPV.toBool)],
                                        []))
                                    Option.none)
                                  Option.none))
                            Option.none)
                        Option.none)
                      Option.none)
                  Option.none)
                Option.none)
            Option.none)
          Option.none)
      Option.none := by kernel_rfl

end Go.Proofs.Ytldeniedmbgnaaa.Vm
