/- The raw theorems, by program: what each function and each loop comes to. -/
import Derived.Test.YtpemmbkflddhoaaEnv
import Derived.Test.YtpemmbkflddhoaaVm34
import Derived.KernelRfl
namespace Go.Proofs.Ytpemmbkflddhoaa.Vm
open Go
set_option maxRecDepth 100000
set_option linter.unusedVariables false

/-- dynpos/dynposlaw02.AngleExact, the loop of block 0 -/
theorem r7_0 (F : Fun) (a1 : Int) (b2 : Int) (x3 : Int) (y4 : Int) (x30_0 : Int) (x30_1 : Int) (x30_2 : Int) (x30_3 : Int) (x31 : Int) (b0_0 : Int) (b0_1 : Int) (b1_0 : List (List PV)) (b1_1 : Int) : lp E F 7 0 [] 0
  {
    vals :=
      [AV.int IntKind.i64 a1, AV.int IntKind.i64 b2, AV.int IntKind.i64 x3,
        AV.int IntKind.i64 y4,
        AV.agg
          [PV.int IntKind.i64 x30_0, PV.int IntKind.i64 x30_1, PV.int IntKind.i64 x30_2,
            PV.int IntKind.i64 x30_3],
        AV.int IntKind.i64 x31],
    blks :=
      [Blk.box [AV.int IntKind.i64 b0_0, AV.int IntKind.i64 b0_1],
        Blk.box [AV.sl 1 b1_0, AV.int IntKind.i64 b1_1]] } =
  ctl (ltB x31 4)
    (getE
      [[PV.int IntKind.i64 x30_0], [PV.int IntKind.i64 x30_1], [PV.int IntKind.i64 x30_2],
        [PV.int IntKind.i64 x30_3]]
      x31 fun (c : List PV) =>
      ctl (okCs [Sh.int IntKind.i64] c)
        (bnd (F 9 [AV.int IntKind.i64 (nth PV.nilp c 0).toInt] [])
          fun (r : Res) =>
          ctl
            (okR [RSh.one (Sh.int IntKind.i64)] r.fst && okB [] r.snd)
            (bnd (F 20 [AV.int IntKind.i64 (nth PV.nilp c 0).toInt] [])
              fun (r_1 : Res) =>
              ctl
                (okR [RSh.one (Sh.int IntKind.i64)] r_1.fst && okB [] r_1.snd)
                (bnd
                  (ctl
                    (!(nth (RV.p PV.nilp) r.fst 0).toPV.toInt !=
                        (nth (RV.p PV.nilp) r_1.fst 0).toPV.toInt)
                    (bnd (F 10 [AV.int IntKind.i64 (nth PV.nilp c 0).toInt] [])
                      fun (r : Res) =>
                      ctl
                        (okR [RSh.one (Sh.int IntKind.i64)] r.fst && okB [] r.snd)
                        (bnd (F 21 [AV.int IntKind.i64 (nth PV.nilp c 0).toInt] [])
                          fun (r_2 : Res) =>
                          ctl
                            (okR [RSh.one (Sh.int IntKind.i64)] r_2.fst && okB [] r_2.snd)
                            (Option.some
                              ((nth (RV.p PV.nilp) r.fst 0).toPV.toInt !=
                                (nth (RV.p PV.nilp) r_2.fst 0).toPV.toInt))
                            Option.none)
                        Option.none)
                    (Option.some Bool.true))
                  fun (v : Bool) =>
                  bnd
                    (ctl (!v)
                      (bnd (F 11 [AV.int IntKind.i64 (nth PV.nilp c 0).toInt] [])
                        fun (r : Res) =>
                        ctl
                          (okR [RSh.one (Sh.int IntKind.i64)] r.fst && okB [] r.snd)
                          (bnd (F 22 [AV.int IntKind.i64 (nth PV.nilp c 0).toInt] [])
                            fun (r_2 : Res) =>
                            ctl
                              (okR [RSh.one (Sh.int IntKind.i64)] r_2.fst && okB [] r_2.snd)
                              (Option.some
                                ((nth (RV.p PV.nilp) r.fst 0).toPV.toInt !=
                                  (nth (RV.p PV.nilp) r_2.fst 0).toPV.toInt))
                              Option.none)
                          Option.none)
                      (Option.some Bool.true))
                    fun (v : Bool) =>
                    ctl v (Option.some (Ex.ret, { vals := [AV.bool Bool.false], blks := [] }))
                      (bnd
                        (F 18 [AV.t (TV.ptr 0 0), AV.int IntKind.i64 3600]
                          [Blk.box [AV.sl 1 b1_0, AV.int IntKind.i64 b1_1]])
                        fun (r : Res) =>
                        ctl
                          (okR [RSh.one (Sh.int IntKind.i64)] r.fst &&
                            okB [Sum.inl [Sh.sl 1, Sh.int IntKind.i64]] r.snd)
                          (bnd
                            (lp E F 7 0 [] 2
                              {
                                vals :=
                                  [AV.int IntKind.i64 a1, AV.int IntKind.i64 b2, AV.int IntKind.i64 x3,
                                    AV.int IntKind.i64 y4,
                                    AV.int IntKind.i64 (nth PV.nilp c 0).toInt,
                                    AV.agg
                                      [PV.int IntKind.i64 x30_0, PV.int IntKind.i64 x30_1, PV.int IntKind.i64 x30_2,
                                        PV.int IntKind.i64 x30_3],
                                    AV.int IntKind.i64 x31,
                                    AV.agg
                                      [PV.int IntKind.i64 a1, PV.int IntKind.i64 b2,
                                        PV.int IntKind.i64
                                          (nth (RV.p PV.nilp) r.fst 0).toPV.toInt],
                                    AV.int IntKind.i64 0],
                                blks :=
                                  [Blk.box [AV.int IntKind.i64 b0_0, AV.int IntKind.i64 b0_1],
                                    Blk.box
                                      [AV.sl 1
                                          (nth PV.nilp
                                              (List.map AV.toPV (nth (Blk.box []) r.snd 0).toCs) 0).toEs,
                                        AV.int IntKind.i64
                                          (nth PV.nilp
                                              (List.map AV.toPV (nth (Blk.box []) r.snd 0).toCs) 1).toInt]] })
                            fun (p : Ex × Pack) =>
                            ctl (p.fst.eqb (Ex.exit 2))
                              (ctl
                                (okPack
                                  {
                                    slots :=
                                      [(1, Sum.inl (Sh.int IntKind.i64)), (2, Sum.inl (Sh.int IntKind.i64)),
                                        (3, Sum.inl (Sh.int IntKind.i64)), (4, Sum.inl (Sh.int IntKind.i64)),
                                        (11, Sum.inr (Sum.inr (AV.t (TV.ptr 0 0)))),
                                        (13, Sum.inr (Sum.inr (AV.t (TV.ptr 1 0)))), (15, Sum.inl (Sh.int IntKind.i64)),
                                        (30,
                                          Sum.inr
                                            (Sum.inl
                                              [Sh.int IntKind.i64, Sh.int IntKind.i64, Sh.int IntKind.i64,
                                                Sh.int IntKind.i64])),
                                        (31, Sum.inl (Sh.int IntKind.i64))],
                                    blks :=
                                      [Sum.inl [Sum.inl (Sh.int IntKind.i64), Sum.inl (Sh.int IntKind.i64)],
                                        Sum.inl [Sum.inl (Sh.sl 1), Sum.inl (Sh.int IntKind.i64)]] }
                                  p.snd)
                                (bnd
                                  (F 24
                                    [AV.t (TV.ptr 0 0), AV.int IntKind.i64 (-50),
                                      AV.int IntKind.i64 50]
                                    [Blk.box
                                        [AV.sl 1
                                            (nth AV.undef (nth (Blk.box []) p.snd.blks 1).toCs
                                                  0).toPV.toEs,
                                          AV.int IntKind.i64
                                            (nth AV.undef (nth (Blk.box []) p.snd.blks 1).toCs
                                                  1).toPV.toInt]])
                                  fun (r : Res) =>
                                  ctl
                                    (okR [RSh.one (Sh.int IntKind.i64)] r.fst &&
                                      okB [Sum.inl [Sh.sl 1, Sh.int IntKind.i64]] r.snd)
                                    (bnd
                                      (F 24
                                        [AV.t (TV.ptr 0 0), AV.int IntKind.i64 (-50),
                                          AV.int IntKind.i64 50]
                                        [Blk.box
                                            [AV.sl 1
                                                (nth PV.nilp
                                                    (List.map AV.toPV (nth (Blk.box []) r.snd 0).toCs) 0).toEs,
                                              AV.int IntKind.i64
                                                (nth PV.nilp
                                                    (List.map AV.toPV (nth (Blk.box []) r.snd 0).toCs) 1).toInt]])
                                      fun (r_2 : Res) =>
                                      ctl
                                        (okR [RSh.one (Sh.int IntKind.i64)] r_2.fst &&
                                          okB [Sum.inl [Sh.sl 1, Sh.int IntKind.i64]] r_2.snd)
                                        (bnd
                                          (F 24
                                            [AV.t (TV.ptr 0 0), AV.int IntKind.i64 (-2),
                                              AV.int IntKind.i64 2]
                                            [Blk.box
                                                [AV.sl 1
                                                    (nth PV.nilp
                                                        (List.map AV.toPV (nth (Blk.box []) r_2.snd 0).toCs) 0).toEs,
                                                  AV.int IntKind.i64
                                                    (nth PV.nilp
                                                        (List.map AV.toPV (nth (Blk.box []) r_2.snd 0).toCs) 1).toInt]])
                                          fun (r_3 : Res) =>
                                          ctl
                                            (okR [RSh.one (Sh.int IntKind.i64)] r_3.fst &&
                                              okB [Sum.inl [Sh.sl 1, Sh.int IntKind.i64]] r_3.snd)
                                            (bnd
                                              (F 19 [AV.t (TV.ptr 0 0)]
                                                [Blk.box
                                                    [AV.sl 1
                                                        (nth PV.nilp
                                                            (List.map AV.toPV (nth (Blk.box []) r_3.snd 0).toCs) 0).toEs,
                                                      AV.int IntKind.i64
                                                        (nth PV.nilp
                                                            (List.map AV.toPV (nth (Blk.box []) r_3.snd 0).toCs) 1).toInt]])
                                              fun (r_4 : Res) =>
                                              ctl
                                                (okR [RSh.one (Sh.int IntKind.i64)] r_4.fst &&
                                                  okB [Sum.inl [Sh.sl 1, Sh.int IntKind.i64]] r_4.snd)
                                                (bnd
                                                  (F 19 [AV.t (TV.ptr 0 0)]
                                                    [Blk.box
                                                        [AV.sl 1
                                                            (nth PV.nilp
                                                                (List.map AV.toPV (nth (Blk.box []) r_4.snd 0).toCs) 0).toEs,
                                                          AV.int IntKind.i64
                                                            (nth PV.nilp
                                                                (List.map AV.toPV (nth (Blk.box []) r_4.snd 0).toCs) 1).toInt]])
                                                  fun (r_5 : Res) =>
                                                  ctl
                                                    (okR [RSh.one (Sh.int IntKind.i64)] r_5.fst &&
                                                      okB [Sum.inl [Sh.sl 1, Sh.int IntKind.i64]] r_5.snd)
                                                    (bnd
                                                      (lp E F 7 0 [] 4
                                                        {
                                                          vals :=
                                                            [AV.int IntKind.i64 (nth AV.undef p.snd.vals 0).toPV.toInt,
                                                              AV.int IntKind.i64 (nth AV.undef p.snd.vals 1).toPV.toInt,
                                                              AV.int IntKind.i64 (nth AV.undef p.snd.vals 2).toPV.toInt,
                                                              AV.int IntKind.i64 (nth AV.undef p.snd.vals 3).toPV.toInt,
                                                              AV.int IntKind.i64 (nth AV.undef p.snd.vals 4).toPV.toInt,
                                                              AV.agg
                                                                [PV.int IntKind.i64
                                                                    (nth PV.nilp
                                                                        (nth AV.undef p.snd.vals 5).toCs 0).toInt,
                                                                  PV.int IntKind.i64
                                                                    (nth PV.nilp
                                                                        (nth AV.undef p.snd.vals 5).toCs 1).toInt,
                                                                  PV.int IntKind.i64
                                                                    (nth PV.nilp
                                                                        (nth AV.undef p.snd.vals 5).toCs 2).toInt,
                                                                  PV.int IntKind.i64
                                                                    (nth PV.nilp
                                                                        (nth AV.undef p.snd.vals 5).toCs 3).toInt],
                                                              AV.int IntKind.i64 (nth AV.undef p.snd.vals 6).toPV.toInt,
                                                              AV.agg
                                                                [PV.int IntKind.i64 (nth AV.undef p.snd.vals 2).toPV.toInt,
                                                                  PV.int IntKind.i64 (nth AV.undef p.snd.vals 3).toPV.toInt,
                                                                  PV.int IntKind.i64
                                                                    (nth (RV.p PV.nilp) r.fst 0).toPV.toInt,
                                                                  PV.int IntKind.i64
                                                                    (nth (RV.p PV.nilp) r_2.fst 0).toPV.toInt,
                                                                  PV.int IntKind.i64 0,
                                                                  PV.int IntKind.i64
                                                                    (nth (RV.p PV.nilp) r_3.fst 0).toPV.toInt,
                                                                  PV.int IntKind.i64
                                                                    (nth (RV.p PV.nilp) r_4.fst 0).toPV.toInt,
                                                                  PV.int IntKind.i64
                                                                    (nth (RV.p PV.nilp) r_5.fst 0).toPV.toInt],
                                                              AV.int IntKind.i64 0],
                                                          blks :=
                                                            [Blk.box
                                                                [AV.int IntKind.i64
                                                                    (nth AV.undef
                                                                          (nth (Blk.box []) p.snd.blks 0).toCs 0).toPV.toInt,
                                                                  AV.int IntKind.i64
                                                                    (nth AV.undef
                                                                          (nth (Blk.box []) p.snd.blks 0).toCs 1).toPV.toInt],
                                                              Blk.box
                                                                [AV.sl 1
                                                                    (nth PV.nilp
                                                                        (List.map AV.toPV (nth (Blk.box []) r_5.snd 0).toCs)
                                                                        0).toEs,
                                                                  AV.int IntKind.i64
                                                                    (nth PV.nilp
                                                                        (List.map AV.toPV (nth (Blk.box []) r_5.snd 0).toCs)
                                                                        1).toInt]] })
                                                      fun (p : Ex × Pack) =>
                                                      ctl (p.fst.eqb (Ex.exit 4))
                                                        (ctl
                                                          (okPack
                                                            {
                                                              slots :=
                                                                [(1, Sum.inl (Sh.int IntKind.i64)), (2, Sum.inl (Sh.int IntKind.i64)),
                                                                  (3, Sum.inl (Sh.int IntKind.i64)), (4, Sum.inl (Sh.int IntKind.i64)),
                                                                  (11, Sum.inr (Sum.inr (AV.t (TV.ptr 0 0)))),
                                                                  (13, Sum.inr (Sum.inr (AV.t (TV.ptr 1 0)))),
                                                                  (30,
                                                                    Sum.inr
                                                                      (Sum.inl
                                                                        [Sh.int IntKind.i64, Sh.int IntKind.i64,
                                                                          Sh.int IntKind.i64, Sh.int IntKind.i64])),
                                                                  (31, Sum.inl (Sh.int IntKind.i64))],
                                                              blks :=
                                                                [Sum.inl [Sum.inl (Sh.int IntKind.i64), Sum.inl (Sh.int IntKind.i64)],
                                                                  Sum.inl [Sum.inl (Sh.sl 1), Sum.inl (Sh.int IntKind.i64)]] }
                                                            p.snd)
                                                          (lp E F 7 0 [] 0
                                                            {
                                                              vals :=
                                                                [AV.int IntKind.i64 (nth AV.undef p.snd.vals 0).toPV.toInt,
                                                                  AV.int IntKind.i64 (nth AV.undef p.snd.vals 1).toPV.toInt,
                                                                  AV.int IntKind.i64 (nth AV.undef p.snd.vals 2).toPV.toInt,
                                                                  AV.int IntKind.i64 (nth AV.undef p.snd.vals 3).toPV.toInt,
                                                                  AV.agg
                                                                    [PV.int IntKind.i64
                                                                        (nth PV.nilp
                                                                            (nth AV.undef p.snd.vals 4).toCs 0).toInt,
                                                                      PV.int IntKind.i64
                                                                        (nth PV.nilp
                                                                            (nth AV.undef p.snd.vals 4).toCs 1).toInt,
                                                                      PV.int IntKind.i64
                                                                        (nth PV.nilp
                                                                            (nth AV.undef p.snd.vals 4).toCs 2).toInt,
                                                                      PV.int IntKind.i64
                                                                        (nth PV.nilp
                                                                            (nth AV.undef p.snd.vals 4).toCs 3).toInt],
                                                                  AV.int IntKind.i64
                                                                    (IntKind.i64.wrap ((nth AV.undef p.snd.vals 5).toPV.toInt + 1))],
                                                              blks :=
                                                                [Blk.box
                                                                    [AV.int IntKind.i64
                                                                        (nth AV.undef
                                                                              (nth (Blk.box []) p.snd.blks 0).toCs 0).toPV.toInt,
                                                                      AV.int IntKind.i64
                                                                        (nth AV.undef
                                                                              (nth (Blk.box []) p.snd.blks 0).toCs 1).toPV.toInt],
                                                                  Blk.box
                                                                    [AV.sl 1
                                                                        (nth AV.undef
                                                                              (nth (Blk.box []) p.snd.blks 1).toCs 0).toPV.toEs,
                                                                      AV.int IntKind.i64
                                                                        (nth AV.undef
                                                                              (nth (Blk.box []) p.snd.blks 1).toCs 1).toPV.toInt]] })
                                                          Option.none)
                                                        (ctl (p.fst.eqb Ex.ret)
                                                          (ctl (okPack { slots := [(12, Sum.inl Sh.bool)], blks := [] } p.snd)
                                                            (Option.some
                                                              (Ex.ret,
                                                                { vals := [AV.bool (nth AV.undef p.snd.vals 0).toPV.toBool],
                                                                  blks := [] }))
                                                            Option.none)
                                                          Option.none))
                                                    Option.none)
                                                Option.none)
                                            Option.none)
                                        Option.none)
                                    Option.none)
                                Option.none)
                              (ctl (p.fst.eqb Ex.ret)
                                (ctl (okPack { slots := [(12, Sum.inl Sh.bool)], blks := [] } p.snd)
                                  (Option.some
                                    (Ex.ret,
                                      { vals := [AV.bool (nth AV.undef p.snd.vals 0).toPV.toBool], blks := [] }))
                                  Option.none)
                                Option.none))
                          Option.none))
                Option.none)
            Option.none)
        Option.none)
    (Option.some (Ex.exit 0, { vals := [], blks := [] })) := (lp_unfold ..).trans (by kernel_rfl)

/-- dynpos/dynposlaw02.AngleExact, the loop of block 2 -/
theorem r7_2 (F : Fun) (a1 : Int) (b2 : Int) (x3 : Int) (y4 : Int) (p15 : Int) (x30_0 : Int) (x30_1 : Int) (x30_2 : Int) (x30_3 : Int) (x31 : Int) (x57_0 : Int) (x57_1 : Int) (x57_2 : Int) (x58 : Int) (b0_0 : Int) (b0_1 : Int) (b1_0 : List (List PV)) (b1_1 : Int) : lp E F 7 0 [] 2
  {
    vals :=
      [AV.int IntKind.i64 a1, AV.int IntKind.i64 b2, AV.int IntKind.i64 x3,
        AV.int IntKind.i64 y4, AV.int IntKind.i64 p15,
        AV.agg
          [PV.int IntKind.i64 x30_0, PV.int IntKind.i64 x30_1, PV.int IntKind.i64 x30_2,
            PV.int IntKind.i64 x30_3],
        AV.int IntKind.i64 x31,
        AV.agg
          [PV.int IntKind.i64 x57_0, PV.int IntKind.i64 x57_1, PV.int IntKind.i64 x57_2],
        AV.int IntKind.i64 x58],
    blks :=
      [Blk.box [AV.int IntKind.i64 b0_0, AV.int IntKind.i64 b0_1],
        Blk.box [AV.sl 1 b1_0, AV.int IntKind.i64 b1_1]] } =
  ctl (ltB x58 3)
    (getE
      [[PV.int IntKind.i64 x57_0], [PV.int IntKind.i64 x57_1], [PV.int IntKind.i64 x57_2]] x58
      fun (c : List PV) =>
      ctl (okCs [Sh.int IntKind.i64] c)
        (bnd
          (F 12 [AV.int IntKind.i64 p15, AV.int IntKind.i64 (nth PV.nilp c 0).toInt] [])
          fun (r : Res) =>
          ctl
            (okR [RSh.one (Sh.int IntKind.i64)] r.fst && okB [] r.snd)
            (bnd
              (F 23 [AV.int IntKind.i64 p15, AV.int IntKind.i64 (nth PV.nilp c 0).toInt] [])
              fun (r_1 : Res) =>
              ctl
                (okR [RSh.one (Sh.int IntKind.i64)] r_1.fst && okB [] r_1.snd)
                (ctl
                  ((nth (RV.p PV.nilp) r.fst 0).toPV.toInt !=
                    (nth (RV.p PV.nilp) r_1.fst 0).toPV.toInt)
                  (Option.some (Ex.ret, { vals := [AV.bool Bool.false], blks := [] }))
                  (lp E F 7 0 [] 2
                    {
                      vals :=
                        [AV.int IntKind.i64 a1, AV.int IntKind.i64 b2, AV.int IntKind.i64 x3,
                          AV.int IntKind.i64 y4, AV.int IntKind.i64 p15,
                          AV.agg
                            [PV.int IntKind.i64 x30_0, PV.int IntKind.i64 x30_1, PV.int IntKind.i64 x30_2,
                              PV.int IntKind.i64 x30_3],
                          AV.int IntKind.i64 x31,
                          AV.agg
                            [PV.int IntKind.i64 x57_0, PV.int IntKind.i64 x57_1, PV.int IntKind.i64 x57_2],
                          AV.int IntKind.i64 (IntKind.i64.wrap (x58 + 1))],
                      blks :=
                        [Blk.box [AV.int IntKind.i64 b0_0, AV.int IntKind.i64 b0_1],
                          Blk.box [AV.sl 1 b1_0, AV.int IntKind.i64 b1_1]] }))
                Option.none)
            Option.none)
        Option.none)
    (Option.some
      (Ex.exit 2,
        {
          vals :=
            [AV.int IntKind.i64 a1, AV.int IntKind.i64 b2, AV.int IntKind.i64 x3,
              AV.int IntKind.i64 y4, AV.int IntKind.i64 p15,
              AV.agg
                [PV.int IntKind.i64 x30_0, PV.int IntKind.i64 x30_1, PV.int IntKind.i64 x30_2,
                  PV.int IntKind.i64 x30_3],
              AV.int IntKind.i64 x31],
          blks :=
            [Blk.box [AV.int IntKind.i64 b0_0, AV.int IntKind.i64 b0_1],
              Blk.box [AV.sl 1 b1_0, AV.int IntKind.i64 b1_1]] })) := (lp_unfold ..).trans (by kernel_rfl)

/-- dynpos/dynposlaw02.AngleExact, the loop of block 4 -/
theorem r7_4 (F : Fun) (a1 : Int) (b2 : Int) (x3 : Int) (y4 : Int) (p15 : Int) (x30_0 : Int) (x30_1 : Int) (x30_2 : Int) (x30_3 : Int) (x31 : Int) (x85_0 : Int) (x85_1 : Int) (x85_2 : Int) (x85_3 : Int) (x85_4 : Int) (x85_5 : Int) (x85_6 : Int) (x85_7 : Int) (x86 : Int) (b0_0 : Int) (b0_1 : Int) (b1_0 : List (List PV)) (b1_1 : Int) : lp E F 7 0 [] 4
  {
    vals :=
      [AV.int IntKind.i64 a1, AV.int IntKind.i64 b2, AV.int IntKind.i64 x3,
        AV.int IntKind.i64 y4, AV.int IntKind.i64 p15,
        AV.agg
          [PV.int IntKind.i64 x30_0, PV.int IntKind.i64 x30_1, PV.int IntKind.i64 x30_2,
            PV.int IntKind.i64 x30_3],
        AV.int IntKind.i64 x31,
        AV.agg
          [PV.int IntKind.i64 x85_0, PV.int IntKind.i64 x85_1, PV.int IntKind.i64 x85_2,
            PV.int IntKind.i64 x85_3, PV.int IntKind.i64 x85_4, PV.int IntKind.i64 x85_5,
            PV.int IntKind.i64 x85_6, PV.int IntKind.i64 x85_7],
        AV.int IntKind.i64 x86],
    blks :=
      [Blk.box [AV.int IntKind.i64 b0_0, AV.int IntKind.i64 b0_1],
        Blk.box [AV.sl 1 b1_0, AV.int IntKind.i64 b1_1]] } =
  ctl (ltB x86 4)
    (getE
      [[PV.int IntKind.i64 x85_0, PV.int IntKind.i64 x85_1],
        [PV.int IntKind.i64 x85_2, PV.int IntKind.i64 x85_3],
        [PV.int IntKind.i64 x85_4, PV.int IntKind.i64 x85_5],
        [PV.int IntKind.i64 x85_6, PV.int IntKind.i64 x85_7]]
      x86 fun (c : List PV) =>
      ctl (okCs [Sh.int IntKind.i64, Sh.int IntKind.i64] c)
        (bnd
          (F 16
            [AV.int IntKind.i64 p15, AV.int IntKind.i64 (nth PV.nilp c 0).toInt,
              AV.int IntKind.i64 (nth PV.nilp c 1).toInt]
            [])
          fun (r : Res) =>
          ctl
            (okR [RSh.one (Sh.int IntKind.i64)] r.fst && okB [] r.snd)
            (bnd
              (F 25
                [AV.int IntKind.i64 p15, AV.int IntKind.i64 (nth PV.nilp c 0).toInt,
                  AV.int IntKind.i64 (nth PV.nilp c 1).toInt]
                [])
              fun (r_1 : Res) =>
              ctl
                (okR [RSh.one (Sh.int IntKind.i64)] r_1.fst && okB [] r_1.snd)
                (ctl
                  ((nth (RV.p PV.nilp) r.fst 0).toPV.toInt !=
                    (nth (RV.p PV.nilp) r_1.fst 0).toPV.toInt)
                  (Option.some (Ex.ret, { vals := [AV.bool Bool.false], blks := [] }))
                  (bnd
                    (F 15 [AV.t (TV.ptr 0 0)]
                      [Blk.box [AV.sl 1 b1_0, AV.int IntKind.i64 b1_1]])
                    fun (r : Res) =>
                    ctl
                      (okR [RSh.agg [Sh.int IntKind.i64, Sh.int IntKind.i64]] r.fst &&
                        okB [Sum.inl [Sh.sl 1, Sh.int IntKind.i64]] r.snd)
                      (bnd
                        (F 24
                          [AV.t (TV.ptr 0 0), AV.int IntKind.i64 (-5),
                            AV.int IntKind.i64 3605]
                          [Blk.box
                              [AV.sl 1
                                  (nth PV.nilp
                                      (List.map AV.toPV (nth (Blk.box []) r.snd 0).toCs) 0).toEs,
                                AV.int IntKind.i64
                                  (nth PV.nilp
                                      (List.map AV.toPV (nth (Blk.box []) r.snd 0).toCs) 1).toInt]])
                        fun (r_2 : Res) =>
                        ctl
                          (okR [RSh.one (Sh.int IntKind.i64)] r_2.fst &&
                            okB [Sum.inl [Sh.sl 1, Sh.int IntKind.i64]] r_2.snd)
                          (bnd
                            (F 24
                              [AV.t (TV.ptr 0 0), AV.int IntKind.i64 (-5),
                                AV.int IntKind.i64 3605]
                              [Blk.box
                                  [AV.sl 1
                                      (nth PV.nilp
                                          (List.map AV.toPV (nth (Blk.box []) r_2.snd 0).toCs) 0).toEs,
                                    AV.int IntKind.i64
                                      (nth PV.nilp
                                          (List.map AV.toPV (nth (Blk.box []) r_2.snd 0).toCs) 1).toInt]])
                            fun (r_3 : Res) =>
                            ctl
                              (okR [RSh.one (Sh.int IntKind.i64)] r_3.fst &&
                                okB [Sum.inl [Sh.sl 1, Sh.int IntKind.i64]] r_3.snd)
                              (bnd
                                (lp E F 7 0 [] 6
                                  {
                                    vals :=
                                      [AV.int IntKind.i64 a1, AV.int IntKind.i64 b2, AV.int IntKind.i64 x3,
                                        AV.int IntKind.i64 y4, AV.int IntKind.i64 p15,
                                        AV.agg
                                          [PV.int IntKind.i64 x30_0, PV.int IntKind.i64 x30_1, PV.int IntKind.i64 x30_2,
                                            PV.int IntKind.i64 x30_3],
                                        AV.int IntKind.i64 x31,
                                        AV.agg
                                          [PV.int IntKind.i64 x85_0, PV.int IntKind.i64 x85_1, PV.int IntKind.i64 x85_2,
                                            PV.int IntKind.i64 x85_3, PV.int IntKind.i64 x85_4,
                                            PV.int IntKind.i64 x85_5, PV.int IntKind.i64 x85_6,
                                            PV.int IntKind.i64 x85_7],
                                        AV.int IntKind.i64 x86,
                                        AV.agg
                                          [PV.int IntKind.i64 b0_0, PV.int IntKind.i64 b0_1,
                                            PV.int IntKind.i64
                                              (nth PV.nilp
                                                  (nth (RV.p PV.nilp) r.fst 0).toCs 0).toInt,
                                            PV.int IntKind.i64
                                              (nth PV.nilp
                                                  (nth (RV.p PV.nilp) r.fst 0).toCs 1).toInt,
                                            PV.int IntKind.i64
                                              (nth (RV.p PV.nilp) r_2.fst 0).toPV.toInt,
                                            PV.int IntKind.i64
                                              (nth (RV.p PV.nilp) r_3.fst 0).toPV.toInt],
                                        AV.int IntKind.i64 0],
                                    blks :=
                                      [Blk.box [AV.int IntKind.i64 b0_0, AV.int IntKind.i64 b0_1],
                                        Blk.box
                                          [AV.sl 1
                                              (nth PV.nilp
                                                  (List.map AV.toPV (nth (Blk.box []) r_3.snd 0).toCs) 0).toEs,
                                            AV.int IntKind.i64
                                              (nth PV.nilp
                                                  (List.map AV.toPV (nth (Blk.box []) r_3.snd 0).toCs) 1).toInt],
                                        Blk.box
                                          [AV.int IntKind.i64 (nth PV.nilp c 0).toInt,
                                            AV.int IntKind.i64 (nth PV.nilp c 1).toInt]] })
                                fun (p : Ex × Pack) =>
                                ctl (p.fst.eqb (Ex.exit 6))
                                  (ctl
                                    (okPack
                                      {
                                        slots :=
                                          [(1, Sum.inl (Sh.int IntKind.i64)), (2, Sum.inl (Sh.int IntKind.i64)),
                                            (3, Sum.inl (Sh.int IntKind.i64)), (4, Sum.inl (Sh.int IntKind.i64)),
                                            (11, Sum.inr (Sum.inr (AV.t (TV.ptr 0 0)))),
                                            (13, Sum.inr (Sum.inr (AV.t (TV.ptr 1 0)))), (15, Sum.inl (Sh.int IntKind.i64)),
                                            (30,
                                              Sum.inr
                                                (Sum.inl
                                                  [Sh.int IntKind.i64, Sh.int IntKind.i64, Sh.int IntKind.i64,
                                                    Sh.int IntKind.i64])),
                                            (31, Sum.inl (Sh.int IntKind.i64)),
                                            (85,
                                              Sum.inr
                                                (Sum.inl
                                                  [Sh.int IntKind.i64, Sh.int IntKind.i64, Sh.int IntKind.i64,
                                                    Sh.int IntKind.i64, Sh.int IntKind.i64, Sh.int IntKind.i64,
                                                    Sh.int IntKind.i64, Sh.int IntKind.i64])),
                                            (86, Sum.inl (Sh.int IntKind.i64))],
                                        blks :=
                                          [Sum.inl [Sum.inl (Sh.int IntKind.i64), Sum.inl (Sh.int IntKind.i64)],
                                            Sum.inl [Sum.inl (Sh.sl 1), Sum.inl (Sh.int IntKind.i64)]] }
                                      p.snd)
                                    (lp E F 7 0 [] 4
                                      {
                                        vals :=
                                          [AV.int IntKind.i64 (nth AV.undef p.snd.vals 0).toPV.toInt,
                                            AV.int IntKind.i64 (nth AV.undef p.snd.vals 1).toPV.toInt,
                                            AV.int IntKind.i64 (nth AV.undef p.snd.vals 2).toPV.toInt,
                                            AV.int IntKind.i64 (nth AV.undef p.snd.vals 3).toPV.toInt,
                                            AV.int IntKind.i64 (nth AV.undef p.snd.vals 4).toPV.toInt,
                                            AV.agg
                                              [PV.int IntKind.i64
                                                  (nth PV.nilp (nth AV.undef p.snd.vals 5).toCs
                                                      0).toInt,
                                                PV.int IntKind.i64
                                                  (nth PV.nilp (nth AV.undef p.snd.vals 5).toCs
                                                      1).toInt,
                                                PV.int IntKind.i64
                                                  (nth PV.nilp (nth AV.undef p.snd.vals 5).toCs
                                                      2).toInt,
                                                PV.int IntKind.i64
                                                  (nth PV.nilp (nth AV.undef p.snd.vals 5).toCs
                                                      3).toInt],
                                            AV.int IntKind.i64 (nth AV.undef p.snd.vals 6).toPV.toInt,
                                            AV.agg
                                              [PV.int IntKind.i64
                                                  (nth PV.nilp (nth AV.undef p.snd.vals 7).toCs
                                                      0).toInt,
                                                PV.int IntKind.i64
                                                  (nth PV.nilp (nth AV.undef p.snd.vals 7).toCs
                                                      1).toInt,
                                                PV.int IntKind.i64
                                                  (nth PV.nilp (nth AV.undef p.snd.vals 7).toCs
                                                      2).toInt,
                                                PV.int IntKind.i64
                                                  (nth PV.nilp (nth AV.undef p.snd.vals 7).toCs
                                                      3).toInt,
                                                PV.int IntKind.i64
                                                  (nth PV.nilp (nth AV.undef p.snd.vals 7).toCs
                                                      4).toInt,
                                                PV.int IntKind.i64
                                                  (nth PV.nilp (nth AV.undef p.snd.vals 7).toCs
                                                      5).toInt,
                                                PV.int IntKind.i64
                                                  (nth PV.nilp (nth AV.undef p.snd.vals 7).toCs
                                                      6).toInt,
                                                PV.int IntKind.i64
                                                  (nth PV.nilp (nth AV.undef p.snd.vals 7).toCs
                                                      7).toInt],
                                            AV.int IntKind.i64
                                              (IntKind.i64.wrap ((nth AV.undef p.snd.vals 8).toPV.toInt + 1))],
                                        blks :=
                                          [Blk.box
                                              [AV.int IntKind.i64
                                                  (nth AV.undef
                                                        (nth (Blk.box []) p.snd.blks 0).toCs 0).toPV.toInt,
                                                AV.int IntKind.i64
                                                  (nth AV.undef
                                                        (nth (Blk.box []) p.snd.blks 0).toCs 1).toPV.toInt],
                                            Blk.box
                                              [AV.sl 1
                                                  (nth AV.undef
                                                        (nth (Blk.box []) p.snd.blks 1).toCs 0).toPV.toEs,
                                                AV.int IntKind.i64
                                                  (nth AV.undef
                                                        (nth (Blk.box []) p.snd.blks 1).toCs 1).toPV.toInt]] })
                                    Option.none)
                                  (ctl (p.fst.eqb Ex.ret)
                                    (ctl (okPack { slots := [(12, Sum.inl Sh.bool)], blks := [] } p.snd)
                                      (Option.some
                                        (Ex.ret,
                                          { vals := [AV.bool (nth AV.undef p.snd.vals 0).toPV.toBool], blks := [] }))
                                      Option.none)
                                    Option.none))
                              Option.none)
                          Option.none)
                      Option.none))
                Option.none)
            Option.none)
        Option.none)
    (Option.some
      (Ex.exit 4,
        {
          vals :=
            [AV.int IntKind.i64 a1, AV.int IntKind.i64 b2, AV.int IntKind.i64 x3,
              AV.int IntKind.i64 y4,
              AV.agg
                [PV.int IntKind.i64 x30_0, PV.int IntKind.i64 x30_1, PV.int IntKind.i64 x30_2,
                  PV.int IntKind.i64 x30_3],
              AV.int IntKind.i64 x31],
          blks :=
            [Blk.box [AV.int IntKind.i64 b0_0, AV.int IntKind.i64 b0_1],
              Blk.box [AV.sl 1 b1_0, AV.int IntKind.i64 b1_1]] })) := (lp_unfold ..).trans (by kernel_rfl)

/-- dynpos/dynposlaw02.AngleExact, the loop of block 6 -/
theorem r7_6 (F : Fun) (a1 : Int) (b2 : Int) (x3 : Int) (y4 : Int) (p15 : Int) (x30_0 : Int) (x30_1 : Int) (x30_2 : Int) (x30_3 : Int) (x31 : Int) (x85_0 : Int) (x85_1 : Int) (x85_2 : Int) (x85_3 : Int) (x85_4 : Int) (x85_5 : Int) (x85_6 : Int) (x85_7 : Int) (x86 : Int) (x110_0 : Int) (x110_1 : Int) (x110_2 : Int) (x110_3 : Int) (x110_4 : Int) (x110_5 : Int) (x111 : Int) (b0_0 : Int) (b0_1 : Int) (b1_0 : List (List PV)) (b1_1 : Int) (b2_0 : Int) (b2_1 : Int) : lp E F 7 0 [] 6
  {
    vals :=
      [AV.int IntKind.i64 a1, AV.int IntKind.i64 b2, AV.int IntKind.i64 x3,
        AV.int IntKind.i64 y4, AV.int IntKind.i64 p15,
        AV.agg
          [PV.int IntKind.i64 x30_0, PV.int IntKind.i64 x30_1, PV.int IntKind.i64 x30_2,
            PV.int IntKind.i64 x30_3],
        AV.int IntKind.i64 x31,
        AV.agg
          [PV.int IntKind.i64 x85_0, PV.int IntKind.i64 x85_1, PV.int IntKind.i64 x85_2,
            PV.int IntKind.i64 x85_3, PV.int IntKind.i64 x85_4, PV.int IntKind.i64 x85_5,
            PV.int IntKind.i64 x85_6, PV.int IntKind.i64 x85_7],
        AV.int IntKind.i64 x86,
        AV.agg
          [PV.int IntKind.i64 x110_0, PV.int IntKind.i64 x110_1, PV.int IntKind.i64 x110_2,
            PV.int IntKind.i64 x110_3, PV.int IntKind.i64 x110_4, PV.int IntKind.i64 x110_5],
        AV.int IntKind.i64 x111],
    blks :=
      [Blk.box [AV.int IntKind.i64 b0_0, AV.int IntKind.i64 b0_1],
        Blk.box [AV.sl 1 b1_0, AV.int IntKind.i64 b1_1],
        Blk.box [AV.int IntKind.i64 b2_0, AV.int IntKind.i64 b2_1]] } =
  ctl (ltB x111 3)
    (getE
      [[PV.int IntKind.i64 x110_0, PV.int IntKind.i64 x110_1],
        [PV.int IntKind.i64 x110_2, PV.int IntKind.i64 x110_3],
        [PV.int IntKind.i64 x110_4, PV.int IntKind.i64 x110_5]]
      x111 fun (c : List PV) =>
      ctl (okCs [Sh.int IntKind.i64, Sh.int IntKind.i64] c)
        (bnd
          (F 26
            [AV.agg
                [PV.int IntKind.i64 (nth PV.nilp c 0).toInt,
                  PV.int IntKind.i64 (nth PV.nilp c 1).toInt]]
            [])
          fun (r : Res) =>
          ctl (okR [RSh.one Sh.bool] r.fst && okB [] r.snd)
            (bnd
              (F 27
                [AV.agg
                    [PV.int IntKind.i64 (nth PV.nilp c 0).toInt,
                      PV.int IntKind.i64 (nth PV.nilp c 1).toInt]]
                [])
              fun (r_1 : Res) =>
              ctl (okR [RSh.one Sh.bool] r_1.fst && okB [] r_1.snd)
                (bnd
                  (ctl
                    (!!(nth (RV.p PV.nilp) r.fst 0).toPV.toBool ==
                          (nth (RV.p PV.nilp) r_1.fst 0).toPV.toBool)
                    (bnd
                      (F 28
                        [AV.agg
                            [PV.int IntKind.i64 (nth PV.nilp c 0).toInt,
                              PV.int IntKind.i64 (nth PV.nilp c 1).toInt]]
                        [])
                      fun (r : Res) =>
                      ctl
                        (okR [RSh.one (Sh.int IntKind.i64)] r.fst && okB [] r.snd)
                        (bnd
                          (F 29
                            [AV.agg
                                [PV.int IntKind.i64 (nth PV.nilp c 0).toInt,
                                  PV.int IntKind.i64 (nth PV.nilp c 1).toInt]]
                            [])
                          fun (r_2 : Res) =>
                          ctl
                            (okR [RSh.one (Sh.int IntKind.i64)] r_2.fst && okB [] r_2.snd)
                            (Option.some
                              ((nth (RV.p PV.nilp) r.fst 0).toPV.toInt !=
                                (nth (RV.p PV.nilp) r_2.fst 0).toPV.toInt))
                            Option.none)
                        Option.none)
                    (Option.some Bool.true))
                  fun (v : Bool) =>
                  bnd
                    (ctl (!v)
                      (bnd
                        (F 30
                          [AV.agg
                              [PV.int IntKind.i64 (nth PV.nilp c 0).toInt,
                                PV.int IntKind.i64 (nth PV.nilp c 1).toInt],
                            AV.int IntKind.i64 p15]
                          [])
                        fun (r : Res) =>
                        ctl
                          (okR [RSh.one Sh.bool] r.fst && okB [] r.snd)
                          (bnd
                            (F 31
                              [AV.agg
                                  [PV.int IntKind.i64 (nth PV.nilp c 0).toInt,
                                    PV.int IntKind.i64 (nth PV.nilp c 1).toInt],
                                AV.int IntKind.i64 p15]
                              [])
                            fun (r_2 : Res) =>
                            ctl
                              (okR [RSh.one Sh.bool] r_2.fst && okB [] r_2.snd)
                              (Option.some
                                !(nth (RV.p PV.nilp) r.fst 0).toPV.toBool ==
                                    (nth (RV.p PV.nilp) r_2.fst 0).toPV.toBool)
                              Option.none)
                          Option.none)
                      (Option.some Bool.true))
                    fun (v : Bool) =>
                    bnd
                      (ctl (!v)
                        (bnd
                          (F 17
                            [AV.agg
                                [PV.int IntKind.i64 (nth PV.nilp c 0).toInt,
                                  PV.int IntKind.i64 (nth PV.nilp c 1).toInt],
                              AV.int IntKind.i64 b2_0, AV.int IntKind.i64 b2_1]
                            [])
                          fun (r : Res) =>
                          ctl
                            (okR [RSh.one Sh.bool] r.fst && okB [] r.snd)
                            (bnd
                              (F 32
                                [AV.agg
                                    [PV.int IntKind.i64 (nth PV.nilp c 0).toInt,
                                      PV.int IntKind.i64 (nth PV.nilp c 1).toInt],
                                  AV.int IntKind.i64 b2_0, AV.int IntKind.i64 b2_1]
                                [])
                              fun (r_2 : Res) =>
                              ctl
                                (okR [RSh.one Sh.bool] r_2.fst && okB [] r_2.snd)
                                (Option.some
                                  !(nth (RV.p PV.nilp) r.fst 0).toPV.toBool ==
                                      (nth (RV.p PV.nilp) r_2.fst 0).toPV.toBool)
                                Option.none)
                            Option.none)
                        (Option.some Bool.true))
                      fun (v : Bool) =>
                      ctl v (Option.some (Ex.ret, { vals := [AV.bool Bool.false], blks := [] }))
                        (lp E F 7 0 [] 6
                          {
                            vals :=
                              [AV.int IntKind.i64 a1, AV.int IntKind.i64 b2, AV.int IntKind.i64 x3,
                                AV.int IntKind.i64 y4, AV.int IntKind.i64 p15,
                                AV.agg
                                  [PV.int IntKind.i64 x30_0, PV.int IntKind.i64 x30_1, PV.int IntKind.i64 x30_2,
                                    PV.int IntKind.i64 x30_3],
                                AV.int IntKind.i64 x31,
                                AV.agg
                                  [PV.int IntKind.i64 x85_0, PV.int IntKind.i64 x85_1, PV.int IntKind.i64 x85_2,
                                    PV.int IntKind.i64 x85_3, PV.int IntKind.i64 x85_4, PV.int IntKind.i64 x85_5,
                                    PV.int IntKind.i64 x85_6, PV.int IntKind.i64 x85_7],
                                AV.int IntKind.i64 x86,
                                AV.agg
                                  [PV.int IntKind.i64 x110_0, PV.int IntKind.i64 x110_1, PV.int IntKind.i64 x110_2,
                                    PV.int IntKind.i64 x110_3, PV.int IntKind.i64 x110_4, PV.int IntKind.i64 x110_5],
                                AV.int IntKind.i64 (IntKind.i64.wrap (x111 + 1))],
                            blks :=
                              [Blk.box [AV.int IntKind.i64 b0_0, AV.int IntKind.i64 b0_1],
                                Blk.box [AV.sl 1 b1_0, AV.int IntKind.i64 b1_1],
                                Blk.box [AV.int IntKind.i64 b2_0, AV.int IntKind.i64 b2_1]] }))
                Option.none)
            Option.none)
        Option.none)
    (Option.some
      (Ex.exit 6,
        {
          vals :=
            [AV.int IntKind.i64 a1, AV.int IntKind.i64 b2, AV.int IntKind.i64 x3,
              AV.int IntKind.i64 y4, AV.int IntKind.i64 p15,
              AV.agg
                [PV.int IntKind.i64 x30_0, PV.int IntKind.i64 x30_1, PV.int IntKind.i64 x30_2,
                  PV.int IntKind.i64 x30_3],
              AV.int IntKind.i64 x31,
              AV.agg
                [PV.int IntKind.i64 x85_0, PV.int IntKind.i64 x85_1, PV.int IntKind.i64 x85_2,
                  PV.int IntKind.i64 x85_3, PV.int IntKind.i64 x85_4, PV.int IntKind.i64 x85_5,
                  PV.int IntKind.i64 x85_6, PV.int IntKind.i64 x85_7],
              AV.int IntKind.i64 x86],
          blks :=
            [Blk.box [AV.int IntKind.i64 b0_0, AV.int IntKind.i64 b0_1],
              Blk.box [AV.sl 1 b1_0, AV.int IntKind.i64 b1_1]] })) := (lp_unfold ..).trans (by kernel_rfl)

/-- dynpos/dynposlaw02.AngleExact -/
theorem r7 (F : Fun) (t : List (List PV)) (a : Int) (b : Int) (x : Int) (y : Int) (raw0 : Int) (raw1 : Int) : funK E F 7 [AV.sl 1 t, AV.int IntKind.i64 a, AV.int IntKind.i64 b, AV.int IntKind.i64 x,
  AV.int IntKind.i64 y, AV.agg [PV.int IntKind.i64 raw0, PV.int IntKind.i64 raw1]] [] =
  bnd (F 14 [AV.sl 1 t] []) fun (r : Res) =>
    ctl
      (okR [RSh.ownp [Sh.sl 1, Sh.int IntKind.i64]] r.fst &&
        okB [] r.snd)
      (bnd
        (F 18 [AV.t (TV.ptr 0 0), AV.int IntKind.i64 3600]
          [Blk.box
              [AV.sl 1
                  (nth PV.nilp (nth (RV.p PV.nilp) r.fst 0).toCs
                      0).toEs,
                AV.int IntKind.i64
                  (nth PV.nilp (nth (RV.p PV.nilp) r.fst 0).toCs
                      1).toInt]])
        fun (r : Res) =>
        ctl
          (okR [RSh.one (Sh.int IntKind.i64)] r.fst &&
            okB [Sum.inl [Sh.sl 1, Sh.int IntKind.i64]] r.snd)
          (bnd
            (F 19 [AV.t (TV.ptr 0 0)]
              [Blk.box
                  [AV.sl 1
                      (nth PV.nilp
                          (List.map AV.toPV (nth (Blk.box []) r.snd 0).toCs) 0).toEs,
                    AV.int IntKind.i64
                      (nth PV.nilp
                          (List.map AV.toPV (nth (Blk.box []) r.snd 0).toCs) 1).toInt]])
            fun (r_1 : Res) =>
            ctl
              (okR [RSh.one (Sh.int IntKind.i64)] r_1.fst &&
                okB [Sum.inl [Sh.sl 1, Sh.int IntKind.i64]] r_1.snd)
              (bnd
                (lp E F 7 0 [] 0
                  {
                    vals :=
                      [AV.int IntKind.i64 a, AV.int IntKind.i64 b, AV.int IntKind.i64 x,
                        AV.int IntKind.i64 y,
                        AV.agg
                          [PV.int IntKind.i64 a, PV.int IntKind.i64 b,
                            PV.int IntKind.i64 (nth (RV.p PV.nilp) r.fst 0).toPV.toInt,
                            PV.int IntKind.i64 (nth (RV.p PV.nilp) r_1.fst 0).toPV.toInt],
                        AV.int IntKind.i64 0],
                    blks :=
                      [Blk.box [AV.int IntKind.i64 raw0, AV.int IntKind.i64 raw1],
                        Blk.box
                          [AV.sl 1
                              (nth PV.nilp
                                  (List.map AV.toPV (nth (Blk.box []) r_1.snd 0).toCs) 0).toEs,
                            AV.int IntKind.i64
                              (nth PV.nilp
                                  (List.map AV.toPV (nth (Blk.box []) r_1.snd 0).toCs) 1).toInt]] })
                fun (p : Ex × Pack) =>
                ctl (p.fst.eqb (Ex.exit 0))
                  (bnd (F 13 [] []) fun (r : Res) =>
                    ctl
                      (okR [RSh.one Sh.bool] r.fst && okB [] r.snd)
                      (Option.some
                        ([RV.p
                              (PV.bool (nth (RV.p PV.nilp) r.fst 0).toPV.toBool)],
                          []))
                      Option.none)
                  (ctl (p.fst.eqb Ex.ret)
                    (ctl (okPack { slots := [(12, Sum.inl Sh.bool)], blks := [] } p.snd)
                      (Option.some ([RV.p (PV.bool (nth AV.undef p.snd.vals 0).toPV.toBool)], []))
                      Option.none)
                    Option.none))
              Option.none)
          Option.none)
      Option.none := by kernel_rfl

end Go.Proofs.Ytpemmbkflddhoaa.Vm
