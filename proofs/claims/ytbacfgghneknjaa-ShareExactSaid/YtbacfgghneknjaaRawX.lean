/- The raw theorems, by program: what each function and each loop comes to. -/
import Derived.Test.YtbacfgghneknjaaEnv
import Derived.Test.YtbacfgghneknjaaVm34
import Derived.KernelRfl
namespace Go.Proofs.Ytbacfgghneknjaa.Vm
open Go
set_option maxRecDepth 100000
set_option linter.unusedVariables false

/-- dynpos/dynposlaw13.ShareExact, the loop of block 0 -/
theorem r7_0 (F : Fun) (total2 : Int) (x3 : List (List PV)) (x68_0 : List (List PV)) (x68_1 : List (List PV)) (x68_2 : List (List PV)) (x69 : Int) (b0_0 : List (List PV)) (b0_1 : Int) : lp E F 7 0 [] 0
  {
    vals :=
      [AV.int IntKind.i64 total2, AV.sl 1 x3,
        AV.agg [PV.sl 3 x68_0, PV.sl 3 x68_1, PV.sl 3 x68_2],
        AV.int IntKind.i64 x69],
    blks := [Blk.box [AV.sl 1 b0_0, AV.int IntKind.i64 b0_1]] } =
  ctl (ltB x69 3)
    (getE [[PV.sl 3 x68_0], [PV.sl 3 x68_1], [PV.sl 3 x68_2]] x69
      fun (c : List PV) =>
      ctl (okCs [Sh.sl 3] c)
        (bnd (F 11 [AV.sl 3 (nth PV.nilp c 0).toEs] [])
          fun (r : Res) =>
          ctl
            (okR
                [RSh.one (Sh.int IntKind.i64), RSh.one (Sh.int IntKind.i64),
                  RSh.one (Sh.int IntKind.i64)]
                r.fst &&
              okB [] r.snd)
            (bnd (F 17 [AV.sl 3 (nth PV.nilp c 0).toEs] [])
              fun (r_1 : Res) =>
              ctl
                (okR
                    [RSh.one (Sh.int IntKind.i64), RSh.one (Sh.int IntKind.i64),
                      RSh.one (Sh.int IntKind.i64)]
                    r_1.fst &&
                  okB [] r_1.snd)
                (bnd (F 22 [AV.sl 3 (nth PV.nilp c 0).toEs] [])
                  fun (r_2 : Res) =>
                  ctl
                    (okR [RSh.one (Sh.int IntKind.i64)] r_2.fst && okB [] r_2.snd)
                    (bnd (F 23 [AV.sl 3 (nth PV.nilp c 0).toEs] [])
                      fun (r_3 : Res) =>
                      ctl
                        (okR [RSh.one (Sh.int IntKind.i64)] r_3.fst && okB [] r_3.snd)
                        (bnd
                          (ctl
                            (!(nth (RV.p PV.nilp) r_2.fst 0).toPV.toInt !=
                                (nth (RV.p PV.nilp) r_3.fst 0).toPV.toInt)
                            (Option.some
                              ((nth (RV.p PV.nilp) r.fst 0).toPV.toInt !=
                                (nth (RV.p PV.nilp) r_1.fst 0).toPV.toInt))
                            (Option.some Bool.true))
                          fun (v : Bool) =>
                          bnd
                            (ctl (!v)
                              (Option.some
                                ((nth (RV.p PV.nilp) r.fst 1).toPV.toInt !=
                                  (nth (RV.p PV.nilp) r_1.fst 1).toPV.toInt))
                              (Option.some Bool.true))
                            fun (v : Bool) =>
                            bnd
                              (ctl (!v)
                                (Option.some
                                  ((nth (RV.p PV.nilp) r.fst 2).toPV.toInt !=
                                    (nth (RV.p PV.nilp) r_1.fst 2).toPV.toInt))
                                (Option.some Bool.true))
                              fun (v : Bool) =>
                              ctl v (Option.some (Ex.ret, { vals := [AV.bool Bool.false], blks := [] }))
                                (bnd
                                  (ctl ((nth (RV.p PV.nilp) r_1.fst 2).toPV.toInt == 0)
                                    (Option.some
                                      (ltB 30000
                                        (IntKind.i64.wrap
                                          ((nth (RV.p PV.nilp) r_1.fst 1).toPV.toInt -
                                            (nth (RV.p PV.nilp) r_1.fst 0).toPV.toInt))))
                                    (Option.some Bool.false))
                                  fun (v : Bool) =>
                                  ctl v
                                    (lp E F 7 0 [] 0
                                      {
                                        vals :=
                                          [AV.int IntKind.i64 total2, AV.sl 1 x3,
                                            AV.agg [PV.sl 3 x68_0, PV.sl 3 x68_1, PV.sl 3 x68_2],
                                            AV.int IntKind.i64 (IntKind.i64.wrap (x69 + 1))],
                                        blks := [Blk.box [AV.sl 1 b0_0, AV.int IntKind.i64 b0_1]] })
                                    (bnd
                                      (F 12
                                        [AV.t (TV.ptr 0 0), AV.int IntKind.i64 (-40),
                                          AV.int IntKind.i64 60]
                                        [Blk.box [AV.sl 1 b0_0, AV.int IntKind.i64 b0_1]])
                                      fun (r : Res) =>
                                      ctl
                                        (okR [RSh.one (Sh.int IntKind.i64)] r.fst &&
                                          okB [Sum.inl [Sh.sl 1, Sh.int IntKind.i64]] r.snd)
                                        (bnd
                                          (F 24 [AV.t (TV.ptr 0 0)]
                                            [Blk.box
                                                [AV.sl 1
                                                    (nth PV.nilp
                                                        (List.map AV.toPV (nth (Blk.box []) r.snd 0).toCs) 0).toEs,
                                                  AV.int IntKind.i64
                                                    (nth PV.nilp
                                                        (List.map AV.toPV (nth (Blk.box []) r.snd 0).toCs) 1).toInt]])
                                          fun (r_4 : Res) =>
                                          ctl
                                            (okR [RSh.one (Sh.int IntKind.i64)] r_4.fst &&
                                              okB [Sum.inl [Sh.sl 1, Sh.int IntKind.i64]] r_4.snd)
                                            (bnd
                                              (lp E F 7 0 [] 2
                                                {
                                                  vals :=
                                                    [AV.int IntKind.i64 total2, AV.sl 1 x3,
                                                      AV.sl 3 (nth PV.nilp c 0).toEs,
                                                      AV.agg
                                                        [PV.sl 3 x68_0, PV.sl 3 x68_1, PV.sl 3 x68_2],
                                                      AV.int IntKind.i64 x69,
                                                      AV.agg
                                                        [PV.int IntKind.i64 total2,
                                                          PV.int IntKind.i64
                                                            (nth (RV.p PV.nilp) r.fst 0).toPV.toInt,
                                                          PV.int IntKind.i64
                                                            (nth (RV.p PV.nilp) r_4.fst 0).toPV.toInt],
                                                      AV.int IntKind.i64 0],
                                                  blks :=
                                                    [Blk.box
                                                        [AV.sl 1
                                                            (nth PV.nilp
                                                                (List.map AV.toPV (nth (Blk.box []) r_4.snd 0).toCs) 0).toEs,
                                                          AV.int IntKind.i64
                                                            (nth PV.nilp
                                                                (List.map AV.toPV (nth (Blk.box []) r_4.snd 0).toCs)
                                                                1).toInt]] })
                                              fun (p : Ex × Pack) =>
                                              ctl (p.fst.eqb (Ex.exit 2))
                                                (ctl
                                                  (okPack
                                                    {
                                                      slots :=
                                                        [(2, Sum.inl (Sh.int IntKind.i64)), (3, Sum.inl (Sh.sl 1)),
                                                          (9, Sum.inr (Sum.inr (AV.t (TV.ptr 0 0)))),
                                                          (68, Sum.inr (Sum.inl [Sh.sl 3, Sh.sl 3, Sh.sl 3])),
                                                          (69, Sum.inl (Sh.int IntKind.i64))],
                                                      blks := [Sum.inl [Sum.inl (Sh.sl 1), Sum.inl (Sh.int IntKind.i64)]] }
                                                    p.snd)
                                                  (lp E F 7 0 [] 0
                                                    {
                                                      vals :=
                                                        [AV.int IntKind.i64 (nth AV.undef p.snd.vals 0).toPV.toInt,
                                                          AV.sl 1 (nth AV.undef p.snd.vals 1).toPV.toEs,
                                                          AV.agg
                                                            [PV.sl 3
                                                                (nth PV.nilp
                                                                    (nth AV.undef p.snd.vals 2).toCs 0).toEs,
                                                              PV.sl 3
                                                                (nth PV.nilp
                                                                    (nth AV.undef p.snd.vals 2).toCs 1).toEs,
                                                              PV.sl 3
                                                                (nth PV.nilp
                                                                    (nth AV.undef p.snd.vals 2).toCs 2).toEs],
                                                          AV.int IntKind.i64
                                                            (IntKind.i64.wrap ((nth AV.undef p.snd.vals 3).toPV.toInt + 1))],
                                                      blks :=
                                                        [Blk.box
                                                            [AV.sl 1
                                                                (nth AV.undef
                                                                      (nth (Blk.box []) p.snd.blks 0).toCs 0).toPV.toEs,
                                                              AV.int IntKind.i64
                                                                (nth AV.undef
                                                                      (nth (Blk.box []) p.snd.blks 0).toCs 1).toPV.toInt]] })
                                                  Option.none)
                                                (ctl (p.fst.eqb Ex.ret)
                                                  (ctl (okPack { slots := [(8, Sum.inl Sh.bool)], blks := [] } p.snd)
                                                    (Option.some
                                                      (Ex.ret,
                                                        { vals := [AV.bool (nth AV.undef p.snd.vals 0).toPV.toBool],
                                                          blks := [] }))
                                                    Option.none)
                                                  Option.none))
                                            Option.none)
                                        Option.none)))
                        Option.none)
                    Option.none)
                Option.none)
            Option.none)
        Option.none)
    (Option.some (Ex.exit 0, { vals := [], blks := [] })) := (lp_unfold ..).trans (by kernel_rfl)

/-- dynpos/dynposlaw13.ShareExact, the loop of block 2 -/
theorem r7_2 (F : Fun) (total2 : Int) (x3 : List (List PV)) (y13 : List (List PV)) (x68_0 : List (List PV)) (x68_1 : List (List PV)) (x68_2 : List (List PV)) (x69 : Int) (x117_0 : Int) (x117_1 : Int) (x117_2 : Int) (x118 : Int) (b0_0 : List (List PV)) (b0_1 : Int) : lp E F 7 0 [] 2
  {
    vals :=
      [AV.int IntKind.i64 total2, AV.sl 1 x3, AV.sl 3 y13,
        AV.agg [PV.sl 3 x68_0, PV.sl 3 x68_1, PV.sl 3 x68_2],
        AV.int IntKind.i64 x69,
        AV.agg
          [PV.int IntKind.i64 x117_0, PV.int IntKind.i64 x117_1, PV.int IntKind.i64 x117_2],
        AV.int IntKind.i64 x118],
    blks := [Blk.box [AV.sl 1 b0_0, AV.int IntKind.i64 b0_1]] } =
  ctl (ltB x118 3)
    (getE
      [[PV.int IntKind.i64 x117_0], [PV.int IntKind.i64 x117_1], [PV.int IntKind.i64 x117_2]] x118
      fun (c : List PV) =>
      ctl (okCs [Sh.int IntKind.i64] c)
        (bnd
          (F 13 [AV.sl 3 y13, AV.int IntKind.i64 (nth PV.nilp c 0).toInt] [])
          fun (r : Res) =>
          ctl
            (okR
                [RSh.own 1, RSh.one (Sh.int IntKind.i64),
                  RSh.one (Sh.int IntKind.i64)]
                r.fst &&
              okB [] r.snd)
            (bnd
              (F 25 [AV.sl 3 y13, AV.int IntKind.i64 (nth PV.nilp c 0).toInt] [])
              fun (r_1 : Res) =>
              ctl
                (okR
                    [RSh.one (Sh.sl 1), RSh.one (Sh.int IntKind.i64),
                      RSh.one (Sh.int IntKind.i64)]
                    r_1.fst &&
                  okB [] r_1.snd)
                (bnd
                  (F 15
                    [AV.sl 1 (nth (RV.p PV.nilp) r.fst 0).toEs,
                      AV.sl 1 (nth (RV.p PV.nilp) r_1.fst 0).toPV.toEs]
                    [])
                  fun (r_2 : Res) =>
                  ctl
                    (okR [RSh.one Sh.bool] r_2.fst && okB [] r_2.snd &&
                      (noslR r_2.fst && noslB r_2.snd))
                    (bnd
                      (ctl (!!(nth (RV.p PV.nilp) r_2.fst 0).toPV.toBool)
                        (Option.some
                          ((nth (RV.p PV.nilp) r.fst 1).toPV.toInt !=
                            (nth (RV.p PV.nilp) r_1.fst 1).toPV.toInt))
                        (Option.some Bool.true))
                      fun (v : Bool) =>
                      bnd
                        (ctl (!v)
                          (Option.some
                            ((nth (RV.p PV.nilp) r.fst 2).toPV.toInt !=
                              (nth (RV.p PV.nilp) r_1.fst 2).toPV.toInt))
                          (Option.some Bool.true))
                        fun (v : Bool) =>
                        ctl v (Option.some (Ex.ret, { vals := [AV.bool Bool.false], blks := [] }))
                          (ctl
                            (leN ((nth (RV.p PV.nilp) r_1.fst 0).toPV.toEs.length * 8)
                              140737488355328)
                            (ctl
                              (ltB 1 (↑(nth (RV.p PV.nilp) r_1.fst 0).toPV.toEs.length : Int))
                              (bnd
                                (F 18
                                  [AV.t (TV.ptr 0 0),
                                    AV.int IntKind.i64
                                      (↑(nth (RV.p PV.nilp) r_1.fst 0).toPV.toEs.length : Int)]
                                  [Blk.box [AV.sl 1 b0_0, AV.int IntKind.i64 b0_1]])
                                fun (r : Res) =>
                                ctl
                                  (okR [RSh.one (Sh.int IntKind.i64)] r.fst &&
                                    okB [Sum.inl [Sh.sl 1, Sh.int IntKind.i64]] r.snd)
                                  (ctl
                                    (leB 0 (nth (RV.p PV.nilp) r.fst 0).toPV.toInt &&
                                      ltB (nth (RV.p PV.nilp) r.fst 0).toPV.toInt
                                        (↑(nth (RV.p PV.nilp) r_1.fst 0).toPV.toEs.length : Int))
                                    (ctl
                                      (okCs [Sh.int IntKind.i64]
                                        (List.take 1
                                          (List.drop 0
                                            (nth [] (nth (RV.p PV.nilp) r_1.fst 0).toPV.toEs
                                              (nth (RV.p PV.nilp) r.fst 0).toPV.toInt.toNat))))
                                      (ctl
                                        (leB 0 (nth (RV.p PV.nilp) r.fst 0).toPV.toInt &&
                                          ltB (nth (RV.p PV.nilp) r.fst 0).toPV.toInt
                                            (↑(nth (RV.p PV.nilp) r_1.fst 0).toPV.toEs.length : Int))
                                        (bnd
                                          (F 18
                                            [AV.t (TV.ptr 0 0),
                                              AV.int IntKind.i64
                                                (↑(setEs (nth (RV.p PV.nilp) r_1.fst 0).toPV.toEs
                                                        (nth (RV.p PV.nilp) r.fst 0).toPV.toInt.toNat 0
                                                        [PV.int IntKind.i64
                                                            (IntKind.i64.wrap
                                                              ((nth PV.nilp
                                                                    (nth []
                                                                      (nth (RV.p PV.nilp) r_1.fst 0).toPV.toEs
                                                                      (nth (RV.p PV.nilp) r.fst 0).toPV.toInt.toNat)
                                                                    0).toInt +
                                                                1))]).length :
                                                  Int)]
                                            [Blk.box
                                                [AV.sl 1
                                                    (nth PV.nilp
                                                        (List.map AV.toPV (nth (Blk.box []) r.snd 0).toCs) 0).toEs,
                                                  AV.int IntKind.i64
                                                    (nth PV.nilp
                                                        (List.map AV.toPV (nth (Blk.box []) r.snd 0).toCs) 1).toInt]])
                                          fun (r_3 : Res) =>
                                          ctl
                                            (okR [RSh.one (Sh.int IntKind.i64)] r_3.fst &&
                                              okB [Sum.inl [Sh.sl 1, Sh.int IntKind.i64]] r_3.snd)
                                            (ctl
                                              (leB 0 (nth (RV.p PV.nilp) r_3.fst 0).toPV.toInt &&
                                                ltB (nth (RV.p PV.nilp) r_3.fst 0).toPV.toInt
                                                  (↑(setEs
                                                          (nth (RV.p PV.nilp) r_1.fst 0).toPV.toEs
                                                          (nth (RV.p PV.nilp) r.fst 0).toPV.toInt.toNat 0
                                                          [PV.int IntKind.i64
                                                              (IntKind.i64.wrap
                                                                ((nth PV.nilp
                                                                      (nth []
                                                                        (nth (RV.p PV.nilp) r_1.fst 0).toPV.toEs
                                                                        (nth (RV.p PV.nilp) r.fst 0).toPV.toInt.toNat)
                                                                      0).toInt +
                                                                  1))]).length :
                                                    Int))
                                              (ctl
                                                (okCs [Sh.int IntKind.i64]
                                                  (List.take 1
                                                    (List.drop 0
                                                      (nth []
                                                        (setEs
                                                          (nth (RV.p PV.nilp) r_1.fst 0).toPV.toEs
                                                          (nth (RV.p PV.nilp) r.fst 0).toPV.toInt.toNat 0
                                                          [PV.int IntKind.i64
                                                              (IntKind.i64.wrap
                                                                ((nth PV.nilp
                                                                      (nth []
                                                                        (nth (RV.p PV.nilp) r_1.fst 0).toPV.toEs
                                                                        (nth (RV.p PV.nilp) r.fst 0).toPV.toInt.toNat)
                                                                      0).toInt +
                                                                  1))])
                                                        (nth (RV.p PV.nilp) r_3.fst 0).toPV.toInt.toNat))))
                                                (ctl
                                                  (leB 0
                                                      (nth (RV.p PV.nilp) r_3.fst 0).toPV.toInt &&
                                                    ltB (nth (RV.p PV.nilp) r_3.fst 0).toPV.toInt
                                                      (↑(setEs
                                                              (nth (RV.p PV.nilp) r_1.fst 0).toPV.toEs
                                                              (nth (RV.p PV.nilp) r.fst 0).toPV.toInt.toNat 0
                                                              [PV.int IntKind.i64
                                                                  (IntKind.i64.wrap
                                                                    ((nth PV.nilp
                                                                          (nth []
                                                                            (nth (RV.p PV.nilp) r_1.fst 0).toPV.toEs
                                                                            (nth (RV.p PV.nilp) r.fst 0).toPV.toInt.toNat)
                                                                          0).toInt +
                                                                      1))]).length :
                                                        Int))
                                                  (bnd
                                                    (lp E F 7 0 [] 4
                                                      {
                                                        vals :=
                                                          [AV.int IntKind.i64 total2, AV.sl 1 x3, AV.sl 3 y13,
                                                            AV.int IntKind.i64 (nth PV.nilp c 0).toInt,
                                                            AV.agg
                                                              [PV.sl 3 x68_0, PV.sl 3 x68_1, PV.sl 3 x68_2],
                                                            AV.int IntKind.i64 x69,
                                                            AV.agg
                                                              [PV.int IntKind.i64 x117_0, PV.int IntKind.i64 x117_1,
                                                                PV.int IntKind.i64 x117_2],
                                                            AV.int IntKind.i64 x118,
                                                            AV.agg
                                                              [PV.sl 1
                                                                  (nth (RV.p PV.nilp) r_1.fst 0).toPV.toEs,
                                                                PV.sl 1
                                                                  (setEs
                                                                    (setEs
                                                                      (nth (RV.p PV.nilp) r_1.fst 0).toPV.toEs
                                                                      (nth (RV.p PV.nilp) r.fst 0).toPV.toInt.toNat 0
                                                                      [PV.int IntKind.i64
                                                                          (IntKind.i64.wrap
                                                                            ((nth PV.nilp
                                                                                  (nth []
                                                                                    (nth (RV.p PV.nilp) r_1.fst 0).toPV.toEs
                                                                                    (nth (RV.p PV.nilp) r.fst
                                                                                            0).toPV.toInt.toNat)
                                                                                  0).toInt +
                                                                              1))])
                                                                    (nth (RV.p PV.nilp) r_3.fst 0).toPV.toInt.toNat 0
                                                                    [PV.int IntKind.i64
                                                                        (IntKind.i64.wrap
                                                                          ((nth PV.nilp
                                                                                (nth []
                                                                                  (setEs
                                                                                    (nth (RV.p PV.nilp) r_1.fst 0).toPV.toEs
                                                                                    (nth (RV.p PV.nilp) r.fst 0).toPV.toInt.toNat
                                                                                    0
                                                                                    [PV.int IntKind.i64
                                                                                        (IntKind.i64.wrap
                                                                                          ((nth PV.nilp
                                                                                                (nth []
                                                                                                  (nth (RV.p PV.nilp) r_1.fst
                                                                                                        0).toPV.toEs
                                                                                                  (nth (RV.p PV.nilp) r.fst
                                                                                                          0).toPV.toInt.toNat)
                                                                                                0).toInt +
                                                                                            1))])
                                                                                  (nth (RV.p PV.nilp) r_3.fst
                                                                                          0).toPV.toInt.toNat)
                                                                                0).toInt -
                                                                            1))]),
                                                                PV.sl 1 x3],
                                                            AV.int IntKind.i64 0],
                                                        blks :=
                                                          [Blk.box
                                                              [AV.sl 1
                                                                  (nth PV.nilp
                                                                      (List.map AV.toPV (nth (Blk.box []) r_3.snd 0).toCs)
                                                                      0).toEs,
                                                                AV.int IntKind.i64
                                                                  (nth PV.nilp
                                                                      (List.map AV.toPV (nth (Blk.box []) r_3.snd 0).toCs)
                                                                      1).toInt]] })
                                                    fun (p : Ex × Pack) =>
                                                    ctl (p.fst.eqb (Ex.exit 4))
                                                      (ctl
                                                        (okPack
                                                          {
                                                            slots :=
                                                              [(2, Sum.inl (Sh.int IntKind.i64)), (3, Sum.inl (Sh.sl 1)),
                                                                (9, Sum.inr (Sum.inr (AV.t (TV.ptr 0 0)))),
                                                                (13, Sum.inl (Sh.sl 3)),
                                                                (68, Sum.inr (Sum.inl [Sh.sl 3, Sh.sl 3, Sh.sl 3])),
                                                                (69, Sum.inl (Sh.int IntKind.i64)),
                                                                (117,
                                                                  Sum.inr
                                                                    (Sum.inl
                                                                      [Sh.int IntKind.i64, Sh.int IntKind.i64,
                                                                        Sh.int IntKind.i64])),
                                                                (118, Sum.inl (Sh.int IntKind.i64))],
                                                            blks := [Sum.inl [Sum.inl (Sh.sl 1), Sum.inl (Sh.int IntKind.i64)]] }
                                                          p.snd)
                                                        (lp E F 7 0 [] 2
                                                          {
                                                            vals :=
                                                              [AV.int IntKind.i64 (nth AV.undef p.snd.vals 0).toPV.toInt,
                                                                AV.sl 1 (nth AV.undef p.snd.vals 1).toPV.toEs,
                                                                AV.sl 3 (nth AV.undef p.snd.vals 2).toPV.toEs,
                                                                AV.agg
                                                                  [PV.sl 3
                                                                      (nth PV.nilp
                                                                          (nth AV.undef p.snd.vals 3).toCs 0).toEs,
                                                                    PV.sl 3
                                                                      (nth PV.nilp
                                                                          (nth AV.undef p.snd.vals 3).toCs 1).toEs,
                                                                    PV.sl 3
                                                                      (nth PV.nilp
                                                                          (nth AV.undef p.snd.vals 3).toCs 2).toEs],
                                                                AV.int IntKind.i64 (nth AV.undef p.snd.vals 4).toPV.toInt,
                                                                AV.agg
                                                                  [PV.int IntKind.i64
                                                                      (nth PV.nilp
                                                                          (nth AV.undef p.snd.vals 5).toCs 0).toInt,
                                                                    PV.int IntKind.i64
                                                                      (nth PV.nilp
                                                                          (nth AV.undef p.snd.vals 5).toCs 1).toInt,
                                                                    PV.int IntKind.i64
                                                                      (nth PV.nilp
                                                                          (nth AV.undef p.snd.vals 5).toCs 2).toInt],
                                                                AV.int IntKind.i64
                                                                  (IntKind.i64.wrap ((nth AV.undef p.snd.vals 6).toPV.toInt + 1))],
                                                            blks :=
                                                              [Blk.box
                                                                  [AV.sl 1
                                                                      (nth AV.undef
                                                                            (nth (Blk.box []) p.snd.blks 0).toCs 0).toPV.toEs,
                                                                    AV.int IntKind.i64
                                                                      (nth AV.undef
                                                                            (nth (Blk.box []) p.snd.blks 0).toCs 1).toPV.toInt]] })
                                                        Option.none)
                                                      (ctl (p.fst.eqb Ex.ret)
                                                        (ctl (okPack { slots := [(8, Sum.inl Sh.bool)], blks := [] } p.snd)
                                                          (Option.some
                                                            (Ex.ret,
                                                              { vals := [AV.bool (nth AV.undef p.snd.vals 0).toPV.toBool],
                                                                blks := [] }))
                                                          Option.none)
                                                        Option.none))
                                                  Option.none)
                                                Option.none)
                                              Option.none)
                                            Option.none)
                                        Option.none)
                                      Option.none)
                                    Option.none)
                                  Option.none)
                              (bnd
                                (lp E F 7 0 [] 4
                                  {
                                    vals :=
                                      [AV.int IntKind.i64 total2, AV.sl 1 x3, AV.sl 3 y13,
                                        AV.int IntKind.i64 (nth PV.nilp c 0).toInt,
                                        AV.agg [PV.sl 3 x68_0, PV.sl 3 x68_1, PV.sl 3 x68_2],
                                        AV.int IntKind.i64 x69,
                                        AV.agg
                                          [PV.int IntKind.i64 x117_0, PV.int IntKind.i64 x117_1,
                                            PV.int IntKind.i64 x117_2],
                                        AV.int IntKind.i64 x118,
                                        AV.agg
                                          [PV.sl 1 (nth (RV.p PV.nilp) r_1.fst 0).toPV.toEs,
                                            PV.sl 1 (nth (RV.p PV.nilp) r_1.fst 0).toPV.toEs,
                                            PV.sl 1 x3],
                                        AV.int IntKind.i64 0],
                                    blks := [Blk.box [AV.sl 1 b0_0, AV.int IntKind.i64 b0_1]] })
                                fun (p : Ex × Pack) =>
                                ctl (p.fst.eqb (Ex.exit 4))
                                  (ctl
                                    (okPack
                                      {
                                        slots :=
                                          [(2, Sum.inl (Sh.int IntKind.i64)), (3, Sum.inl (Sh.sl 1)),
                                            (9, Sum.inr (Sum.inr (AV.t (TV.ptr 0 0)))), (13, Sum.inl (Sh.sl 3)),
                                            (68, Sum.inr (Sum.inl [Sh.sl 3, Sh.sl 3, Sh.sl 3])),
                                            (69, Sum.inl (Sh.int IntKind.i64)),
                                            (117,
                                              Sum.inr
                                                (Sum.inl [Sh.int IntKind.i64, Sh.int IntKind.i64, Sh.int IntKind.i64])),
                                            (118, Sum.inl (Sh.int IntKind.i64))],
                                        blks := [Sum.inl [Sum.inl (Sh.sl 1), Sum.inl (Sh.int IntKind.i64)]] }
                                      p.snd)
                                    (lp E F 7 0 [] 2
                                      {
                                        vals :=
                                          [AV.int IntKind.i64 (nth AV.undef p.snd.vals 0).toPV.toInt,
                                            AV.sl 1 (nth AV.undef p.snd.vals 1).toPV.toEs,
                                            AV.sl 3 (nth AV.undef p.snd.vals 2).toPV.toEs,
                                            AV.agg
                                              [PV.sl 3
                                                  (nth PV.nilp (nth AV.undef p.snd.vals 3).toCs
                                                      0).toEs,
                                                PV.sl 3
                                                  (nth PV.nilp (nth AV.undef p.snd.vals 3).toCs
                                                      1).toEs,
                                                PV.sl 3
                                                  (nth PV.nilp (nth AV.undef p.snd.vals 3).toCs
                                                      2).toEs],
                                            AV.int IntKind.i64 (nth AV.undef p.snd.vals 4).toPV.toInt,
                                            AV.agg
                                              [PV.int IntKind.i64
                                                  (nth PV.nilp (nth AV.undef p.snd.vals 5).toCs
                                                      0).toInt,
                                                PV.int IntKind.i64
                                                  (nth PV.nilp (nth AV.undef p.snd.vals 5).toCs
                                                      1).toInt,
                                                PV.int IntKind.i64
                                                  (nth PV.nilp (nth AV.undef p.snd.vals 5).toCs
                                                      2).toInt],
                                            AV.int IntKind.i64
                                              (IntKind.i64.wrap ((nth AV.undef p.snd.vals 6).toPV.toInt + 1))],
                                        blks :=
                                          [Blk.box
                                              [AV.sl 1
                                                  (nth AV.undef
                                                        (nth (Blk.box []) p.snd.blks 0).toCs 0).toPV.toEs,
                                                AV.int IntKind.i64
                                                  (nth AV.undef
                                                        (nth (Blk.box []) p.snd.blks 0).toCs 1).toPV.toInt]] })
                                    Option.none)
                                  (ctl (p.fst.eqb Ex.ret)
                                    (ctl (okPack { slots := [(8, Sum.inl Sh.bool)], blks := [] } p.snd)
                                      (Option.some
                                        (Ex.ret,
                                          { vals := [AV.bool (nth AV.undef p.snd.vals 0).toPV.toBool], blks := [] }))
                                      Option.none)
                                    Option.none)))
                            Option.none))
                    Option.none)
                Option.none)
            Option.none)
        Option.none)
    (Option.some
      (Ex.exit 2,
        {
          vals :=
            [AV.int IntKind.i64 total2, AV.sl 1 x3,
              AV.agg [PV.sl 3 x68_0, PV.sl 3 x68_1, PV.sl 3 x68_2],
              AV.int IntKind.i64 x69],
          blks := [Blk.box [AV.sl 1 b0_0, AV.int IntKind.i64 b0_1]] })) := (lp_unfold ..).trans (by kernel_rfl)

/-- dynpos/dynposlaw13.ShareExact, the loop of block 4 -/
theorem r7_4 (F : Fun) (total2 : Int) (x3 : List (List PV)) (y13 : List (List PV)) (k21 : Int) (x68_0 : List (List PV)) (x68_1 : List (List PV)) (x68_2 : List (List PV)) (x69 : Int) (x117_0 : Int) (x117_1 : Int) (x117_2 : Int) (x118 : Int) (x175_0 : List (List PV)) (x175_1 : List (List PV)) (x175_2 : List (List PV)) (x176 : Int) (b0_0 : List (List PV)) (b0_1 : Int) : lp E F 7 0 [] 4
  {
    vals :=
      [AV.int IntKind.i64 total2, AV.sl 1 x3, AV.sl 3 y13, AV.int IntKind.i64 k21,
        AV.agg [PV.sl 3 x68_0, PV.sl 3 x68_1, PV.sl 3 x68_2],
        AV.int IntKind.i64 x69,
        AV.agg
          [PV.int IntKind.i64 x117_0, PV.int IntKind.i64 x117_1, PV.int IntKind.i64 x117_2],
        AV.int IntKind.i64 x118,
        AV.agg [PV.sl 1 x175_0, PV.sl 1 x175_1, PV.sl 1 x175_2],
        AV.int IntKind.i64 x176],
    blks := [Blk.box [AV.sl 1 b0_0, AV.int IntKind.i64 b0_1]] } =
  ctl (ltB x176 3)
    (getE [[PV.sl 1 x175_0], [PV.sl 1 x175_1], [PV.sl 1 x175_2]] x176
      fun (c : List PV) =>
      ctl (okCs [Sh.sl 1] c)
        (bnd
          (F 16 [AV.sl 3 y13, AV.sl 1 (nth PV.nilp c 0).toEs] [])
          fun (r : Res) =>
          ctl
            (okR
                [RSh.one (Sh.int IntKind.i64), RSh.one (Sh.int IntKind.i64)] r.fst &&
              okB [] r.snd)
            (bnd
              (F 26 [AV.sl 3 y13, AV.sl 1 (nth PV.nilp c 0).toEs] [])
              fun (r_1 : Res) =>
              ctl
                (okR
                    [RSh.one (Sh.int IntKind.i64), RSh.one (Sh.int IntKind.i64)] r_1.fst &&
                  okB [] r_1.snd)
                (bnd
                  (F 20 [AV.sl 3 y13, AV.sl 1 (nth PV.nilp c 0).toEs] [])
                  fun (r_2 : Res) =>
                  ctl
                    (okR
                        [RSh.one (Sh.int IntKind.i64), RSh.one (Sh.int IntKind.i64),
                          RSh.one Sh.bool]
                        r_2.fst &&
                      okB [] r_2.snd)
                    (bnd
                      (F 27 [AV.sl 3 y13, AV.sl 1 (nth PV.nilp c 0).toEs] [])
                      fun (r_3 : Res) =>
                      ctl
                        (okR
                            [RSh.one (Sh.int IntKind.i64), RSh.one (Sh.int IntKind.i64),
                              RSh.one Sh.bool]
                            r_3.fst &&
                          okB [] r_3.snd)
                        (bnd
                          (ctl
                            (!(nth (RV.p PV.nilp) r.fst 0).toPV.toInt !=
                                (nth (RV.p PV.nilp) r_1.fst 0).toPV.toInt)
                            (Option.some
                              ((nth (RV.p PV.nilp) r.fst 1).toPV.toInt !=
                                (nth (RV.p PV.nilp) r_1.fst 1).toPV.toInt))
                            (Option.some Bool.true))
                          fun (v : Bool) =>
                          bnd
                            (ctl (!v)
                              (Option.some
                                ((nth (RV.p PV.nilp) r_2.fst 0).toPV.toInt !=
                                  (nth (RV.p PV.nilp) r_3.fst 0).toPV.toInt))
                              (Option.some Bool.true))
                            fun (v : Bool) =>
                            bnd
                              (ctl (!v)
                                (Option.some
                                  ((nth (RV.p PV.nilp) r_2.fst 1).toPV.toInt !=
                                    (nth (RV.p PV.nilp) r_3.fst 1).toPV.toInt))
                                (Option.some Bool.true))
                              fun (v : Bool) =>
                              bnd
                                (ctl (!v)
                                  (Option.some
                                    !(nth (RV.p PV.nilp) r_2.fst 2).toPV.toBool ==
                                        (nth (RV.p PV.nilp) r_3.fst 2).toPV.toBool)
                                  (Option.some Bool.true))
                                fun (v : Bool) =>
                                bnd
                                  (ctl (!v)
                                    (bnd
                                      (F 28
                                        [AV.sl 3 y13, AV.int IntKind.i64 k21,
                                          AV.sl 1 (nth PV.nilp c 0).toEs]
                                        [])
                                      fun (r : Res) =>
                                      ctl
                                        (okR [RSh.one Sh.bool] r.fst && okB [] r.snd)
                                        (bnd
                                          (F 29
                                            [AV.sl 3 y13, AV.int IntKind.i64 k21,
                                              AV.sl 1 (nth PV.nilp c 0).toEs]
                                            [])
                                          fun (r_4 : Res) =>
                                          ctl
                                            (okR [RSh.one Sh.bool] r_4.fst && okB [] r_4.snd)
                                            (Option.some
                                              !(nth (RV.p PV.nilp) r.fst 0).toPV.toBool ==
                                                  (nth (RV.p PV.nilp) r_4.fst 0).toPV.toBool)
                                            Option.none)
                                        Option.none)
                                    (Option.some Bool.true))
                                  fun (v : Bool) =>
                                  ctl v (Option.some (Ex.ret, { vals := [AV.bool Bool.false], blks := [] }))
                                    (lp E F 7 0 [] 4
                                      {
                                        vals :=
                                          [AV.int IntKind.i64 total2, AV.sl 1 x3, AV.sl 3 y13,
                                            AV.int IntKind.i64 k21,
                                            AV.agg [PV.sl 3 x68_0, PV.sl 3 x68_1, PV.sl 3 x68_2],
                                            AV.int IntKind.i64 x69,
                                            AV.agg
                                              [PV.int IntKind.i64 x117_0, PV.int IntKind.i64 x117_1,
                                                PV.int IntKind.i64 x117_2],
                                            AV.int IntKind.i64 x118,
                                            AV.agg
                                              [PV.sl 1 x175_0, PV.sl 1 x175_1, PV.sl 1 x175_2],
                                            AV.int IntKind.i64 (IntKind.i64.wrap (x176 + 1))],
                                        blks := [Blk.box [AV.sl 1 b0_0, AV.int IntKind.i64 b0_1]] }))
                        Option.none)
                    Option.none)
                Option.none)
            Option.none)
        Option.none)
    (Option.some
      (Ex.exit 4,
        {
          vals :=
            [AV.int IntKind.i64 total2, AV.sl 1 x3, AV.sl 3 y13,
              AV.agg [PV.sl 3 x68_0, PV.sl 3 x68_1, PV.sl 3 x68_2],
              AV.int IntKind.i64 x69,
              AV.agg
                [PV.int IntKind.i64 x117_0, PV.int IntKind.i64 x117_1, PV.int IntKind.i64 x117_2],
              AV.int IntKind.i64 x118],
          blks := [Blk.box [AV.sl 1 b0_0, AV.int IntKind.i64 b0_1]] })) := (lp_unfold ..).trans (by kernel_rfl)

/-- dynpos/dynposlaw13.ShareExact -/
theorem r7 (F : Fun) (t : List (List PV)) (raw : List (List PV)) (total : Int) (x : List (List PV)) : funK E F 7 [AV.sl 1 t, AV.sl 3 raw, AV.int IntKind.i64 total, AV.sl 1 x] [] =
  bnd
    (ctl (!ltB 10 (↑raw.length : Int)) (Option.some (ltB 12 (↑x.length : Int))) (Option.some Bool.true)) fun (v : Bool) =>
    ctl v
      (bnd (F 14 [] []) fun (r : Res) =>
        ctl (okR [RSh.one Sh.bool] r.fst && okB [] r.snd)
          (Option.some
            ([RV.p
                  (PV.bool (nth (RV.p PV.nilp) r.fst 0).toPV.toBool)],
              []))
          Option.none)
      (bnd (F 9 [AV.sl 1 t] []) fun (r : Res) =>
        ctl
          (okR [RSh.ownp [Sh.sl 1, Sh.int IntKind.i64]] r.fst &&
            okB [] r.snd)
          (bnd
            (F 10 [AV.t (TV.ptr 0 0), AV.int IntKind.i64 5]
              [Blk.box
                  [AV.sl 1
                      (nth PV.nilp
                          (nth (RV.p PV.nilp) r.fst 0).toCs 0).toEs,
                    AV.int IntKind.i64
                      (nth PV.nilp
                          (nth (RV.p PV.nilp) r.fst 0).toCs 1).toInt]])
            fun (r : Res) =>
            ctl
              (okR [RSh.own 3] r.fst &&
                okB [Sum.inl [Sh.sl 1, Sh.int IntKind.i64]] r.snd)
              (bnd
                (F 10 [AV.t (TV.ptr 0 0), AV.int IntKind.i64 3]
                  [Blk.box
                      [AV.sl 1
                          (nth PV.nilp
                              (List.map AV.toPV (nth (Blk.box []) r.snd 0).toCs) 0).toEs,
                        AV.int IntKind.i64
                          (nth PV.nilp
                              (List.map AV.toPV (nth (Blk.box []) r.snd 0).toCs) 1).toInt]])
                fun (r_1 : Res) =>
                ctl
                  (okR [RSh.own 3] r_1.fst &&
                    okB [Sum.inl [Sh.sl 1, Sh.int IntKind.i64]] r_1.snd)
                  (bnd
                    (F 12 [AV.t (TV.ptr 0 0), AV.int IntKind.i64 (-9), AV.int IntKind.i64 9]
                      [Blk.box
                          [AV.sl 1
                              (nth PV.nilp
                                  (List.map AV.toPV (nth (Blk.box []) r_1.snd 0).toCs) 0).toEs,
                            AV.int IntKind.i64
                              (nth PV.nilp
                                  (List.map AV.toPV (nth (Blk.box []) r_1.snd 0).toCs) 1).toInt]])
                    fun (r_2 : Res) =>
                    ctl
                      (okR [RSh.one (Sh.int IntKind.i64)] r_2.fst &&
                        okB [Sum.inl [Sh.sl 1, Sh.int IntKind.i64]] r_2.snd)
                      (bnd
                        (F 12
                          [AV.t (TV.ptr 0 0), AV.int IntKind.i64 (-9), AV.int IntKind.i64 9]
                          [Blk.box
                              [AV.sl 1
                                  (nth PV.nilp
                                      (List.map AV.toPV (nth (Blk.box []) r_2.snd 0).toCs) 0).toEs,
                                AV.int IntKind.i64
                                  (nth PV.nilp
                                      (List.map AV.toPV (nth (Blk.box []) r_2.snd 0).toCs) 1).toInt]])
                        fun (r_3 : Res) =>
                        ctl
                          (okR [RSh.one (Sh.int IntKind.i64)] r_3.fst &&
                            okB [Sum.inl [Sh.sl 1, Sh.int IntKind.i64]] r_3.snd)
                          (bnd
                            (F 12
                              [AV.t (TV.ptr 0 0), AV.int IntKind.i64 (-1),
                                AV.int IntKind.i64 101]
                              [Blk.box
                                  [AV.sl 1
                                      (nth PV.nilp
                                          (List.map AV.toPV (nth (Blk.box []) r_3.snd 0).toCs) 0).toEs,
                                    AV.int IntKind.i64
                                      (nth PV.nilp
                                          (List.map AV.toPV (nth (Blk.box []) r_3.snd 0).toCs) 1).toInt]])
                            fun (r_4 : Res) =>
                            ctl
                              (okR [RSh.one (Sh.int IntKind.i64)] r_4.fst &&
                                okB [Sum.inl [Sh.sl 1, Sh.int IntKind.i64]] r_4.snd)
                              (ctl
                                (leN (((nth (RV.p PV.nilp) r_1.fst 0).toEs.length + 1) * 24)
                                  140737488355328)
                                (bnd
                                  (lp E F 7 0 [] 0
                                    {
                                      vals :=
                                        [AV.int IntKind.i64 total, AV.sl 1 x,
                                          AV.agg
                                            [PV.sl 3 (nth (RV.p PV.nilp) r.fst 0).toEs,
                                              PV.sl 3 raw,
                                              PV.sl 3
                                                ((nth (RV.p PV.nilp) r_1.fst 0).toEs ++
                                                  [[PV.int IntKind.i64
                                                        (nth (RV.p PV.nilp) r_2.fst 0).toPV.toInt,
                                                      PV.int IntKind.i64
                                                        (nth (RV.p PV.nilp) r_3.fst 0).toPV.toInt,
                                                      PV.int IntKind.i64
                                                        (nth (RV.p PV.nilp) r_4.fst 0).toPV.toInt]])],
                                          AV.int IntKind.i64 0],
                                      blks :=
                                        [Blk.box
                                            [AV.sl 1
                                                (nth PV.nilp
                                                    (List.map AV.toPV (nth (Blk.box []) r_4.snd 0).toCs) 0).toEs,
                                              AV.int IntKind.i64
                                                (nth PV.nilp
                                                    (List.map AV.toPV (nth (Blk.box []) r_4.snd 0).toCs) 1).toInt]] })
                                  fun (p : Ex × Pack) =>
                                  ctl (p.fst.eqb (Ex.exit 0))
                                    (bnd (F 14 [] []) fun (r : Res) =>
                                      ctl
                                        (okR [RSh.one Sh.bool] r.fst && okB [] r.snd)
                                        (Option.some
                                          ([RV.p
                                                (PV.bool
                                                  (nth (RV.p PV.nilp) r.fst 0).toPV.toBool)],
                                            []))
                                        Option.none)
                                    (ctl (p.fst.eqb Ex.ret)
                                      (ctl (okPack { slots := [(8, Sum.inl Sh.bool)], blks := [] } p.snd)
                                        (Option.some
                                          ([RV.p
                                                (PV.bool (nth AV.undef p.snd.vals 0).toPV.toBool)],
                                            []))
                                        Option.none)
                                      Option.none))
                                Option.none)
                              Option.none)
                          Option.none)
                      Option.none)
                  Option.none)
              Option.none)
          Option.none) := by kernel_rfl

end Go.Proofs.Ytbacfgghneknjaa.Vm
