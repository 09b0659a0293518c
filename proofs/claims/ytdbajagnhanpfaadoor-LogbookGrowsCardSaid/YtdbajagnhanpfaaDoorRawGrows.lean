/- The raw theorems, by program: what each function and each loop comes to. -/
import Derived.Test.YtdbajagnhanpfaaDoorEnv
import Derived.Test.YtdbajagnhanpfaaDoorVm34
import Derived.KernelRfl
namespace Go.Proofs.YtdbajagnhanpfaaDoor.Vm
open Go
set_option maxRecDepth 100000
set_option linter.unusedVariables false

/-- dynpos/dynposlaw36.LogbookGrows, the loop of block 0 -/
theorem r5_0 (F : Fun) (kind10 : Int) (b0_0 : List (List PV)) (b0_1 : Int) (b1_0 : Int) (b1_1 : Int) (b1_2 : List (List PV)) (b2_0 : List (List PV)) (b2_1 : Int) : lp E F 5 0 [] 0
  { vals := [AV.int IntKind.i64 kind10],
    blks :=
      [Blk.box [AV.sl 3 b0_0, AV.int IntKind.u64 b0_1],
        Blk.box
          [AV.int IntKind.i64 b1_0, AV.int IntKind.i64 b1_1, AV.sl 1 b1_2],
        Blk.box [AV.sl 3 b2_0, AV.int IntKind.u64 b2_1]] } =
  ctl (leB kind10 3)
    (bnd
      (lp E F 5 0 [] 2
        { vals := [AV.int IntKind.i64 kind10, AV.int IntKind.i64 (maxI (IntKind.i64.wrap (b1_0 - 5)) 0)],
          blks :=
            [Blk.box [AV.sl 3 b0_0, AV.int IntKind.u64 b0_1],
              Blk.box
                [AV.int IntKind.i64 b1_0, AV.int IntKind.i64 b1_1, AV.sl 1 b1_2],
              Blk.box [AV.sl 3 b2_0, AV.int IntKind.u64 b2_1]] })
      fun (p : Ex × Pack) =>
      ctl (p.fst.eqb (Ex.exit 2))
        (ctl
          (okPack
            {
              slots :=
                [(4, Sum.inr (Sum.inr (AV.t (TV.ptr 0 0)))),
                  (7, Sum.inr (Sum.inr (AV.t (TV.ptr 1 0)))),
                  (8, Sum.inr (Sum.inr (AV.t (TV.ptr 2 0)))), (10, Sum.inl (Sh.int IntKind.i64))],
              blks :=
                [Sum.inl [Sum.inl (Sh.sl 3), Sum.inl (Sh.int IntKind.u64)],
                  Sum.inl [Sum.inl (Sh.int IntKind.i64), Sum.inl (Sh.int IntKind.i64), Sum.inl (Sh.sl 1)],
                  Sum.inl [Sum.inl (Sh.sl 3), Sum.inl (Sh.int IntKind.u64)]] }
            p.snd)
          (lp E F 5 0 [] 0
            { vals := [AV.int IntKind.i64 (IntKind.i64.wrap ((nth AV.undef p.snd.vals 0).toPV.toInt + 1))],
              blks :=
                [Blk.box
                    [AV.sl 3
                        (nth AV.undef (nth (Blk.box []) p.snd.blks 0).toCs
                              0).toPV.toEs,
                      AV.int IntKind.u64
                        (nth AV.undef (nth (Blk.box []) p.snd.blks 0).toCs
                              1).toPV.toInt],
                  Blk.box
                    [AV.int IntKind.i64
                        (nth AV.undef (nth (Blk.box []) p.snd.blks 1).toCs
                              0).toPV.toInt,
                      AV.int IntKind.i64
                        (nth AV.undef (nth (Blk.box []) p.snd.blks 1).toCs
                              1).toPV.toInt,
                      AV.sl 1
                        (nth AV.undef (nth (Blk.box []) p.snd.blks 1).toCs
                              2).toPV.toEs],
                  Blk.box
                    [AV.sl 3
                        (nth AV.undef (nth (Blk.box []) p.snd.blks 2).toCs
                              0).toPV.toEs,
                      AV.int IntKind.u64
                        (nth AV.undef (nth (Blk.box []) p.snd.blks 2).toCs
                              1).toPV.toInt]] })
          Option.none)
        (ctl (p.fst.eqb Ex.ret)
          (ctl (okPack { slots := [(2, Sum.inl Sh.bool)], blks := [] } p.snd)
            (Option.some
              (Ex.ret,
                { vals := [AV.bool (nth AV.undef p.snd.vals 0).toPV.toBool], blks := [] }))
            Option.none)
          Option.none))
    (Option.some
      (Ex.exit 0,
        { vals := [],
          blks :=
            [Blk.box
                [AV.int IntKind.i64 b1_0, AV.int IntKind.i64 b1_1, AV.sl 1 b1_2],
              Blk.box [AV.sl 3 b2_0, AV.int IntKind.u64 b2_1]] })) := (lp_unfold ..).trans (by kernel_rfl)

/-- dynpos/dynposlaw36.LogbookGrows, the loop of block 2 -/
theorem r5_2 (F : Fun) (kind10 : Int) (k11 : Int) (b0_0 : List (List PV)) (b0_1 : Int) (b1_0 : Int) (b1_1 : Int) (b1_2 : List (List PV)) (b2_0 : List (List PV)) (b2_1 : Int) : lp E F 5 0 [] 2
  { vals := [AV.int IntKind.i64 kind10, AV.int IntKind.i64 k11],
    blks :=
      [Blk.box [AV.sl 3 b0_0, AV.int IntKind.u64 b0_1],
        Blk.box
          [AV.int IntKind.i64 b1_0, AV.int IntKind.i64 b1_1, AV.sl 1 b1_2],
        Blk.box [AV.sl 3 b2_0, AV.int IntKind.u64 b2_1]] } =
  ctl (ltB k11 b1_0)
    (bnd
      (F 16
        [AV.agg [PV.sl 3 b0_0, PV.int IntKind.u64 b0_1],
          AV.int IntKind.i64 kind10, AV.int IntKind.i64 k11]
        [])
      fun (r : Res) =>
      ctl
        (okR
            [RSh.one (Sh.int IntKind.i64), RSh.one Sh.bool] r.fst &&
          okB [] r.snd)
        (bnd
          (F 16
            [AV.agg [PV.sl 3 b2_0, PV.int IntKind.u64 b2_1],
              AV.int IntKind.i64 kind10, AV.int IntKind.i64 k11]
            [])
          fun (r_1 : Res) =>
          ctl
            (okR
                [RSh.one (Sh.int IntKind.i64), RSh.one Sh.bool] r_1.fst &&
              okB [] r_1.snd)
            (bnd
              (ctl
                (!(nth (RV.p PV.nilp) r.fst 0).toPV.toInt !=
                    (nth (RV.p PV.nilp) r_1.fst 0).toPV.toInt)
                (Option.some
                  !(nth (RV.p PV.nilp) r.fst 1).toPV.toBool ==
                      (nth (RV.p PV.nilp) r_1.fst 1).toPV.toBool)
                (Option.some Bool.true))
              fun (v : Bool) =>
              ctl v (Option.some (Ex.ret, { vals := [AV.bool Bool.false], blks := [] }))
                (lp E F 5 0 [] 2
                  { vals := [AV.int IntKind.i64 kind10, AV.int IntKind.i64 (IntKind.i64.wrap (k11 + 1))],
                    blks :=
                      [Blk.box [AV.sl 3 b0_0, AV.int IntKind.u64 b0_1],
                        Blk.box
                          [AV.int IntKind.i64 b1_0, AV.int IntKind.i64 b1_1, AV.sl 1 b1_2],
                        Blk.box [AV.sl 3 b2_0, AV.int IntKind.u64 b2_1]] }))
            Option.none)
        Option.none)
    (Option.some
      (Ex.exit 2,
        { vals := [AV.int IntKind.i64 kind10],
          blks :=
            [Blk.box [AV.sl 3 b0_0, AV.int IntKind.u64 b0_1],
              Blk.box
                [AV.int IntKind.i64 b1_0, AV.int IntKind.i64 b1_1, AV.sl 1 b1_2],
              Blk.box [AV.sl 3 b2_0, AV.int IntKind.u64 b2_1]] })) := (lp_unfold ..).trans (by kernel_rfl)

/-- dynpos/dynposlaw36.LogbookGrows -/
theorem r5 (F : Fun) (t : List (List PV)) : funK E F 5 [AV.sl 1 t] [] =
  ctl (ltB 600 (↑t.length : Int))
    (bnd (F 11 [] []) fun (r : Res) =>
      ctl
        (okR [RSh.one Sh.bool] r.fst && okB [] r.snd)
        (Option.some
          ([RV.p
                (PV.bool (nth (RV.p PV.nilp) r.fst 0).toPV.toBool)],
            []))
        Option.none)
    (bnd (F 12 [AV.sl 1 t] []) fun (r : Res) =>
      ctl
        (okR [RSh.ownp [Sh.sl 1, Sh.int IntKind.i64]] r.fst &&
          okB [] r.snd)
        (bnd
          (F 13 [AV.t (TV.ptr 0 0), AV.int IntKind.i64 10]
            [Blk.box
                [AV.sl 1
                    (nth PV.nilp
                        (nth (RV.p PV.nilp) r.fst 0).toCs 0).toEs,
                  AV.int IntKind.i64
                    (nth PV.nilp
                        (nth (RV.p PV.nilp) r.fst 0).toCs 1).toInt]])
          fun (r : Res) =>
          ctl
            (okR [RSh.agg [Sh.sl 3, Sh.int IntKind.u64]] r.fst &&
              okB [Sum.inl [Sh.sl 1, Sh.int IntKind.i64]] r.snd)
            (ctl
              (ltB 0
                (↑(nth PV.nilp
                          (nth (RV.p PV.nilp) r.fst 0).toCs 0).toEs.length :
                  Int))
              (getE
                (nth PV.nilp
                    (nth (RV.p PV.nilp) r.fst 0).toCs 0).toEs
                (IntKind.i64.wrap
                  ((↑(nth PV.nilp
                              (nth (RV.p PV.nilp) r.fst 0).toCs 0).toEs.length :
                      Int) -
                    1))
                fun (c : List PV) =>
                ctl
                  (okCs [Sh.int IntKind.i64, Sh.int IntKind.i64, Sh.sl 1] c)
                  (bnd
                    (F 18 [AV.t (TV.ptr 0 0), AV.int IntKind.i64 4]
                      [Blk.box
                          [AV.sl 1
                              (nth PV.nilp
                                  (List.map AV.toPV (nth (Blk.box []) r.snd 0).toCs) 0).toEs,
                            AV.int IntKind.i64
                              (nth PV.nilp
                                  (List.map AV.toPV (nth (Blk.box []) r.snd 0).toCs) 1).toInt]])
                    fun (r_1 : Res) =>
                    ctl
                      (okR [RSh.one (Sh.int IntKind.i64)] r_1.fst &&
                        okB [Sum.inl [Sh.sl 1, Sh.int IntKind.i64]] r_1.snd)
                      (bnd
                        (F 17
                          [AV.t (TV.ptr 0 0),
                            AV.int IntKind.i64
                              (IntKind.i64.wrap
                                ((nth PV.nilp c 0).toInt +
                                  (nth (RV.p PV.nilp) r_1.fst 0).toPV.toInt))]
                          [Blk.box
                              [AV.sl 1
                                  (nth PV.nilp
                                      (List.map AV.toPV (nth (Blk.box []) r_1.snd 0).toCs) 0).toEs,
                                AV.int IntKind.i64
                                  (nth PV.nilp
                                      (List.map AV.toPV (nth (Blk.box []) r_1.snd 0).toCs) 1).toInt]])
                        fun (r_2 : Res) =>
                        ctl
                          (okR
                              [RSh.agg
                                  [Sh.int IntKind.i64, Sh.int IntKind.i64, Sh.sl 1]]
                              r_2.fst &&
                            okB [Sum.inl [Sh.sl 1, Sh.int IntKind.i64]] r_2.snd)
                          (bnd
                            (F 10
                              [AV.agg
                                  [PV.sl 3
                                      (nth PV.nilp
                                          (nth (RV.p PV.nilp) r.fst 0).toCs 0).toEs,
                                    PV.int IntKind.u64
                                      (nth PV.nilp
                                          (nth (RV.p PV.nilp) r.fst 0).toCs 1).toInt],
                                AV.agg
                                  [PV.int IntKind.i64
                                      (nth PV.nilp
                                          (nth (RV.p PV.nilp) r_2.fst 0).toCs 0).toInt,
                                    PV.int IntKind.i64
                                      (nth PV.nilp
                                          (nth (RV.p PV.nilp) r_2.fst 0).toCs 1).toInt,
                                    PV.sl 1
                                      (nth PV.nilp
                                          (nth (RV.p PV.nilp) r_2.fst 0).toCs 2).toEs]]
                              [])
                            fun (r_3 : Res) =>
                            ctl
                              (okR
                                  [RSh.agg [Sh.sl 3, Sh.int IntKind.u64],
                                    RSh.one (Sh.int IntKind.i64)]
                                  r_3.fst &&
                                okB [] r_3.snd)
                              (bnd
                                (ctl
                                  (!(nth (RV.p PV.nilp) r_3.fst 1).toPV.toInt != 0)
                                  (Option.some
                                    ((↑(nth PV.nilp
                                                (nth (RV.p PV.nilp) r_3.fst 0).toCs 0).toEs.length :
                                        Int) !=
                                      IntKind.i64.wrap
                                        ((↑(nth PV.nilp
                                                    (nth (RV.p PV.nilp) r.fst 0).toCs 0).toEs.length :
                                            Int) +
                                          1)))
                                  (Option.some Bool.true))
                                fun (v : Bool) =>
                                bnd
                                  (ctl (!v)
                                    (bnd
                                      (F 19
                                        [AV.agg
                                            [PV.sl 3
                                                (nth PV.nilp
                                                    (nth (RV.p PV.nilp) r_3.fst 0).toCs 0).toEs,
                                              PV.int IntKind.u64
                                                (nth PV.nilp
                                                    (nth (RV.p PV.nilp) r_3.fst 0).toCs 1).toInt]]
                                        [])
                                      fun (r : Res) =>
                                      ctl
                                        (okR [RSh.one (Sh.int IntKind.i64)] r.fst &&
                                          okB [] r.snd)
                                        (Option.some ((nth (RV.p PV.nilp) r.fst 0).toPV.toInt != 0)) Option.none)
                                    (Option.some Bool.true))
                                  fun (v : Bool) =>
                                  ctl v (Option.some ([RV.p (PV.bool Bool.false)], []))
                                    (bnd
                                      (lp E F 5 0 [] 0
                                        { vals := [AV.int IntKind.i64 1],
                                          blks :=
                                            [Blk.box
                                                [AV.sl 3
                                                    (nth PV.nilp
                                                        (nth (RV.p PV.nilp) r.fst 0).toCs 0).toEs,
                                                  AV.int IntKind.u64
                                                    (nth PV.nilp
                                                        (nth (RV.p PV.nilp) r.fst 0).toCs 1).toInt],
                                              Blk.box
                                                [AV.int IntKind.i64
                                                    (nth PV.nilp
                                                        (nth (RV.p PV.nilp) r_2.fst 0).toCs 0).toInt,
                                                  AV.int IntKind.i64
                                                    (nth PV.nilp
                                                        (nth (RV.p PV.nilp) r_2.fst 0).toCs 1).toInt,
                                                  AV.sl 1
                                                    (nth PV.nilp
                                                        (nth (RV.p PV.nilp) r_2.fst 0).toCs 2).toEs],
                                              Blk.box
                                                [AV.sl 3
                                                    (nth PV.nilp
                                                        (nth (RV.p PV.nilp) r_3.fst 0).toCs 0).toEs,
                                                  AV.int IntKind.u64
                                                    (nth PV.nilp
                                                        (nth (RV.p PV.nilp) r_3.fst 0).toCs 1).toInt]] })
                                      fun (p : Ex × Pack) =>
                                      ctl (p.fst.eqb (Ex.exit 0))
                                        (ctl
                                          (okPack
                                            {
                                              slots :=
                                                [(7, Sum.inr (Sum.inr (AV.t (TV.ptr 0 0)))),
                                                  (8, Sum.inr (Sum.inr (AV.t (TV.ptr 1 0))))],
                                              blks :=
                                                [Sum.inl
                                                    [Sum.inl (Sh.int IntKind.i64), Sum.inl (Sh.int IntKind.i64),
                                                      Sum.inl (Sh.sl 1)],
                                                  Sum.inl [Sum.inl (Sh.sl 3), Sum.inl (Sh.int IntKind.u64)]] }
                                            p.snd)
                                          (ctl
                                            (leB
                                              (nth AV.undef
                                                    (nth (Blk.box []) p.snd.blks 0).toCs 1).toPV.toInt
                                              3)
                                            (bnd
                                              (F 16
                                                [AV.agg
                                                    [PV.sl 3
                                                        (nth AV.undef
                                                              (nth (Blk.box []) p.snd.blks 1).toCs 0).toPV.toEs,
                                                      PV.int IntKind.u64
                                                        (nth AV.undef
                                                              (nth (Blk.box []) p.snd.blks 1).toCs 1).toPV.toInt],
                                                  AV.int IntKind.i64
                                                    (nth AV.undef
                                                          (nth (Blk.box []) p.snd.blks 0).toCs 1).toPV.toInt,
                                                  AV.int IntKind.i64
                                                    (nth AV.undef
                                                          (nth (Blk.box []) p.snd.blks 0).toCs 0).toPV.toInt]
                                                [])
                                              fun (r : Res) =>
                                              ctl
                                                (okR
                                                    [RSh.one (Sh.int IntKind.i64),
                                                      RSh.one Sh.bool]
                                                    r.fst &&
                                                  okB [] r.snd)
                                                (bnd
                                                  (ctl
                                                    (nth (RV.p PV.nilp) r.fst 1).toPV.toBool
                                                    (getE
                                                      (nth AV.undef
                                                            (nth (Blk.box []) p.snd.blks 0).toCs 2).toPV.toEs
                                                      0 fun (c : List PV) =>
                                                      ctl (okCs [Sh.int IntKind.i64] c)
                                                        (Option.some
                                                          ((nth (RV.p PV.nilp) r.fst 0).toPV.toInt ==
                                                            (nth PV.nilp c 0).toInt))
                                                        Option.none)
                                                    (Option.some Bool.false))
                                                  fun (v : Bool) =>
                                                  bnd
                                                    (ctl v
                                                      (bnd (F 11 [] []) fun (r : Res) =>
                                                        ctl
                                                          (okR [RSh.one Sh.bool] r.fst &&
                                                            okB [] r.snd)
                                                          (Option.some (nth (RV.p PV.nilp) r.fst 0).toPV.toBool)
                                                          Option.none)
                                                      (Option.some Bool.false))
                                                    fun (v : Bool) => Option.some ([RV.p (PV.bool v)], []))
                                                Option.none)
                                            (bnd (F 11 [] []) fun (r : Res) =>
                                              ctl
                                                (okR [RSh.one Sh.bool] r.fst &&
                                                  okB [] r.snd)
                                                (Option.some
                                                  ([RV.p
                                                        (PV.bool
                                                          (nth (RV.p PV.nilp) r.fst 0).toPV.toBool)],
                                                    []))
                                                Option.none))
                                          Option.none)
                                        (ctl (p.fst.eqb Ex.ret)
                                          (ctl (okPack { slots := [(2, Sum.inl Sh.bool)], blks := [] } p.snd)
                                            (Option.some
                                              ([RV.p
                                                    (PV.bool (nth AV.undef p.snd.vals 0).toPV.toBool)],
                                                []))
                                            Option.none)
                                          Option.none)))
                              Option.none)
                          Option.none)
                      Option.none)
                  Option.none)
              (bnd
                (F 18 [AV.t (TV.ptr 0 0), AV.int IntKind.i64 4]
                  [Blk.box
                      [AV.sl 1
                          (nth PV.nilp
                              (List.map AV.toPV (nth (Blk.box []) r.snd 0).toCs) 0).toEs,
                        AV.int IntKind.i64
                          (nth PV.nilp
                              (List.map AV.toPV (nth (Blk.box []) r.snd 0).toCs) 1).toInt]])
                fun (r_1 : Res) =>
                ctl
                  (okR [RSh.one (Sh.int IntKind.i64)] r_1.fst &&
                    okB [Sum.inl [Sh.sl 1, Sh.int IntKind.i64]] r_1.snd)
                  (bnd
                    (F 17
                      [AV.t (TV.ptr 0 0),
                        AV.int IntKind.i64
                          (IntKind.i64.wrap (0 + (nth (RV.p PV.nilp) r_1.fst 0).toPV.toInt))]
                      [Blk.box
                          [AV.sl 1
                              (nth PV.nilp
                                  (List.map AV.toPV (nth (Blk.box []) r_1.snd 0).toCs) 0).toEs,
                            AV.int IntKind.i64
                              (nth PV.nilp
                                  (List.map AV.toPV (nth (Blk.box []) r_1.snd 0).toCs) 1).toInt]])
                    fun (r_2 : Res) =>
                    ctl
                      (okR
                          [RSh.agg
                              [Sh.int IntKind.i64, Sh.int IntKind.i64, Sh.sl 1]]
                          r_2.fst &&
                        okB [Sum.inl [Sh.sl 1, Sh.int IntKind.i64]] r_2.snd)
                      (bnd
                        (F 10
                          [AV.agg
                              [PV.sl 3
                                  (nth PV.nilp
                                      (nth (RV.p PV.nilp) r.fst 0).toCs 0).toEs,
                                PV.int IntKind.u64
                                  (nth PV.nilp
                                      (nth (RV.p PV.nilp) r.fst 0).toCs 1).toInt],
                            AV.agg
                              [PV.int IntKind.i64
                                  (nth PV.nilp
                                      (nth (RV.p PV.nilp) r_2.fst 0).toCs 0).toInt,
                                PV.int IntKind.i64
                                  (nth PV.nilp
                                      (nth (RV.p PV.nilp) r_2.fst 0).toCs 1).toInt,
                                PV.sl 1
                                  (nth PV.nilp
                                      (nth (RV.p PV.nilp) r_2.fst 0).toCs 2).toEs]]
                          [])
                        fun (r_3 : Res) =>
                        ctl
                          (okR
                              [RSh.agg [Sh.sl 3, Sh.int IntKind.u64],
                                RSh.one (Sh.int IntKind.i64)]
                              r_3.fst &&
                            okB [] r_3.snd)
                          (bnd
                            (ctl (!(nth (RV.p PV.nilp) r_3.fst 1).toPV.toInt != 0)
                              (Option.some
                                ((↑(nth PV.nilp
                                            (nth (RV.p PV.nilp) r_3.fst 0).toCs 0).toEs.length :
                                    Int) !=
                                  IntKind.i64.wrap
                                    ((↑(nth PV.nilp
                                                (nth (RV.p PV.nilp) r.fst 0).toCs 0).toEs.length :
                                        Int) +
                                      1)))
                              (Option.some Bool.true))
                            fun (v : Bool) =>
                            bnd
                              (ctl (!v)
                                (bnd
                                  (F 19
                                    [AV.agg
                                        [PV.sl 3
                                            (nth PV.nilp
                                                (nth (RV.p PV.nilp) r_3.fst 0).toCs 0).toEs,
                                          PV.int IntKind.u64
                                            (nth PV.nilp
                                                (nth (RV.p PV.nilp) r_3.fst 0).toCs 1).toInt]]
                                    [])
                                  fun (r : Res) =>
                                  ctl
                                    (okR [RSh.one (Sh.int IntKind.i64)] r.fst &&
                                      okB [] r.snd)
                                    (Option.some ((nth (RV.p PV.nilp) r.fst 0).toPV.toInt != 0)) Option.none)
                                (Option.some Bool.true))
                              fun (v : Bool) =>
                              ctl v (Option.some ([RV.p (PV.bool Bool.false)], []))
                                (bnd
                                  (lp E F 5 0 [] 0
                                    { vals := [AV.int IntKind.i64 1],
                                      blks :=
                                        [Blk.box
                                            [AV.sl 3
                                                (nth PV.nilp
                                                    (nth (RV.p PV.nilp) r.fst 0).toCs 0).toEs,
                                              AV.int IntKind.u64
                                                (nth PV.nilp
                                                    (nth (RV.p PV.nilp) r.fst 0).toCs 1).toInt],
                                          Blk.box
                                            [AV.int IntKind.i64
                                                (nth PV.nilp
                                                    (nth (RV.p PV.nilp) r_2.fst 0).toCs 0).toInt,
                                              AV.int IntKind.i64
                                                (nth PV.nilp
                                                    (nth (RV.p PV.nilp) r_2.fst 0).toCs 1).toInt,
                                              AV.sl 1
                                                (nth PV.nilp
                                                    (nth (RV.p PV.nilp) r_2.fst 0).toCs 2).toEs],
                                          Blk.box
                                            [AV.sl 3
                                                (nth PV.nilp
                                                    (nth (RV.p PV.nilp) r_3.fst 0).toCs 0).toEs,
                                              AV.int IntKind.u64
                                                (nth PV.nilp
                                                    (nth (RV.p PV.nilp) r_3.fst 0).toCs 1).toInt]] })
                                  fun (p : Ex × Pack) =>
                                  ctl (p.fst.eqb (Ex.exit 0))
                                    (ctl
                                      (okPack
                                        {
                                          slots :=
                                            [(7, Sum.inr (Sum.inr (AV.t (TV.ptr 0 0)))),
                                              (8, Sum.inr (Sum.inr (AV.t (TV.ptr 1 0))))],
                                          blks :=
                                            [Sum.inl
                                                [Sum.inl (Sh.int IntKind.i64), Sum.inl (Sh.int IntKind.i64),
                                                  Sum.inl (Sh.sl 1)],
                                              Sum.inl [Sum.inl (Sh.sl 3), Sum.inl (Sh.int IntKind.u64)]] }
                                        p.snd)
                                      (ctl
                                        (leB
                                          (nth AV.undef
                                                (nth (Blk.box []) p.snd.blks 0).toCs 1).toPV.toInt
                                          3)
                                        (bnd
                                          (F 16
                                            [AV.agg
                                                [PV.sl 3
                                                    (nth AV.undef
                                                          (nth (Blk.box []) p.snd.blks 1).toCs 0).toPV.toEs,
                                                  PV.int IntKind.u64
                                                    (nth AV.undef
                                                          (nth (Blk.box []) p.snd.blks 1).toCs 1).toPV.toInt],
                                              AV.int IntKind.i64
                                                (nth AV.undef
                                                      (nth (Blk.box []) p.snd.blks 0).toCs 1).toPV.toInt,
                                              AV.int IntKind.i64
                                                (nth AV.undef
                                                      (nth (Blk.box []) p.snd.blks 0).toCs 0).toPV.toInt]
                                            [])
                                          fun (r : Res) =>
                                          ctl
                                            (okR
                                                [RSh.one (Sh.int IntKind.i64),
                                                  RSh.one Sh.bool]
                                                r.fst &&
                                              okB [] r.snd)
                                            (bnd
                                              (ctl
                                                (nth (RV.p PV.nilp) r.fst 1).toPV.toBool
                                                (getE
                                                  (nth AV.undef
                                                        (nth (Blk.box []) p.snd.blks 0).toCs 2).toPV.toEs
                                                  0 fun (c : List PV) =>
                                                  ctl (okCs [Sh.int IntKind.i64] c)
                                                    (Option.some
                                                      ((nth (RV.p PV.nilp) r.fst 0).toPV.toInt ==
                                                        (nth PV.nilp c 0).toInt))
                                                    Option.none)
                                                (Option.some Bool.false))
                                              fun (v : Bool) =>
                                              bnd
                                                (ctl v
                                                  (bnd (F 11 [] []) fun (r : Res) =>
                                                    ctl
                                                      (okR [RSh.one Sh.bool] r.fst &&
                                                        okB [] r.snd)
                                                      (Option.some (nth (RV.p PV.nilp) r.fst 0).toPV.toBool)
                                                      Option.none)
                                                  (Option.some Bool.false))
                                                fun (v : Bool) => Option.some ([RV.p (PV.bool v)], []))
                                            Option.none)
                                        (bnd (F 11 [] []) fun (r : Res) =>
                                          ctl
                                            (okR [RSh.one Sh.bool] r.fst &&
                                              okB [] r.snd)
                                            (Option.some
                                              ([RV.p
                                                    (PV.bool
                                                      (nth (RV.p PV.nilp) r.fst 0).toPV.toBool)],
                                                []))
                                            Option.none))
                                      Option.none)
                                    (ctl (p.fst.eqb Ex.ret)
                                      (ctl (okPack { slots := [(2, Sum.inl Sh.bool)], blks := [] } p.snd)
                                        (Option.some
                                          ([RV.p
                                                (PV.bool (nth AV.undef p.snd.vals 0).toPV.toBool)],
                                            []))
                                        Option.none)
                                      Option.none)))
                          Option.none)
                      Option.none)
                  Option.none))
            Option.none)
        Option.none) := by kernel_rfl

end Go.Proofs.YtdbajagnhanpfaaDoor.Vm
