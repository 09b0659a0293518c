/- The raw theorems, by program: what each function and each loop comes to. -/
import Derived.Test.YtmlhemkadoadaaaDoorEnv
import Derived.Test.YtmlhemkadoadaaaDoorVm34
import Derived.KernelRfl
namespace Go.Proofs.YtmlhemkadoadaaaDoor.Vm
open Go
set_option maxRecDepth 100000
set_option linter.unusedVariables false

/-- dynpos/dynposlaw05.StreamExact, the loop of block 0 -/
theorem r6_0 (F : Fun) (b2 : List (List PV)) (x35_0 : List (List PV)) (x35_1 : List (List PV)) (x35_2 : List (List PV)) (x36 : Int) (b0_0 : List (List PV)) (b0_1 : Int) : lp E F 6 0 [] 0
  {
    vals :=
      [AV.sl 1 b2,
        AV.agg [PV.sl 1 x35_0, PV.sl 1 x35_1, PV.sl 1 x35_2],
        AV.int IntKind.i64 x36],
    blks := [Blk.box [AV.sl 1 b0_0, AV.int IntKind.i64 b0_1]] } =
  ctl (ltB x36 3)
    (getE [[PV.sl 1 x35_0], [PV.sl 1 x35_1], [PV.sl 1 x35_2]] x36
      fun (c : List PV) =>
      ctl (okCs [Sh.sl 1] c)
        (bnd
          (F 9 [AV.agg [PV.sl 1 (nth PV.nilp c 0).toEs]] [])
          fun (r : Res) =>
          ctl
            (okR [RSh.one Sh.bool] r.fst && okB [] r.snd)
            (bnd
              (F 18 [AV.agg [PV.sl 1 (nth PV.nilp c 0).toEs]] [])
              fun (r_1 : Res) =>
              ctl
                (okR [RSh.one Sh.bool] r_1.fst && okB [] r_1.snd)
                (ctl
                  (!(nth (RV.p PV.nilp) r.fst 0).toPV.toBool ==
                      (nth (RV.p PV.nilp) r_1.fst 0).toPV.toBool)
                  (Option.some (Ex.ret, { vals := [AV.bool Bool.false], blks := [] }))
                  (bnd
                    (F 12 [AV.t (TV.ptr 0 0)]
                      [Blk.box [AV.sl 1 b0_0, AV.int IntKind.i64 b0_1]])
                    fun (r : Res) =>
                    ctl
                      (okR [RSh.one (Sh.sl 1)] r.fst &&
                        okB [Sum.inl [Sh.sl 1, Sh.int IntKind.i64]] r.snd)
                      (bnd
                        (lp E F 6 0 [] 2
                          {
                            vals :=
                              [AV.sl 1 b2,
                                AV.agg
                                  [PV.sl 1 x35_0, PV.sl 1 x35_1, PV.sl 1 x35_2],
                                AV.int IntKind.i64 x36,
                                AV.agg
                                  [PV.sl 1 (nth (RV.p PV.nilp) r.fst 0).toPV.toEs,
                                    PV.sl 1 b2,
                                    PV.sl 1
                                      [[PV.int IntKind.u8 42], [PV.int IntKind.u8 53],
                                        [PV.int IntKind.u8 67], [PV.int IntKind.u8 13],
                                        [PV.int IntKind.u8 10], [PV.int IntKind.u8 36]]],
                                AV.int IntKind.i64 0],
                            blks :=
                              [Blk.box
                                  [AV.sl 1
                                      (nth PV.nilp
                                          (List.map AV.toPV (nth (Blk.box []) r.snd 0).toCs) 0).toEs,
                                    AV.int IntKind.i64
                                      (nth PV.nilp
                                          (List.map AV.toPV (nth (Blk.box []) r.snd 0).toCs) 1).toInt],
                                Blk.box [AV.sl 1 (nth PV.nilp c 0).toEs]] })
                        fun (p : Ex × Pack) =>
                        ctl (p.fst.eqb (Ex.exit 2))
                          (ctl
                            (okPack
                              {
                                slots :=
                                  [(2, Sum.inl (Sh.sl 1)), (7, Sum.inr (Sum.inr (AV.t (TV.ptr 0 0)))),
                                    (35, Sum.inr (Sum.inl [Sh.sl 1, Sh.sl 1, Sh.sl 1])),
                                    (36, Sum.inl (Sh.int IntKind.i64))],
                                blks := [Sum.inl [Sum.inl (Sh.sl 1), Sum.inl (Sh.int IntKind.i64)]] }
                              p.snd)
                            (lp E F 6 0 [] 0
                              {
                                vals :=
                                  [AV.sl 1 (nth AV.undef p.snd.vals 0).toPV.toEs,
                                    AV.agg
                                      [PV.sl 1
                                          (nth PV.nilp
                                              (nth AV.undef p.snd.vals 1).toCs 0).toEs,
                                        PV.sl 1
                                          (nth PV.nilp
                                              (nth AV.undef p.snd.vals 1).toCs 1).toEs,
                                        PV.sl 1
                                          (nth PV.nilp
                                              (nth AV.undef p.snd.vals 1).toCs 2).toEs],
                                    AV.int IntKind.i64
                                      (IntKind.i64.wrap ((nth AV.undef p.snd.vals 2).toPV.toInt + 1))],
                                blks :=
                                  [Blk.box
                                      [AV.sl 1
                                          (nth AV.undef
                                                (nth (Blk.box []) p.snd.blks 0).toCs 0).toPV.toEs,
                                        AV.int IntKind.i64
                                          (nth AV.undef
                                                (nth (Blk.box []) p.snd.blks 0).toCs 1).toPV.toInt]] })
                            Option.none)
                          (ctl (p.fst.eqb Ex.ret)
                            (ctl (okPack { slots := [(6, Sum.inl Sh.bool)], blks := [] } p.snd)
                              (Option.some
                                (Ex.ret,
                                  { vals := [AV.bool (nth AV.undef p.snd.vals 0).toPV.toBool], blks := [] }))
                              Option.none)
                            Option.none))
                      Option.none))
                Option.none)
            Option.none)
        Option.none)
    (Option.some (Ex.exit 0, { vals := [], blks := [] })) := (lp_unfold ..).trans (by kernel_rfl)

/-- dynpos/dynposlaw05.StreamExact, the loop of block 2 -/
theorem r6_2 (F : Fun) (b2 : List (List PV)) (x35_0 : List (List PV)) (x35_1 : List (List PV)) (x35_2 : List (List PV)) (x36 : Int) (x49_0 : List (List PV)) (x49_1 : List (List PV)) (x49_2 : List (List PV)) (x50 : Int) (b0_0 : List (List PV)) (b0_1 : Int) (b1_0 : List (List PV)) : lp E F 6 0 [] 2
  {
    vals :=
      [AV.sl 1 b2,
        AV.agg [PV.sl 1 x35_0, PV.sl 1 x35_1, PV.sl 1 x35_2],
        AV.int IntKind.i64 x36,
        AV.agg [PV.sl 1 x49_0, PV.sl 1 x49_1, PV.sl 1 x49_2],
        AV.int IntKind.i64 x50],
    blks :=
      [Blk.box [AV.sl 1 b0_0, AV.int IntKind.i64 b0_1],
        Blk.box [AV.sl 1 b1_0]] } =
  ctl (ltB x50 3)
    (getE [[PV.sl 1 x49_0], [PV.sl 1 x49_1], [PV.sl 1 x49_2]] x50
      fun (c : List PV) =>
      ctl (okCs [Sh.sl 1] c)
        (bnd
          (F 8
            [AV.agg [PV.sl 1 b1_0],
              AV.sl 1 (nth PV.nilp c 0).toEs]
            [])
          fun (r : Res) =>
          ctl
            (okR
                [RSh.agg [Sh.sl 1], RSh.one (Sh.sl 1),
                  RSh.one (Sh.int IntKind.i64)]
                r.fst &&
              okB [] r.snd)
            (bnd
              (F 19
                [AV.agg [PV.sl 1 b1_0],
                  AV.sl 1 (nth PV.nilp c 0).toEs]
                [])
              fun (r_1 : Res) =>
              ctl
                (okR
                    [RSh.agg [Sh.sl 1], RSh.one (Sh.sl 1),
                      RSh.one (Sh.int IntKind.i64)]
                    r_1.fst &&
                  okB [] r_1.snd)
                (bnd
                  (F 14
                    [AV.sl 1
                        (nth PV.nilp
                            (nth (RV.p PV.nilp) r.fst 0).toCs 0).toEs,
                      AV.sl 1
                        (nth PV.nilp
                            (nth (RV.p PV.nilp) r_1.fst 0).toCs 0).toEs]
                    [])
                  fun (r_2 : Res) =>
                  ctl
                    (okR [RSh.one Sh.bool] r_2.fst && okB [] r_2.snd)
                    (bnd
                      (ctl (!!(nth (RV.p PV.nilp) r_2.fst 0).toPV.toBool)
                        (bnd
                          (F 13
                            [AV.sl 1 (nth (RV.p PV.nilp) r.fst 1).toPV.toEs,
                              AV.sl 1 (nth (RV.p PV.nilp) r_1.fst 1).toPV.toEs]
                            [])
                          fun (r : Res) =>
                          ctl
                            (okR [RSh.one Sh.bool] r.fst && okB [] r.snd)
                            (Option.some !(nth (RV.p PV.nilp) r.fst 0).toPV.toBool) Option.none)
                        (Option.some Bool.true))
                      fun (v : Bool) =>
                      bnd
                        (ctl (!v)
                          (Option.some
                            ((nth (RV.p PV.nilp) r.fst 2).toPV.toInt !=
                              (nth (RV.p PV.nilp) r_1.fst 2).toPV.toInt))
                          (Option.some Bool.true))
                        fun (v : Bool) =>
                        ctl v (Option.some (Ex.ret, { vals := [AV.bool Bool.false], blks := [] }))
                          (bnd (F 17 [AV.sl 1 (nth PV.nilp c 0).toEs] [])
                            fun (r : Res) =>
                            ctl
                              (okR
                                  [RSh.one (Sh.sl 1),
                                    RSh.one (Sh.int IntKind.i64)]
                                  r.fst &&
                                okB [] r.snd)
                              (bnd (F 20 [AV.sl 1 (nth PV.nilp c 0).toEs] [])
                                fun (r_3 : Res) =>
                                ctl
                                  (okR
                                      [RSh.one (Sh.sl 1),
                                        RSh.one (Sh.int IntKind.i64)]
                                      r_3.fst &&
                                    okB [] r_3.snd)
                                  (bnd
                                    (F 13
                                      [AV.sl 1
                                          (nth (RV.p PV.nilp) r.fst 0).toPV.toEs,
                                        AV.sl 1
                                          (nth (RV.p PV.nilp) r_3.fst 0).toPV.toEs]
                                      [])
                                    fun (r_4 : Res) =>
                                    ctl
                                      (okR [RSh.one Sh.bool] r_4.fst &&
                                        okB [] r_4.snd)
                                      (bnd
                                        (ctl
                                          (!!(nth (RV.p PV.nilp) r_4.fst 0).toPV.toBool)
                                          (Option.some
                                            ((nth (RV.p PV.nilp) r.fst 1).toPV.toInt !=
                                              (nth (RV.p PV.nilp) r_3.fst 1).toPV.toInt))
                                          (Option.some Bool.true))
                                        fun (v : Bool) =>
                                        ctl v (Option.some (Ex.ret, { vals := [AV.bool Bool.false], blks := [] }))
                                          (lp E F 6 0 [] 2
                                            {
                                              vals :=
                                                [AV.sl 1 b2,
                                                  AV.agg
                                                    [PV.sl 1 x35_0, PV.sl 1 x35_1, PV.sl 1 x35_2],
                                                  AV.int IntKind.i64 x36,
                                                  AV.agg
                                                    [PV.sl 1 x49_0, PV.sl 1 x49_1, PV.sl 1 x49_2],
                                                  AV.int IntKind.i64 (IntKind.i64.wrap (x50 + 1))],
                                              blks :=
                                                [Blk.box [AV.sl 1 b0_0, AV.int IntKind.i64 b0_1],
                                                  Blk.box [AV.sl 1 b1_0]] }))
                                      Option.none)
                                  Option.none)
                              Option.none))
                    Option.none)
                Option.none)
            Option.none)
        Option.none)
    (Option.some
      (Ex.exit 2,
        {
          vals :=
            [AV.sl 1 b2,
              AV.agg [PV.sl 1 x35_0, PV.sl 1 x35_1, PV.sl 1 x35_2],
              AV.int IntKind.i64 x36],
          blks := [Blk.box [AV.sl 1 b0_0, AV.int IntKind.i64 b0_1]] })) := (lp_unfold ..).trans (by kernel_rfl)

/-- dynpos/dynposlaw05.StreamExact -/
theorem r6 (F : Fun) (t : List (List PV)) (raw0 : List (List PV)) (b : List (List PV)) : funK E F 6 [AV.sl 1 t, AV.agg [PV.sl 1 raw0], AV.sl 1 b] [] =
  bnd
    (ctl (!ltB 300 (↑raw0.length : Int)) (Option.some (ltB 600 (↑b.length : Int))) (Option.some Bool.true))
    fun (v : Bool) =>
    ctl v
      (bnd (F 10 [] []) fun (r : Res) =>
        ctl
          (okR [RSh.one Sh.bool] r.fst && okB [] r.snd)
          (Option.some
            ([RV.p
                  (PV.bool (nth (RV.p PV.nilp) r.fst 0).toPV.toBool)],
              []))
          Option.none)
      (bnd (F 11 [AV.sl 1 t] []) fun (r : Res) =>
        ctl
          (okR [RSh.ownp [Sh.sl 1, Sh.int IntKind.i64]] r.fst &&
            okB [] r.snd)
          (bnd
            (lp E F 6 0 [] 0
              {
                vals :=
                  [AV.sl 1 b,
                    AV.agg
                      [PV.sl 1 raw0, PV.sl 1 [],
                        PV.sl 1
                          [[PV.int IntKind.u8 36], [PV.int IntKind.u8 65], [PV.int IntKind.u8 44],
                            [PV.int IntKind.u8 49]]],
                    AV.int IntKind.i64 0],
                blks :=
                  [Blk.box
                      [AV.sl 1
                          (nth PV.nilp
                              (nth (RV.p PV.nilp) r.fst 0).toCs 0).toEs,
                        AV.int IntKind.i64
                          (nth PV.nilp
                              (nth (RV.p PV.nilp) r.fst 0).toCs 1).toInt]] })
            fun (p : Ex × Pack) =>
            ctl (p.fst.eqb (Ex.exit 0))
              (bnd (F 10 [] []) fun (r : Res) =>
                ctl
                  (okR [RSh.one Sh.bool] r.fst && okB [] r.snd)
                  (Option.some
                    ([RV.p
                          (PV.bool (nth (RV.p PV.nilp) r.fst 0).toPV.toBool)],
                      []))
                  Option.none)
              (ctl (p.fst.eqb Ex.ret)
                (ctl (okPack { slots := [(6, Sum.inl Sh.bool)], blks := [] } p.snd)
                  (Option.some
                    ([RV.p (PV.bool (nth AV.undef p.snd.vals 0).toPV.toBool)],
                      []))
                  Option.none)
                Option.none))
          Option.none) := by kernel_rfl

end Go.Proofs.YtmlhemkadoadaaaDoor.Vm
