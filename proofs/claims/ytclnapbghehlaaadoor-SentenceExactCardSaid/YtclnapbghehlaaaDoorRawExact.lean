/- The raw theorems, by program: what each function and each loop comes to. -/
import Derived.Test.YtclnapbghehlaaaDoorEnv
import Derived.Test.YtclnapbghehlaaaDoorVm34
import Derived.KernelRfl
namespace Go.Proofs.YtclnapbghehlaaaDoor.Vm
open Go
set_option maxRecDepth 100000
set_option linter.unusedVariables false

/-- dynpos/dynposlaw04.SentenceExact, the loop of block 0 -/
theorem r4_0 (F : Fun) (b2 : List (List PV)) (body3 : List UInt8) (x56_0 : List (List PV)) (x56_1 : List (List PV)) (x56_2 : List (List PV)) (x57 : Int) (b0_0 : List (List PV)) (b0_1 : Int) : lp E F 4 0 [] 0
  {
    vals :=
      [AV.sl 1 b2, AV.str body3,
        AV.agg [PV.sl 1 x56_0, PV.sl 1 x56_1, PV.sl 1 x56_2],
        AV.int IntKind.i64 x57],
    blks := [Blk.box [AV.sl 1 b0_0, AV.int IntKind.i64 b0_1]] } =
  ctl (ltB x57 3)
    (getE [[PV.sl 1 x56_0], [PV.sl 1 x56_1], [PV.sl 1 x56_2]] x57
      fun (c : List PV) =>
      ctl (okCs [Sh.sl 1] c)
        (bnd
          (F 16 [AV.agg [PV.sl 1 (nth PV.nilp c 0).toEs]] [])
          fun (r : Res) =>
          ctl
            (okR
                [RSh.one (Sh.sl 1), RSh.one (Sh.int IntKind.i64)] r.fst &&
              okB [] r.snd)
            (bnd
              (F 17 [AV.agg [PV.sl 1 (nth PV.nilp c 0).toEs]] [])
              fun (r_1 : Res) =>
              ctl
                (okR
                    [RSh.one (Sh.sl 1), RSh.one (Sh.int IntKind.i64)]
                    r_1.fst &&
                  okB [] r_1.snd)
                (bnd
                  (F 18 [AV.agg [PV.sl 1 (nth PV.nilp c 0).toEs]] [])
                  fun (r_2 : Res) =>
                  ctl
                    (okR [RSh.one Sh.bool] r_2.fst && okB [] r_2.snd)
                    (bnd
                      (F 19 [AV.agg [PV.sl 1 (nth PV.nilp c 0).toEs]] [])
                      fun (r_3 : Res) =>
                      ctl
                        (okR [RSh.one Sh.bool] r_3.fst && okB [] r_3.snd)
                        (ctl
                          (!!(nth (RV.p PV.nilp) r_2.fst 0).toPV.toBool ==
                                (nth (RV.p PV.nilp) r_3.fst 0).toPV.toBool)
                          (ctl
                            (bytesOk (nth (RV.p PV.nilp) r.fst 0).toPV.toEs)
                            (ctl
                              (bytesOk (nth (RV.p PV.nilp) r_1.fst 0).toPV.toEs)
                              (bnd
                                (ctl
                                  (!!toBytes
                                          (nth (RV.p PV.nilp) r.fst 0).toPV.toEs ==
                                        toBytes
                                          (nth (RV.p PV.nilp) r_1.fst 0).toPV.toEs)
                                  (Option.some
                                    ((nth (RV.p PV.nilp) r.fst 1).toPV.toInt !=
                                      (nth (RV.p PV.nilp) r_1.fst 1).toPV.toInt))
                                  (Option.some Bool.true))
                                fun (v : Bool) =>
                                ctl v (Option.some (Ex.ret, { vals := [AV.bool Bool.false], blks := [] }))
                                  (ctl
                                    (leN
                                      ((nth (RV.p PV.nilp) r_1.fst 0).toPV.toEs.length * 1) 140737488355328)
                                    (ctl
                                      (ltB 0
                                        (↑(nth (RV.p PV.nilp) r_1.fst 0).toPV.toEs.length : Int))
                                      (bnd
                                        (F 21
                                          [AV.t (TV.ptr 0 0),
                                            AV.int IntKind.i64
                                              (↑(nth (RV.p PV.nilp) r_1.fst 0).toPV.toEs.length : Int)]
                                          [Blk.box [AV.sl 1 b0_0, AV.int IntKind.i64 b0_1]])
                                        fun (r : Res) =>
                                        ctl
                                          (okR [RSh.one (Sh.int IntKind.i64)] r.fst &&
                                            okB [Sum.inl [Sh.sl 1, Sh.int IntKind.i64]] r.snd)
                                          (bnd
                                            (F 20
                                              [AV.t (TV.ptr 0 0),
                                                AV.sl 1
                                                  [[PV.int IntKind.i64 36], [PV.int IntKind.i64 42],
                                                    [PV.int IntKind.i64 44], [PV.int IntKind.i64 97],
                                                    [PV.int IntKind.i64 66], [PV.int IntKind.i64 48],
                                                    [PV.int IntKind.i64 10], [PV.int IntKind.i64 13]]]
                                              [Blk.box
                                                  [AV.sl 1
                                                      (nth PV.nilp
                                                          (List.map AV.toPV (nth (Blk.box []) r.snd 0).toCs) 0).toEs,
                                                    AV.int IntKind.i64
                                                      (nth PV.nilp
                                                          (List.map AV.toPV (nth (Blk.box []) r.snd 0).toCs)
                                                          1).toInt]])
                                            fun (r_4 : Res) =>
                                            ctl
                                              (okR [RSh.one (Sh.int IntKind.i64)] r_4.fst &&
                                                okB [Sum.inl [Sh.sl 1, Sh.int IntKind.i64]] r_4.snd)
                                              (ctl
                                                (leB 0
                                                    (nth (RV.p PV.nilp) r.fst 0).toPV.toInt &&
                                                  ltB
                                                    (nth (RV.p PV.nilp) r.fst 0).toPV.toInt
                                                    (↑(nth (RV.p PV.nilp) r_1.fst 0).toPV.toEs.length : Int))
                                                (bnd
                                                  (F 22 [AV.t (TV.ptr 0 0), AV.int IntKind.i64 12]
                                                    [Blk.box
                                                        [AV.sl 1
                                                            (nth PV.nilp
                                                                (List.map AV.toPV (nth (Blk.box []) r_4.snd 0).toCs)
                                                                0).toEs,
                                                          AV.int IntKind.i64
                                                            (nth PV.nilp
                                                                (List.map AV.toPV (nth (Blk.box []) r_4.snd 0).toCs)
                                                                1).toInt]])
                                                  fun (r_5 : Res) =>
                                                  ctl
                                                    (okR [RSh.one (Sh.sl 1)] r_5.fst &&
                                                      okB [Sum.inl [Sh.sl 1, Sh.int IntKind.i64]] r_5.snd)
                                                    (bnd
                                                      (lp E F 4 0 [] 2
                                                        {
                                                          vals :=
                                                            [AV.sl 1 b2, AV.str body3,
                                                              AV.agg
                                                                [PV.sl 1 x56_0, PV.sl 1 x56_1, PV.sl 1 x56_2],
                                                              AV.int IntKind.i64 x57,
                                                              AV.agg
                                                                [PV.sl 1
                                                                    (nth (RV.p PV.nilp) r_1.fst 0).toPV.toEs,
                                                                  PV.sl 1
                                                                    (setEs
                                                                      (nth (RV.p PV.nilp) r_1.fst 0).toPV.toEs
                                                                      (nth (RV.p PV.nilp) r.fst 0).toPV.toInt.toNat 0
                                                                      [PV.int IntKind.u8
                                                                          (IntKind.u8.wrap
                                                                            (nth (RV.p PV.nilp) r_4.fst
                                                                                  0).toPV.toInt)]),
                                                                  PV.sl 1 b2,
                                                                  PV.sl 1
                                                                    (nth (RV.p PV.nilp) r_5.fst 0).toPV.toEs],
                                                              AV.int IntKind.i64 0],
                                                          blks :=
                                                            [Blk.box
                                                                [AV.sl 1
                                                                    (nth PV.nilp
                                                                        (List.map AV.toPV
                                                                          (nth (Blk.box []) r_5.snd 0).toCs)
                                                                        0).toEs,
                                                                  AV.int IntKind.i64
                                                                    (nth PV.nilp
                                                                        (List.map AV.toPV
                                                                          (nth (Blk.box []) r_5.snd 0).toCs)
                                                                        1).toInt]] })
                                                      fun (p : Ex × Pack) =>
                                                      ctl (p.fst.eqb (Ex.exit 2))
                                                        (ctl
                                                          (okPack
                                                            {
                                                              slots :=
                                                                [(2, Sum.inl (Sh.sl 1)), (3, Sum.inl Sh.str),
                                                                  (9, Sum.inr (Sum.inr (AV.t (TV.ptr 0 0)))),
                                                                  (56,
                                                                    Sum.inr (Sum.inl [Sh.sl 1, Sh.sl 1, Sh.sl 1])),
                                                                  (57, Sum.inl (Sh.int IntKind.i64))],
                                                              blks := [Sum.inl [Sum.inl (Sh.sl 1), Sum.inl (Sh.int IntKind.i64)]] }
                                                            p.snd)
                                                          (lp E F 4 0 [] 0
                                                            {
                                                              vals :=
                                                                [AV.sl 1 (nth AV.undef p.snd.vals 0).toPV.toEs,
                                                                  AV.str (nth AV.undef p.snd.vals 1).toPV.toStr,
                                                                  AV.agg
                                                                    [PV.sl 1
                                                                        (nth PV.nilp
                                                                            (nth AV.undef p.snd.vals 2).toCs 0).toEs,
                                                                      PV.sl 1
                                                                        (nth PV.nilp
                                                                            (nth AV.undef p.snd.vals 2).toCs 1).toEs,
                                                                      PV.sl 1
                                                                        (nth PV.nilp
                                                                            (nth AV.undef p.snd.vals 2).toCs 2).toEs],
                                                                  AV.int IntKind.i64
                                                                    (IntKind.i64.wrap ((nth AV.undef p.snd.vals 3).toPV.toInt + 1))],
                                                              blks :=
                                                                [Blk.box
                                                                    [AV.sl 1
                                                                        (nth AV.undef
                                                                              (nth (Blk.box []) p.snd.blks 0).toCs 0).toPV.toEs,
                                                                      AV.int IntKind.i64
                                                                        (nth AV.undef
                                                                              (nth (Blk.box []) p.snd.blks 0).toCs 1).toPV.toInt]] })
                                                          Option.none)
                                                        (ctl (p.fst.eqb Ex.ret)
                                                          (ctl
                                                            (okPack { slots := [(8, Sum.inl Sh.bool)], blks := [] } p.snd)
                                                            (Option.some
                                                              (Ex.ret,
                                                                {
                                                                  vals :=
                                                                    [AV.bool
                                                                        (nth AV.undef p.snd.vals 0).toPV.toBool],
                                                                  blks := [] }))
                                                            Option.none)
                                                          Option.none))
                                                    Option.none)
                                                Option.none)
                                              Option.none)
                                          Option.none)
                                      (bnd
                                        (F 22 [AV.t (TV.ptr 0 0), AV.int IntKind.i64 12]
                                          [Blk.box [AV.sl 1 b0_0, AV.int IntKind.i64 b0_1]])
                                        fun (r : Res) =>
                                        ctl
                                          (okR [RSh.one (Sh.sl 1)] r.fst &&
                                            okB [Sum.inl [Sh.sl 1, Sh.int IntKind.i64]] r.snd)
                                          (bnd
                                            (lp E F 4 0 [] 2
                                              {
                                                vals :=
                                                  [AV.sl 1 b2, AV.str body3,
                                                    AV.agg
                                                      [PV.sl 1 x56_0, PV.sl 1 x56_1, PV.sl 1 x56_2],
                                                    AV.int IntKind.i64 x57,
                                                    AV.agg
                                                      [PV.sl 1
                                                          (nth (RV.p PV.nilp) r_1.fst 0).toPV.toEs,
                                                        PV.sl 1
                                                          (nth (RV.p PV.nilp) r_1.fst 0).toPV.toEs,
                                                        PV.sl 1 b2,
                                                        PV.sl 1
                                                          (nth (RV.p PV.nilp) r.fst 0).toPV.toEs],
                                                    AV.int IntKind.i64 0],
                                                blks :=
                                                  [Blk.box
                                                      [AV.sl 1
                                                          (nth PV.nilp
                                                              (List.map AV.toPV (nth (Blk.box []) r.snd 0).toCs)
                                                              0).toEs,
                                                        AV.int IntKind.i64
                                                          (nth PV.nilp
                                                              (List.map AV.toPV (nth (Blk.box []) r.snd 0).toCs)
                                                              1).toInt]] })
                                            fun (p : Ex × Pack) =>
                                            ctl (p.fst.eqb (Ex.exit 2))
                                              (ctl
                                                (okPack
                                                  {
                                                    slots :=
                                                      [(2, Sum.inl (Sh.sl 1)), (3, Sum.inl Sh.str),
                                                        (9, Sum.inr (Sum.inr (AV.t (TV.ptr 0 0)))),
                                                        (56, Sum.inr (Sum.inl [Sh.sl 1, Sh.sl 1, Sh.sl 1])),
                                                        (57, Sum.inl (Sh.int IntKind.i64))],
                                                    blks := [Sum.inl [Sum.inl (Sh.sl 1), Sum.inl (Sh.int IntKind.i64)]] }
                                                  p.snd)
                                                (lp E F 4 0 [] 0
                                                  {
                                                    vals :=
                                                      [AV.sl 1 (nth AV.undef p.snd.vals 0).toPV.toEs,
                                                        AV.str (nth AV.undef p.snd.vals 1).toPV.toStr,
                                                        AV.agg
                                                          [PV.sl 1
                                                              (nth PV.nilp
                                                                  (nth AV.undef p.snd.vals 2).toCs 0).toEs,
                                                            PV.sl 1
                                                              (nth PV.nilp
                                                                  (nth AV.undef p.snd.vals 2).toCs 1).toEs,
                                                            PV.sl 1
                                                              (nth PV.nilp
                                                                  (nth AV.undef p.snd.vals 2).toCs 2).toEs],
                                                        AV.int IntKind.i64
                                                          (IntKind.i64.wrap ((nth AV.undef p.snd.vals 3).toPV.toInt + 1))],
                                                    blks :=
                                                      [Blk.box
                                                          [AV.sl 1
                                                              (nth AV.undef
                                                                    (nth (Blk.box []) p.snd.blks 0).toCs 0).toPV.toEs,
                                                            AV.int IntKind.i64
                                                              (nth AV.undef
                                                                    (nth (Blk.box []) p.snd.blks 0).toCs 1).toPV.toInt]] })
                                                Option.none)
                                              (ctl (p.fst.eqb Ex.ret)
                                                (ctl (okPack { slots := [(8, Sum.inl Sh.bool)], blks := [] } p.snd)
                                                  (Option.some
                                                    (Ex.ret,
                                                      { vals := [AV.bool (nth AV.undef p.snd.vals 0).toPV.toBool],
                                                        blks := [] }))
                                                  Option.none)
                                                Option.none))
                                          Option.none))
                                    Option.none))
                              Option.none)
                            Option.none)
                          (Option.some (Ex.ret, { vals := [AV.bool Bool.false], blks := [] })))
                        Option.none)
                    Option.none)
                Option.none)
            Option.none)
        Option.none)
    (Option.some (Ex.exit 0, { vals := [AV.str body3], blks := [] })) := (lp_unfold ..).trans (by kernel_rfl)

/-- dynpos/dynposlaw04.SentenceExact, the loop of block 2 -/
theorem r4_2 (F : Fun) (b2 : List (List PV)) (body3 : List UInt8) (x56_0 : List (List PV)) (x56_1 : List (List PV)) (x56_2 : List (List PV)) (x57 : Int) (x107_0 : List (List PV)) (x107_1 : List (List PV)) (x107_2 : List (List PV)) (x107_3 : List (List PV)) (x108 : Int) (b0_0 : List (List PV)) (b0_1 : Int) : lp E F 4 0 [] 2
  {
    vals :=
      [AV.sl 1 b2, AV.str body3,
        AV.agg [PV.sl 1 x56_0, PV.sl 1 x56_1, PV.sl 1 x56_2],
        AV.int IntKind.i64 x57,
        AV.agg
          [PV.sl 1 x107_0, PV.sl 1 x107_1, PV.sl 1 x107_2, PV.sl 1 x107_3],
        AV.int IntKind.i64 x108],
    blks := [Blk.box [AV.sl 1 b0_0, AV.int IntKind.i64 b0_1]] } =
  ctl (ltB x108 4)
    (getE
      [[PV.sl 1 x107_0], [PV.sl 1 x107_1], [PV.sl 1 x107_2], [PV.sl 1 x107_3]]
      x108 fun (c : List PV) =>
      ctl (okCs [Sh.sl 1] c)
        (bnd (F 23 [AV.sl 1 (nth PV.nilp c 0).toEs] [])
          fun (r : Res) =>
          ctl
            (okR
                [RSh.agg [Sh.sl 1], RSh.one (Sh.int IntKind.i64)] r.fst &&
              okB [] r.snd)
            (bnd (F 24 [AV.sl 1 (nth PV.nilp c 0).toEs] [])
              fun (r_1 : Res) =>
              ctl
                (okR
                    [RSh.agg [Sh.sl 1], RSh.one (Sh.int IntKind.i64)]
                    r_1.fst &&
                  okB [] r_1.snd)
                (bnd
                  (F 25
                    [AV.agg
                        [PV.sl 1
                            (nth PV.nilp
                                (nth (RV.p PV.nilp) r.fst 0).toCs 0).toEs],
                      AV.agg
                        [PV.sl 1
                            (nth PV.nilp
                                (nth (RV.p PV.nilp) r_1.fst 0).toCs 0).toEs]]
                    [])
                  fun (r_2 : Res) =>
                  ctl
                    (okR [RSh.one Sh.bool] r_2.fst && okB [] r_2.snd)
                    (bnd
                      (ctl (!!(nth (RV.p PV.nilp) r_2.fst 0).toPV.toBool)
                        (Option.some
                          ((nth (RV.p PV.nilp) r.fst 1).toPV.toInt !=
                            (nth (RV.p PV.nilp) r_1.fst 1).toPV.toInt))
                        (Option.some Bool.true))
                      fun (v : Bool) =>
                      bnd
                        (ctl (!v)
                          (bnd (F 13 [AV.sl 1 (nth PV.nilp c 0).toEs] [])
                            fun (r : Res) =>
                            ctl
                              (okR [RSh.one (Sh.int IntKind.u8)] r.fst &&
                                okB [] r.snd)
                              (bnd (F 26 [AV.sl 1 (nth PV.nilp c 0).toEs] [])
                                fun (r_3 : Res) =>
                                ctl
                                  (okR [RSh.one (Sh.int IntKind.u8)] r_3.fst &&
                                    okB [] r_3.snd)
                                  (Option.some
                                    ((nth (RV.p PV.nilp) r.fst 0).toPV.toInt !=
                                      (nth (RV.p PV.nilp) r_3.fst 0).toPV.toInt))
                                  Option.none)
                              Option.none)
                          (Option.some Bool.true))
                        fun (v : Bool) =>
                        ctl (!v)
                          (ctl (bytesOk (nth PV.nilp c 0).toEs)
                            (bnd
                              (F 12 [AV.str (toBytes (nth PV.nilp c 0).toEs)] [])
                              fun (r : Res) =>
                              ctl
                                (okR [RSh.one (Sh.sl 1)] r.fst && okB [] r.snd)
                                (ctl (bytesOk (nth PV.nilp c 0).toEs)
                                  (bnd
                                    (bnd
                                      (F 27
                                        [AV.str (toBytes (nth PV.nilp c 0).toEs)]
                                        [])
                                      fun (r_3 : Res) =>
                                      ctl
                                        (okR [RSh.one (Sh.sl 1)] r_3.fst &&
                                          okB [] r_3.snd)
                                        (bnd
                                          (F 11
                                            [AV.sl 1
                                                (nth (RV.p PV.nilp) r.fst 0).toPV.toEs,
                                              AV.sl 1
                                                (nth (RV.p PV.nilp) r_3.fst 0).toPV.toEs]
                                            [])
                                          fun (r : Res) =>
                                          ctl
                                            (okR [RSh.one Sh.bool] r.fst &&
                                              okB [] r.snd)
                                            (Option.some !(nth (RV.p PV.nilp) r.fst 0).toPV.toBool) Option.none)
                                        Option.none)
                                    fun (v : Bool) =>
                                    ctl v (Option.some (Ex.ret, { vals := [AV.bool Bool.false], blks := [] }))
                                      (lp E F 4 0 [] 2
                                        {
                                          vals :=
                                            [AV.sl 1 b2, AV.str body3,
                                              AV.agg
                                                [PV.sl 1 x56_0, PV.sl 1 x56_1, PV.sl 1 x56_2],
                                              AV.int IntKind.i64 x57,
                                              AV.agg
                                                [PV.sl 1 x107_0, PV.sl 1 x107_1, PV.sl 1 x107_2,
                                                  PV.sl 1 x107_3],
                                              AV.int IntKind.i64 (IntKind.i64.wrap (x108 + 1))],
                                          blks := [Blk.box [AV.sl 1 b0_0, AV.int IntKind.i64 b0_1]] }))
                                  Option.none)
                                Option.none)
                            Option.none)
                          (Option.some (Ex.ret, { vals := [AV.bool Bool.false], blks := [] })))
                    Option.none)
                Option.none)
            Option.none)
        Option.none)
    (Option.some
      (Ex.exit 2,
        {
          vals :=
            [AV.sl 1 b2, AV.str body3,
              AV.agg [PV.sl 1 x56_0, PV.sl 1 x56_1, PV.sl 1 x56_2],
              AV.int IntKind.i64 x57],
          blks := [Blk.box [AV.sl 1 b0_0, AV.int IntKind.i64 b0_1]] })) := (lp_unfold ..).trans (by kernel_rfl)

/-- dynpos/dynposlaw04.SentenceExact -/
theorem r4 (F : Fun) (t : List (List PV)) (raw0 : List (List PV)) (b : List (List PV)) (body : List UInt8) : funK E F 4 [AV.sl 1 t, AV.agg [PV.sl 1 raw0], AV.sl 1 b,
  AV.str body] [] =
  bnd (F 14 [AV.sl 1 raw0] []) fun (r : Res) =>
    ctl
      (okR [RSh.one Sh.bool] r.fst && okB [] r.snd)
      (bnd
        (ctl (!!(nth (RV.p PV.nilp) r.fst 0).toPV.toBool)
          (Option.some (ltB 300 (↑b.length : Int))) (Option.some Bool.true))
        fun (v : Bool) =>
        bnd (ctl (!v) (Option.some (ltB 300 (↑body.length : Int))) (Option.some Bool.true)) fun (v : Bool) =>
          ctl v
            (bnd (F 8 [] []) fun (r : Res) =>
              ctl
                (okR [RSh.one Sh.bool] r.fst && okB [] r.snd)
                (Option.some
                  ([RV.p
                        (PV.bool (nth (RV.p PV.nilp) r.fst 0).toPV.toBool)],
                    []))
                Option.none)
            (bnd (F 9 [AV.sl 1 t] []) fun (r : Res) =>
              ctl
                (okR [RSh.ownp [Sh.sl 1, Sh.int IntKind.i64]] r.fst &&
                  okB [] r.snd)
                (bnd
                  (F 10 [AV.t (TV.ptr 0 0)]
                    [Blk.box
                        [AV.sl 1
                            (nth PV.nilp
                                (nth (RV.p PV.nilp) r.fst 0).toCs 0).toEs,
                          AV.int IntKind.i64
                            (nth PV.nilp
                                (nth (RV.p PV.nilp) r.fst 0).toCs 1).toInt]])
                  fun (r : Res) =>
                  ctl
                    (okR [RSh.own 1] r.fst &&
                      okB [Sum.inl [Sh.sl 1, Sh.int IntKind.i64]] r.snd)
                    (bnd
                      (F 10 [AV.t (TV.ptr 0 0)]
                        [Blk.box
                            [AV.sl 1
                                (nth PV.nilp
                                    (List.map AV.toPV (nth (Blk.box []) r.snd 0).toCs) 0).toEs,
                              AV.int IntKind.i64
                                (nth PV.nilp
                                    (List.map AV.toPV (nth (Blk.box []) r.snd 0).toCs) 1).toInt]])
                      fun (r_1 : Res) =>
                      ctl
                        (okR [RSh.own 1] r_1.fst &&
                          okB [Sum.inl [Sh.sl 1, Sh.int IntKind.i64]] r_1.snd)
                        (bnd
                          (F 15
                            [AV.t (TV.ptr 0 0),
                              AV.sl 1
                                [[PV.str [97, 44, 98]], [PV.str [36]], [PV.str [42]],
                                  [PV.str [10]], [PV.str [49, 50, 51, 52, 53, 54, 55, 56, 57, 48, 49, 50, 51, 52, 53, 54, 55, 56, 57, 48, 49]],
                                  [PV.str [49, 50, 51, 52, 53, 54, 55, 56, 57, 48, 49, 50, 51, 52, 53, 54, 55, 56, 57, 48]], [PV.str [127]]]]
                            [Blk.box
                                [AV.sl 1
                                    (nth PV.nilp
                                        (List.map AV.toPV (nth (Blk.box []) r_1.snd 0).toCs) 0).toEs,
                                  AV.int IntKind.i64
                                    (nth PV.nilp
                                        (List.map AV.toPV (nth (Blk.box []) r_1.snd 0).toCs) 1).toInt]])
                          fun (r_2 : Res) =>
                          ctl
                            (okR [RSh.one Sh.str] r_2.fst &&
                              okB [Sum.inl [Sh.sl 1, Sh.int IntKind.i64]] r_2.snd)
                            (ctl
                              (leN
                                (((nth (RV.p PV.nilp) r_1.fst 0).toEs.length + 1) * 16) 140737488355328)
                              (bnd
                                (lp E F 4 0 [] 0
                                  {
                                    vals :=
                                      [AV.sl 1 b, AV.str body,
                                        AV.agg
                                          [PV.sl 1
                                              (nth (RV.p PV.nilp) r.fst 0).toEs,
                                            PV.sl 1
                                              ((nth (RV.p PV.nilp) r_1.fst 0).toEs ++
                                                [[PV.str
                                                      (nth (RV.p PV.nilp) r_2.fst 0).toPV.toStr]]),
                                            PV.sl 1 raw0],
                                        AV.int IntKind.i64 0],
                                    blks :=
                                      [Blk.box
                                          [AV.sl 1
                                              (nth PV.nilp
                                                  (List.map AV.toPV (nth (Blk.box []) r_2.snd 0).toCs) 0).toEs,
                                            AV.int IntKind.i64
                                              (nth PV.nilp
                                                  (List.map AV.toPV (nth (Blk.box []) r_2.snd 0).toCs) 1).toInt]] })
                                fun (p : Ex × Pack) =>
                                ctl (p.fst.eqb (Ex.exit 0))
                                  (ctl (okPack { slots := [(3, Sum.inl Sh.str)], blks := [] } p.snd)
                                    (bnd
                                      (F 12 [AV.str (nth AV.undef p.snd.vals 0).toPV.toStr] [])
                                      fun (r : Res) =>
                                      ctl
                                        (okR [RSh.one (Sh.sl 1)] r.fst &&
                                          okB [] r.snd)
                                        (bnd
                                          (F 27 [AV.str (nth AV.undef p.snd.vals 0).toPV.toStr] [])
                                          fun (r_3 : Res) =>
                                          ctl
                                            (okR [RSh.one (Sh.sl 1)] r_3.fst &&
                                              okB [] r_3.snd)
                                            (bnd
                                              (F 11
                                                [AV.sl 1
                                                    (nth (RV.p PV.nilp) r.fst 0).toPV.toEs,
                                                  AV.sl 1
                                                    (nth (RV.p PV.nilp) r_3.fst 0).toPV.toEs]
                                                [])
                                              fun (r : Res) =>
                                              ctl
                                                (okR [RSh.one Sh.bool] r.fst &&
                                                  okB [] r.snd)
                                                (bnd
                                                  (ctl
                                                    (nth (RV.p PV.nilp) r.fst 0).toPV.toBool
                                                    (bnd (F 8 [] []) fun (r : Res) =>
                                                      ctl
                                                        (okR [RSh.one Sh.bool] r.fst &&
                                                          okB [] r.snd)
                                                        (Option.some (nth (RV.p PV.nilp) r.fst 0).toPV.toBool)
                                                        Option.none)
                                                    (Option.some Bool.false))
                                                  fun (v : Bool) => Option.some ([RV.p (PV.bool v)], []))
                                                Option.none)
                                            Option.none)
                                        Option.none)
                                    Option.none)
                                  (ctl (p.fst.eqb Ex.ret)
                                    (ctl (okPack { slots := [(8, Sum.inl Sh.bool)], blks := [] } p.snd)
                                      (Option.some
                                        ([RV.p
                                              (PV.bool (nth AV.undef p.snd.vals 0).toPV.toBool)],
                                          []))
                                      Option.none)
                                    Option.none))
                              Option.none)
                            Option.none)
                        Option.none)
                    Option.none)
                Option.none))
      Option.none := by kernel_rfl

end Go.Proofs.YtclnapbghehlaaaDoor.Vm
