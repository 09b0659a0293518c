/- The raw theorems, by program: what each function and each loop comes to. -/
import Derived.Test.YtiagcaefhjibjaaEnv
import Derived.Test.YtiagcaefhjibjaaVm34
import Derived.KernelRfl
namespace Go.Proofs.Ytiagcaefhjibjaa.Vm
open Go
set_option maxRecDepth 100000
set_option linter.unusedVariables false

/-- dynpos/dynposlaw28.StatusExact, the loop of block 0 -/
theorem r3_0 (F : Fun) (time2 : Int) (judged3 : Int) (delay4 : Int) (raw5 : List (List PV)) (holds7 : Bool) (safe8 : Bool) (x63_0 : Int) (x63_1 : Int) (x63_2 : Int) (x63_3 : Int) (x64 : Int) (b0_0 : Int) (b0_1 : Int) (b0_2 : Int) (b0_3 : Int) (b0_4 : Int) (b1_0 : List (List PV)) (b1_1 : Int) : lp E F 3 0 [] 0
  {
    vals :=
      [AV.int IntKind.i64 time2, AV.int IntKind.i64 judged3, AV.int IntKind.i64 delay4,
        AV.sl 1 raw5, AV.bool holds7, AV.bool safe8,
        AV.agg
          [PV.int IntKind.i64 x63_0, PV.int IntKind.i64 x63_1, PV.int IntKind.i64 x63_2,
            PV.int IntKind.i64 x63_3],
        AV.int IntKind.i64 x64],
    blks :=
      [Blk.box
          [AV.int IntKind.i64 b0_0, AV.int IntKind.i64 b0_1, AV.int IntKind.i64 b0_2,
            AV.int IntKind.i64 b0_3, AV.int IntKind.i64 b0_4],
        Blk.box [AV.sl 1 b1_0, AV.int IntKind.i64 b1_1]] } =
  ctl (ltB x64 2)
    (getE
      [[PV.int IntKind.i64 x63_0, PV.int IntKind.i64 x63_1],
        [PV.int IntKind.i64 x63_2, PV.int IntKind.i64 x63_3]]
      x64 fun (c : List PV) =>
      ctl (okCs [Sh.int IntKind.i64, Sh.int IntKind.i64] c)
        (bnd
          (F 12 [AV.t (TV.ptr 0 0), AV.int IntKind.i64 8]
            [Blk.box [AV.sl 1 b1_0, AV.int IntKind.i64 b1_1]])
          fun (r : Res) =>
          ctl
            (okR [RSh.one (Sh.int IntKind.i64)] r.fst &&
              okB [Sum.inl [Sh.sl 1, Sh.int IntKind.i64]] r.snd)
            (bnd
              (lp E F 3 0 [] 2
                {
                  vals :=
                    [AV.int IntKind.i64 time2, AV.int IntKind.i64 judged3, AV.int IntKind.i64 delay4,
                      AV.sl 1 raw5, AV.bool holds7, AV.bool safe8,
                      AV.agg
                        [PV.int IntKind.i64 x63_0, PV.int IntKind.i64 x63_1, PV.int IntKind.i64 x63_2,
                          PV.int IntKind.i64 x63_3],
                      AV.int IntKind.i64 x64,
                      AV.agg
                        [PV.int IntKind.i64 time2,
                          PV.int IntKind.i64 (nth (RV.p PV.nilp) r.fst 0).toPV.toInt],
                      AV.int IntKind.i64 0],
                  blks :=
                    [Blk.box
                        [AV.int IntKind.i64 b0_0, AV.int IntKind.i64 b0_1, AV.int IntKind.i64 b0_2,
                          AV.int IntKind.i64 b0_3, AV.int IntKind.i64 b0_4],
                      Blk.box
                        [AV.sl 1
                            (nth PV.nilp
                                (List.map AV.toPV (nth (Blk.box []) r.snd 0).toCs) 0).toEs,
                          AV.int IntKind.i64
                            (nth PV.nilp
                                (List.map AV.toPV (nth (Blk.box []) r.snd 0).toCs) 1).toInt],
                      Blk.box
                        [AV.int IntKind.i64 (nth PV.nilp c 0).toInt,
                          AV.int IntKind.i64 (nth PV.nilp c 1).toInt]] })
              fun (p : Ex × Pack) =>
              ctl (p.fst.eqb (Ex.exit 2))
                (ctl
                  (okPack
                    {
                      slots :=
                        [(2, Sum.inl (Sh.int IntKind.i64)), (3, Sum.inl (Sh.int IntKind.i64)),
                          (4, Sum.inl (Sh.int IntKind.i64)), (5, Sum.inl (Sh.sl 1)), (7, Sum.inl Sh.bool),
                          (8, Sum.inl Sh.bool), (15, Sum.inr (Sum.inr (AV.t (TV.ptr 0 0)))),
                          (19, Sum.inr (Sum.inr (AV.t (TV.ptr 1 0)))),
                          (63,
                            Sum.inr
                              (Sum.inl
                                [Sh.int IntKind.i64, Sh.int IntKind.i64, Sh.int IntKind.i64,
                                  Sh.int IntKind.i64])),
                          (64, Sum.inl (Sh.int IntKind.i64))],
                      blks :=
                        [Sum.inl
                            [Sum.inl (Sh.int IntKind.i64), Sum.inl (Sh.int IntKind.i64), Sum.inl (Sh.int IntKind.i64),
                              Sum.inl (Sh.int IntKind.i64), Sum.inl (Sh.int IntKind.i64)],
                          Sum.inl [Sum.inl (Sh.sl 1), Sum.inl (Sh.int IntKind.i64)]] }
                    p.snd)
                  (lp E F 3 0 [] 0
                    {
                      vals :=
                        [AV.int IntKind.i64 (nth AV.undef p.snd.vals 0).toPV.toInt,
                          AV.int IntKind.i64 (nth AV.undef p.snd.vals 1).toPV.toInt,
                          AV.int IntKind.i64 (nth AV.undef p.snd.vals 2).toPV.toInt,
                          AV.sl 1 (nth AV.undef p.snd.vals 3).toPV.toEs,
                          AV.bool (nth AV.undef p.snd.vals 4).toPV.toBool,
                          AV.bool (nth AV.undef p.snd.vals 5).toPV.toBool,
                          AV.agg
                            [PV.int IntKind.i64
                                (nth PV.nilp (nth AV.undef p.snd.vals 6).toCs 0).toInt,
                              PV.int IntKind.i64
                                (nth PV.nilp (nth AV.undef p.snd.vals 6).toCs 1).toInt,
                              PV.int IntKind.i64
                                (nth PV.nilp (nth AV.undef p.snd.vals 6).toCs 2).toInt,
                              PV.int IntKind.i64
                                (nth PV.nilp (nth AV.undef p.snd.vals 6).toCs 3).toInt],
                          AV.int IntKind.i64 (IntKind.i64.wrap ((nth AV.undef p.snd.vals 7).toPV.toInt + 1))],
                      blks :=
                        [Blk.box
                            [AV.int IntKind.i64
                                (nth AV.undef (nth (Blk.box []) p.snd.blks 0).toCs 0).toPV.toInt,
                              AV.int IntKind.i64
                                (nth AV.undef (nth (Blk.box []) p.snd.blks 0).toCs 1).toPV.toInt,
                              AV.int IntKind.i64
                                (nth AV.undef (nth (Blk.box []) p.snd.blks 0).toCs 2).toPV.toInt,
                              AV.int IntKind.i64
                                (nth AV.undef (nth (Blk.box []) p.snd.blks 0).toCs 3).toPV.toInt,
                              AV.int IntKind.i64
                                (nth AV.undef (nth (Blk.box []) p.snd.blks 0).toCs 4).toPV.toInt],
                          Blk.box
                            [AV.sl 1
                                (nth AV.undef (nth (Blk.box []) p.snd.blks 1).toCs 0).toPV.toEs,
                              AV.int IntKind.i64
                                (nth AV.undef (nth (Blk.box []) p.snd.blks 1).toCs
                                      1).toPV.toInt]] })
                  Option.none)
                (ctl (p.fst.eqb Ex.ret)
                  (ctl (okPack { slots := [(18, Sum.inl Sh.bool)], blks := [] } p.snd)
                    (Option.some
                      (Ex.ret,
                        { vals := [AV.bool (nth AV.undef p.snd.vals 0).toPV.toBool], blks := [] }))
                    Option.none)
                  Option.none))
            Option.none)
        Option.none)
    (Option.some
      (Ex.exit 0,
        {
          vals :=
            [AV.int IntKind.i64 judged3, AV.int IntKind.i64 delay4, AV.sl 1 raw5,
              AV.bool holds7, AV.bool safe8],
          blks :=
            [Blk.box
                [AV.int IntKind.i64 b0_0, AV.int IntKind.i64 b0_1, AV.int IntKind.i64 b0_2,
                  AV.int IntKind.i64 b0_3, AV.int IntKind.i64 b0_4],
              Blk.box [AV.sl 1 b1_0, AV.int IntKind.i64 b1_1]] })) := (lp_unfold ..).trans (by kernel_rfl)

/-- dynpos/dynposlaw28.StatusExact, the loop of block 2 -/
theorem r3_2 (F : Fun) (time2 : Int) (judged3 : Int) (delay4 : Int) (raw5 : List (List PV)) (holds7 : Bool) (safe8 : Bool) (x63_0 : Int) (x63_1 : Int) (x63_2 : Int) (x63_3 : Int) (x64 : Int) (x70_0 : Int) (x70_1 : Int) (x71 : Int) (b0_0 : Int) (b0_1 : Int) (b0_2 : Int) (b0_3 : Int) (b0_4 : Int) (b1_0 : List (List PV)) (b1_1 : Int) (b2_0 : Int) (b2_1 : Int) : lp E F 3 0 [] 2
  {
    vals :=
      [AV.int IntKind.i64 time2, AV.int IntKind.i64 judged3, AV.int IntKind.i64 delay4,
        AV.sl 1 raw5, AV.bool holds7, AV.bool safe8,
        AV.agg
          [PV.int IntKind.i64 x63_0, PV.int IntKind.i64 x63_1, PV.int IntKind.i64 x63_2,
            PV.int IntKind.i64 x63_3],
        AV.int IntKind.i64 x64,
        AV.agg [PV.int IntKind.i64 x70_0, PV.int IntKind.i64 x70_1],
        AV.int IntKind.i64 x71],
    blks :=
      [Blk.box
          [AV.int IntKind.i64 b0_0, AV.int IntKind.i64 b0_1, AV.int IntKind.i64 b0_2,
            AV.int IntKind.i64 b0_3, AV.int IntKind.i64 b0_4],
        Blk.box [AV.sl 1 b1_0, AV.int IntKind.i64 b1_1],
        Blk.box [AV.int IntKind.i64 b2_0, AV.int IntKind.i64 b2_1]] } =
  ctl (ltB x71 2)
    (getE [[PV.int IntKind.i64 x70_0], [PV.int IntKind.i64 x70_1]] x71 fun (c : List PV) =>
      ctl (okCs [Sh.int IntKind.i64] c)
        (bnd
          (F 13
            [AV.agg [PV.int IntKind.i64 b2_0, PV.int IntKind.i64 b2_1],
              AV.int IntKind.i64 (nth PV.nilp c 0).toInt]
            [])
          fun (r : Res) =>
          ctl (okR [RSh.one Sh.bool] r.fst && okB [] r.snd)
            (bnd
              (F 14
                [AV.agg [PV.int IntKind.i64 b2_0, PV.int IntKind.i64 b2_1],
                  AV.int IntKind.i64 (nth PV.nilp c 0).toInt]
                [])
              fun (r_1 : Res) =>
              ctl (okR [RSh.one Sh.bool] r_1.fst && okB [] r_1.snd)
                (ctl
                  (!(nth (RV.p PV.nilp) r.fst 0).toPV.toBool ==
                      (nth (RV.p PV.nilp) r_1.fst 0).toPV.toBool)
                  (Option.some (Ex.ret, { vals := [AV.bool Bool.false], blks := [] }))
                  (bnd
                    (F 11 [AV.t (TV.ptr 0 0), AV.int IntKind.i64 0, AV.int IntKind.i64 4]
                      [Blk.box [AV.sl 1 b1_0, AV.int IntKind.i64 b1_1]])
                    fun (r : Res) =>
                    ctl
                      (okR [RSh.one (Sh.int IntKind.i64)] r.fst &&
                        okB [Sum.inl [Sh.sl 1, Sh.int IntKind.i64]] r.snd)
                      (bnd
                        (lp E F 3 0 [] 4
                          {
                            vals :=
                              [AV.int IntKind.i64 time2, AV.int IntKind.i64 judged3, AV.int IntKind.i64 delay4,
                                AV.sl 1 raw5, AV.bool holds7, AV.bool safe8,
                                AV.int IntKind.i64 (nth PV.nilp c 0).toInt,
                                AV.agg
                                  [PV.int IntKind.i64 x63_0, PV.int IntKind.i64 x63_1, PV.int IntKind.i64 x63_2,
                                    PV.int IntKind.i64 x63_3],
                                AV.int IntKind.i64 x64,
                                AV.agg [PV.int IntKind.i64 x70_0, PV.int IntKind.i64 x70_1],
                                AV.int IntKind.i64 x71,
                                AV.agg
                                  [PV.int IntKind.i64 judged3,
                                    PV.int IntKind.i64
                                      (nth (RV.p PV.nilp) r.fst 0).toPV.toInt],
                                AV.int IntKind.i64 0],
                            blks :=
                              [Blk.box
                                  [AV.int IntKind.i64 b0_0, AV.int IntKind.i64 b0_1, AV.int IntKind.i64 b0_2,
                                    AV.int IntKind.i64 b0_3, AV.int IntKind.i64 b0_4],
                                Blk.box
                                  [AV.sl 1
                                      (nth PV.nilp
                                          (List.map AV.toPV (nth (Blk.box []) r.snd 0).toCs) 0).toEs,
                                    AV.int IntKind.i64
                                      (nth PV.nilp
                                          (List.map AV.toPV (nth (Blk.box []) r.snd 0).toCs) 1).toInt],
                                Blk.box [AV.int IntKind.i64 b2_0, AV.int IntKind.i64 b2_1]] })
                        fun (p : Ex × Pack) =>
                        ctl (p.fst.eqb (Ex.exit 4))
                          (ctl
                            (okPack
                              {
                                slots :=
                                  [(2, Sum.inl (Sh.int IntKind.i64)), (3, Sum.inl (Sh.int IntKind.i64)),
                                    (4, Sum.inl (Sh.int IntKind.i64)), (5, Sum.inl (Sh.sl 1)), (7, Sum.inl Sh.bool),
                                    (8, Sum.inl Sh.bool), (15, Sum.inr (Sum.inr (AV.t (TV.ptr 0 0)))),
                                    (19, Sum.inr (Sum.inr (AV.t (TV.ptr 1 0)))),
                                    (22, Sum.inr (Sum.inr (AV.t (TV.ptr 2 0)))),
                                    (63,
                                      Sum.inr
                                        (Sum.inl
                                          [Sh.int IntKind.i64, Sh.int IntKind.i64, Sh.int IntKind.i64,
                                            Sh.int IntKind.i64])),
                                    (64, Sum.inl (Sh.int IntKind.i64)),
                                    (70, Sum.inr (Sum.inl [Sh.int IntKind.i64, Sh.int IntKind.i64])),
                                    (71, Sum.inl (Sh.int IntKind.i64))],
                                blks :=
                                  [Sum.inl
                                      [Sum.inl (Sh.int IntKind.i64), Sum.inl (Sh.int IntKind.i64),
                                        Sum.inl (Sh.int IntKind.i64), Sum.inl (Sh.int IntKind.i64),
                                        Sum.inl (Sh.int IntKind.i64)],
                                    Sum.inl [Sum.inl (Sh.sl 1), Sum.inl (Sh.int IntKind.i64)],
                                    Sum.inl [Sum.inl (Sh.int IntKind.i64), Sum.inl (Sh.int IntKind.i64)]] }
                              p.snd)
                            (lp E F 3 0 [] 2
                              {
                                vals :=
                                  [AV.int IntKind.i64 (nth AV.undef p.snd.vals 0).toPV.toInt,
                                    AV.int IntKind.i64 (nth AV.undef p.snd.vals 1).toPV.toInt,
                                    AV.int IntKind.i64 (nth AV.undef p.snd.vals 2).toPV.toInt,
                                    AV.sl 1 (nth AV.undef p.snd.vals 3).toPV.toEs,
                                    AV.bool (nth AV.undef p.snd.vals 4).toPV.toBool,
                                    AV.bool (nth AV.undef p.snd.vals 5).toPV.toBool,
                                    AV.agg
                                      [PV.int IntKind.i64
                                          (nth PV.nilp (nth AV.undef p.snd.vals 6).toCs 0).toInt,
                                        PV.int IntKind.i64
                                          (nth PV.nilp (nth AV.undef p.snd.vals 6).toCs 1).toInt,
                                        PV.int IntKind.i64
                                          (nth PV.nilp (nth AV.undef p.snd.vals 6).toCs 2).toInt,
                                        PV.int IntKind.i64
                                          (nth PV.nilp (nth AV.undef p.snd.vals 6).toCs 3).toInt],
                                    AV.int IntKind.i64 (nth AV.undef p.snd.vals 7).toPV.toInt,
                                    AV.agg
                                      [PV.int IntKind.i64
                                          (nth PV.nilp (nth AV.undef p.snd.vals 8).toCs 0).toInt,
                                        PV.int IntKind.i64
                                          (nth PV.nilp (nth AV.undef p.snd.vals 8).toCs 1).toInt],
                                    AV.int IntKind.i64 (IntKind.i64.wrap ((nth AV.undef p.snd.vals 9).toPV.toInt + 1))],
                                blks :=
                                  [Blk.box
                                      [AV.int IntKind.i64
                                          (nth AV.undef (nth (Blk.box []) p.snd.blks 0).toCs
                                                0).toPV.toInt,
                                        AV.int IntKind.i64
                                          (nth AV.undef (nth (Blk.box []) p.snd.blks 0).toCs
                                                1).toPV.toInt,
                                        AV.int IntKind.i64
                                          (nth AV.undef (nth (Blk.box []) p.snd.blks 0).toCs
                                                2).toPV.toInt,
                                        AV.int IntKind.i64
                                          (nth AV.undef (nth (Blk.box []) p.snd.blks 0).toCs
                                                3).toPV.toInt,
                                        AV.int IntKind.i64
                                          (nth AV.undef (nth (Blk.box []) p.snd.blks 0).toCs
                                                4).toPV.toInt],
                                    Blk.box
                                      [AV.sl 1
                                          (nth AV.undef (nth (Blk.box []) p.snd.blks 1).toCs
                                                0).toPV.toEs,
                                        AV.int IntKind.i64
                                          (nth AV.undef (nth (Blk.box []) p.snd.blks 1).toCs
                                                1).toPV.toInt],
                                    Blk.box
                                      [AV.int IntKind.i64
                                          (nth AV.undef (nth (Blk.box []) p.snd.blks 2).toCs
                                                0).toPV.toInt,
                                        AV.int IntKind.i64
                                          (nth AV.undef (nth (Blk.box []) p.snd.blks 2).toCs
                                                1).toPV.toInt]] })
                            Option.none)
                          (ctl (p.fst.eqb Ex.ret)
                            (ctl (okPack { slots := [(18, Sum.inl Sh.bool)], blks := [] } p.snd)
                              (Option.some
                                (Ex.ret,
                                  { vals := [AV.bool (nth AV.undef p.snd.vals 0).toPV.toBool], blks := [] }))
                              Option.none)
                            Option.none))
                      Option.none))
                Option.none)
            Option.none)
        Option.none)
    (Option.some
      (Ex.exit 2,
        {
          vals :=
            [AV.int IntKind.i64 time2, AV.int IntKind.i64 judged3, AV.int IntKind.i64 delay4,
              AV.sl 1 raw5, AV.bool holds7, AV.bool safe8,
              AV.agg
                [PV.int IntKind.i64 x63_0, PV.int IntKind.i64 x63_1, PV.int IntKind.i64 x63_2,
                  PV.int IntKind.i64 x63_3],
              AV.int IntKind.i64 x64],
          blks :=
            [Blk.box
                [AV.int IntKind.i64 b0_0, AV.int IntKind.i64 b0_1, AV.int IntKind.i64 b0_2,
                  AV.int IntKind.i64 b0_3, AV.int IntKind.i64 b0_4],
              Blk.box [AV.sl 1 b1_0, AV.int IntKind.i64 b1_1]] })) := (lp_unfold ..).trans (by kernel_rfl)

/-- dynpos/dynposlaw28.StatusExact, the loop of block 4 -/
theorem r3_4 (F : Fun) (time2 : Int) (judged3 : Int) (delay4 : Int) (raw5 : List (List PV)) (holds7 : Bool) (safe8 : Bool) (y24 : Int) (x63_0 : Int) (x63_1 : Int) (x63_2 : Int) (x63_3 : Int) (x64 : Int) (x70_0 : Int) (x70_1 : Int) (x71 : Int) (x84_0 : Int) (x84_1 : Int) (x85 : Int) (b0_0 : Int) (b0_1 : Int) (b0_2 : Int) (b0_3 : Int) (b0_4 : Int) (b1_0 : List (List PV)) (b1_1 : Int) (b2_0 : Int) (b2_1 : Int) : lp E F 3 0 [] 4
  {
    vals :=
      [AV.int IntKind.i64 time2, AV.int IntKind.i64 judged3, AV.int IntKind.i64 delay4,
        AV.sl 1 raw5, AV.bool holds7, AV.bool safe8, AV.int IntKind.i64 y24,
        AV.agg
          [PV.int IntKind.i64 x63_0, PV.int IntKind.i64 x63_1, PV.int IntKind.i64 x63_2,
            PV.int IntKind.i64 x63_3],
        AV.int IntKind.i64 x64,
        AV.agg [PV.int IntKind.i64 x70_0, PV.int IntKind.i64 x70_1],
        AV.int IntKind.i64 x71,
        AV.agg [PV.int IntKind.i64 x84_0, PV.int IntKind.i64 x84_1],
        AV.int IntKind.i64 x85],
    blks :=
      [Blk.box
          [AV.int IntKind.i64 b0_0, AV.int IntKind.i64 b0_1, AV.int IntKind.i64 b0_2,
            AV.int IntKind.i64 b0_3, AV.int IntKind.i64 b0_4],
        Blk.box [AV.sl 1 b1_0, AV.int IntKind.i64 b1_1],
        Blk.box [AV.int IntKind.i64 b2_0, AV.int IntKind.i64 b2_1]] } =
  ctl (ltB x85 2)
    (getE [[PV.int IntKind.i64 x84_0], [PV.int IntKind.i64 x84_1]] x85 fun (c : List PV) =>
      ctl (okCs [Sh.int IntKind.i64] c)
        (bnd
          (F 12 [AV.t (TV.ptr 0 0), AV.int IntKind.i64 5]
            [Blk.box [AV.sl 1 b1_0, AV.int IntKind.i64 b1_1]])
          fun (r : Res) =>
          ctl
            (okR [RSh.one (Sh.int IntKind.i64)] r.fst &&
              okB [Sum.inl [Sh.sl 1, Sh.int IntKind.i64]] r.snd)
            (bnd
              (lp E F 3 0 [] 6
                {
                  vals :=
                    [AV.int IntKind.i64 time2, AV.int IntKind.i64 judged3, AV.int IntKind.i64 delay4,
                      AV.sl 1 raw5, AV.bool holds7, AV.bool safe8, AV.int IntKind.i64 y24,
                      AV.int IntKind.i64 (nth PV.nilp c 0).toInt,
                      AV.agg
                        [PV.int IntKind.i64 x63_0, PV.int IntKind.i64 x63_1, PV.int IntKind.i64 x63_2,
                          PV.int IntKind.i64 x63_3],
                      AV.int IntKind.i64 x64,
                      AV.agg [PV.int IntKind.i64 x70_0, PV.int IntKind.i64 x70_1],
                      AV.int IntKind.i64 x71,
                      AV.agg [PV.int IntKind.i64 x84_0, PV.int IntKind.i64 x84_1],
                      AV.int IntKind.i64 x85,
                      AV.agg
                        [PV.int IntKind.i64 delay4,
                          PV.int IntKind.i64 (nth (RV.p PV.nilp) r.fst 0).toPV.toInt],
                      AV.int IntKind.i64 0],
                  blks :=
                    [Blk.box
                        [AV.int IntKind.i64 b0_0, AV.int IntKind.i64 b0_1, AV.int IntKind.i64 b0_2,
                          AV.int IntKind.i64 b0_3, AV.int IntKind.i64 b0_4],
                      Blk.box
                        [AV.sl 1
                            (nth PV.nilp
                                (List.map AV.toPV (nth (Blk.box []) r.snd 0).toCs) 0).toEs,
                          AV.int IntKind.i64
                            (nth PV.nilp
                                (List.map AV.toPV (nth (Blk.box []) r.snd 0).toCs) 1).toInt],
                      Blk.box [AV.int IntKind.i64 b2_0, AV.int IntKind.i64 b2_1]] })
              fun (p : Ex × Pack) =>
              ctl (p.fst.eqb (Ex.exit 6))
                (ctl
                  (okPack
                    {
                      slots :=
                        [(2, Sum.inl (Sh.int IntKind.i64)), (3, Sum.inl (Sh.int IntKind.i64)),
                          (4, Sum.inl (Sh.int IntKind.i64)), (5, Sum.inl (Sh.sl 1)), (7, Sum.inl Sh.bool),
                          (8, Sum.inl Sh.bool), (15, Sum.inr (Sum.inr (AV.t (TV.ptr 0 0)))),
                          (19, Sum.inr (Sum.inr (AV.t (TV.ptr 1 0)))),
                          (22, Sum.inr (Sum.inr (AV.t (TV.ptr 2 0)))), (24, Sum.inl (Sh.int IntKind.i64)),
                          (63,
                            Sum.inr
                              (Sum.inl
                                [Sh.int IntKind.i64, Sh.int IntKind.i64, Sh.int IntKind.i64,
                                  Sh.int IntKind.i64])),
                          (64, Sum.inl (Sh.int IntKind.i64)),
                          (70, Sum.inr (Sum.inl [Sh.int IntKind.i64, Sh.int IntKind.i64])),
                          (71, Sum.inl (Sh.int IntKind.i64)),
                          (84, Sum.inr (Sum.inl [Sh.int IntKind.i64, Sh.int IntKind.i64])),
                          (85, Sum.inl (Sh.int IntKind.i64))],
                      blks :=
                        [Sum.inl
                            [Sum.inl (Sh.int IntKind.i64), Sum.inl (Sh.int IntKind.i64), Sum.inl (Sh.int IntKind.i64),
                              Sum.inl (Sh.int IntKind.i64), Sum.inl (Sh.int IntKind.i64)],
                          Sum.inl [Sum.inl (Sh.sl 1), Sum.inl (Sh.int IntKind.i64)],
                          Sum.inl [Sum.inl (Sh.int IntKind.i64), Sum.inl (Sh.int IntKind.i64)]] }
                    p.snd)
                  (lp E F 3 0 [] 4
                    {
                      vals :=
                        [AV.int IntKind.i64 (nth AV.undef p.snd.vals 0).toPV.toInt,
                          AV.int IntKind.i64 (nth AV.undef p.snd.vals 1).toPV.toInt,
                          AV.int IntKind.i64 (nth AV.undef p.snd.vals 2).toPV.toInt,
                          AV.sl 1 (nth AV.undef p.snd.vals 3).toPV.toEs,
                          AV.bool (nth AV.undef p.snd.vals 4).toPV.toBool,
                          AV.bool (nth AV.undef p.snd.vals 5).toPV.toBool,
                          AV.int IntKind.i64 (nth AV.undef p.snd.vals 6).toPV.toInt,
                          AV.agg
                            [PV.int IntKind.i64
                                (nth PV.nilp (nth AV.undef p.snd.vals 7).toCs 0).toInt,
                              PV.int IntKind.i64
                                (nth PV.nilp (nth AV.undef p.snd.vals 7).toCs 1).toInt,
                              PV.int IntKind.i64
                                (nth PV.nilp (nth AV.undef p.snd.vals 7).toCs 2).toInt,
                              PV.int IntKind.i64
                                (nth PV.nilp (nth AV.undef p.snd.vals 7).toCs 3).toInt],
                          AV.int IntKind.i64 (nth AV.undef p.snd.vals 8).toPV.toInt,
                          AV.agg
                            [PV.int IntKind.i64
                                (nth PV.nilp (nth AV.undef p.snd.vals 9).toCs 0).toInt,
                              PV.int IntKind.i64
                                (nth PV.nilp (nth AV.undef p.snd.vals 9).toCs 1).toInt],
                          AV.int IntKind.i64 (nth AV.undef p.snd.vals 10).toPV.toInt,
                          AV.agg
                            [PV.int IntKind.i64
                                (nth PV.nilp (nth AV.undef p.snd.vals 11).toCs 0).toInt,
                              PV.int IntKind.i64
                                (nth PV.nilp (nth AV.undef p.snd.vals 11).toCs 1).toInt],
                          AV.int IntKind.i64 (IntKind.i64.wrap ((nth AV.undef p.snd.vals 12).toPV.toInt + 1))],
                      blks :=
                        [Blk.box
                            [AV.int IntKind.i64
                                (nth AV.undef (nth (Blk.box []) p.snd.blks 0).toCs 0).toPV.toInt,
                              AV.int IntKind.i64
                                (nth AV.undef (nth (Blk.box []) p.snd.blks 0).toCs 1).toPV.toInt,
                              AV.int IntKind.i64
                                (nth AV.undef (nth (Blk.box []) p.snd.blks 0).toCs 2).toPV.toInt,
                              AV.int IntKind.i64
                                (nth AV.undef (nth (Blk.box []) p.snd.blks 0).toCs 3).toPV.toInt,
                              AV.int IntKind.i64
                                (nth AV.undef (nth (Blk.box []) p.snd.blks 0).toCs 4).toPV.toInt],
                          Blk.box
                            [AV.sl 1
                                (nth AV.undef (nth (Blk.box []) p.snd.blks 1).toCs 0).toPV.toEs,
                              AV.int IntKind.i64
                                (nth AV.undef (nth (Blk.box []) p.snd.blks 1).toCs 1).toPV.toInt],
                          Blk.box
                            [AV.int IntKind.i64
                                (nth AV.undef (nth (Blk.box []) p.snd.blks 2).toCs 0).toPV.toInt,
                              AV.int IntKind.i64
                                (nth AV.undef (nth (Blk.box []) p.snd.blks 2).toCs
                                      1).toPV.toInt]] })
                  Option.none)
                (ctl (p.fst.eqb Ex.ret)
                  (ctl (okPack { slots := [(18, Sum.inl Sh.bool)], blks := [] } p.snd)
                    (Option.some
                      (Ex.ret,
                        { vals := [AV.bool (nth AV.undef p.snd.vals 0).toPV.toBool], blks := [] }))
                    Option.none)
                  Option.none))
            Option.none)
        Option.none)
    (Option.some
      (Ex.exit 4,
        {
          vals :=
            [AV.int IntKind.i64 time2, AV.int IntKind.i64 judged3, AV.int IntKind.i64 delay4,
              AV.sl 1 raw5, AV.bool holds7, AV.bool safe8,
              AV.agg
                [PV.int IntKind.i64 x63_0, PV.int IntKind.i64 x63_1, PV.int IntKind.i64 x63_2,
                  PV.int IntKind.i64 x63_3],
              AV.int IntKind.i64 x64,
              AV.agg [PV.int IntKind.i64 x70_0, PV.int IntKind.i64 x70_1],
              AV.int IntKind.i64 x71],
          blks :=
            [Blk.box
                [AV.int IntKind.i64 b0_0, AV.int IntKind.i64 b0_1, AV.int IntKind.i64 b0_2,
                  AV.int IntKind.i64 b0_3, AV.int IntKind.i64 b0_4],
              Blk.box [AV.sl 1 b1_0, AV.int IntKind.i64 b1_1],
              Blk.box [AV.int IntKind.i64 b2_0, AV.int IntKind.i64 b2_1]] })) := (lp_unfold ..).trans (by kernel_rfl)

/-- dynpos/dynposlaw28.StatusExact, the loop of block 6 -/
theorem r3_6 (F : Fun) (time2 : Int) (judged3 : Int) (delay4 : Int) (raw5 : List (List PV)) (holds7 : Bool) (safe8 : Bool) (y24 : Int) (j26 : Int) (x63_0 : Int) (x63_1 : Int) (x63_2 : Int) (x63_3 : Int) (x64 : Int) (x70_0 : Int) (x70_1 : Int) (x71 : Int) (x84_0 : Int) (x84_1 : Int) (x85 : Int) (x91_0 : Int) (x91_1 : Int) (x92 : Int) (b0_0 : Int) (b0_1 : Int) (b0_2 : Int) (b0_3 : Int) (b0_4 : Int) (b1_0 : List (List PV)) (b1_1 : Int) (b2_0 : Int) (b2_1 : Int) : lp E F 3 0 [] 6
  {
    vals :=
      [AV.int IntKind.i64 time2, AV.int IntKind.i64 judged3, AV.int IntKind.i64 delay4,
        AV.sl 1 raw5, AV.bool holds7, AV.bool safe8, AV.int IntKind.i64 y24,
        AV.int IntKind.i64 j26,
        AV.agg
          [PV.int IntKind.i64 x63_0, PV.int IntKind.i64 x63_1, PV.int IntKind.i64 x63_2,
            PV.int IntKind.i64 x63_3],
        AV.int IntKind.i64 x64,
        AV.agg [PV.int IntKind.i64 x70_0, PV.int IntKind.i64 x70_1],
        AV.int IntKind.i64 x71,
        AV.agg [PV.int IntKind.i64 x84_0, PV.int IntKind.i64 x84_1],
        AV.int IntKind.i64 x85,
        AV.agg [PV.int IntKind.i64 x91_0, PV.int IntKind.i64 x91_1],
        AV.int IntKind.i64 x92],
    blks :=
      [Blk.box
          [AV.int IntKind.i64 b0_0, AV.int IntKind.i64 b0_1, AV.int IntKind.i64 b0_2,
            AV.int IntKind.i64 b0_3, AV.int IntKind.i64 b0_4],
        Blk.box [AV.sl 1 b1_0, AV.int IntKind.i64 b1_1],
        Blk.box [AV.int IntKind.i64 b2_0, AV.int IntKind.i64 b2_1]] } =
  ctl (ltB x92 2)
    (getE [[PV.int IntKind.i64 x91_0], [PV.int IntKind.i64 x91_1]] x92 fun (c : List PV) =>
      ctl (okCs [Sh.int IntKind.i64] c)
        (bnd
          (F 15
            [AV.agg [PV.int IntKind.i64 b2_0, PV.int IntKind.i64 b2_1],
              AV.int IntKind.i64 y24, AV.int IntKind.i64 j26,
              AV.int IntKind.i64 (nth PV.nilp c 0).toInt]
            [])
          fun (r : Res) =>
          ctl
            (okR
                [RSh.agg [Sh.int IntKind.i64, Sh.int IntKind.i64],
                  RSh.one (Sh.int IntKind.i64)]
                r.fst &&
              okB [] r.snd)
            (bnd
              (F 16
                [AV.agg [PV.int IntKind.i64 b2_0, PV.int IntKind.i64 b2_1],
                  AV.int IntKind.i64 y24, AV.int IntKind.i64 j26,
                  AV.int IntKind.i64 (nth PV.nilp c 0).toInt]
                [])
              fun (r_1 : Res) =>
              ctl
                (okR
                    [RSh.agg [Sh.int IntKind.i64, Sh.int IntKind.i64],
                      RSh.one (Sh.int IntKind.i64)]
                    r_1.fst &&
                  okB [] r_1.snd)
                (bnd
                  (ctl
                    (!!((nth PV.nilp
                                (nth (RV.p PV.nilp) r.fst 0).toCs 0).toInt ==
                            (nth PV.nilp
                                (nth (RV.p PV.nilp) r_1.fst 0).toCs 0).toInt &&
                          ((nth PV.nilp
                                  (nth (RV.p PV.nilp) r.fst 0).toCs 1).toInt ==
                              (nth PV.nilp
                                  (nth (RV.p PV.nilp) r_1.fst 0).toCs 1).toInt &&
                            Bool.true)))
                    (Option.some
                      ((nth (RV.p PV.nilp) r.fst 1).toPV.toInt !=
                        (nth (RV.p PV.nilp) r_1.fst 1).toPV.toInt))
                    (Option.some Bool.true))
                  fun (v : Bool) =>
                  bnd
                    (ctl (!v)
                      (bnd
                        (F 17
                          [AV.agg [PV.int IntKind.i64 b2_0, PV.int IntKind.i64 b2_1],
                            AV.int IntKind.i64 j26]
                          [])
                        fun (r : Res) =>
                        ctl
                          (okR [RSh.one Sh.bool] r.fst && okB [] r.snd)
                          (bnd
                            (F 18
                              [AV.agg [PV.int IntKind.i64 b2_0, PV.int IntKind.i64 b2_1],
                                AV.int IntKind.i64 j26]
                              [])
                            fun (r_2 : Res) =>
                            ctl
                              (okR [RSh.one Sh.bool] r_2.fst && okB [] r_2.snd)
                              (Option.some
                                !(nth (RV.p PV.nilp) r.fst 0).toPV.toBool ==
                                    (nth (RV.p PV.nilp) r_2.fst 0).toPV.toBool)
                              Option.none)
                          Option.none)
                      (Option.some Bool.true))
                    fun (v : Bool) =>
                    ctl v (Option.some (Ex.ret, { vals := [AV.bool Bool.false], blks := [] }))
                      (lp E F 3 0 [] 6
                        {
                          vals :=
                            [AV.int IntKind.i64 time2, AV.int IntKind.i64 judged3, AV.int IntKind.i64 delay4,
                              AV.sl 1 raw5, AV.bool holds7, AV.bool safe8,
                              AV.int IntKind.i64 y24, AV.int IntKind.i64 j26,
                              AV.agg
                                [PV.int IntKind.i64 x63_0, PV.int IntKind.i64 x63_1, PV.int IntKind.i64 x63_2,
                                  PV.int IntKind.i64 x63_3],
                              AV.int IntKind.i64 x64,
                              AV.agg [PV.int IntKind.i64 x70_0, PV.int IntKind.i64 x70_1],
                              AV.int IntKind.i64 x71,
                              AV.agg [PV.int IntKind.i64 x84_0, PV.int IntKind.i64 x84_1],
                              AV.int IntKind.i64 x85,
                              AV.agg [PV.int IntKind.i64 x91_0, PV.int IntKind.i64 x91_1],
                              AV.int IntKind.i64 (IntKind.i64.wrap (x92 + 1))],
                          blks :=
                            [Blk.box
                                [AV.int IntKind.i64 b0_0, AV.int IntKind.i64 b0_1, AV.int IntKind.i64 b0_2,
                                  AV.int IntKind.i64 b0_3, AV.int IntKind.i64 b0_4],
                              Blk.box [AV.sl 1 b1_0, AV.int IntKind.i64 b1_1],
                              Blk.box [AV.int IntKind.i64 b2_0, AV.int IntKind.i64 b2_1]] }))
                Option.none)
            Option.none)
        Option.none)
    (Option.some
      (Ex.exit 6,
        {
          vals :=
            [AV.int IntKind.i64 time2, AV.int IntKind.i64 judged3, AV.int IntKind.i64 delay4,
              AV.sl 1 raw5, AV.bool holds7, AV.bool safe8, AV.int IntKind.i64 y24,
              AV.agg
                [PV.int IntKind.i64 x63_0, PV.int IntKind.i64 x63_1, PV.int IntKind.i64 x63_2,
                  PV.int IntKind.i64 x63_3],
              AV.int IntKind.i64 x64,
              AV.agg [PV.int IntKind.i64 x70_0, PV.int IntKind.i64 x70_1],
              AV.int IntKind.i64 x71,
              AV.agg [PV.int IntKind.i64 x84_0, PV.int IntKind.i64 x84_1],
              AV.int IntKind.i64 x85],
          blks :=
            [Blk.box
                [AV.int IntKind.i64 b0_0, AV.int IntKind.i64 b0_1, AV.int IntKind.i64 b0_2,
                  AV.int IntKind.i64 b0_3, AV.int IntKind.i64 b0_4],
              Blk.box [AV.sl 1 b1_0, AV.int IntKind.i64 b1_1],
              Blk.box [AV.int IntKind.i64 b2_0, AV.int IntKind.i64 b2_1]] })) := (lp_unfold ..).trans (by kernel_rfl)

/-- dynpos/dynposlaw28.StatusExact, the loop of block 8 -/
theorem r3_8 (F : Fun) (judged3 : Int) (delay4 : Int) (holds7 : Bool) (safe8 : Bool) (x135_0 : List (List PV)) (x135_1 : List (List PV)) (x136 : Int) (b0_0 : Int) (b0_1 : Int) (b0_2 : Int) (b0_3 : Int) (b0_4 : Int) (b1_0 : List (List PV)) (b1_1 : Int) : lp E F 3 0 [] 8
  {
    vals :=
      [AV.int IntKind.i64 judged3, AV.int IntKind.i64 delay4, AV.bool holds7,
        AV.bool safe8, AV.agg [PV.sl 1 x135_0, PV.sl 1 x135_1],
        AV.int IntKind.i64 x136],
    blks :=
      [Blk.box
          [AV.int IntKind.i64 b0_0, AV.int IntKind.i64 b0_1, AV.int IntKind.i64 b0_2,
            AV.int IntKind.i64 b0_3, AV.int IntKind.i64 b0_4],
        Blk.box [AV.sl 1 b1_0, AV.int IntKind.i64 b1_1]] } =
  ctl (ltB x136 2)
    (getE [[PV.sl 1 x135_0], [PV.sl 1 x135_1]] x136 fun (c : List PV) =>
      ctl (okCs [Sh.sl 1] c)
        (bnd
          (F 12 [AV.t (TV.ptr 0 0), AV.int IntKind.i64 5]
            [Blk.box [AV.sl 1 b1_0, AV.int IntKind.i64 b1_1]])
          fun (r : Res) =>
          ctl
            (okR [RSh.one (Sh.int IntKind.i64)] r.fst &&
              okB [Sum.inl [Sh.sl 1, Sh.int IntKind.i64]] r.snd)
            (bnd
              (lp E F 3 0 [] 10
                {
                  vals :=
                    [AV.int IntKind.i64 judged3, AV.int IntKind.i64 delay4, AV.bool holds7,
                      AV.bool safe8, AV.sl 1 (nth PV.nilp c 0).toEs,
                      AV.agg [PV.sl 1 x135_0, PV.sl 1 x135_1], AV.int IntKind.i64 x136,
                      AV.agg
                        [PV.int IntKind.i64 delay4,
                          PV.int IntKind.i64 (nth (RV.p PV.nilp) r.fst 0).toPV.toInt],
                      AV.int IntKind.i64 0],
                  blks :=
                    [Blk.box
                        [AV.int IntKind.i64 b0_0, AV.int IntKind.i64 b0_1, AV.int IntKind.i64 b0_2,
                          AV.int IntKind.i64 b0_3, AV.int IntKind.i64 b0_4],
                      Blk.box
                        [AV.sl 1
                            (nth PV.nilp
                                (List.map AV.toPV (nth (Blk.box []) r.snd 0).toCs) 0).toEs,
                          AV.int IntKind.i64
                            (nth PV.nilp
                                (List.map AV.toPV (nth (Blk.box []) r.snd 0).toCs) 1).toInt]] })
              fun (p : Ex × Pack) =>
              ctl (p.fst.eqb (Ex.exit 10))
                (ctl
                  (okPack
                    {
                      slots :=
                        [(3, Sum.inl (Sh.int IntKind.i64)), (4, Sum.inl (Sh.int IntKind.i64)), (7, Sum.inl Sh.bool),
                          (8, Sum.inl Sh.bool), (15, Sum.inr (Sum.inr (AV.t (TV.ptr 0 0)))),
                          (19, Sum.inr (Sum.inr (AV.t (TV.ptr 1 0)))),
                          (135, Sum.inr (Sum.inl [Sh.sl 1, Sh.sl 1])), (136, Sum.inl (Sh.int IntKind.i64))],
                      blks :=
                        [Sum.inl
                            [Sum.inl (Sh.int IntKind.i64), Sum.inl (Sh.int IntKind.i64), Sum.inl (Sh.int IntKind.i64),
                              Sum.inl (Sh.int IntKind.i64), Sum.inl (Sh.int IntKind.i64)],
                          Sum.inl [Sum.inl (Sh.sl 1), Sum.inl (Sh.int IntKind.i64)]] }
                    p.snd)
                  (lp E F 3 0 [] 8
                    {
                      vals :=
                        [AV.int IntKind.i64 (nth AV.undef p.snd.vals 0).toPV.toInt,
                          AV.int IntKind.i64 (nth AV.undef p.snd.vals 1).toPV.toInt,
                          AV.bool (nth AV.undef p.snd.vals 2).toPV.toBool,
                          AV.bool (nth AV.undef p.snd.vals 3).toPV.toBool,
                          AV.agg
                            [PV.sl 1
                                (nth PV.nilp (nth AV.undef p.snd.vals 4).toCs 0).toEs,
                              PV.sl 1
                                (nth PV.nilp (nth AV.undef p.snd.vals 4).toCs 1).toEs],
                          AV.int IntKind.i64 (IntKind.i64.wrap ((nth AV.undef p.snd.vals 5).toPV.toInt + 1))],
                      blks :=
                        [Blk.box
                            [AV.int IntKind.i64
                                (nth AV.undef (nth (Blk.box []) p.snd.blks 0).toCs 0).toPV.toInt,
                              AV.int IntKind.i64
                                (nth AV.undef (nth (Blk.box []) p.snd.blks 0).toCs 1).toPV.toInt,
                              AV.int IntKind.i64
                                (nth AV.undef (nth (Blk.box []) p.snd.blks 0).toCs 2).toPV.toInt,
                              AV.int IntKind.i64
                                (nth AV.undef (nth (Blk.box []) p.snd.blks 0).toCs 3).toPV.toInt,
                              AV.int IntKind.i64
                                (nth AV.undef (nth (Blk.box []) p.snd.blks 0).toCs 4).toPV.toInt],
                          Blk.box
                            [AV.sl 1
                                (nth AV.undef (nth (Blk.box []) p.snd.blks 1).toCs 0).toPV.toEs,
                              AV.int IntKind.i64
                                (nth AV.undef (nth (Blk.box []) p.snd.blks 1).toCs
                                      1).toPV.toInt]] })
                  Option.none)
                (ctl (p.fst.eqb Ex.ret)
                  (ctl (okPack { slots := [(18, Sum.inl Sh.bool)], blks := [] } p.snd)
                    (Option.some
                      (Ex.ret,
                        { vals := [AV.bool (nth AV.undef p.snd.vals 0).toPV.toBool], blks := [] }))
                    Option.none)
                  Option.none))
            Option.none)
        Option.none)
    (Option.some
      (Ex.exit 8,
        { vals := [AV.int IntKind.i64 judged3, AV.bool holds7, AV.bool safe8],
          blks :=
            [Blk.box
                [AV.int IntKind.i64 b0_0, AV.int IntKind.i64 b0_1, AV.int IntKind.i64 b0_2,
                  AV.int IntKind.i64 b0_3, AV.int IntKind.i64 b0_4],
              Blk.box [AV.sl 1 b1_0, AV.int IntKind.i64 b1_1]] })) := (lp_unfold ..).trans (by kernel_rfl)

/-- dynpos/dynposlaw28.StatusExact, the loop of block 10 -/
theorem r3_10 (F : Fun) (judged3 : Int) (delay4 : Int) (holds7 : Bool) (safe8 : Bool) (l34 : List (List PV)) (x135_0 : List (List PV)) (x135_1 : List (List PV)) (x136 : Int) (x142_0 : Int) (x142_1 : Int) (x143 : Int) (b0_0 : Int) (b0_1 : Int) (b0_2 : Int) (b0_3 : Int) (b0_4 : Int) (b1_0 : List (List PV)) (b1_1 : Int) : lp E F 3 0 [] 10
  {
    vals :=
      [AV.int IntKind.i64 judged3, AV.int IntKind.i64 delay4, AV.bool holds7,
        AV.bool safe8, AV.sl 1 l34,
        AV.agg [PV.sl 1 x135_0, PV.sl 1 x135_1], AV.int IntKind.i64 x136,
        AV.agg [PV.int IntKind.i64 x142_0, PV.int IntKind.i64 x142_1],
        AV.int IntKind.i64 x143],
    blks :=
      [Blk.box
          [AV.int IntKind.i64 b0_0, AV.int IntKind.i64 b0_1, AV.int IntKind.i64 b0_2,
            AV.int IntKind.i64 b0_3, AV.int IntKind.i64 b0_4],
        Blk.box [AV.sl 1 b1_0, AV.int IntKind.i64 b1_1]] } =
  ctl (ltB x143 2)
    (getE [[PV.int IntKind.i64 x142_0], [PV.int IntKind.i64 x142_1]] x143
      fun (c : List PV) =>
      ctl (okCs [Sh.int IntKind.i64] c)
        (bnd
          (F 20 [AV.sl 1 l34, AV.int IntKind.i64 (nth PV.nilp c 0).toInt] [])
          fun (r : Res) =>
          ctl
            (okR
                [RSh.one (Sh.sl 1), RSh.one (Sh.int IntKind.i64)] r.fst &&
              okB [] r.snd)
            (bnd
              (F 21 [AV.sl 1 l34, AV.int IntKind.i64 (nth PV.nilp c 0).toInt] [])
              fun (r_1 : Res) =>
              ctl
                (okR
                    [RSh.one (Sh.sl 1), RSh.one (Sh.int IntKind.i64)] r_1.fst &&
                  okB [] r_1.snd)
                (bnd
                  (ctl
                    (!(nth (RV.p PV.nilp) r.fst 1).toPV.toInt !=
                        (nth (RV.p PV.nilp) r_1.fst 1).toPV.toInt)
                    (bnd
                      (F 22
                        [AV.sl 1 (nth (RV.p PV.nilp) r.fst 0).toPV.toEs,
                          AV.sl 1 (nth (RV.p PV.nilp) r_1.fst 0).toPV.toEs]
                        [])
                      fun (r : Res) =>
                      ctl
                        (okR [RSh.one Sh.bool] r.fst && okB [] r.snd)
                        (Option.some !(nth (RV.p PV.nilp) r.fst 0).toPV.toBool) Option.none)
                    (Option.some Bool.true))
                  fun (v : Bool) =>
                  ctl v (Option.some (Ex.ret, { vals := [AV.bool Bool.false], blks := [] }))
                    (lp E F 3 0 [] 10
                      {
                        vals :=
                          [AV.int IntKind.i64 judged3, AV.int IntKind.i64 delay4, AV.bool holds7,
                            AV.bool safe8, AV.sl 1 l34,
                            AV.agg [PV.sl 1 x135_0, PV.sl 1 x135_1], AV.int IntKind.i64 x136,
                            AV.agg [PV.int IntKind.i64 x142_0, PV.int IntKind.i64 x142_1],
                            AV.int IntKind.i64 (IntKind.i64.wrap (x143 + 1))],
                        blks :=
                          [Blk.box
                              [AV.int IntKind.i64 b0_0, AV.int IntKind.i64 b0_1, AV.int IntKind.i64 b0_2,
                                AV.int IntKind.i64 b0_3, AV.int IntKind.i64 b0_4],
                            Blk.box [AV.sl 1 b1_0, AV.int IntKind.i64 b1_1]] }))
                Option.none)
            Option.none)
        Option.none)
    (Option.some
      (Ex.exit 10,
        {
          vals :=
            [AV.int IntKind.i64 judged3, AV.int IntKind.i64 delay4, AV.bool holds7,
              AV.bool safe8, AV.agg [PV.sl 1 x135_0, PV.sl 1 x135_1],
              AV.int IntKind.i64 x136],
          blks :=
            [Blk.box
                [AV.int IntKind.i64 b0_0, AV.int IntKind.i64 b0_1, AV.int IntKind.i64 b0_2,
                  AV.int IntKind.i64 b0_3, AV.int IntKind.i64 b0_4],
              Blk.box [AV.sl 1 b1_0, AV.int IntKind.i64 b1_1]] })) := (lp_unfold ..).trans (by kernel_rfl)

/-- dynpos/dynposlaw28.StatusExact, the loop of block 12 -/
theorem r3_12 (F : Fun) (judged3 : Int) (holds7 : Bool) (safe8 : Bool) (x172_0 : Int) (x172_1 : Int) (x172_2 : Int) (x172_3 : Int) (x172_4 : Int) (x172_5 : Int) (x172_6 : Int) (x172_7 : Int) (x172_8 : Int) (x172_9 : Int) (x173 : Int) (b0_0 : List (List PV)) (b0_1 : Int) : lp E F 3 0 [] 12
  {
    vals :=
      [AV.int IntKind.i64 judged3, AV.bool holds7, AV.bool safe8,
        AV.agg
          [PV.int IntKind.i64 x172_0, PV.int IntKind.i64 x172_1, PV.int IntKind.i64 x172_2,
            PV.int IntKind.i64 x172_3, PV.int IntKind.i64 x172_4, PV.int IntKind.i64 x172_5,
            PV.int IntKind.i64 x172_6, PV.int IntKind.i64 x172_7, PV.int IntKind.i64 x172_8,
            PV.int IntKind.i64 x172_9],
        AV.int IntKind.i64 x173],
    blks := [Blk.box [AV.sl 1 b0_0, AV.int IntKind.i64 b0_1]] } =
  ctl (ltB x173 2)
    (getE
      [[PV.int IntKind.i64 x172_0, PV.int IntKind.i64 x172_1, PV.int IntKind.i64 x172_2,
          PV.int IntKind.i64 x172_3, PV.int IntKind.i64 x172_4],
        [PV.int IntKind.i64 x172_5, PV.int IntKind.i64 x172_6, PV.int IntKind.i64 x172_7,
          PV.int IntKind.i64 x172_8, PV.int IntKind.i64 x172_9]]
      x173 fun (c : List PV) =>
      ctl
        (okCs
          [Sh.int IntKind.i64, Sh.int IntKind.i64, Sh.int IntKind.i64,
            Sh.int IntKind.i64, Sh.int IntKind.i64]
          c)
        (bnd
          (F 12 [AV.t (TV.ptr 0 0), AV.int IntKind.i64 4]
            [Blk.box [AV.sl 1 b0_0, AV.int IntKind.i64 b0_1]])
          fun (r : Res) =>
          ctl
            (okR [RSh.one (Sh.int IntKind.i64)] r.fst &&
              okB [Sum.inl [Sh.sl 1, Sh.int IntKind.i64]] r.snd)
            (bnd
              (lp E F 3 0 [] 14
                {
                  vals :=
                    [AV.int IntKind.i64 judged3, AV.bool holds7, AV.bool safe8,
                      AV.agg
                        [PV.int IntKind.i64 x172_0, PV.int IntKind.i64 x172_1, PV.int IntKind.i64 x172_2,
                          PV.int IntKind.i64 x172_3, PV.int IntKind.i64 x172_4, PV.int IntKind.i64 x172_5,
                          PV.int IntKind.i64 x172_6, PV.int IntKind.i64 x172_7, PV.int IntKind.i64 x172_8,
                          PV.int IntKind.i64 x172_9],
                      AV.int IntKind.i64 x173,
                      AV.agg
                        [PV.int IntKind.i64 judged3,
                          PV.int IntKind.i64 (nth (RV.p PV.nilp) r.fst 0).toPV.toInt],
                      AV.int IntKind.i64 0],
                  blks :=
                    [Blk.box
                        [AV.sl 1
                            (nth PV.nilp
                                (List.map AV.toPV (nth (Blk.box []) r.snd 0).toCs) 0).toEs,
                          AV.int IntKind.i64
                            (nth PV.nilp
                                (List.map AV.toPV (nth (Blk.box []) r.snd 0).toCs) 1).toInt],
                      Blk.box
                        [AV.int IntKind.i64 (nth PV.nilp c 0).toInt,
                          AV.int IntKind.i64 (nth PV.nilp c 1).toInt,
                          AV.int IntKind.i64 (nth PV.nilp c 2).toInt,
                          AV.int IntKind.i64 (nth PV.nilp c 3).toInt,
                          AV.int IntKind.i64 (nth PV.nilp c 4).toInt]] })
              fun (p : Ex × Pack) =>
              ctl (p.fst.eqb (Ex.exit 14))
                (ctl
                  (okPack
                    {
                      slots :=
                        [(3, Sum.inl (Sh.int IntKind.i64)), (7, Sum.inl Sh.bool), (8, Sum.inl Sh.bool),
                          (19, Sum.inr (Sum.inr (AV.t (TV.ptr 0 0)))),
                          (172,
                            Sum.inr
                              (Sum.inl
                                [Sh.int IntKind.i64, Sh.int IntKind.i64, Sh.int IntKind.i64,
                                  Sh.int IntKind.i64, Sh.int IntKind.i64, Sh.int IntKind.i64,
                                  Sh.int IntKind.i64, Sh.int IntKind.i64, Sh.int IntKind.i64,
                                  Sh.int IntKind.i64])),
                          (173, Sum.inl (Sh.int IntKind.i64))],
                      blks := [Sum.inl [Sum.inl (Sh.sl 1), Sum.inl (Sh.int IntKind.i64)]] }
                    p.snd)
                  (lp E F 3 0 [] 12
                    {
                      vals :=
                        [AV.int IntKind.i64 (nth AV.undef p.snd.vals 0).toPV.toInt,
                          AV.bool (nth AV.undef p.snd.vals 1).toPV.toBool,
                          AV.bool (nth AV.undef p.snd.vals 2).toPV.toBool,
                          AV.agg
                            [PV.int IntKind.i64
                                (nth PV.nilp (nth AV.undef p.snd.vals 3).toCs 0).toInt,
                              PV.int IntKind.i64
                                (nth PV.nilp (nth AV.undef p.snd.vals 3).toCs 1).toInt,
                              PV.int IntKind.i64
                                (nth PV.nilp (nth AV.undef p.snd.vals 3).toCs 2).toInt,
                              PV.int IntKind.i64
                                (nth PV.nilp (nth AV.undef p.snd.vals 3).toCs 3).toInt,
                              PV.int IntKind.i64
                                (nth PV.nilp (nth AV.undef p.snd.vals 3).toCs 4).toInt,
                              PV.int IntKind.i64
                                (nth PV.nilp (nth AV.undef p.snd.vals 3).toCs 5).toInt,
                              PV.int IntKind.i64
                                (nth PV.nilp (nth AV.undef p.snd.vals 3).toCs 6).toInt,
                              PV.int IntKind.i64
                                (nth PV.nilp (nth AV.undef p.snd.vals 3).toCs 7).toInt,
                              PV.int IntKind.i64
                                (nth PV.nilp (nth AV.undef p.snd.vals 3).toCs 8).toInt,
                              PV.int IntKind.i64
                                (nth PV.nilp (nth AV.undef p.snd.vals 3).toCs 9).toInt],
                          AV.int IntKind.i64 (IntKind.i64.wrap ((nth AV.undef p.snd.vals 4).toPV.toInt + 1))],
                      blks :=
                        [Blk.box
                            [AV.sl 1
                                (nth AV.undef (nth (Blk.box []) p.snd.blks 0).toCs 0).toPV.toEs,
                              AV.int IntKind.i64
                                (nth AV.undef (nth (Blk.box []) p.snd.blks 0).toCs
                                      1).toPV.toInt]] })
                  Option.none)
                (ctl (p.fst.eqb Ex.ret)
                  (ctl (okPack { slots := [(18, Sum.inl Sh.bool)], blks := [] } p.snd)
                    (Option.some
                      (Ex.ret,
                        { vals := [AV.bool (nth AV.undef p.snd.vals 0).toPV.toBool], blks := [] }))
                    Option.none)
                  Option.none))
            Option.none)
        Option.none)
    (Option.some (Ex.exit 12, { vals := [], blks := [] })) := (lp_unfold ..).trans (by kernel_rfl)

/-- dynpos/dynposlaw28.StatusExact, the loop of block 14 -/
theorem r3_14 (F : Fun) (judged3 : Int) (holds7 : Bool) (safe8 : Bool) (x172_0 : Int) (x172_1 : Int) (x172_2 : Int) (x172_3 : Int) (x172_4 : Int) (x172_5 : Int) (x172_6 : Int) (x172_7 : Int) (x172_8 : Int) (x172_9 : Int) (x173 : Int) (x179_0 : Int) (x179_1 : Int) (x180 : Int) (b0_0 : List (List PV)) (b0_1 : Int) (b1_0 : Int) (b1_1 : Int) (b1_2 : Int) (b1_3 : Int) (b1_4 : Int) : lp E F 3 0 [] 14
  {
    vals :=
      [AV.int IntKind.i64 judged3, AV.bool holds7, AV.bool safe8,
        AV.agg
          [PV.int IntKind.i64 x172_0, PV.int IntKind.i64 x172_1, PV.int IntKind.i64 x172_2,
            PV.int IntKind.i64 x172_3, PV.int IntKind.i64 x172_4, PV.int IntKind.i64 x172_5,
            PV.int IntKind.i64 x172_6, PV.int IntKind.i64 x172_7, PV.int IntKind.i64 x172_8,
            PV.int IntKind.i64 x172_9],
        AV.int IntKind.i64 x173,
        AV.agg [PV.int IntKind.i64 x179_0, PV.int IntKind.i64 x179_1],
        AV.int IntKind.i64 x180],
    blks :=
      [Blk.box [AV.sl 1 b0_0, AV.int IntKind.i64 b0_1],
        Blk.box
          [AV.int IntKind.i64 b1_0, AV.int IntKind.i64 b1_1, AV.int IntKind.i64 b1_2,
            AV.int IntKind.i64 b1_3, AV.int IntKind.i64 b1_4]] } =
  ctl (ltB x180 2)
    (getE [[PV.int IntKind.i64 x179_0], [PV.int IntKind.i64 x179_1]] x180
      fun (c : List PV) =>
      ctl (okCs [Sh.int IntKind.i64] c)
        (bnd
          (F 24
            [AV.bool holds7, AV.bool safe8,
              AV.agg
                [PV.int IntKind.i64 b1_0, PV.int IntKind.i64 b1_1, PV.int IntKind.i64 b1_2,
                  PV.int IntKind.i64 b1_3, PV.int IntKind.i64 b1_4],
              AV.int IntKind.i64 (nth PV.nilp c 0).toInt]
            [])
          fun (r : Res) =>
          ctl
            (okR [RSh.one (Sh.int IntKind.i64)] r.fst && okB [] r.snd)
            (bnd
              (F 25
                [AV.bool holds7, AV.bool safe8,
                  AV.agg
                    [PV.int IntKind.i64 b1_0, PV.int IntKind.i64 b1_1, PV.int IntKind.i64 b1_2,
                      PV.int IntKind.i64 b1_3, PV.int IntKind.i64 b1_4],
                  AV.int IntKind.i64 (nth PV.nilp c 0).toInt]
                [])
              fun (r_1 : Res) =>
              ctl
                (okR [RSh.one (Sh.int IntKind.i64)] r_1.fst && okB [] r_1.snd)
                (ctl
                  ((nth (RV.p PV.nilp) r.fst 0).toPV.toInt !=
                    (nth (RV.p PV.nilp) r_1.fst 0).toPV.toInt)
                  (Option.some (Ex.ret, { vals := [AV.bool Bool.false], blks := [] }))
                  (lp E F 3 0 [] 14
                    {
                      vals :=
                        [AV.int IntKind.i64 judged3, AV.bool holds7, AV.bool safe8,
                          AV.agg
                            [PV.int IntKind.i64 x172_0, PV.int IntKind.i64 x172_1, PV.int IntKind.i64 x172_2,
                              PV.int IntKind.i64 x172_3, PV.int IntKind.i64 x172_4, PV.int IntKind.i64 x172_5,
                              PV.int IntKind.i64 x172_6, PV.int IntKind.i64 x172_7, PV.int IntKind.i64 x172_8,
                              PV.int IntKind.i64 x172_9],
                          AV.int IntKind.i64 x173,
                          AV.agg [PV.int IntKind.i64 x179_0, PV.int IntKind.i64 x179_1],
                          AV.int IntKind.i64 (IntKind.i64.wrap (x180 + 1))],
                      blks :=
                        [Blk.box [AV.sl 1 b0_0, AV.int IntKind.i64 b0_1],
                          Blk.box
                            [AV.int IntKind.i64 b1_0, AV.int IntKind.i64 b1_1, AV.int IntKind.i64 b1_2,
                              AV.int IntKind.i64 b1_3, AV.int IntKind.i64 b1_4]] }))
                Option.none)
            Option.none)
        Option.none)
    (Option.some
      (Ex.exit 14,
        {
          vals :=
            [AV.int IntKind.i64 judged3, AV.bool holds7, AV.bool safe8,
              AV.agg
                [PV.int IntKind.i64 x172_0, PV.int IntKind.i64 x172_1, PV.int IntKind.i64 x172_2,
                  PV.int IntKind.i64 x172_3, PV.int IntKind.i64 x172_4, PV.int IntKind.i64 x172_5,
                  PV.int IntKind.i64 x172_6, PV.int IntKind.i64 x172_7, PV.int IntKind.i64 x172_8,
                  PV.int IntKind.i64 x172_9],
              AV.int IntKind.i64 x173],
          blks := [Blk.box [AV.sl 1 b0_0, AV.int IntKind.i64 b0_1]] })) := (lp_unfold ..).trans (by kernel_rfl)

/-- dynpos/dynposlaw28.StatusExact -/
theorem r3 (F : Fun) (t : List (List PV)) (c0 : Int) (c1 : Int) (time : Int) (judged : Int) (delay : Int) (raw : List (List PV)) (e0 : Int) (e1 : Int) (e2 : Int) (e3 : Int) (e4 : Int) (holds : Bool) (safe : Bool) : funK E F 3 [AV.sl 1 t, AV.agg [PV.int IntKind.i64 c0, PV.int IntKind.i64 c1],
  AV.int IntKind.i64 time, AV.int IntKind.i64 judged, AV.int IntKind.i64 delay,
  AV.sl 1 raw,
  AV.agg
    [PV.int IntKind.i64 e0, PV.int IntKind.i64 e1, PV.int IntKind.i64 e2,
      PV.int IntKind.i64 e3, PV.int IntKind.i64 e4],
  AV.bool holds, AV.bool safe] [] =
  bnd
    (ctl (!ltB 600 (↑t.length : Int)) (Option.some (ltB 450 (↑raw.length : Int))) (Option.some Bool.true)) fun (v : Bool) =>
    ctl v
      (bnd (F 9 [] []) fun (r : Res) =>
        ctl (okR [RSh.one Sh.bool] r.fst && okB [] r.snd)
          (Option.some
            ([RV.p
                  (PV.bool (nth (RV.p PV.nilp) r.fst 0).toPV.toBool)],
              []))
          Option.none)
      (bnd (F 10 [AV.sl 1 t] []) fun (r : Res) =>
        ctl
          (okR [RSh.ownp [Sh.sl 1, Sh.int IntKind.i64]] r.fst &&
            okB [] r.snd)
          (bnd
            (F 11 [AV.t (TV.ptr 0 0), AV.int IntKind.i64 0, AV.int IntKind.i64 4]
              [Blk.box
                  [AV.sl 1
                      (nth PV.nilp
                          (nth (RV.p PV.nilp) r.fst 0).toCs 0).toEs,
                    AV.int IntKind.i64
                      (nth PV.nilp
                          (nth (RV.p PV.nilp) r.fst 0).toCs 1).toInt]])
            fun (r : Res) =>
            ctl
              (okR [RSh.one (Sh.int IntKind.i64)] r.fst &&
                okB [Sum.inl [Sh.sl 1, Sh.int IntKind.i64]] r.snd)
              (bnd
                (F 11 [AV.t (TV.ptr 0 0), AV.int IntKind.i64 (-2), AV.int IntKind.i64 6]
                  [Blk.box
                      [AV.sl 1
                          (nth PV.nilp
                              (List.map AV.toPV (nth (Blk.box []) r.snd 0).toCs) 0).toEs,
                        AV.int IntKind.i64
                          (nth PV.nilp
                              (List.map AV.toPV (nth (Blk.box []) r.snd 0).toCs) 1).toInt]])
                fun (r_1 : Res) =>
                ctl
                  (okR [RSh.one (Sh.int IntKind.i64)] r_1.fst &&
                    okB [Sum.inl [Sh.sl 1, Sh.int IntKind.i64]] r_1.snd)
                  (bnd
                    (lp E F 3 0 [] 0
                      {
                        vals :=
                          [AV.int IntKind.i64 time, AV.int IntKind.i64 judged, AV.int IntKind.i64 delay,
                            AV.sl 1 raw, AV.bool holds, AV.bool safe,
                            AV.agg
                              [PV.int IntKind.i64 c0, PV.int IntKind.i64 c1,
                                PV.int IntKind.i64 (nth (RV.p PV.nilp) r.fst 0).toPV.toInt,
                                PV.int IntKind.i64 (nth (RV.p PV.nilp) r_1.fst 0).toPV.toInt],
                            AV.int IntKind.i64 0],
                        blks :=
                          [Blk.box
                              [AV.int IntKind.i64 e0, AV.int IntKind.i64 e1, AV.int IntKind.i64 e2,
                                AV.int IntKind.i64 e3, AV.int IntKind.i64 e4],
                            Blk.box
                              [AV.sl 1
                                  (nth PV.nilp
                                      (List.map AV.toPV (nth (Blk.box []) r_1.snd 0).toCs) 0).toEs,
                                AV.int IntKind.i64
                                  (nth PV.nilp
                                      (List.map AV.toPV (nth (Blk.box []) r_1.snd 0).toCs) 1).toInt]] })
                    fun (p : Ex × Pack) =>
                    ctl (p.fst.eqb (Ex.exit 0))
                      (ctl
                        (okPack
                          {
                            slots :=
                              [(3, Sum.inl (Sh.int IntKind.i64)), (4, Sum.inl (Sh.int IntKind.i64)),
                                (5, Sum.inl (Sh.sl 1)), (7, Sum.inl Sh.bool), (8, Sum.inl Sh.bool),
                                (15, Sum.inr (Sum.inr (AV.t (TV.ptr 0 0)))),
                                (19, Sum.inr (Sum.inr (AV.t (TV.ptr 1 0))))],
                            blks :=
                              [Sum.inl
                                  [Sum.inl (Sh.int IntKind.i64), Sum.inl (Sh.int IntKind.i64),
                                    Sum.inl (Sh.int IntKind.i64), Sum.inl (Sh.int IntKind.i64),
                                    Sum.inl (Sh.int IntKind.i64)],
                                Sum.inl [Sum.inl (Sh.sl 1), Sum.inl (Sh.int IntKind.i64)]] }
                          p.snd)
                        (bnd
                          (F 19 [AV.t (TV.ptr 0 0), AV.int IntKind.i64 20]
                            [Blk.box
                                [AV.sl 1
                                    (nth AV.undef (nth (Blk.box []) p.snd.blks 1).toCs
                                          0).toPV.toEs,
                                  AV.int IntKind.i64
                                    (nth AV.undef (nth (Blk.box []) p.snd.blks 1).toCs
                                          1).toPV.toInt]])
                          fun (r : Res) =>
                          ctl
                            (okR [RSh.one (Sh.sl 1)] r.fst &&
                              okB [Sum.inl [Sh.sl 1, Sh.int IntKind.i64]] r.snd)
                            (bnd
                              (lp E F 3 0 [] 8
                                {
                                  vals :=
                                    [AV.int IntKind.i64 (nth AV.undef p.snd.vals 0).toPV.toInt,
                                      AV.int IntKind.i64 (nth AV.undef p.snd.vals 1).toPV.toInt,
                                      AV.bool (nth AV.undef p.snd.vals 3).toPV.toBool,
                                      AV.bool (nth AV.undef p.snd.vals 4).toPV.toBool,
                                      AV.agg
                                        [PV.sl 1 (nth AV.undef p.snd.vals 2).toPV.toEs,
                                          PV.sl 1 (nth (RV.p PV.nilp) r.fst 0).toPV.toEs],
                                      AV.int IntKind.i64 0],
                                  blks :=
                                    [Blk.box
                                        [AV.int IntKind.i64
                                            (nth AV.undef (nth (Blk.box []) p.snd.blks 0).toCs
                                                  0).toPV.toInt,
                                          AV.int IntKind.i64
                                            (nth AV.undef (nth (Blk.box []) p.snd.blks 0).toCs
                                                  1).toPV.toInt,
                                          AV.int IntKind.i64
                                            (nth AV.undef (nth (Blk.box []) p.snd.blks 0).toCs
                                                  2).toPV.toInt,
                                          AV.int IntKind.i64
                                            (nth AV.undef (nth (Blk.box []) p.snd.blks 0).toCs
                                                  3).toPV.toInt,
                                          AV.int IntKind.i64
                                            (nth AV.undef (nth (Blk.box []) p.snd.blks 0).toCs
                                                  4).toPV.toInt],
                                      Blk.box
                                        [AV.sl 1
                                            (nth PV.nilp
                                                (List.map AV.toPV (nth (Blk.box []) r.snd 0).toCs) 0).toEs,
                                          AV.int IntKind.i64
                                            (nth PV.nilp
                                                (List.map AV.toPV (nth (Blk.box []) r.snd 0).toCs) 1).toInt]] })
                              fun (p : Ex × Pack) =>
                              ctl (p.fst.eqb (Ex.exit 8))
                                (ctl
                                  (okPack
                                    {
                                      slots :=
                                        [(3, Sum.inl (Sh.int IntKind.i64)), (7, Sum.inl Sh.bool), (8, Sum.inl Sh.bool),
                                          (15, Sum.inr (Sum.inr (AV.t (TV.ptr 0 0)))),
                                          (19, Sum.inr (Sum.inr (AV.t (TV.ptr 1 0))))],
                                      blks :=
                                        [Sum.inl
                                            [Sum.inl (Sh.int IntKind.i64), Sum.inl (Sh.int IntKind.i64),
                                              Sum.inl (Sh.int IntKind.i64), Sum.inl (Sh.int IntKind.i64),
                                              Sum.inl (Sh.int IntKind.i64)],
                                          Sum.inl [Sum.inl (Sh.sl 1), Sum.inl (Sh.int IntKind.i64)]] }
                                    p.snd)
                                  (bnd
                                    (F 23 [AV.t (TV.ptr 0 0), AV.int IntKind.i64 1]
                                      [Blk.box
                                          [AV.sl 1
                                              (nth AV.undef (nth (Blk.box []) p.snd.blks 1).toCs
                                                    0).toPV.toEs,
                                            AV.int IntKind.i64
                                              (nth AV.undef (nth (Blk.box []) p.snd.blks 1).toCs
                                                    1).toPV.toInt]])
                                    fun (r : Res) =>
                                    ctl
                                      (okR
                                          [RSh.agg
                                              [Sh.int IntKind.i64, Sh.int IntKind.i64, Sh.int IntKind.i64,
                                                Sh.int IntKind.i64, Sh.int IntKind.i64]]
                                          r.fst &&
                                        okB [Sum.inl [Sh.sl 1, Sh.int IntKind.i64]] r.snd)
                                      (bnd
                                        (lp E F 3 0 [] 12
                                          {
                                            vals :=
                                              [AV.int IntKind.i64 (nth AV.undef p.snd.vals 0).toPV.toInt,
                                                AV.bool (nth AV.undef p.snd.vals 1).toPV.toBool,
                                                AV.bool (nth AV.undef p.snd.vals 2).toPV.toBool,
                                                AV.agg
                                                  [PV.int IntKind.i64
                                                      (nth AV.undef
                                                            (nth (Blk.box []) p.snd.blks 0).toCs 0).toPV.toInt,
                                                    PV.int IntKind.i64
                                                      (nth AV.undef
                                                            (nth (Blk.box []) p.snd.blks 0).toCs 1).toPV.toInt,
                                                    PV.int IntKind.i64
                                                      (nth AV.undef
                                                            (nth (Blk.box []) p.snd.blks 0).toCs 2).toPV.toInt,
                                                    PV.int IntKind.i64
                                                      (nth AV.undef
                                                            (nth (Blk.box []) p.snd.blks 0).toCs 3).toPV.toInt,
                                                    PV.int IntKind.i64
                                                      (nth AV.undef
                                                            (nth (Blk.box []) p.snd.blks 0).toCs 4).toPV.toInt,
                                                    PV.int IntKind.i64
                                                      (nth PV.nilp
                                                          (nth (RV.p PV.nilp) r.fst 0).toCs 0).toInt,
                                                    PV.int IntKind.i64
                                                      (nth PV.nilp
                                                          (nth (RV.p PV.nilp) r.fst 0).toCs 1).toInt,
                                                    PV.int IntKind.i64
                                                      (nth PV.nilp
                                                          (nth (RV.p PV.nilp) r.fst 0).toCs 2).toInt,
                                                    PV.int IntKind.i64
                                                      (nth PV.nilp
                                                          (nth (RV.p PV.nilp) r.fst 0).toCs 3).toInt,
                                                    PV.int IntKind.i64
                                                      (nth PV.nilp
                                                          (nth (RV.p PV.nilp) r.fst 0).toCs 4).toInt],
                                                AV.int IntKind.i64 0],
                                            blks :=
                                              [Blk.box
                                                  [AV.sl 1
                                                      (nth PV.nilp
                                                          (List.map AV.toPV (nth (Blk.box []) r.snd 0).toCs) 0).toEs,
                                                    AV.int IntKind.i64
                                                      (nth PV.nilp
                                                          (List.map AV.toPV (nth (Blk.box []) r.snd 0).toCs) 1).toInt]] })
                                        fun (p : Ex × Pack) =>
                                        ctl (p.fst.eqb (Ex.exit 12))
                                          (bnd (F 9 [] []) fun (r : Res) =>
                                            ctl
                                              (okR [RSh.one Sh.bool] r.fst && okB [] r.snd)
                                              (Option.some
                                                ([RV.p
                                                      (PV.bool
                                                        (nth (RV.p PV.nilp) r.fst 0).toPV.toBool)],
                                                  []))
                                              Option.none)
                                          (ctl (p.fst.eqb Ex.ret)
                                            (ctl (okPack { slots := [(18, Sum.inl Sh.bool)], blks := [] } p.snd)
                                              (Option.some
                                                ([RV.p
                                                      (PV.bool (nth AV.undef p.snd.vals 0).toPV.toBool)],
                                                  []))
                                              Option.none)
                                            Option.none))
                                      Option.none)
                                  Option.none)
                                (ctl (p.fst.eqb Ex.ret)
                                  (ctl (okPack { slots := [(18, Sum.inl Sh.bool)], blks := [] } p.snd)
                                    (Option.some
                                      ([RV.p (PV.bool (nth AV.undef p.snd.vals 0).toPV.toBool)],
                                        []))
                                    Option.none)
                                  Option.none))
                            Option.none)
                        Option.none)
                      (ctl (p.fst.eqb Ex.ret)
                        (ctl (okPack { slots := [(18, Sum.inl Sh.bool)], blks := [] } p.snd)
                          (Option.some
                            ([RV.p (PV.bool (nth AV.undef p.snd.vals 0).toPV.toBool)], []))
                          Option.none)
                        Option.none))
                  Option.none)
              Option.none)
          Option.none) := by kernel_rfl

end Go.Proofs.Ytiagcaefhjibjaa.Vm
