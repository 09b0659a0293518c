/- The raw theorems, by program: what each function and each loop comes to. -/
import Derived.Test.YtcgpckiieocdbaaEnv
import Derived.Test.YtcgpckiieocdbaaVm34
import Derived.KernelRfl
namespace Go.Proofs.Ytcgpckiieocdbaa.Vm
open Go
set_option maxRecDepth 100000
set_option linter.unusedVariables false

/-- dynpos/dynpostop.TopCommands, the loop of block 0 -/
theorem r3_0 (F : Fun) (l5 : List (List PV)) (device8 : Int) (at9 : Int) (time10 : Int) (b0_0 : List (List PV)) (b0_1 : Int) (b1_0 : Int) (b1_1 : List (List PV)) (c2 : List (Int × MV)) : lp E F 3 0 [] 0
  {
    vals :=
      [AV.sl 3 l5, AV.int IntKind.i64 device8, AV.int IntKind.i64 at9,
        AV.int IntKind.i64 time10],
    blks :=
      [Blk.box [AV.sl 1 b0_0, AV.int IntKind.i64 b0_1],
        Blk.box [AV.int IntKind.i64 b1_0, AV.sl 3 b1_1], Blk.tab Bool.true 0 c2] } =
  ctl (ltB time10 12)
    (bnd
      (F 9
        [AV.t (TV.ptr 0 0),
          AV.agg [PV.int IntKind.i64 b1_0, PV.sl 3 b1_1]]
        [Blk.box [AV.sl 1 b0_0, AV.int IntKind.i64 b0_1]])
      fun (r : Res) =>
      ctl
        (okR [RSh.one (Sh.sl 2)] r.fst &&
          okB [Sum.inl [Sh.sl 1, Sh.int IntKind.i64]] r.snd)
        (ctl
          (leB 0 b1_0 &&
            (leB b1_0 b1_0 && (leB b1_0 9223372036854775807 && leB (b1_0 * 24) 140737488355328)))
          (bnd
            (lp E F 3 0 [] 2
              {
                vals :=
                  [AV.sl 3 l5, AV.int IntKind.i64 device8, AV.int IntKind.i64 at9,
                    AV.int IntKind.i64 time10,
                    AV.sl 2 (nth (RV.p PV.nilp) r.fst 0).toPV.toEs,
                    AV.int IntKind.i64 (↑(reps ((0 : Int), MV.row []) b1_0.toNat).length : Int),
                    AV.int IntKind.i64 0],
                blks :=
                  [Blk.box
                      [AV.sl 1
                          (nth PV.nilp
                              (List.map AV.toPV (nth (Blk.box []) r.snd 0).toCs) 0).toEs,
                        AV.int IntKind.i64
                          (nth PV.nilp
                              (List.map AV.toPV (nth (Blk.box []) r.snd 0).toCs) 1).toInt],
                    Blk.box [AV.int IntKind.i64 b1_0, AV.sl 3 b1_1], Blk.tab Bool.true 0 c2,
                    Blk.tab Bool.false 1 (reps ((0 : Int), MV.row []) b1_0.toNat)] })
            fun (p : Ex × Pack) =>
            ctl (p.fst.eqb (Ex.exit 2))
              (ctl
                (okPack
                  {
                    slots :=
                      [(3, Sum.inr (Sum.inr (AV.t (TV.ptr 0 0)))),
                        (4, Sum.inr (Sum.inr (AV.t (TV.ptr 1 0)))), (5, Sum.inl (Sh.sl 3)),
                        (7, Sum.inr (Sum.inr (AV.hmap 2))), (8, Sum.inl (Sh.int IntKind.i64)),
                        (9, Sum.inl (Sh.int IntKind.i64)), (10, Sum.inl (Sh.int IntKind.i64)),
                        (12, Sum.inr (Sum.inr (AV.tsl 3)))],
                    blks :=
                      [Sum.inl [Sum.inl (Sh.sl 1), Sum.inl (Sh.int IntKind.i64)],
                        Sum.inl [Sum.inl (Sh.int IntKind.i64), Sum.inl (Sh.sl 3)], Sum.inr 1000001, Sum.inr 1000002] }
                  p.snd)
                (bnd
                  (F 11
                    [AV.t (TV.ptr 0 0),
                      AV.sl 3 (nth AV.undef p.snd.vals 0).toPV.toEs,
                      AV.int IntKind.i64 (nth AV.undef p.snd.vals 3).toPV.toInt]
                    [Blk.box
                        [AV.sl 1
                            (nth AV.undef (nth (Blk.box []) p.snd.blks 0).toCs 0).toPV.toEs,
                          AV.int IntKind.i64
                            (nth AV.undef (nth (Blk.box []) p.snd.blks 0).toCs 1).toPV.toInt]])
                  fun (r : Res) =>
                  ctl
                    (okR [RSh.one (Sh.sl 3)] r.fst &&
                      okB [Sum.inl [Sh.sl 1, Sh.int IntKind.i64]] r.snd)
                    (bnd
                      (F 8 [AV.t (TV.ptr 0 0), AV.int IntKind.i64 2]
                        [Blk.box
                            [AV.sl 1
                                (nth PV.nilp
                                    (List.map AV.toPV (nth (Blk.box []) r.snd 0).toCs) 0).toEs,
                              AV.int IntKind.i64
                                (nth PV.nilp
                                    (List.map AV.toPV (nth (Blk.box []) r.snd 0).toCs) 1).toInt]])
                      fun (r_1 : Res) =>
                      ctl
                        (okR [RSh.one (Sh.int IntKind.i64)] r_1.fst &&
                          okB [Sum.inl [Sh.sl 1, Sh.int IntKind.i64]] r_1.snd)
                        (bnd
                          (F 12
                            [AV.sl 3 (nth (RV.p PV.nilp) r.fst 0).toPV.toEs,
                              AV.sl 1
                                (List.map (fun (x : Int × MV) => [MV.frz 1 x.snd])
                                  (nth (Blk.box []) p.snd.blks 3).toKvs),
                              AV.int IntKind.i64 (nth AV.undef p.snd.vals 3).toPV.toInt,
                              AV.int IntKind.i64
                                (IntKind.i64.wrap (1 + (nth (RV.p PV.nilp) r_1.fst 0).toPV.toInt))]
                            [])
                          fun (r : Res) =>
                          ctl
                            (okR
                                [RSh.one (Sh.sl 3), RSh.one (Sh.int IntKind.i64)] r.fst &&
                              okB [] r.snd)
                            (ctl ((nth (RV.p PV.nilp) r.fst 1).toPV.toInt != 0)
                              (Option.some (Ex.ret, { vals := [AV.bool Bool.false], blks := [] }))
                              (bnd
                                (lp E F 3 0 [] 6
                                  {
                                    vals :=
                                      [AV.sl 3 (nth (RV.p PV.nilp) r.fst 0).toPV.toEs,
                                        AV.int IntKind.i64 (nth AV.undef p.snd.vals 1).toPV.toInt,
                                        AV.int IntKind.i64 (nth AV.undef p.snd.vals 2).toPV.toInt,
                                        AV.int IntKind.i64 (nth AV.undef p.snd.vals 3).toPV.toInt,
                                        AV.sl 1
                                          (List.map (fun (x : Int × MV) => [MV.frz 1 x.snd])
                                            (nth (Blk.box []) p.snd.blks 3).toKvs),
                                        AV.sl 3 (nth (RV.p PV.nilp) r.fst 0).toPV.toEs,
                                        AV.int IntKind.i64
                                          (↑(nth (RV.p PV.nilp) r.fst 0).toPV.toEs.length : Int),
                                        AV.int IntKind.i64 0],
                                    blks :=
                                      [Blk.box
                                          [AV.sl 1
                                              (nth PV.nilp
                                                  (List.map AV.toPV (nth (Blk.box []) r_1.snd 0).toCs) 0).toEs,
                                            AV.int IntKind.i64
                                              (nth PV.nilp
                                                  (List.map AV.toPV (nth (Blk.box []) r_1.snd 0).toCs) 1).toInt],
                                        Blk.box
                                          [AV.int IntKind.i64
                                              (nth AV.undef (nth (Blk.box []) p.snd.blks 1).toCs
                                                    0).toPV.toInt,
                                            AV.sl 3
                                              (nth AV.undef (nth (Blk.box []) p.snd.blks 1).toCs
                                                    1).toPV.toEs],
                                        Blk.tab Bool.true 0 (nth (Blk.box []) p.snd.blks 2).toKvs] })
                                fun (p : Ex × Pack) =>
                                ctl (p.fst.eqb (Ex.exit 6))
                                  (ctl
                                    (okPack
                                      {
                                        slots :=
                                          [(3, Sum.inr (Sum.inr (AV.t (TV.ptr 0 0)))),
                                            (4, Sum.inr (Sum.inr (AV.t (TV.ptr 1 0)))), (5, Sum.inl (Sh.sl 3)),
                                            (7, Sum.inr (Sum.inr (AV.hmap 2))), (8, Sum.inl (Sh.int IntKind.i64)),
                                            (9, Sum.inl (Sh.int IntKind.i64)), (10, Sum.inl (Sh.int IntKind.i64))],
                                        blks :=
                                          [Sum.inl [Sum.inl (Sh.sl 1), Sum.inl (Sh.int IntKind.i64)],
                                            Sum.inl [Sum.inl (Sh.int IntKind.i64), Sum.inl (Sh.sl 3)], Sum.inr 1000001] }
                                      p.snd)
                                    (lp E F 3 0 [] 0
                                      {
                                        vals :=
                                          [AV.sl 3 (nth AV.undef p.snd.vals 0).toPV.toEs,
                                            AV.int IntKind.i64 (nth AV.undef p.snd.vals 1).toPV.toInt,
                                            AV.int IntKind.i64 (nth AV.undef p.snd.vals 2).toPV.toInt,
                                            AV.int IntKind.i64
                                              (IntKind.i64.wrap ((nth AV.undef p.snd.vals 3).toPV.toInt + 1))],
                                        blks :=
                                          [Blk.box
                                              [AV.sl 1
                                                  (nth AV.undef
                                                        (nth (Blk.box []) p.snd.blks 0).toCs 0).toPV.toEs,
                                                AV.int IntKind.i64
                                                  (nth AV.undef
                                                        (nth (Blk.box []) p.snd.blks 0).toCs 1).toPV.toInt],
                                            Blk.box
                                              [AV.int IntKind.i64
                                                  (nth AV.undef
                                                        (nth (Blk.box []) p.snd.blks 1).toCs 0).toPV.toInt,
                                                AV.sl 3
                                                  (nth AV.undef
                                                        (nth (Blk.box []) p.snd.blks 1).toCs 1).toPV.toEs],
                                            Blk.tab Bool.true 0 (nth (Blk.box []) p.snd.blks 2).toKvs] })
                                    Option.none)
                                  (ctl (p.fst.eqb Ex.ret)
                                    (ctl (okPack { slots := [(2, Sum.inl Sh.bool)], blks := [] } p.snd)
                                      (Option.some
                                        (Ex.ret,
                                          { vals := [AV.bool (nth AV.undef p.snd.vals 0).toPV.toBool], blks := [] }))
                                      Option.none)
                                    Option.none)))
                            Option.none)
                        Option.none)
                    Option.none)
                Option.none)
              Option.none)
          Option.none)
        Option.none)
    (Option.some (Ex.exit 0, { vals := [], blks := [] })) := (lp_unfold ..).trans (by kernel_rfl)

/-- dynpos/dynpostop.TopCommands, the loop of block 2 -/
theorem r3_2 (F : Fun) (l5 : List (List PV)) (device8 : Int) (at9 : Int) (time10 : Int) (broken11 : List (List PV)) (x55 : Int) (x56 : Int) (b0_0 : List (List PV)) (b0_1 : Int) (b1_0 : Int) (b1_1 : List (List PV)) (c2 : List (Int × MV)) (c3 : List (Int × MV)) : lp E F 3 0 [] 2
  {
    vals :=
      [AV.sl 3 l5, AV.int IntKind.i64 device8, AV.int IntKind.i64 at9,
        AV.int IntKind.i64 time10, AV.sl 2 broken11, AV.int IntKind.i64 x55,
        AV.int IntKind.i64 x56],
    blks :=
      [Blk.box [AV.sl 1 b0_0, AV.int IntKind.i64 b0_1],
        Blk.box [AV.int IntKind.i64 b1_0, AV.sl 3 b1_1], Blk.tab Bool.true 0 c2,
        Blk.tab Bool.false 1 c3] } =
  ctl (ltB x56 x55)
    (bnd
      (lp E F 3 0 [] 4
        {
          vals :=
            [AV.sl 3 l5, AV.int IntKind.i64 device8, AV.int IntKind.i64 at9,
              AV.int IntKind.i64 time10, AV.sl 2 broken11, AV.int IntKind.i64 x56,
              AV.int IntKind.i64 0, AV.int IntKind.i64 x55, AV.int IntKind.i64 x56],
          blks :=
            [Blk.box [AV.sl 1 b0_0, AV.int IntKind.i64 b0_1],
              Blk.box [AV.int IntKind.i64 b1_0, AV.sl 3 b1_1], Blk.tab Bool.true 0 c2,
              Blk.tab Bool.false 1 c3] })
      fun (p : Ex × Pack) =>
      ctl (p.fst.eqb (Ex.exit 4))
        (ctl
          (okPack
            {
              slots :=
                [(3, Sum.inr (Sum.inr (AV.t (TV.ptr 0 0)))),
                  (4, Sum.inr (Sum.inr (AV.t (TV.ptr 1 0)))), (5, Sum.inl (Sh.sl 3)),
                  (7, Sum.inr (Sum.inr (AV.hmap 2))), (8, Sum.inl (Sh.int IntKind.i64)), (9, Sum.inl (Sh.int IntKind.i64)),
                  (10, Sum.inl (Sh.int IntKind.i64)), (11, Sum.inl (Sh.sl 2)), (12, Sum.inr (Sum.inr (AV.tsl 3))),
                  (55, Sum.inl (Sh.int IntKind.i64)), (56, Sum.inl (Sh.int IntKind.i64))],
              blks :=
                [Sum.inl [Sum.inl (Sh.sl 1), Sum.inl (Sh.int IntKind.i64)],
                  Sum.inl [Sum.inl (Sh.int IntKind.i64), Sum.inl (Sh.sl 3)], Sum.inr 1000001, Sum.inr 1000002] }
            p.snd)
          (lp E F 3 0 [] 2
            {
              vals :=
                [AV.sl 3 (nth AV.undef p.snd.vals 0).toPV.toEs,
                  AV.int IntKind.i64 (nth AV.undef p.snd.vals 1).toPV.toInt,
                  AV.int IntKind.i64 (nth AV.undef p.snd.vals 2).toPV.toInt,
                  AV.int IntKind.i64 (nth AV.undef p.snd.vals 3).toPV.toInt,
                  AV.sl 2 (nth AV.undef p.snd.vals 4).toPV.toEs,
                  AV.int IntKind.i64 (nth AV.undef p.snd.vals 5).toPV.toInt,
                  AV.int IntKind.i64 (IntKind.i64.wrap ((nth AV.undef p.snd.vals 6).toPV.toInt + 1))],
              blks :=
                [Blk.box
                    [AV.sl 1
                        (nth AV.undef (nth (Blk.box []) p.snd.blks 0).toCs 0).toPV.toEs,
                      AV.int IntKind.i64
                        (nth AV.undef (nth (Blk.box []) p.snd.blks 0).toCs 1).toPV.toInt],
                  Blk.box
                    [AV.int IntKind.i64
                        (nth AV.undef (nth (Blk.box []) p.snd.blks 1).toCs 0).toPV.toInt,
                      AV.sl 3
                        (nth AV.undef (nth (Blk.box []) p.snd.blks 1).toCs 1).toPV.toEs],
                  Blk.tab Bool.true 0 (nth (Blk.box []) p.snd.blks 2).toKvs,
                  Blk.tab Bool.false 1 (nth (Blk.box []) p.snd.blks 3).toKvs] })
          Option.none)
        Option.none)
    (Option.some
      (Ex.exit 2,
        {
          vals :=
            [AV.sl 3 l5, AV.int IntKind.i64 device8, AV.int IntKind.i64 at9,
              AV.int IntKind.i64 time10],
          blks :=
            [Blk.box [AV.sl 1 b0_0, AV.int IntKind.i64 b0_1],
              Blk.box [AV.int IntKind.i64 b1_0, AV.sl 3 b1_1], Blk.tab Bool.true 0 c2,
              Blk.tab Bool.false 1 c3] })) := (lp_unfold ..).trans (by kernel_rfl)

/-- dynpos/dynpostop.TopCommands, the loop of block 4 -/
theorem r3_4 (F : Fun) (l5 : List (List PV)) (device8 : Int) (at9 : Int) (time10 : Int) (broken11 : List (List PV)) (i13 : Int) (k14 : Int) (x55 : Int) (x56 : Int) (b0_0 : List (List PV)) (b0_1 : Int) (b1_0 : Int) (b1_1 : List (List PV)) (c2 : List (Int × MV)) (c3 : List (Int × MV)) : lp E F 3 0 [] 4
  {
    vals :=
      [AV.sl 3 l5, AV.int IntKind.i64 device8, AV.int IntKind.i64 at9,
        AV.int IntKind.i64 time10, AV.sl 2 broken11, AV.int IntKind.i64 i13,
        AV.int IntKind.i64 k14, AV.int IntKind.i64 x55, AV.int IntKind.i64 x56],
    blks :=
      [Blk.box [AV.sl 1 b0_0, AV.int IntKind.i64 b0_1],
        Blk.box [AV.int IntKind.i64 b1_0, AV.sl 3 b1_1], Blk.tab Bool.true 0 c2,
        Blk.tab Bool.false 1 c3] } =
  ctl (ltB k14 b1_0)
    (ctl (leB 0 i13 && ltB i13 (↑c3.length : Int))
      (ctl (nth (0, MV.gone) c3 i13.toNat).snd.isRow
        (bnd
          (F 10
            [AV.agg [PV.int IntKind.i64 b1_0, PV.sl 3 b1_1], AV.sl 2 broken11,
              AV.int IntKind.i64 i13, AV.int IntKind.i64 k14]
            [])
          fun (r : Res) =>
          ctl
            (okR [RSh.one (Sh.int IntKind.i64)] r.fst && okB [] r.snd)
            (ctl (leN (((nth (0, MV.gone) c3 i13.toNat).snd.toEs.length + 1) * 1) 140737488355328)
              (ctl
                (leB 0 i13 && ltB i13 (↑(upd (0, MV.gone) c3 i13.toNat).length : Int))
                (lp E F 3 0 [] 4
                  {
                    vals :=
                      [AV.sl 3 l5, AV.int IntKind.i64 device8, AV.int IntKind.i64 at9,
                        AV.int IntKind.i64 time10, AV.sl 2 broken11, AV.int IntKind.i64 i13,
                        AV.int IntKind.i64 (IntKind.i64.wrap (k14 + 1)), AV.int IntKind.i64 x55,
                        AV.int IntKind.i64 x56],
                    blks :=
                      [Blk.box [AV.sl 1 b0_0, AV.int IntKind.i64 b0_1],
                        Blk.box [AV.int IntKind.i64 b1_0, AV.sl 3 b1_1],
                        Blk.tab Bool.true 0 c2,
                        Blk.tab Bool.false 1
                          (upd
                            (0,
                              MV.row
                                ((nth (0, MV.gone) c3 i13.toNat).snd.toEs ++
                                  [[PV.bool
                                        (ltB 0 (nth (RV.p PV.nilp) r.fst 0).toPV.toInt)]]))
                            (upd (0, MV.gone) c3 i13.toNat) i13.toNat)] })
                Option.none)
              Option.none)
            Option.none)
        Option.none)
      Option.none)
    (Option.some
      (Ex.exit 4,
        {
          vals :=
            [AV.sl 3 l5, AV.int IntKind.i64 device8, AV.int IntKind.i64 at9,
              AV.int IntKind.i64 time10, AV.sl 2 broken11, AV.int IntKind.i64 x55,
              AV.int IntKind.i64 x56],
          blks :=
            [Blk.box [AV.sl 1 b0_0, AV.int IntKind.i64 b0_1],
              Blk.box [AV.int IntKind.i64 b1_0, AV.sl 3 b1_1], Blk.tab Bool.true 0 c2,
              Blk.tab Bool.false 1 c3] })) := (lp_unfold ..).trans (by kernel_rfl)

/-- dynpos/dynpostop.TopCommands, the loop of block 6 -/
theorem r3_6 (F : Fun) (l5 : List (List PV)) (device8 : Int) (at9 : Int) (time10 : Int) (reach12 : List (List PV)) (x98 : List (List PV)) (x99 : Int) (x100 : Int) (b0_0 : List (List PV)) (b0_1 : Int) (b1_0 : Int) (b1_1 : List (List PV)) (c2 : List (Int × MV)) : lp E F 3 0 [] 6
  {
    vals :=
      [AV.sl 3 l5, AV.int IntKind.i64 device8, AV.int IntKind.i64 at9,
        AV.int IntKind.i64 time10, AV.sl 1 reach12, AV.sl 3 x98, AV.int IntKind.i64 x99,
        AV.int IntKind.i64 x100],
    blks :=
      [Blk.box [AV.sl 1 b0_0, AV.int IntKind.i64 b0_1],
        Blk.box [AV.int IntKind.i64 b1_0, AV.sl 3 b1_1], Blk.tab Bool.true 0 c2] } =
  ctl (ltB x100 x99)
    (getE x98 x100 fun (c : List PV) =>
      ctl
        (okCs [Sh.int IntKind.i64, Sh.int IntKind.i64, Sh.int IntKind.i64] c)
        (ctl ((nth PV.nilp c 0).toInt != 1)
          (lp E F 3 0 [] 6
            {
              vals :=
                [AV.sl 3 l5, AV.int IntKind.i64 device8, AV.int IntKind.i64 at9,
                  AV.int IntKind.i64 time10, AV.sl 1 reach12, AV.sl 3 x98,
                  AV.int IntKind.i64 x99, AV.int IntKind.i64 (IntKind.i64.wrap (x100 + 1))],
              blks :=
                [Blk.box [AV.sl 1 b0_0, AV.int IntKind.i64 b0_1],
                  Blk.box [AV.int IntKind.i64 b1_0, AV.sl 3 b1_1], Blk.tab Bool.true 0 c2] })
          (ctl
            (MV.pvOk (Sh.int IntKind.i64)
              (kvGet (MV.pv (PV.int IntKind.i64 0))
                (nth PV.nilp c 1).toInt c2))
            (bnd
              (ctl (kvHas (nth PV.nilp c 1).toInt c2)
                (Option.some
                  ((kvGet (MV.pv (PV.int IntKind.i64 0))
                          (nth PV.nilp c 1).toInt c2).toPV.toInt !=
                    x100))
                (Option.some Bool.false))
              fun (v : Bool) =>
              ctl v (Option.some (Ex.ret, { vals := [AV.bool Bool.false], blks := [] }))
                (getE reach12 x100 fun (c_1 : List PV) =>
                  ctl (okCs [Sh.sl 1] c_1)
                    (getE (nth PV.nilp c_1 0).toEs at9 fun (c_2 : List PV) =>
                      ctl (okCs [Sh.bool] c_2)
                        (ctl (!(nth PV.nilp c_2 0).toBool)
                          (lp E F 3 0 [] 6
                            {
                              vals :=
                                [AV.sl 3 l5, AV.int IntKind.i64 device8, AV.int IntKind.i64 at9,
                                  AV.int IntKind.i64 time10, AV.sl 1 reach12, AV.sl 3 x98,
                                  AV.int IntKind.i64 x99, AV.int IntKind.i64 (IntKind.i64.wrap (x100 + 1))],
                              blks :=
                                [Blk.box [AV.sl 1 b0_0, AV.int IntKind.i64 b0_1],
                                  Blk.box [AV.int IntKind.i64 b1_0, AV.sl 3 b1_1],
                                  Blk.tab Bool.true 0
                                    (kvPut (nth PV.nilp c 1).toInt
                                      (MV.pv (PV.int IntKind.i64 x100)) c2)] })
                          (bnd
                            (F 13
                              [AV.int IntKind.i64 device8,
                                AV.int IntKind.i64 (nth PV.nilp c 1).toInt]
                              [])
                            fun (r : Res) =>
                            ctl
                              (okR
                                  [RSh.one (Sh.int IntKind.i64),
                                    RSh.one (Sh.int IntKind.i64)]
                                  r.fst &&
                                okB [] r.snd)
                              (ctl ((nth (RV.p PV.nilp) r.fst 1).toPV.toInt == 0)
                                (ctl
                                  (ltB (nth (RV.p PV.nilp) r.fst 0).toPV.toInt device8)
                                  (Option.some (Ex.ret, { vals := [AV.bool Bool.false], blks := [] }))
                                  (lp E F 3 0 [] 6
                                    {
                                      vals :=
                                        [AV.sl 3 l5,
                                          AV.int IntKind.i64
                                            (nth (RV.p PV.nilp) r.fst 0).toPV.toInt,
                                          AV.int IntKind.i64 at9, AV.int IntKind.i64 time10, AV.sl 1 reach12,
                                          AV.sl 3 x98, AV.int IntKind.i64 x99,
                                          AV.int IntKind.i64 (IntKind.i64.wrap (x100 + 1))],
                                      blks :=
                                        [Blk.box [AV.sl 1 b0_0, AV.int IntKind.i64 b0_1],
                                          Blk.box [AV.int IntKind.i64 b1_0, AV.sl 3 b1_1],
                                          Blk.tab Bool.true 0
                                            (kvPut (nth PV.nilp c 1).toInt
                                              (MV.pv (PV.int IntKind.i64 x100)) c2)] }))
                                (lp E F 3 0 [] 6
                                  {
                                    vals :=
                                      [AV.sl 3 l5, AV.int IntKind.i64 device8, AV.int IntKind.i64 at9,
                                        AV.int IntKind.i64 time10, AV.sl 1 reach12, AV.sl 3 x98,
                                        AV.int IntKind.i64 x99, AV.int IntKind.i64 (IntKind.i64.wrap (x100 + 1))],
                                    blks :=
                                      [Blk.box [AV.sl 1 b0_0, AV.int IntKind.i64 b0_1],
                                        Blk.box [AV.int IntKind.i64 b1_0, AV.sl 3 b1_1],
                                        Blk.tab Bool.true 0
                                          (kvPut (nth PV.nilp c 1).toInt
                                            (MV.pv (PV.int IntKind.i64 x100)) c2)] }))
                              Option.none))
                        Option.none)
                    Option.none))
            Option.none))
        Option.none)
    (Option.some
      (Ex.exit 6,
        {
          vals :=
            [AV.sl 3 l5, AV.int IntKind.i64 device8, AV.int IntKind.i64 at9,
              AV.int IntKind.i64 time10],
          blks :=
            [Blk.box [AV.sl 1 b0_0, AV.int IntKind.i64 b0_1],
              Blk.box [AV.int IntKind.i64 b1_0, AV.sl 3 b1_1], Blk.tab Bool.true 0 c2] })) := (lp_unfold ..).trans (by kernel_rfl)

/-- dynpos/dynpostop.TopCommands -/
theorem r3 (F : Fun) (t : List (List PV)) : funK E F 3 [AV.sl 1 t] [] =
  ctl (ltB 600 (↑t.length : Int))
    (bnd (F 4 [] []) fun (r : Res) =>
      ctl (okR [RSh.one Sh.bool] r.fst && okB [] r.snd)
        (Option.some
          ([RV.p
                (PV.bool (nth (RV.p PV.nilp) r.fst 0).toPV.toBool)],
            []))
        Option.none)
    (bnd (F 5 [AV.sl 1 t] []) fun (r : Res) =>
      ctl
        (okR [RSh.ownp [Sh.sl 1, Sh.int IntKind.i64]] r.fst &&
          okB [] r.snd)
        (bnd
          (F 6 [AV.t (TV.ptr 0 0)]
            [Blk.box
                [AV.sl 1
                    (nth PV.nilp (nth (RV.p PV.nilp) r.fst 0).toCs
                        0).toEs,
                  AV.int IntKind.i64
                    (nth PV.nilp (nth (RV.p PV.nilp) r.fst 0).toCs
                        1).toInt]])
          fun (r : Res) =>
          ctl
            (okR [RSh.agg [Sh.int IntKind.i64, Sh.sl 3]] r.fst &&
              okB [Sum.inl [Sh.sl 1, Sh.int IntKind.i64]] r.snd)
            (bnd
              (F 7
                [AV.int IntKind.i64
                    (nth PV.nilp (nth (RV.p PV.nilp) r.fst 0).toCs
                        0).toInt]
                [])
              fun (r_1 : Res) =>
              ctl
                (okR
                    [RSh.one (Sh.sl 3), RSh.one (Sh.int IntKind.i64)] r_1.fst &&
                  okB [] r_1.snd)
                (ctl ((nth (RV.p PV.nilp) r_1.fst 1).toPV.toInt != 0)
                  (Option.some ([RV.p (PV.bool Bool.false)], []))
                  (bnd
                    (F 8
                      [AV.t (TV.ptr 0 0),
                        AV.int IntKind.i64
                          (nth PV.nilp
                              (nth (RV.p PV.nilp) r.fst 0).toCs 0).toInt]
                      [Blk.box
                          [AV.sl 1
                              (nth PV.nilp
                                  (List.map AV.toPV (nth (Blk.box []) r.snd 0).toCs) 0).toEs,
                            AV.int IntKind.i64
                              (nth PV.nilp
                                  (List.map AV.toPV (nth (Blk.box []) r.snd 0).toCs) 1).toInt]])
                    fun (r_2 : Res) =>
                    ctl
                      (okR [RSh.one (Sh.int IntKind.i64)] r_2.fst &&
                        okB [Sum.inl [Sh.sl 1, Sh.int IntKind.i64]] r_2.snd)
                      (bnd
                        (lp E F 3 0 [] 0
                          {
                            vals :=
                              [AV.sl 3 (nth (RV.p PV.nilp) r_1.fst 0).toPV.toEs,
                                AV.int IntKind.i64 0,
                                AV.int IntKind.i64 (nth (RV.p PV.nilp) r_2.fst 0).toPV.toInt,
                                AV.int IntKind.i64 0],
                            blks :=
                              [Blk.box
                                  [AV.sl 1
                                      (nth PV.nilp
                                          (List.map AV.toPV (nth (Blk.box []) r_2.snd 0).toCs) 0).toEs,
                                    AV.int IntKind.i64
                                      (nth PV.nilp
                                          (List.map AV.toPV (nth (Blk.box []) r_2.snd 0).toCs) 1).toInt],
                                Blk.box
                                  [AV.int IntKind.i64
                                      (nth PV.nilp
                                          (nth (RV.p PV.nilp) r.fst 0).toCs 0).toInt,
                                    AV.sl 3
                                      (nth PV.nilp
                                          (nth (RV.p PV.nilp) r.fst 0).toCs 1).toEs],
                                Blk.tab Bool.true 0 []] })
                        fun (p : Ex × Pack) =>
                        ctl (p.fst.eqb (Ex.exit 0))
                          (bnd (F 4 [] []) fun (r : Res) =>
                            ctl
                              (okR [RSh.one Sh.bool] r.fst && okB [] r.snd)
                              (Option.some
                                ([RV.p
                                      (PV.bool (nth (RV.p PV.nilp) r.fst 0).toPV.toBool)],
                                  []))
                              Option.none)
                          (ctl (p.fst.eqb Ex.ret)
                            (ctl (okPack { slots := [(2, Sum.inl Sh.bool)], blks := [] } p.snd)
                              (Option.some
                                ([RV.p (PV.bool (nth AV.undef p.snd.vals 0).toPV.toBool)], []))
                              Option.none)
                            Option.none))
                      Option.none))
                Option.none)
            Option.none)
        Option.none) := by kernel_rfl

end Go.Proofs.Ytcgpckiieocdbaa.Vm
