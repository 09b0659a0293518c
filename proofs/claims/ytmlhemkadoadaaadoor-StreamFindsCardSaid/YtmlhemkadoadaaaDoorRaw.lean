/- The raw theorems, by program: what each function and each loop comes to. -/
import Derived.Test.YtmlhemkadoadaaaDoorEnv
import Derived.Test.YtmlhemkadoadaaaDoorVm34
import Derived.KernelRfl
namespace Go.Proofs.YtmlhemkadoadaaaDoor.Vm
open Go
set_option maxRecDepth 100000
set_option linter.unusedVariables false

/-- dynpos/stream.Feed, the loop of block 0 -/
theorem r8_0 (F : Fun) (x21 : List (List PV)) (x22 : Int) (x23 : Int) (b0_0 : List (List PV)) (b1_1 : Int) (b1_3 : Int) (c2 : List (List PV)) (c3 : List (List PV)) : lp E F 8 0 [] 0
  { vals := [AV.sl 1 x21, AV.int IntKind.i64 x22, AV.int IntKind.i64 x23],
    blks :=
      [Blk.box [AV.sl 1 b0_0],
        Blk.box
          [AV.t (TV.hsl 2), AV.int IntKind.i64 b1_1,
            AV.t (TV.hsl 3), AV.int IntKind.i64 b1_3],
        Blk.arr 1 c2, Blk.arr 1 c3] } =
  ctl (ltB x23 x22)
    (getE x21 x23 fun (c : List PV) =>
      ctl (okCs [Sh.int IntKind.u8] c)
        (ctl ((nth PV.nilp c 0).toInt == 36)
          (ctl ((nth PV.nilp c 0).toInt == 10)
            (bnd
              (F 38 [AV.sl 1 [[PV.int IntKind.u8 (nth PV.nilp c 0).toInt]]] [])
              fun (r : Res) =>
              ctl
                (okR
                    [RSh.agg [Sh.sl 1], RSh.one (Sh.int IntKind.i64)] r.fst &&
                  okB [] r.snd)
                (ctl ((nth (RV.p PV.nilp) r.fst 1).toPV.toInt == 0)
                  (ctl (leN ((c3.length + 1) * 24) 140737488355328)
                    (lp E F 8 0 [] 0
                      {
                        vals :=
                          [AV.sl 1 x21, AV.int IntKind.i64 x22,
                            AV.int IntKind.i64 (IntKind.i64.wrap (x23 + 1))],
                        blks :=
                          [Blk.box [AV.sl 1 b0_0],
                            Blk.box
                              [AV.t (TV.hsl 2), AV.int IntKind.i64 0,
                                AV.t (TV.hsl 3),
                                AV.int IntKind.i64 (IntKind.i64.wrap (IntKind.i64.wrap (b1_3 + IntKind.i64.wrap ((↑c2.length : Int) - b1_1)) + 0))],
                            Blk.arr 1 [],
                            Blk.arr 1
                              (c3 ++
                                [[PV.sl 1
                                      (nth PV.nilp
                                          (nth (RV.p PV.nilp) r.fst 0).toCs 0).toEs]])] })
                    Option.none)
                  (lp E F 8 0 [] 0
                    {
                      vals :=
                        [AV.sl 1 x21, AV.int IntKind.i64 x22,
                          AV.int IntKind.i64 (IntKind.i64.wrap (x23 + 1))],
                      blks :=
                        [Blk.box [AV.sl 1 b0_0],
                          Blk.box
                            [AV.t (TV.hsl 2), AV.int IntKind.i64 0,
                              AV.t (TV.hsl 3),
                              AV.int IntKind.i64 (IntKind.i64.wrap (IntKind.i64.wrap (b1_3 + IntKind.i64.wrap ((↑c2.length : Int) - b1_1)) + 1))],
                          Blk.arr 1 [], Blk.arr 1 c3] }))
                Option.none)
            (lp E F 8 0 [] 0
              {
                vals :=
                  [AV.sl 1 x21, AV.int IntKind.i64 x22, AV.int IntKind.i64 (IntKind.i64.wrap (x23 + 1))],
                blks :=
                  [Blk.box [AV.sl 1 b0_0],
                    Blk.box
                      [AV.t (TV.hsl 2), AV.int IntKind.i64 0,
                        AV.t (TV.hsl 3),
                        AV.int IntKind.i64 (IntKind.i64.wrap (b1_3 + IntKind.i64.wrap ((↑c2.length : Int) - b1_1)))],
                    Blk.arr 1 [[PV.int IntKind.u8 (nth PV.nilp c 0).toInt]],
                    Blk.arr 1 c3] }))
          (ctl ((↑c2.length : Int) == 0)
            (lp E F 8 0 [] 0
              {
                vals :=
                  [AV.sl 1 x21, AV.int IntKind.i64 x22, AV.int IntKind.i64 (IntKind.i64.wrap (x23 + 1))],
                blks :=
                  [Blk.box [AV.sl 1 b0_0],
                    Blk.box
                      [AV.t (TV.hsl 2), AV.int IntKind.i64 b1_1,
                        AV.t (TV.hsl 3), AV.int IntKind.i64 (IntKind.i64.wrap (b1_3 + 1))],
                    Blk.arr 1 c2, Blk.arr 1 c3] })
            (ctl (leN ((c2.length + 1) * 1) 140737488355328)
              (ctl ((nth PV.nilp c 0).toInt == 10)
                (bnd
                  (F 38
                    [AV.sl 1
                        (c2 ++ [[PV.int IntKind.u8 (nth PV.nilp c 0).toInt]])]
                    [])
                  fun (r : Res) =>
                  ctl
                    (okR
                        [RSh.agg [Sh.sl 1], RSh.one (Sh.int IntKind.i64)]
                        r.fst &&
                      okB [] r.snd)
                    (ctl ((nth (RV.p PV.nilp) r.fst 1).toPV.toInt == 0)
                      (ctl (leN ((c3.length + 1) * 24) 140737488355328)
                        (lp E F 8 0 [] 0
                          {
                            vals :=
                              [AV.sl 1 x21, AV.int IntKind.i64 x22,
                                AV.int IntKind.i64 (IntKind.i64.wrap (x23 + 1))],
                            blks :=
                              [Blk.box [AV.sl 1 b0_0],
                                Blk.box
                                  [AV.t (TV.hsl 2), AV.int IntKind.i64 0,
                                    AV.t (TV.hsl 3), AV.int IntKind.i64 (IntKind.i64.wrap (b1_3 + 0))],
                                Blk.arr 1 [],
                                Blk.arr 1
                                  (c3 ++
                                    [[PV.sl 1
                                          (nth PV.nilp
                                              (nth (RV.p PV.nilp) r.fst 0).toCs 0).toEs]])] })
                        Option.none)
                      (lp E F 8 0 [] 0
                        {
                          vals :=
                            [AV.sl 1 x21, AV.int IntKind.i64 x22,
                              AV.int IntKind.i64 (IntKind.i64.wrap (x23 + 1))],
                          blks :=
                            [Blk.box [AV.sl 1 b0_0],
                              Blk.box
                                [AV.t (TV.hsl 2), AV.int IntKind.i64 0,
                                  AV.t (TV.hsl 3),
                                  AV.int IntKind.i64
                                    (IntKind.i64.wrap
                                      (b1_3 +
                                        IntKind.i64.wrap
                                          ((↑(c2 ++ [[PV.int IntKind.u8 (nth PV.nilp c 0).toInt]]).length : Int) -
                                            b1_1)))],
                              Blk.arr 1 [], Blk.arr 1 c3] }))
                    Option.none)
                (ctl
                  (leB 200
                    (↑(c2 ++ [[PV.int IntKind.u8 (nth PV.nilp c 0).toInt]]).length : Int))
                  (lp E F 8 0 [] 0
                    {
                      vals :=
                        [AV.sl 1 x21, AV.int IntKind.i64 x22,
                          AV.int IntKind.i64 (IntKind.i64.wrap (x23 + 1))],
                      blks :=
                        [Blk.box [AV.sl 1 b0_0],
                          Blk.box
                            [AV.t (TV.hsl 2), AV.int IntKind.i64 0,
                              AV.t (TV.hsl 3),
                              AV.int IntKind.i64
                                (IntKind.i64.wrap
                                  (b1_3 +
                                    IntKind.i64.wrap
                                      ((↑(c2 ++ [[PV.int IntKind.u8 (nth PV.nilp c 0).toInt]]).length : Int) -
                                        b1_1)))],
                          Blk.arr 1 [], Blk.arr 1 c3] })
                  (lp E F 8 0 [] 0
                    {
                      vals :=
                        [AV.sl 1 x21, AV.int IntKind.i64 x22,
                          AV.int IntKind.i64 (IntKind.i64.wrap (x23 + 1))],
                      blks :=
                        [Blk.box [AV.sl 1 b0_0],
                          Blk.box
                            [AV.t (TV.hsl 2), AV.int IntKind.i64 b1_1,
                              AV.t (TV.hsl 3), AV.int IntKind.i64 b1_3],
                          Blk.arr 1
                            (c2 ++ [[PV.int IntKind.u8 (nth PV.nilp c 0).toInt]]),
                          Blk.arr 1 c3] })))
              Option.none)))
        Option.none)
    (Option.some
      (Ex.exit 0,
        { vals := [],
          blks :=
            [Blk.box [AV.sl 1 b0_0],
              Blk.box
                [AV.t (TV.hsl 2), AV.int IntKind.i64 b1_1,
                  AV.t (TV.hsl 3), AV.int IntKind.i64 b1_3],
              Blk.arr 1 c2, Blk.arr 1 c3] })) := (lp_unfold ..).trans (by kernel_rfl)

/-- dynpos/stream.Feed -/
theorem r8 (F : Fun) (f0 : List (List PV)) (b : List (List PV)) : funK E F 8 [AV.agg [PV.sl 1 f0], AV.sl 1 b] [] =
  bnd (F 23 [AV.sl 1 f0] []) fun (r : Res) =>
    ctl
      (okR [RSh.one Sh.bool] r.fst && okB [] r.snd)
      (ctl (nth (RV.p PV.nilp) r.fst 0).toPV.toBool
        (bnd (F 24 [AV.sl 1 f0] []) fun (r : Res) =>
          ctl (okR [RSh.own 1] r.fst && okB [] r.snd)
            (bnd
              (lp E F 8 0 [] 0
                { vals := [AV.sl 1 b, AV.int IntKind.i64 (↑b.length : Int), AV.int IntKind.i64 0],
                  blks :=
                    [Blk.box [AV.sl 1 []],
                      Blk.box
                        [AV.t (TV.hsl 2), AV.int IntKind.i64 (↑f0.length : Int),
                          AV.t (TV.hsl 3), AV.int IntKind.i64 0],
                      Blk.arr 1 (nth (RV.p PV.nilp) r.fst 0).toEs,
                      Blk.arr 1 []] })
              fun (p : Ex × Pack) =>
              ctl (p.fst.eqb (Ex.exit 0))
                (ctl
                  (okPack
                    {
                      slots :=
                        [(4, Sum.inr (Sum.inr (AV.t (TV.ptr 0 0)))),
                          (7, Sum.inr (Sum.inr (AV.t (TV.ptr 1 0))))],
                      blks :=
                        [Sum.inl [Sum.inl (Sh.sl 1)],
                          Sum.inl
                            [Sum.inr (AV.t (TV.hsl 2)), Sum.inl (Sh.int IntKind.i64),
                              Sum.inr (AV.t (TV.hsl 3)), Sum.inl (Sh.int IntKind.i64)],
                          Sum.inr 1, Sum.inr 1] }
                    p.snd)
                  (Option.some
                    ([RV.agg [PV.sl 1 (nth (Blk.box []) p.snd.blks 2).toEs],
                        RV.p (PV.sl 1 (nth (Blk.box []) p.snd.blks 3).toEs),
                        RV.p
                          (PV.int IntKind.i64
                            (nth AV.undef (nth (Blk.box []) p.snd.blks 1).toCs
                                  3).toPV.toInt)],
                      []))
                  Option.none)
                Option.none)
            Option.none)
        (bnd
          (lp E F 8 0 [] 0
            { vals := [AV.sl 1 b, AV.int IntKind.i64 (↑b.length : Int), AV.int IntKind.i64 0],
              blks :=
                [Blk.box [AV.sl 1 []],
                  Blk.box
                    [AV.t (TV.hsl 2), AV.int IntKind.i64 0,
                      AV.t (TV.hsl 3), AV.int IntKind.i64 0],
                  Blk.arr 1 [], Blk.arr 1 []] })
          fun (p : Ex × Pack) =>
          ctl (p.fst.eqb (Ex.exit 0))
            (ctl
              (okPack
                {
                  slots :=
                    [(4, Sum.inr (Sum.inr (AV.t (TV.ptr 0 0)))),
                      (7, Sum.inr (Sum.inr (AV.t (TV.ptr 1 0))))],
                  blks :=
                    [Sum.inl [Sum.inl (Sh.sl 1)],
                      Sum.inl
                        [Sum.inr (AV.t (TV.hsl 2)), Sum.inl (Sh.int IntKind.i64),
                          Sum.inr (AV.t (TV.hsl 3)), Sum.inl (Sh.int IntKind.i64)],
                      Sum.inr 1, Sum.inr 1] }
                p.snd)
              (Option.some
                ([RV.agg [PV.sl 1 (nth (Blk.box []) p.snd.blks 2).toEs],
                    RV.p (PV.sl 1 (nth (Blk.box []) p.snd.blks 3).toEs),
                    RV.p
                      (PV.int IntKind.i64
                        (nth AV.undef (nth (Blk.box []) p.snd.blks 1).toCs
                              3).toPV.toInt)],
                  []))
              Option.none)
            Option.none))
      Option.none := by kernel_rfl

/-- dynpos/dynposref05.Feed, the loop of block 0 -/
theorem r19_0 (F : Fun) (b1 : List (List PV)) (own9 : Int) (used10 : Int) (x17 : List (List PV)) (x18 : Int) (x19 : Int) (b0_0 : List (List PV)) (c1 : List (List PV)) (c2 : List (List PV)) : lp E F 19 0 [] 0
  {
    vals :=
      [AV.sl 1 b1, AV.int IntKind.i64 own9, AV.int IntKind.i64 used10,
        AV.sl 1 x17, AV.int IntKind.i64 x18, AV.int IntKind.i64 x19],
    blks := [Blk.box [AV.sl 1 b0_0], Blk.arr 1 c1, Blk.arr 1 c2] } =
  ctl (ltB x19 x18)
    (getE x17 x19 fun (c : List PV) =>
      ctl (okCs [Sh.int IntKind.u8] c)
        (ctl ((nth PV.nilp c 0).toInt == 36)
          (lp E F 19 0 [] 0
            {
              vals :=
                [AV.sl 1 b1, AV.int IntKind.i64 1, AV.int IntKind.i64 used10,
                  AV.sl 1 x17, AV.int IntKind.i64 x18, AV.int IntKind.i64 (IntKind.i64.wrap (x19 + 1))],
              blks :=
                [Blk.box [AV.sl 1 b0_0], Blk.arr 1 [[PV.int IntKind.u8 36]],
                  Blk.arr 1 c2] })
          (ctl ((↑c1.length : Int) == 0)
            (lp E F 19 0 [] 0
              {
                vals :=
                  [AV.sl 1 b1, AV.int IntKind.i64 own9, AV.int IntKind.i64 used10,
                    AV.sl 1 x17, AV.int IntKind.i64 x18, AV.int IntKind.i64 (IntKind.i64.wrap (x19 + 1))],
                blks := [Blk.box [AV.sl 1 b0_0], Blk.arr 1 c1, Blk.arr 1 c2] })
            (ctl (leN ((c1.length + 1) * 1) 140737488355328)
              (ctl ((nth PV.nilp c 0).toInt == 10)
                (bnd
                  (F 33
                    [AV.sl 1
                        (c1 ++ [[PV.int IntKind.u8 (nth PV.nilp c 0).toInt]])]
                    [])
                  fun (r : Res) =>
                  ctl
                    (okR
                        [RSh.agg [Sh.sl 1], RSh.one (Sh.int IntKind.i64)]
                        r.fst &&
                      okB [] r.snd)
                    (ctl ((nth (RV.p PV.nilp) r.fst 1).toPV.toInt == 0)
                      (ctl (leN ((c2.length + 1) * 24) 140737488355328)
                        (lp E F 19 0 [] 0
                          {
                            vals :=
                              [AV.sl 1 b1, AV.int IntKind.i64 0,
                                AV.int IntKind.i64 (IntKind.i64.wrap (used10 + IntKind.i64.wrap (own9 + 1))), AV.sl 1 x17,
                                AV.int IntKind.i64 x18, AV.int IntKind.i64 (IntKind.i64.wrap (x19 + 1))],
                            blks :=
                              [Blk.box [AV.sl 1 b0_0], Blk.arr 1 [],
                                Blk.arr 1
                                  (c2 ++
                                    [[PV.sl 1
                                          (nth PV.nilp
                                              (nth (RV.p PV.nilp) r.fst 0).toCs 0).toEs]])] })
                        Option.none)
                      (lp E F 19 0 [] 0
                        {
                          vals :=
                            [AV.sl 1 b1, AV.int IntKind.i64 0, AV.int IntKind.i64 used10,
                              AV.sl 1 x17, AV.int IntKind.i64 x18,
                              AV.int IntKind.i64 (IntKind.i64.wrap (x19 + 1))],
                          blks :=
                            [Blk.box [AV.sl 1 b0_0], Blk.arr 1 [],
                              Blk.arr 1 c2] }))
                    Option.none)
                (ctl
                  (leB 200
                    (↑(c1 ++ [[PV.int IntKind.u8 (nth PV.nilp c 0).toInt]]).length : Int))
                  (lp E F 19 0 [] 0
                    {
                      vals :=
                        [AV.sl 1 b1, AV.int IntKind.i64 0, AV.int IntKind.i64 used10,
                          AV.sl 1 x17, AV.int IntKind.i64 x18,
                          AV.int IntKind.i64 (IntKind.i64.wrap (x19 + 1))],
                      blks :=
                        [Blk.box [AV.sl 1 b0_0], Blk.arr 1 [], Blk.arr 1 c2] })
                  (lp E F 19 0 [] 0
                    {
                      vals :=
                        [AV.sl 1 b1, AV.int IntKind.i64 (IntKind.i64.wrap (own9 + 1)),
                          AV.int IntKind.i64 used10, AV.sl 1 x17, AV.int IntKind.i64 x18,
                          AV.int IntKind.i64 (IntKind.i64.wrap (x19 + 1))],
                      blks :=
                        [Blk.box [AV.sl 1 b0_0],
                          Blk.arr 1
                            (c1 ++ [[PV.int IntKind.u8 (nth PV.nilp c 0).toInt]]),
                          Blk.arr 1 c2] })))
              Option.none)))
        Option.none)
    (Option.some
      (Ex.exit 0,
        { vals := [AV.sl 1 b1, AV.int IntKind.i64 own9, AV.int IntKind.i64 used10],
          blks := [Blk.box [AV.sl 1 b0_0], Blk.arr 1 c1, Blk.arr 1 c2] })) := (lp_unfold ..).trans (by kernel_rfl)

/-- dynpos/dynposref05.Feed -/
theorem r19 (F : Fun) (f0 : List (List PV)) (b : List (List PV)) : funK E F 19 [AV.agg [PV.sl 1 f0], AV.sl 1 b] [] =
  bnd (F 32 [AV.agg [PV.sl 1 f0]] []) fun (r : Res) =>
    ctl (okR [RSh.own 1] r.fst && okB [] r.snd)
      (bnd
        (lp E F 19 0 [] 0
          {
            vals :=
              [AV.sl 1 b, AV.int IntKind.i64 0, AV.int IntKind.i64 0,
                AV.sl 1 b, AV.int IntKind.i64 (↑b.length : Int), AV.int IntKind.i64 0],
            blks :=
              [Blk.box [AV.sl 1 []],
                Blk.arr 1 (nth (RV.p PV.nilp) r.fst 0).toEs,
                Blk.arr 1 []] })
        fun (p : Ex × Pack) =>
        ctl (p.fst.eqb (Ex.exit 0))
          (ctl
            (okPack
              {
                slots :=
                  [(1, Sum.inl (Sh.sl 1)), (4, Sum.inr (Sum.inr (AV.t (TV.ptr 0 0)))),
                    (7, Sum.inr (Sum.inr (AV.t (TV.hsl 1)))),
                    (8, Sum.inr (Sum.inr (AV.t (TV.hsl 2)))), (9, Sum.inl (Sh.int IntKind.i64)),
                    (10, Sum.inl (Sh.int IntKind.i64))],
                blks := [Sum.inl [Sum.inl (Sh.sl 1)], Sum.inr 1, Sum.inr 1] }
              p.snd)
            (Option.some
              ([RV.agg [PV.sl 1 (nth (Blk.box []) p.snd.blks 1).toEs],
                  RV.p (PV.sl 1 (nth (Blk.box []) p.snd.blks 2).toEs),
                  RV.p
                    (PV.int IntKind.i64
                      (IntKind.i64.wrap
                        (IntKind.i64.wrap
                            ((↑(nth AV.undef p.snd.vals 0).toPV.toEs.length : Int) -
                              (nth AV.undef p.snd.vals 2).toPV.toInt) -
                          (nth AV.undef p.snd.vals 1).toPV.toInt)))],
                []))
            Option.none)
          Option.none)
      Option.none := by kernel_rfl

/-- dynpos/stream.Idle -/
theorem r9 (F : Fun) (f0 : List (List PV)) : funK E F 9 [AV.agg [PV.sl 1 f0]] [] =
  bnd (F 23 [AV.sl 1 f0] []) fun (r : Res) =>
    ctl
      (okR [RSh.one Sh.bool] r.fst && okB [] r.snd)
      (Option.some
        ([RV.p
              (PV.bool !(nth (RV.p PV.nilp) r.fst 0).toPV.toBool)],
          []))
      Option.none := by kernel_rfl

/-- dynpos/dynposlaw05.sane -/
theorem r10 (F : Fun) : funK E F 10 [] [] =
  bnd
    (F 8
      [AV.agg [PV.sl 1 []],
        AV.sl 1
          [[PV.int IntKind.u8 120], [PV.int IntKind.u8 120], [PV.int IntKind.u8 36],
            [PV.int IntKind.u8 65], [PV.int IntKind.u8 44], [PV.int IntKind.u8 49],
            [PV.int IntKind.u8 42], [PV.int IntKind.u8 53], [PV.int IntKind.u8 67],
            [PV.int IntKind.u8 13], [PV.int IntKind.u8 10], [PV.int IntKind.u8 36],
            [PV.int IntKind.u8 65]]]
      [])
    fun (r : Res) =>
    ctl
      (okR
          [RSh.agg [Sh.sl 1], RSh.one (Sh.sl 1),
            RSh.one (Sh.int IntKind.i64)]
          r.fst &&
        okB [] r.snd)
      (bnd
        (ctl ((↑(nth (RV.p PV.nilp) r.fst 1).toPV.toEs.length : Int) == 1)
          (Option.some ((nth (RV.p PV.nilp) r.fst 2).toPV.toInt == 2)) (Option.some Bool.false))
        fun (v : Bool) =>
        ctl v
          (ctl
            (bytesOk
              (nth PV.nilp
                  (nth (RV.p PV.nilp) r.fst 0).toCs 0).toEs)
            (bnd
              (ctl
                (toBytes
                    (nth PV.nilp
                        (nth (RV.p PV.nilp) r.fst 0).toCs 0).toEs ==
                  [36, 65])
                (bnd
                  (F 9
                    [AV.agg
                        [PV.sl 1
                            (nth PV.nilp
                                (nth (RV.p PV.nilp) r.fst 0).toCs 0).toEs]]
                    [])
                  fun (r : Res) =>
                  ctl
                    (okR [RSh.one Sh.bool] r.fst && okB [] r.snd)
                    (Option.some !(nth (RV.p PV.nilp) r.fst 0).toPV.toBool) Option.none)
                (Option.some Bool.false))
              fun (v : Bool) =>
              ctl v
                (bnd
                  (bnd (F 9 [AV.agg [PV.sl 1 []]] []) fun (r : Res) =>
                    ctl
                      (okR [RSh.one Sh.bool] r.fst && okB [] r.snd)
                      (Option.some (nth (RV.p PV.nilp) r.fst 0).toPV.toBool) Option.none)
                  fun (v : Bool) => Option.some ([RV.p (PV.bool v)], []))
                (Option.some ([RV.p (PV.bool Bool.false)], [])))
            Option.none)
          (Option.some ([RV.p (PV.bool Bool.false)], [])))
      Option.none := by kernel_rfl

/-- dynpos/stream.begun -/
theorem r23 (F : Fun) (b : List (List PV)) : funK E F 23 [AV.sl 1 b] [] =
  bnd
    (ctl (ltB 0 (↑b.length : Int)) (Option.some (ltB (↑b.length : Int) 200)) (Option.some Bool.false))
    fun (v : Bool) =>
    bnd
      (ctl v
        (bnd (F 35 [AV.sl 1 b, AV.int IntKind.u8 36] []) fun (r : Res) =>
          ctl
            (okR [RSh.one (Sh.int IntKind.i64)] r.fst && okB [] r.snd)
            (Option.some ((nth (RV.p PV.nilp) r.fst 0).toPV.toInt == 0)) Option.none)
        (Option.some Bool.false))
      fun (v : Bool) =>
      bnd
        (ctl v
          (bnd (F 36 [AV.sl 1 b, AV.int IntKind.u8 10] []) fun (r : Res) =>
            ctl
              (okR [RSh.one (Sh.int IntKind.i64)] r.fst && okB [] r.snd)
              (Option.some (ltB (nth (RV.p PV.nilp) r.fst 0).toPV.toInt 0))
              Option.none)
          (Option.some Bool.false))
        fun (v : Bool) => Option.some ([RV.p (PV.bool v)], []) := by kernel_rfl

/-- bytes.Clone -/
theorem r24c (F : Fun) (e : List PV) (l : List (List PV)) : funK E F 24 [AV.sl 1 (e :: l)] [] =
  ctl (leN ((0 + (e :: l).length) * 1) 140737488355328) (Option.some ([RV.own 1 ([] ++ e :: l)], [])) Option.none := by kernel_rfl

/-- dynpos/dynposref05.rest, the loop of block 0 -/
theorem r32_0 (F : Fun) (x23 : List (List PV)) (x24 : Int) (x25 : Int) (b0_0 : List (List PV)) : lp E F 32 0 [] 0
  { vals := [AV.sl 1 x23, AV.int IntKind.i64 x24, AV.int IntKind.i64 x25],
    blks := [Blk.box [AV.sl 1 b0_0]] } =
  ctl (ltB x25 x24)
    (getE x23 x25 fun (c : List PV) =>
      ctl (okCs [Sh.int IntKind.u8] c)
        (bnd
          (ctl (!(nth PV.nilp c 0).toInt == 10)
            (ctl ((nth PV.nilp c 0).toInt == 36) (Option.some (ltB 0 x25))
              (Option.some Bool.false))
            (Option.some Bool.true))
          fun (v : Bool) =>
          ctl v (Option.some (Ex.ret, { vals := [], blks := [Blk.arr 1 []] }))
            (lp E F 32 0 [] 0
              {
                vals :=
                  [AV.sl 1 x23, AV.int IntKind.i64 x24, AV.int IntKind.i64 (IntKind.i64.wrap (x25 + 1))],
                blks := [Blk.box [AV.sl 1 b0_0]] }))
        Option.none)
    (Option.some (Ex.exit 0, { vals := [], blks := [Blk.box [AV.sl 1 b0_0]] })) := (lp_unfold ..).trans (by kernel_rfl)

/-- dynpos/dynposref05.rest -/
theorem r32 (F : Fun) (f0 : List (List PV)) : funK E F 32 [AV.agg [PV.sl 1 f0]] [] =
  bnd
    (ctl (!(↑f0.length : Int) == 0)
      (getE f0 0 fun (c : List PV) =>
        ctl (okCs [Sh.int IntKind.u8] c)
          (Option.some ((nth PV.nilp c 0).toInt != 36)) Option.none)
      (Option.some Bool.true))
    fun (v : Bool) =>
    bnd (ctl (!v) (Option.some (leB 200 (↑f0.length : Int))) (Option.some Bool.true)) fun (v : Bool) =>
      ctl v (Option.some ([RV.own 1 []], []))
        (bnd
          (lp E F 32 0 [] 0
            { vals := [AV.sl 1 f0, AV.int IntKind.i64 (↑f0.length : Int), AV.int IntKind.i64 0],
              blks := [Blk.box [AV.sl 1 f0]] })
          fun (p : Ex × Pack) =>
          ctl (p.fst.eqb (Ex.exit 0))
            (ctl
              (okPack
                { slots := [(1, Sum.inr (Sum.inr (AV.t (TV.ptr 0 0))))], blks := [Sum.inl [Sum.inl (Sh.sl 1)]] }
                p.snd)
              (ctl
                (leN
                  ((nth AV.undef (nth (Blk.box []) p.snd.blks 0).toCs
                            0).toPV.toEs.length *
                    1)
                  140737488355328)
                (Option.some
                  ([RV.own 1
                        (nth AV.undef (nth (Blk.box []) p.snd.blks 0).toCs
                              0).toPV.toEs],
                    []))
                Option.none)
              Option.none)
            (ctl (p.fst.eqb Ex.ret)
              (ctl
                (okPack { slots := [(2, Sum.inr (Sum.inr (AV.t (TV.hsl 0))))], blks := [Sum.inr 1] } p.snd)
                (Option.some ([RV.own 1 (nth (Blk.box []) p.snd.blks 0).toEs], [])) Option.none)
              Option.none)) := by kernel_rfl

/-- bytes.LastIndexByte -/
theorem r35 (F : Fun) (s : List (List PV)) (c : Int) : funK E F 35 [AV.sl 1 s, AV.int IntKind.u8 c] [] =
  bnd (F 43 [AV.sl 1 s, AV.int IntKind.u8 c] []) fun (r : Res) =>
    ctl
      (okR [RSh.one (Sh.int IntKind.i64)] r.fst && okB [] r.snd)
      (Option.some
        ([RV.p
              (PV.int IntKind.i64 (nth (RV.p PV.nilp) r.fst 0).toPV.toInt)],
          []))
      Option.none := by kernel_rfl

/-- internal/bytealg.LastIndexByte, the loop of block 0 -/
theorem r43_0 (F : Fun) (s0 : List (List PV)) (c1 : Int) (i5 : Int) : lp E F 43 0 [] 0
  { vals := [AV.sl 1 s0, AV.int IntKind.u8 c1, AV.int IntKind.i64 i5], blks := [] } =
  ctl (leB 0 i5)
    (getE s0 i5 fun (c : List PV) =>
      ctl (okCs [Sh.int IntKind.u8] c)
        (ctl ((nth PV.nilp c 0).toInt == c1)
          (Option.some (Ex.ret, { vals := [AV.int IntKind.i64 i5], blks := [] }))
          (lp E F 43 0 [] 0
            { vals := [AV.sl 1 s0, AV.int IntKind.u8 c1, AV.int IntKind.i64 (IntKind.i64.wrap (i5 - 1))],
              blks := [] }))
        Option.none)
    (Option.some (Ex.exit 0, { vals := [], blks := [] })) := (lp_unfold ..).trans (by kernel_rfl)

/-- internal/bytealg.LastIndexByte -/
theorem r43 (F : Fun) (s : List (List PV)) (c : Int) : funK E F 43 [AV.sl 1 s, AV.int IntKind.u8 c] [] =
  bnd
    (lp E F 43 0 [] 0
      {
        vals :=
          [AV.sl 1 s, AV.int IntKind.u8 c, AV.int IntKind.i64 (IntKind.i64.wrap ((↑s.length : Int) - 1))],
        blks := [] })
    fun (p : Ex × Pack) =>
    ctl (p.fst.eqb (Ex.exit 0))
      (Option.some ([RV.p (PV.int IntKind.i64 (-1))], []))
      (ctl (p.fst.eqb Ex.ret)
        (ctl (okPack { slots := [(4, Sum.inl (Sh.int IntKind.i64))], blks := [] } p.snd)
          (Option.some
            ([RV.p
                  (PV.int IntKind.i64 (nth AV.undef p.snd.vals 0).toPV.toInt)],
              []))
          Option.none)
        Option.none) := by kernel_rfl

/-- dynpos/dynposlaw05.bytes, the loop of block 0 -/
theorem r12_0 (F : Fun) (k4 : Int) (b0_0 : List (List PV)) (b0_1 : Int) (c1 : List (List PV)) : lp E F 12 1 [] 0
  { vals := [AV.int IntKind.i64 k4],
    blks := [Blk.box [AV.sl 1 b0_0, AV.int IntKind.i64 b0_1], Blk.arr 1 c1] } =
  ctl (ltB 0 k4)
    (bnd
      (F 26 [AV.t (TV.ptr 0 0), AV.int IntKind.i64 5]
        [Blk.box [AV.sl 1 b0_0, AV.int IntKind.i64 b0_1]])
      fun (r : Res) =>
      ctl
        (okR [RSh.one (Sh.sl 1)] r.fst &&
          okB [Sum.inl [Sh.sl 1, Sh.int IntKind.i64]] r.snd)
        (ctl
          (leN ((c1.length + (nth (RV.p PV.nilp) r.fst 0).toPV.toEs.length) * 1)
            140737488355328)
          (bnd
            (F 15 [AV.t (TV.ptr 0 0)]
              [Blk.box
                  [AV.sl 1
                      (nth PV.nilp
                          (List.map AV.toPV (nth (Blk.box []) r.snd 0).toCs) 0).toEs,
                    AV.int IntKind.i64
                      (nth PV.nilp
                          (List.map AV.toPV (nth (Blk.box []) r.snd 0).toCs) 1).toInt]])
            fun (r_1 : Res) =>
            ctl
              (okR [RSh.one (Sh.sl 1)] r_1.fst &&
                okB [Sum.inl [Sh.sl 1, Sh.int IntKind.i64]] r_1.snd)
              (bnd
                (F 16
                  [AV.agg
                      [PV.sl 1 (nth (RV.p PV.nilp) r_1.fst 0).toPV.toEs]]
                  [])
                fun (r_2 : Res) =>
                ctl
                  (okR
                      [RSh.one (Sh.sl 1), RSh.one (Sh.int IntKind.i64)]
                      r_2.fst &&
                    okB [] r_2.snd)
                  (bnd
                    (F 21 [AV.t (TV.ptr 0 0), AV.int IntKind.i64 4]
                      [Blk.box
                          [AV.sl 1
                              (nth PV.nilp
                                  (List.map AV.toPV (nth (Blk.box []) r_1.snd 0).toCs) 0).toEs,
                            AV.int IntKind.i64
                              (nth PV.nilp
                                  (List.map AV.toPV (nth (Blk.box []) r_1.snd 0).toCs) 1).toInt]])
                    fun (r_3 : Res) =>
                    ctl
                      (okR [RSh.one (Sh.int IntKind.i64)] r_3.fst &&
                        okB [Sum.inl [Sh.sl 1, Sh.int IntKind.i64]] r_3.snd)
                      (ctl ((nth (RV.p PV.nilp) r_3.fst 0).toPV.toInt == 3)
                        (bnd
                          (F 21
                            [AV.t (TV.ptr 0 0),
                              AV.int IntKind.i64
                                (IntKind.i64.wrap ((↑(nth (RV.p PV.nilp) r_2.fst 0).toPV.toEs.length : Int) + 1))]
                            [Blk.box
                                [AV.sl 1
                                    (nth PV.nilp
                                        (List.map AV.toPV (nth (Blk.box []) r_3.snd 0).toCs) 0).toEs,
                                  AV.int IntKind.i64
                                    (nth PV.nilp
                                        (List.map AV.toPV (nth (Blk.box []) r_3.snd 0).toCs) 1).toInt]])
                          fun (r_4 : Res) =>
                          ctl
                            (okR [RSh.one (Sh.int IntKind.i64)] r_4.fst &&
                              okB [Sum.inl [Sh.sl 1, Sh.int IntKind.i64]] r_4.snd)
                            (ctl
                              (Bool.true &&
                                (leB 0
                                    (nth (RV.p PV.nilp) r_4.fst 0).toPV.toInt &&
                                  leB (nth (RV.p PV.nilp) r_4.fst 0).toPV.toInt
                                    (↑(nth (RV.p PV.nilp) r_2.fst 0).toPV.toEs.length : Int)))
                              (ctl
                                (leN
                                  (((c1 ++ (nth (RV.p PV.nilp) r.fst 0).toPV.toEs).length +
                                      (cutI
                                          (nth (RV.p PV.nilp) r_2.fst 0).toPV.toEs 0
                                          (nth (RV.p PV.nilp) r_4.fst 0).toPV.toInt).length) *
                                    1)
                                  140737488355328)
                                (lp E F 12 1 [] 0
                                  { vals := [AV.int IntKind.i64 (IntKind.i64.wrap (k4 - 1))],
                                    blks :=
                                      [Blk.box
                                          [AV.sl 1
                                              (nth PV.nilp
                                                  (List.map AV.toPV (nth (Blk.box []) r_4.snd 0).toCs) 0).toEs,
                                            AV.int IntKind.i64
                                              (nth PV.nilp
                                                  (List.map AV.toPV (nth (Blk.box []) r_4.snd 0).toCs) 1).toInt],
                                        Blk.arr 1
                                          (c1 ++ (nth (RV.p PV.nilp) r.fst 0).toPV.toEs ++
                                            cutI
                                              (nth (RV.p PV.nilp) r_2.fst 0).toPV.toEs 0
                                              (nth (RV.p PV.nilp) r_4.fst 0).toPV.toInt)] })
                                Option.none)
                              Option.none)
                            Option.none)
                        (ctl
                          (leN
                            (((c1 ++ (nth (RV.p PV.nilp) r.fst 0).toPV.toEs).length +
                                (nth (RV.p PV.nilp) r_2.fst 0).toPV.toEs.length) *
                              1)
                            140737488355328)
                          (lp E F 12 1 [] 0
                            { vals := [AV.int IntKind.i64 (IntKind.i64.wrap (k4 - 1))],
                              blks :=
                                [Blk.box
                                    [AV.sl 1
                                        (nth PV.nilp
                                            (List.map AV.toPV (nth (Blk.box []) r_3.snd 0).toCs) 0).toEs,
                                      AV.int IntKind.i64
                                        (nth PV.nilp
                                            (List.map AV.toPV (nth (Blk.box []) r_3.snd 0).toCs) 1).toInt],
                                  Blk.arr 1
                                    (c1 ++ (nth (RV.p PV.nilp) r.fst 0).toPV.toEs ++
                                      (nth (RV.p PV.nilp) r_2.fst 0).toPV.toEs)] })
                          Option.none))
                      Option.none)
                  Option.none)
              Option.none)
          Option.none)
        Option.none)
    (Option.some
      (Ex.exit 0,
        { vals := [],
          blks :=
            [Blk.box [AV.sl 1 b0_0, AV.int IntKind.i64 b0_1], Blk.arr 1 c1] })) := (lp_unfold ..).trans (by kernel_rfl)

/-- dynpos/dynposlaw05.bytes -/
theorem r12 (F : Fun) (s0 : List (List PV)) (s1 : Int) : funK E F 12 [AV.t (TV.ptr 0 0)] [Blk.box [AV.sl 1 s0, AV.int IntKind.i64 s1]] =
  bnd
    (F 21 [AV.t (TV.ptr 0 0), AV.int IntKind.i64 6]
      [Blk.box [AV.sl 1 s0, AV.int IntKind.i64 s1]])
    fun (r : Res) =>
    ctl
      (okR [RSh.one (Sh.int IntKind.i64)] r.fst &&
        okB [Sum.inl [Sh.sl 1, Sh.int IntKind.i64]] r.snd)
      (bnd
        (lp E F 12 1 [] 0
          {
            vals :=
              [AV.int IntKind.i64 (nth (RV.p PV.nilp) r.fst 0).toPV.toInt],
            blks :=
              [Blk.box
                  [AV.sl 1
                      (nth PV.nilp
                          (List.map AV.toPV (nth (Blk.box []) r.snd 0).toCs) 0).toEs,
                    AV.int IntKind.i64
                      (nth PV.nilp
                          (List.map AV.toPV (nth (Blk.box []) r.snd 0).toCs) 1).toInt],
                Blk.arr 1 []] })
        fun (p : Ex × Pack) =>
        ctl (p.fst.eqb (Ex.exit 0))
          (ctl
            (okPack
              {
                slots :=
                  [(0, Sum.inr (Sum.inr (AV.t (TV.ptr 0 0)))),
                    (3, Sum.inr (Sum.inr (AV.t (TV.hsl 1))))],
                blks := [Sum.inl [Sum.inl (Sh.sl 1), Sum.inl (Sh.int IntKind.i64)], Sum.inr 1] }
              p.snd)
            (bnd
              (F 26 [AV.t (TV.ptr 0 0), AV.int IntKind.i64 4]
                [Blk.box
                    [AV.sl 1
                        (nth AV.undef (nth (Blk.box []) p.snd.blks 0).toCs
                              0).toPV.toEs,
                      AV.int IntKind.i64
                        (nth AV.undef (nth (Blk.box []) p.snd.blks 0).toCs
                              1).toPV.toInt]])
              fun (r : Res) =>
              ctl
                (okR [RSh.one (Sh.sl 1)] r.fst &&
                  okB [Sum.inl [Sh.sl 1, Sh.int IntKind.i64]] r.snd)
                (ctl
                  (leN
                    (((nth (Blk.box []) p.snd.blks 1).toEs.length +
                        (nth (RV.p PV.nilp) r.fst 0).toPV.toEs.length) *
                      1)
                    140737488355328)
                  (Option.some
                    ([RV.p
                          (PV.sl 1
                            ((nth (Blk.box []) p.snd.blks 1).toEs ++
                              (nth (RV.p PV.nilp) r.fst 0).toPV.toEs))],
                      [Blk.box
                          [AV.sl 1
                              (nth PV.nilp
                                  (List.map AV.toPV (nth (Blk.box []) r.snd 0).toCs) 0).toEs,
                            AV.int IntKind.i64
                              (nth PV.nilp
                                  (List.map AV.toPV (nth (Blk.box []) r.snd 0).toCs) 1).toInt]]))
                  Option.none)
                Option.none)
            Option.none)
          Option.none)
      Option.none := by kernel_rfl

/-- dynpos/dynposref05.Same, the loop of block 0 -/
theorem r13_0 (F : Fun) (a0 : List (List PV)) (b1 : List (List PV)) (x12 : Int) (x13 : Int) : lp E F 13 0 [] 0
  {
    vals :=
      [AV.sl 1 a0, AV.sl 1 b1, AV.int IntKind.i64 x12,
        AV.int IntKind.i64 x13],
    blks := [] } =
  ctl (ltB x13 x12)
    (getE a0 x13 fun (c : List PV) =>
      ctl (okCs [Sh.sl 1] c)
        (getE b1 x13 fun (c_1 : List PV) =>
          ctl (okCs [Sh.sl 1] c_1)
            (bnd
              (F 27
                [AV.agg [PV.sl 1 (nth PV.nilp c 0).toEs],
                  AV.agg [PV.sl 1 (nth PV.nilp c_1 0).toEs]]
                [])
              fun (r : Res) =>
              ctl
                (okR [RSh.one Sh.bool] r.fst && okB [] r.snd)
                (ctl (!(nth (RV.p PV.nilp) r.fst 0).toPV.toBool)
                  (Option.some (Ex.ret, { vals := [AV.bool Bool.false], blks := [] }))
                  (lp E F 13 0 [] 0
                    {
                      vals :=
                        [AV.sl 1 a0, AV.sl 1 b1, AV.int IntKind.i64 x12,
                          AV.int IntKind.i64 (IntKind.i64.wrap (x13 + 1))],
                      blks := [] }))
                Option.none)
            Option.none)
        Option.none)
    (Option.some (Ex.exit 0, { vals := [], blks := [] })) := (lp_unfold ..).trans (by kernel_rfl)

/-- dynpos/dynposref05.Same -/
theorem r13 (F : Fun) (a : List (List PV)) (b : List (List PV)) : funK E F 13 [AV.sl 1 a, AV.sl 1 b] [] =
  ctl ((↑a.length : Int) != (↑b.length : Int)) (Option.some ([RV.p (PV.bool Bool.false)], []))
    (bnd
      (lp E F 13 0 [] 0
        {
          vals :=
            [AV.sl 1 a, AV.sl 1 b, AV.int IntKind.i64 (↑a.length : Int),
              AV.int IntKind.i64 0],
          blks := [] })
      fun (p : Ex × Pack) =>
      ctl (p.fst.eqb (Ex.exit 0)) (Option.some ([RV.p (PV.bool Bool.true)], []))
        (ctl (p.fst.eqb Ex.ret)
          (ctl (okPack { slots := [(4, Sum.inl Sh.bool)], blks := [] } p.snd)
            (Option.some
              ([RV.p (PV.bool (nth AV.undef p.snd.vals 0).toPV.toBool)], []))
            Option.none)
          Option.none)) := by kernel_rfl

/-- dynpos/dynposref05.Bytes -/
theorem r14 (F : Fun) (a : List (List PV)) (b : List (List PV)) : funK E F 14 [AV.sl 1 a, AV.sl 1 b] [] =
  ctl (bytesOk a)
    (ctl (bytesOk b)
      (Option.some ([RV.p (PV.bool (toBytes a == toBytes b))], [])) Option.none)
    Option.none := by kernel_rfl

/-- dynpos/stream.All -/
theorem r17 (F : Fun) (b : List (List PV)) : funK E F 17 [AV.sl 1 b] [] =
  bnd (F 8 [AV.agg [PV.sl 1 []], AV.sl 1 b] [])
    fun (r : Res) =>
    ctl
      (okR
          [RSh.agg [Sh.sl 1], RSh.one (Sh.sl 1),
            RSh.one (Sh.int IntKind.i64)]
          r.fst &&
        okB [] r.snd)
      (Option.some
        ([RV.p
              (PV.sl 1 (nth (RV.p PV.nilp) r.fst 1).toPV.toEs),
            RV.p
              (PV.int IntKind.i64 (nth (RV.p PV.nilp) r.fst 2).toPV.toInt)],
          []))
      Option.none := by kernel_rfl

/-- dynpos/dynposref05.Idle -/
theorem r18 (F : Fun) (f0 : List (List PV)) : funK E F 18 [AV.agg [PV.sl 1 f0]] [] =
  bnd (F 32 [AV.agg [PV.sl 1 f0]] []) fun (r : Res) =>
    ctl (okR [RSh.own 1] r.fst && okB [] r.snd)
      (Option.some
        ([RV.p
              (PV.bool ((↑(nth (RV.p PV.nilp) r.fst 0).toEs.length : Int) == 0))],
          []))
      Option.none := by kernel_rfl

/-- dynpos/dynposref05.All -/
theorem r20 (F : Fun) (b : List (List PV)) : funK E F 20 [AV.sl 1 b] [] =
  bnd (F 19 [AV.agg [PV.sl 1 []], AV.sl 1 b] [])
    fun (r : Res) =>
    ctl
      (okR
          [RSh.agg [Sh.sl 1], RSh.one (Sh.sl 1),
            RSh.one (Sh.int IntKind.i64)]
          r.fst &&
        okB [] r.snd)
      (Option.some
        ([RV.p
              (PV.sl 1 (nth (RV.p PV.nilp) r.fst 1).toPV.toEs),
            RV.p
              (PV.int IntKind.i64 (nth (RV.p PV.nilp) r.fst 2).toPV.toInt)],
          []))
      Option.none := by kernel_rfl

/-- dynpos/dynposmake.New -/
theorem r11 (F : Fun) (l : List (List PV)) : funK E F 11 [AV.sl 1 l] [] =
  ctl
    (Bool.true &&
      (leB 0 (minI 600 (↑l.length : Int)) &&
        leB (minI 600 (↑l.length : Int)) (↑l.length : Int)))
    (Option.some
      ([RV.ownp
            [PV.sl 1 (cutI l 0 (minI 600 (↑l.length : Int))),
              PV.int IntKind.i64 0]],
        []))
    Option.none := by kernel_rfl

/-- (*dynpos/dynposmake.Src).Fields, the loop of block 0 -/
theorem r15_0 (F : Fun) (k4 : Int) (b0_0 : List (List PV)) (b0_1 : Int) (c1 : List (List PV)) : lp E F 15 1 [] 0
  { vals := [AV.int IntKind.i64 k4],
    blks := [Blk.box [AV.sl 1 b0_0, AV.int IntKind.i64 b0_1], Blk.arr 1 c1] } =
  ctl (ltB 0 k4)
    (bnd
      (F 29
        [AV.t (TV.ptr 0 0),
          AV.sl 1
            [[PV.str [65]], [PV.str [49]], [PV.str [70, 73, 88]],
              [PV.str [45, 50, 48]], [PV.str []], [PV.str [120, 32, 121]],
              [PV.str [49, 55]], [PV.str [72, 68, 71]], [PV.str [126, 33]]]]
        [Blk.box [AV.sl 1 b0_0, AV.int IntKind.i64 b0_1]])
      fun (r : Res) =>
      ctl
        (okR [RSh.one Sh.str] r.fst &&
          okB [Sum.inl [Sh.sl 1, Sh.int IntKind.i64]] r.snd)
        (ctl (leN ((c1.length + 1) * 16) 140737488355328)
          (lp E F 15 1 [] 0
            { vals := [AV.int IntKind.i64 (IntKind.i64.wrap (k4 - 1))],
              blks :=
                [Blk.box
                    [AV.sl 1
                        (nth PV.nilp
                            (List.map AV.toPV (nth (Blk.box []) r.snd 0).toCs) 0).toEs,
                      AV.int IntKind.i64
                        (nth PV.nilp
                            (List.map AV.toPV (nth (Blk.box []) r.snd 0).toCs) 1).toInt],
                  Blk.arr 1
                    (c1 ++ [[PV.str (nth (RV.p PV.nilp) r.fst 0).toPV.toStr]])] })
          Option.none)
        Option.none)
    (Option.some
      (Ex.exit 0,
        { vals := [],
          blks :=
            [Blk.box [AV.sl 1 b0_0, AV.int IntKind.i64 b0_1], Blk.arr 1 c1] })) := (lp_unfold ..).trans (by kernel_rfl)

/-- (*dynpos/dynposmake.Src).Fields -/
theorem r15 (F : Fun) (s0 : List (List PV)) (s1 : Int) : funK E F 15 [AV.t (TV.ptr 0 0)] [Blk.box [AV.sl 1 s0, AV.int IntKind.i64 s1]] =
  bnd
    (F 28 [AV.t (TV.ptr 0 0), AV.int IntKind.i64 1, AV.int IntKind.i64 5]
      [Blk.box [AV.sl 1 s0, AV.int IntKind.i64 s1]])
    fun (r : Res) =>
    ctl
      (okR [RSh.one (Sh.int IntKind.i64)] r.fst &&
        okB [Sum.inl [Sh.sl 1, Sh.int IntKind.i64]] r.snd)
      (bnd
        (lp E F 15 1 [] 0
          {
            vals :=
              [AV.int IntKind.i64 (nth (RV.p PV.nilp) r.fst 0).toPV.toInt],
            blks :=
              [Blk.box
                  [AV.sl 1
                      (nth PV.nilp
                          (List.map AV.toPV (nth (Blk.box []) r.snd 0).toCs) 0).toEs,
                    AV.int IntKind.i64
                      (nth PV.nilp
                          (List.map AV.toPV (nth (Blk.box []) r.snd 0).toCs) 1).toInt],
                Blk.arr 1 []] })
        fun (p : Ex × Pack) =>
        ctl (p.fst.eqb (Ex.exit 0))
          (ctl
            (okPack
              { slots := [(3, Sum.inr (Sum.inr (AV.t (TV.hsl 1))))],
                blks := [Sum.inl [Sum.inl (Sh.sl 1), Sum.inl (Sh.int IntKind.i64)], Sum.inr 1] }
              p.snd)
            (bnd
              (ctl ((↑(nth (Blk.box []) p.snd.blks 1).toEs.length : Int) == 1)
                (ctl
                  (Bool.true && ltB 0 (↑(nth (Blk.box []) p.snd.blks 1).toEs.length : Int))
                  (ctl
                    (okCs [Sh.str]
                      (List.take 1 (List.drop 0 (nth [] (nth (Blk.box []) p.snd.blks 1).toEs 0))))
                    (Option.some
                      ((nth PV.nilp
                            (nth [] (nth (Blk.box []) p.snd.blks 1).toEs 0) 0).toStr ==
                        []))
                    Option.none)
                  Option.none)
                (Option.some Bool.false))
              fun (v : Bool) =>
              ctl v
                (ctl
                  (Bool.true && ltB 0 (↑(nth (Blk.box []) p.snd.blks 1).toEs.length : Int))
                  (Option.some
                    ([RV.p
                          (PV.sl 1
                            (setEs (nth (Blk.box []) p.snd.blks 1).toEs 0 0
                              [PV.str [65]]))],
                      [Blk.box
                          [AV.sl 1
                              (nth AV.undef (nth (Blk.box []) p.snd.blks 0).toCs
                                    0).toPV.toEs,
                            AV.int IntKind.i64
                              (nth AV.undef (nth (Blk.box []) p.snd.blks 0).toCs
                                    1).toPV.toInt]]))
                  Option.none)
                (Option.some
                  ([RV.p (PV.sl 1 (nth (Blk.box []) p.snd.blks 1).toEs)],
                    [Blk.box
                        [AV.sl 1
                            (nth AV.undef (nth (Blk.box []) p.snd.blks 0).toCs
                                  0).toPV.toEs,
                          AV.int IntKind.i64
                            (nth AV.undef (nth (Blk.box []) p.snd.blks 0).toCs
                                  1).toPV.toInt]])))
            Option.none)
          Option.none)
      Option.none := by kernel_rfl

/-- dynpos/dynposref04.Format, the loop of block 0 -/
theorem r16_0 (F : Fun) (x13 : List (List PV)) (x14 : Int) (x15 : Int) (c0 : List (List PV)) : lp E F 16 0 [] 0
  { vals := [AV.sl 1 x13, AV.int IntKind.i64 x14, AV.int IntKind.i64 x15],
    blks := [Blk.arr 1 c0] } =
  ctl (ltB x15 x14)
    (getE x13 x15 fun (c : List PV) =>
      ctl (okCs [Sh.str] c)
        (ctl (ltB 0 x15)
          (ctl (leN ((c0.length + 1) * 1) 140737488355328)
            (ctl
              (leN
                (((c0 ++ [[PV.int IntKind.u8 44]]).length +
                    (byteEs (nth PV.nilp c 0).toStr).length) *
                  1)
                140737488355328)
              (lp E F 16 0 [] 0
                {
                  vals :=
                    [AV.sl 1 x13, AV.int IntKind.i64 x14, AV.int IntKind.i64 (IntKind.i64.wrap (x15 + 1))],
                  blks :=
                    [Blk.arr 1
                        (c0 ++ [[PV.int IntKind.u8 44]] ++
                          byteEs (nth PV.nilp c 0).toStr)] })
              Option.none)
            Option.none)
          (ctl
            (leN ((c0.length + (byteEs (nth PV.nilp c 0).toStr).length) * 1)
              140737488355328)
            (lp E F 16 0 [] 0
              {
                vals :=
                  [AV.sl 1 x13, AV.int IntKind.i64 x14, AV.int IntKind.i64 (IntKind.i64.wrap (x15 + 1))],
                blks := [Blk.arr 1 (c0 ++ byteEs (nth PV.nilp c 0).toStr)] })
            Option.none))
        Option.none)
    (Option.some (Ex.exit 0, { vals := [], blks := [Blk.arr 1 c0] })) := (lp_unfold ..).trans (by kernel_rfl)

/-- dynpos/dynposref04.Format -/
theorem r16 (F : Fun) (s0 : List (List PV)) : funK E F 16 [AV.agg [PV.sl 1 s0]] [] =
  bnd (F 30 [AV.agg [PV.sl 1 s0]] []) fun (r : Res) =>
    ctl
      (okR [RSh.one Sh.bool] r.fst && okB [] r.snd)
      (ctl (!(nth (RV.p PV.nilp) r.fst 0).toPV.toBool)
        (Option.some ([RV.p (PV.sl 1 []), RV.p (PV.int IntKind.i64 3)], []))
        (bnd
          (lp E F 16 0 [] 0
            { vals := [AV.sl 1 s0, AV.int IntKind.i64 (↑s0.length : Int), AV.int IntKind.i64 0],
              blks := [Blk.arr 1 []] })
          fun (p : Ex × Pack) =>
          ctl (p.fst.eqb (Ex.exit 0))
            (ctl
              (okPack { slots := [(4, Sum.inr (Sum.inr (AV.t (TV.hsl 0))))], blks := [Sum.inr 1] } p.snd)
              (bnd (F 31 [AV.sl 1 (nth (Blk.box []) p.snd.blks 0).toEs] [])
                fun (r : Res) =>
                ctl
                  (okR [RSh.one (Sh.int IntKind.u8)] r.fst && okB [] r.snd &&
                    (noslR r.fst && noslB r.snd))
                  (ctl
                    (leN ((1 + (nth (Blk.box []) p.snd.blks 0).toEs.length) * 1) 140737488355328)
                    (ctl
                      (leB 0
                          (IntKind.u8.wrap ((nth (RV.p PV.nilp) r.fst 0).toPV.toInt.tdiv 16)) &&
                        ltB
                          (IntKind.u8.wrap ((nth (RV.p PV.nilp) r.fst 0).toPV.toInt.tdiv 16)) 16)
                      (ctl
                        (leB 0
                            ((nth (RV.p PV.nilp) r.fst 0).toPV.toInt.tmod 16) &&
                          ltB ((nth (RV.p PV.nilp) r.fst 0).toPV.toInt.tmod 16)
                            16)
                        (ctl
                          (leN
                            ((([[PV.int IntKind.u8 36]] ++ (nth (Blk.box []) p.snd.blks 0).toEs).length + 5) * 1)
                            140737488355328)
                          (ctl
                            (ltB 200
                              (↑([[PV.int IntKind.u8 36]] ++ (nth (Blk.box []) p.snd.blks 0).toEs ++
                                      [[PV.int IntKind.u8 42],
                                        [PV.int IntKind.u8
                                            (byteAt [48, 49, 50, 51, 52, 53, 54, 55, 56, 57, 65, 66, 67, 68, 69, 70]
                                              (IntKind.u8.wrap
                                                ((nth (RV.p PV.nilp) r.fst 0).toPV.toInt.tdiv 16)))],
                                        [PV.int IntKind.u8
                                            (byteAt [48, 49, 50, 51, 52, 53, 54, 55, 56, 57, 65, 66, 67, 68, 69, 70]
                                              ((nth (RV.p PV.nilp) r.fst 0).toPV.toInt.tmod 16))],
                                        [PV.int IntKind.u8 13], [PV.int IntKind.u8 10]]).length :
                                Int))
                            (Option.some
                              ([RV.p (PV.sl 1 []),
                                  RV.p (PV.int IntKind.i64 2)],
                                []))
                            (Option.some
                              ([RV.p
                                    (PV.sl 1
                                      ([[PV.int IntKind.u8 36]] ++ (nth (Blk.box []) p.snd.blks 0).toEs ++
                                        [[PV.int IntKind.u8 42],
                                          [PV.int IntKind.u8
                                              (byteAt [48, 49, 50, 51, 52, 53, 54, 55, 56, 57, 65, 66, 67, 68, 69, 70]
                                                (IntKind.u8.wrap
                                                  ((nth (RV.p PV.nilp) r.fst 0).toPV.toInt.tdiv 16)))],
                                          [PV.int IntKind.u8
                                              (byteAt [48, 49, 50, 51, 52, 53, 54, 55, 56, 57, 65, 66, 67, 68, 69, 70]
                                                ((nth (RV.p PV.nilp) r.fst 0).toPV.toInt.tmod 16))],
                                          [PV.int IntKind.u8 13], [PV.int IntKind.u8 10]])),
                                  RV.p (PV.int IntKind.i64 0)],
                                [])))
                          Option.none)
                        Option.none)
                      Option.none)
                    Option.none)
                  Option.none)
              Option.none)
            Option.none))
      Option.none := by kernel_rfl

/-- (*dynpos/dynposmake.Src).N -/
theorem r21 (F : Fun) (s0 : List (List PV)) (s1 : Int) (n : Int) : funK E F 21 [AV.t (TV.ptr 0 0), AV.int IntKind.i64 n] [Blk.box [AV.sl 1 s0, AV.int IntKind.i64 s1]] =
  ctl (leB (↑s0.length : Int) s1)
    (Option.some
      ([RV.p (PV.int IntKind.i64 0)],
        [Blk.box [AV.sl 1 s0, AV.int IntKind.i64 s1]]))
    (getE s0 (IntKind.i64.wrap (IntKind.i64.wrap (s1 + 1) - 1)) fun (c : List PV) =>
      ctl (okCs [Sh.int IntKind.i64] c)
        (bnd
          (F 34
            [AV.int IntKind.i64 (nth PV.nilp c 0).toInt,
              AV.int IntKind.i64 n]
            [])
          fun (r : Res) =>
          ctl
            (okR [RSh.one (Sh.int IntKind.i64)] r.fst && okB [] r.snd)
            (Option.some
              ([RV.p
                    (PV.int IntKind.i64
                      (nth (RV.p PV.nilp) r.fst 0).toPV.toInt)],
                [Blk.box [AV.sl 1 s0, AV.int IntKind.i64 (IntKind.i64.wrap (s1 + 1))]]))
            Option.none)
        Option.none) := by kernel_rfl

/-- (*dynpos/dynposmake.Src).Pick -/
theorem r22 (F : Fun) (s0 : List (List PV)) (s1 : Int) (l : List (List PV)) : funK E F 22 [AV.t (TV.ptr 0 0), AV.sl 1 l] [Blk.box [AV.sl 1 s0, AV.int IntKind.i64 s1]] =
  bnd
    (F 21 [AV.t (TV.ptr 0 0), AV.int IntKind.i64 (↑l.length : Int)]
      [Blk.box [AV.sl 1 s0, AV.int IntKind.i64 s1]])
    fun (r : Res) =>
    ctl
      (okR [RSh.one (Sh.int IntKind.i64)] r.fst &&
        okB [Sum.inl [Sh.sl 1, Sh.int IntKind.i64]] r.snd)
      (getE l (nth (RV.p PV.nilp) r.fst 0).toPV.toInt
        fun (c : List PV) =>
        ctl (okCs [Sh.int IntKind.i64] c)
          (Option.some
            ([RV.p (PV.int IntKind.i64 (nth PV.nilp c 0).toInt)],
              [Blk.box
                  [AV.sl 1
                      (nth PV.nilp
                          (List.map AV.toPV (nth (Blk.box []) r.snd 0).toCs) 0).toEs,
                    AV.int IntKind.i64
                      (nth PV.nilp
                          (List.map AV.toPV (nth (Blk.box []) r.snd 0).toCs) 1).toInt]]))
          Option.none)
      Option.none := by kernel_rfl

/-- (*dynpos/dynposmake.Src).Noise, the loop of block 0 -/
theorem r26_0 (F : Fun) (k6 : Int) (b0_0 : List (List PV)) (b0_1 : Int) (c1 : List (List PV)) : lp E F 26 1 [] 0
  { vals := [AV.int IntKind.i64 k6],
    blks := [Blk.box [AV.sl 1 b0_0, AV.int IntKind.i64 b0_1], Blk.arr 1 c1] } =
  ctl (ltB 0 k6)
    (bnd
      (F 22
        [AV.t (TV.ptr 0 0),
          AV.sl 1
            [[PV.int IntKind.i64 36], [PV.int IntKind.i64 42], [PV.int IntKind.i64 44],
              [PV.int IntKind.i64 65], [PV.int IntKind.i64 48], [PV.int IntKind.i64 13],
              [PV.int IntKind.i64 10], [PV.int IntKind.i64 0], [PV.int IntKind.i64 255],
              [PV.int IntKind.i64 32]]]
        [Blk.box [AV.sl 1 b0_0, AV.int IntKind.i64 b0_1]])
      fun (r : Res) =>
      ctl
        (okR [RSh.one (Sh.int IntKind.i64)] r.fst &&
          okB [Sum.inl [Sh.sl 1, Sh.int IntKind.i64]] r.snd)
        (ctl (leN ((c1.length + 1) * 1) 140737488355328)
          (lp E F 26 1 [] 0
            { vals := [AV.int IntKind.i64 (IntKind.i64.wrap (k6 - 1))],
              blks :=
                [Blk.box
                    [AV.sl 1
                        (nth PV.nilp
                            (List.map AV.toPV (nth (Blk.box []) r.snd 0).toCs) 0).toEs,
                      AV.int IntKind.i64
                        (nth PV.nilp
                            (List.map AV.toPV (nth (Blk.box []) r.snd 0).toCs) 1).toInt],
                  Blk.arr 1
                    (c1 ++
                      [[PV.int IntKind.u8
                            (IntKind.u8.wrap (nth (RV.p PV.nilp) r.fst 0).toPV.toInt)]])] })
          Option.none)
        Option.none)
    (Option.some
      (Ex.exit 0,
        { vals := [],
          blks :=
            [Blk.box [AV.sl 1 b0_0, AV.int IntKind.i64 b0_1], Blk.arr 1 c1] })) := (lp_unfold ..).trans (by kernel_rfl)

/-- (*dynpos/dynposmake.Src).Noise -/
theorem r26 (F : Fun) (s0 : List (List PV)) (s1 : Int) (most : Int) : funK E F 26 [AV.t (TV.ptr 0 0), AV.int IntKind.i64 most] [Blk.box [AV.sl 1 s0, AV.int IntKind.i64 s1]] =
  bnd
    (F 21 [AV.t (TV.ptr 0 0), AV.int IntKind.i64 (IntKind.i64.wrap (most + 1))]
      [Blk.box [AV.sl 1 s0, AV.int IntKind.i64 s1]])
    fun (r : Res) =>
    ctl
      (okR [RSh.one (Sh.int IntKind.i64)] r.fst &&
        okB [Sum.inl [Sh.sl 1, Sh.int IntKind.i64]] r.snd)
      (bnd
        (lp E F 26 1 [] 0
          {
            vals :=
              [AV.int IntKind.i64 (nth (RV.p PV.nilp) r.fst 0).toPV.toInt],
            blks :=
              [Blk.box
                  [AV.sl 1
                      (nth PV.nilp
                          (List.map AV.toPV (nth (Blk.box []) r.snd 0).toCs) 0).toEs,
                    AV.int IntKind.i64
                      (nth PV.nilp
                          (List.map AV.toPV (nth (Blk.box []) r.snd 0).toCs) 1).toInt],
                Blk.arr 1 []] })
        fun (p : Ex × Pack) =>
        ctl (p.fst.eqb (Ex.exit 0))
          (ctl
            (okPack
              { slots := [(5, Sum.inr (Sum.inr (AV.t (TV.hsl 1))))],
                blks := [Sum.inl [Sum.inl (Sh.sl 1), Sum.inl (Sh.int IntKind.i64)], Sum.inr 1] }
              p.snd)
            (Option.some
              ([RV.p (PV.sl 1 (nth (Blk.box []) p.snd.blks 1).toEs)],
                [Blk.box
                    [AV.sl 1
                        (nth AV.undef (nth (Blk.box []) p.snd.blks 0).toCs
                              0).toPV.toEs,
                      AV.int IntKind.i64
                        (nth AV.undef (nth (Blk.box []) p.snd.blks 0).toCs
                              1).toPV.toInt]]))
            Option.none)
          Option.none)
      Option.none := by kernel_rfl

/-- dynpos/dynposref04.Same -/
theorem r27 (F : Fun) (a0 : List (List PV)) (b0 : List (List PV)) : funK E F 27 [AV.agg [PV.sl 1 a0], AV.agg [PV.sl 1 b0]] [] =
  bnd (F 39 [AV.sl 1 a0, AV.sl 1 b0] []) fun (r : Res) =>
    ctl
      (okR [RSh.one Sh.bool] r.fst && okB [] r.snd)
      (Option.some
        ([RV.p
              (PV.bool (nth (RV.p PV.nilp) r.fst 0).toPV.toBool)],
          []))
      Option.none := by kernel_rfl

/-- (*dynpos/dynposmake.Src).Range -/
theorem r28 (F : Fun) (s0 : List (List PV)) (s1 : Int) (lo : Int) (hi : Int) : funK E F 28 [AV.t (TV.ptr 0 0), AV.int IntKind.i64 lo, AV.int IntKind.i64 hi] [Blk.box [AV.sl 1 s0, AV.int IntKind.i64 s1]] =
  bnd
    (F 21 [AV.t (TV.ptr 0 0), AV.int IntKind.i64 (IntKind.i64.wrap (IntKind.i64.wrap (hi - lo) + 1))]
      [Blk.box [AV.sl 1 s0, AV.int IntKind.i64 s1]])
    fun (r : Res) =>
    ctl
      (okR [RSh.one (Sh.int IntKind.i64)] r.fst &&
        okB [Sum.inl [Sh.sl 1, Sh.int IntKind.i64]] r.snd)
      (Option.some
        ([RV.p
              (PV.int IntKind.i64
                (IntKind.i64.wrap (lo + (nth (RV.p PV.nilp) r.fst 0).toPV.toInt)))],
          [Blk.box
              [AV.sl 1
                  (nth PV.nilp
                      (List.map AV.toPV (nth (Blk.box []) r.snd 0).toCs) 0).toEs,
                AV.int IntKind.i64
                  (nth PV.nilp
                      (List.map AV.toPV (nth (Blk.box []) r.snd 0).toCs) 1).toInt]]))
      Option.none := by kernel_rfl

/-- (*dynpos/dynposmake.Src).Text -/
theorem r29 (F : Fun) (s0 : List (List PV)) (s1 : Int) (l : List (List PV)) : funK E F 29 [AV.t (TV.ptr 0 0), AV.sl 1 l] [Blk.box [AV.sl 1 s0, AV.int IntKind.i64 s1]] =
  bnd
    (F 21 [AV.t (TV.ptr 0 0), AV.int IntKind.i64 (↑l.length : Int)]
      [Blk.box [AV.sl 1 s0, AV.int IntKind.i64 s1]])
    fun (r : Res) =>
    ctl
      (okR [RSh.one (Sh.int IntKind.i64)] r.fst &&
        okB [Sum.inl [Sh.sl 1, Sh.int IntKind.i64]] r.snd)
      (getE l (nth (RV.p PV.nilp) r.fst 0).toPV.toInt
        fun (c : List PV) =>
        ctl (okCs [Sh.str] c)
          (Option.some
            ([RV.p (PV.str (nth PV.nilp c 0).toStr)],
              [Blk.box
                  [AV.sl 1
                      (nth PV.nilp
                          (List.map AV.toPV (nth (Blk.box []) r.snd 0).toCs) 0).toEs,
                    AV.int IntKind.i64
                      (nth PV.nilp
                          (List.map AV.toPV (nth (Blk.box []) r.snd 0).toCs) 1).toInt]]))
          Option.none)
      Option.none := by kernel_rfl

/-- dynpos/dynposref04.Valid, the loop of block 0 -/
theorem r30_0 (F : Fun) (x29 : List (List PV)) (x30 : Int) (x31 : Int) : lp E F 30 0 [] 0
  { vals := [AV.sl 1 x29, AV.int IntKind.i64 x30, AV.int IntKind.i64 x31], blks := [] } =
  ctl (ltB x31 x30)
    (getE x29 x31 fun (c : List PV) =>
      ctl (okCs [Sh.str] c)
        (bnd (F 40 [AV.str (nth PV.nilp c 0).toStr] [])
          fun (r : Res) =>
          ctl
            (okR [RSh.one Sh.bool] r.fst && okB [] r.snd)
            (ctl (!(nth (RV.p PV.nilp) r.fst 0).toPV.toBool)
              (Option.some (Ex.ret, { vals := [AV.bool Bool.false], blks := [] }))
              (lp E F 30 0 [] 0
                {
                  vals :=
                    [AV.sl 1 x29, AV.int IntKind.i64 x30, AV.int IntKind.i64 (IntKind.i64.wrap (x31 + 1))],
                  blks := [] }))
            Option.none)
        Option.none)
    (Option.some (Ex.exit 0, { vals := [], blks := [] })) := (lp_unfold ..).trans (by kernel_rfl)

/-- dynpos/dynposref04.Valid -/
theorem r30 (F : Fun) (s0 : List (List PV)) : funK E F 30 [AV.agg [PV.sl 1 s0]] [] =
  bnd
    (ctl (!ltB (↑s0.length : Int) 1) (Option.some (ltB 16 (↑s0.length : Int))) (Option.some Bool.true))
    fun (v : Bool) =>
    bnd
      (ctl (!v)
        (ctl ((↑s0.length : Int) == 1)
          (getE s0 0 fun (c : List PV) =>
            ctl (okCs [Sh.str] c)
              (Option.some ((nth PV.nilp c 0).toStr == [])) Option.none)
          (Option.some Bool.false))
        (Option.some Bool.true))
      fun (v : Bool) =>
      ctl v (Option.some ([RV.p (PV.bool Bool.false)], []))
        (bnd
          (lp E F 30 0 [] 0
            { vals := [AV.sl 1 s0, AV.int IntKind.i64 (↑s0.length : Int), AV.int IntKind.i64 0], blks := [] })
          fun (p : Ex × Pack) =>
          ctl (p.fst.eqb (Ex.exit 0))
            (Option.some ([RV.p (PV.bool Bool.true)], []))
            (ctl (p.fst.eqb Ex.ret)
              (ctl (okPack { slots := [(2, Sum.inl Sh.bool)], blks := [] } p.snd)
                (Option.some
                  ([RV.p (PV.bool (nth AV.undef p.snd.vals 0).toPV.toBool)], []))
                Option.none)
              Option.none)) := by kernel_rfl

/-- dynpos/dynposref04.Sum, the loop of block 0 -/
theorem r31_0 (F : Fun) (x3 : Int) (x6 : List (List PV)) (x7 : Int) (x8 : Int) : lp E F 31 0 [] 0
  {
    vals :=
      [AV.int IntKind.u8 x3, AV.sl 1 x6, AV.int IntKind.i64 x7,
        AV.int IntKind.i64 x8],
    blks := [] } =
  ctl (ltB x8 x7)
    (getE x6 x8 fun (c : List PV) =>
      ctl (okCs [Sh.int IntKind.u8] c)
        (lp E F 31 0 [] 0
          {
            vals :=
              [AV.int IntKind.u8
                  (IntKind.u8.wrap (↑(BitVec.ofInt 8 x3 ^^^ BitVec.ofInt 8 (nth PV.nilp c 0).toInt).toNat : Int)),
                AV.sl 1 x6, AV.int IntKind.i64 x7, AV.int IntKind.i64 (IntKind.i64.wrap (x8 + 1))],
            blks := [] })
        Option.none)
    (Option.some (Ex.exit 0, { vals := [AV.int IntKind.u8 x3], blks := [] })) := (lp_unfold ..).trans (by kernel_rfl)

/-- dynpos/dynposref04.Sum -/
theorem r31 (F : Fun) (body : List (List PV)) : funK E F 31 [AV.sl 1 body] [] =
  bnd
    (lp E F 31 0 [] 0
      {
        vals :=
          [AV.int IntKind.u8 0, AV.sl 1 body, AV.int IntKind.i64 (↑body.length : Int),
            AV.int IntKind.i64 0],
        blks := [] })
    fun (p : Ex × Pack) =>
    ctl (p.fst.eqb (Ex.exit 0))
      (ctl (okPack { slots := [(3, Sum.inl (Sh.int IntKind.u8))], blks := [] } p.snd)
        (Option.some
          ([RV.p (PV.int IntKind.u8 (nth AV.undef p.snd.vals 0).toPV.toInt)],
            []))
        Option.none)
      Option.none := by kernel_rfl

/-- dynpos/dynposref04.Parse -/
theorem r33 (F : Fun) (b : List (List PV)) : funK E F 33 [AV.sl 1 b] [] =
  ctl (ltB 200 (↑b.length : Int))
    (Option.some ([RV.agg [PV.nils], RV.p (PV.int IntKind.i64 2)], []))
    (bnd
      (ctl (!ltB (↑b.length : Int) 6)
        (getE b 0 fun (c : List PV) =>
          ctl (okCs [Sh.int IntKind.u8] c)
            (Option.some ((nth PV.nilp c 0).toInt != 36)) Option.none)
        (Option.some Bool.true))
      fun (v : Bool) =>
      bnd
        (ctl (!v)
          (getE b (IntKind.i64.wrap ((↑b.length : Int) - 5)) fun (c : List PV) =>
            ctl (okCs [Sh.int IntKind.u8] c)
              (Option.some ((nth PV.nilp c 0).toInt != 42)) Option.none)
          (Option.some Bool.true))
        fun (v : Bool) =>
        bnd
          (ctl (!v)
            (getE b (IntKind.i64.wrap ((↑b.length : Int) - 4)) fun (c : List PV) =>
              ctl (okCs [Sh.int IntKind.u8] c)
                (bnd (F 41 [AV.int IntKind.u8 (nth PV.nilp c 0).toInt] [])
                  fun (r : Res) =>
                  ctl
                    (okR [RSh.one (Sh.int IntKind.i64)] r.fst && okB [] r.snd)
                    (Option.some (ltB (nth (RV.p PV.nilp) r.fst 0).toPV.toInt 0))
                    Option.none)
                Option.none)
            (Option.some Bool.true))
          fun (v : Bool) =>
          bnd
            (ctl (!v)
              (getE b (IntKind.i64.wrap ((↑b.length : Int) - 3)) fun (c : List PV) =>
                ctl (okCs [Sh.int IntKind.u8] c)
                  (bnd (F 41 [AV.int IntKind.u8 (nth PV.nilp c 0).toInt] [])
                    fun (r : Res) =>
                    ctl
                      (okR [RSh.one (Sh.int IntKind.i64)] r.fst &&
                        okB [] r.snd)
                      (Option.some
                        (ltB (nth (RV.p PV.nilp) r.fst 0).toPV.toInt 0))
                      Option.none)
                  Option.none)
              (Option.some Bool.true))
            fun (v : Bool) =>
            bnd
              (ctl (!v)
                (getE b (IntKind.i64.wrap ((↑b.length : Int) - 2)) fun (c : List PV) =>
                  ctl (okCs [Sh.int IntKind.u8] c)
                    (Option.some ((nth PV.nilp c 0).toInt != 13)) Option.none)
                (Option.some Bool.true))
              fun (v : Bool) =>
              bnd
                (ctl (!v)
                  (getE b (IntKind.i64.wrap ((↑b.length : Int) - 1)) fun (c : List PV) =>
                    ctl (okCs [Sh.int IntKind.u8] c)
                      (Option.some ((nth PV.nilp c 0).toInt != 10)) Option.none)
                  (Option.some Bool.true))
                fun (v : Bool) =>
                ctl v
                  (Option.some
                    ([RV.agg [PV.nils], RV.p (PV.int IntKind.i64 3)], []))
                  (ctl
                    (Bool.true &&
                      (leB 1 (IntKind.i64.wrap ((↑b.length : Int) - 5)) && leB (IntKind.i64.wrap ((↑b.length : Int) - 5)) (↑b.length : Int)))
                    (ctl (bytesOk (cutI b 1 (IntKind.i64.wrap ((↑b.length : Int) - 5))))
                      (bnd
                        (F 42 [AV.str (toBytes (cutI b 1 (IntKind.i64.wrap ((↑b.length : Int) - 5))))] [])
                        fun (r : Res) =>
                        ctl
                          (okR [RSh.one (Sh.sl 1)] r.fst && okB [] r.snd)
                          (bnd
                            (F 30
                              [AV.agg
                                  [PV.sl 1
                                      (nth (RV.p PV.nilp) r.fst 0).toPV.toEs]]
                              [])
                            fun (r_1 : Res) =>
                            ctl
                              (okR [RSh.one Sh.bool] r_1.fst && okB [] r_1.snd)
                              (ctl (!(nth (RV.p PV.nilp) r_1.fst 0).toPV.toBool)
                                (Option.some
                                  ([RV.agg [PV.nils],
                                      RV.p (PV.int IntKind.i64 3)],
                                    []))
                                (bnd (F 31 [AV.sl 1 (cutI b 1 (IntKind.i64.wrap ((↑b.length : Int) - 5)))] [])
                                  fun (r_2 : Res) =>
                                  ctl
                                    (okR [RSh.one (Sh.int IntKind.u8)] r_2.fst &&
                                      okB [] r_2.snd)
                                    (getE b (IntKind.i64.wrap ((↑b.length : Int) - 4)) fun (c : List PV) =>
                                      ctl (okCs [Sh.int IntKind.u8] c)
                                        (bnd
                                          (F 41 [AV.int IntKind.u8 (nth PV.nilp c 0).toInt] [])
                                          fun (r_3 : Res) =>
                                          ctl
                                            (okR [RSh.one (Sh.int IntKind.i64)] r_3.fst &&
                                              okB [] r_3.snd)
                                            (getE b (IntKind.i64.wrap ((↑b.length : Int) - 3)) fun (c : List PV) =>
                                              ctl (okCs [Sh.int IntKind.u8] c)
                                                (bnd
                                                  (F 41 [AV.int IntKind.u8 (nth PV.nilp c 0).toInt] [])
                                                  fun (r_4 : Res) =>
                                                  ctl
                                                    (okR [RSh.one (Sh.int IntKind.i64)] r_4.fst &&
                                                      okB [] r_4.snd)
                                                    (ctl
                                                      (IntKind.i64.wrap
                                                          (nth (RV.p PV.nilp) r_2.fst 0).toPV.toInt !=
                                                        IntKind.i64.wrap
                                                          (IntKind.i64.wrap
                                                              (16 * (nth (RV.p PV.nilp) r_3.fst 0).toPV.toInt) +
                                                            (nth (RV.p PV.nilp) r_4.fst 0).toPV.toInt))
                                                      (Option.some
                                                        ([RV.agg [PV.nils],
                                                            RV.p (PV.int IntKind.i64 4)],
                                                          []))
                                                      (Option.some
                                                        ([RV.agg
                                                              [PV.sl 1
                                                                  (nth (RV.p PV.nilp) r.fst 0).toPV.toEs],
                                                            RV.p (PV.int IntKind.i64 0)],
                                                          [])))
                                                    Option.none)
                                                Option.none)
                                            Option.none)
                                        Option.none)
                                    Option.none))
                              Option.none)
                          Option.none)
                      Option.none)
                    Option.none)) := by kernel_rfl

/-- dynpos/dynposmake.Mod -/
theorem r34 (F : Fun) (x : Int) (n : Int) : funK E F 34 [AV.int IntKind.i64 x, AV.int IntKind.i64 n] [] =
  ctl (ltB n 1) (Option.some ([RV.p (PV.int IntKind.i64 0)], []))
    (ctl (Bool.true && neB n 0)
      (ctl (Bool.true && neB n 0)
        (Option.some ([RV.p (PV.int IntKind.i64 ((IntKind.i64.wrap (x.tmod n + n)).tmod n))], [])) Option.none)
      Option.none) := by kernel_rfl

/-- dynpos/sentence.Parse -/
theorem r38 (F : Fun) (b : List (List PV)) : funK E F 38 [AV.sl 1 b] [] =
  ctl (ltB 200 (↑b.length : Int))
    (Option.some ([RV.agg [PV.nils], RV.p (PV.int IntKind.i64 2)], []))
    (ctl (bytesOk b)
      (bnd (F 45 [AV.str (toBytes b), AV.str [36]] [])
        fun (r : Res) =>
        ctl
          (okR
              [RSh.one Sh.str, RSh.one Sh.bool] r.fst &&
            okB [] r.snd)
          (bnd
            (F 46
              [AV.str (nth (RV.p PV.nilp) r.fst 0).toPV.toStr,
                AV.str [13, 10]]
              [])
            fun (r_1 : Res) =>
            ctl
              (okR
                  [RSh.one Sh.str, RSh.one Sh.bool] r_1.fst &&
                okB [] r_1.snd)
              (bnd
                (ctl (!!(nth (RV.p PV.nilp) r.fst 1).toPV.toBool)
                  (Option.some !(nth (RV.p PV.nilp) r_1.fst 1).toPV.toBool) (Option.some Bool.true))
                fun (v : Bool) =>
                bnd
                  (ctl (!v)
                    (Option.some
                      (ltB
                        (IntKind.i64.wrap ((↑(nth (RV.p PV.nilp) r_1.fst 0).toPV.toStr.length : Int) - 3)) 0))
                    (Option.some Bool.true))
                  fun (v : Bool) =>
                  bnd
                    (ctl (!v)
                      (ctl
                        (leB 0
                            (IntKind.i64.wrap ((↑(nth (RV.p PV.nilp) r_1.fst 0).toPV.toStr.length : Int) - 3)) &&
                          ltB
                            (IntKind.i64.wrap ((↑(nth (RV.p PV.nilp) r_1.fst 0).toPV.toStr.length : Int) - 3))
                            (↑(nth (RV.p PV.nilp) r_1.fst 0).toPV.toStr.length : Int))
                        (Option.some
                          (byteAt (nth (RV.p PV.nilp) r_1.fst 0).toPV.toStr
                              (IntKind.i64.wrap
                                ((↑(nth (RV.p PV.nilp) r_1.fst 0).toPV.toStr.length : Int) - 3)) !=
                            42))
                        Option.none)
                      (Option.some Bool.true))
                    fun (v : Bool) =>
                    bnd
                      (ctl (!v)
                        (ctl
                          (leB 0
                              (IntKind.i64.wrap
                                (IntKind.i64.wrap
                                    ((↑(nth (RV.p PV.nilp) r_1.fst 0).toPV.toStr.length : Int) - 3) +
                                  1)) &&
                            ltB
                              (IntKind.i64.wrap
                                (IntKind.i64.wrap
                                    ((↑(nth (RV.p PV.nilp) r_1.fst 0).toPV.toStr.length : Int) - 3) +
                                  1))
                              (↑(nth (RV.p PV.nilp) r_1.fst 0).toPV.toStr.length : Int))
                          (bnd
                            (F 47
                              [AV.str [48, 49, 50, 51, 52, 53, 54, 55, 56, 57, 65, 66, 67, 68, 69, 70],
                                AV.int IntKind.u8
                                  (byteAt
                                    (nth (RV.p PV.nilp) r_1.fst 0).toPV.toStr
                                    (IntKind.i64.wrap
                                      (IntKind.i64.wrap
                                          ((↑(nth (RV.p PV.nilp) r_1.fst 0).toPV.toStr.length : Int) - 3) +
                                        1)))]
                              [])
                            fun (r : Res) =>
                            ctl
                              (okR [RSh.one (Sh.int IntKind.i64)] r.fst &&
                                okB [] r.snd)
                              (Option.some
                                (ltB (nth (RV.p PV.nilp) r.fst 0).toPV.toInt 0))
                              Option.none)
                          Option.none)
                        (Option.some Bool.true))
                      fun (v : Bool) =>
                      bnd
                        (ctl (!v)
                          (ctl
                            (leB 0
                                (IntKind.i64.wrap
                                  (IntKind.i64.wrap
                                      ((↑(nth (RV.p PV.nilp) r_1.fst 0).toPV.toStr.length : Int) - 3) +
                                    2)) &&
                              ltB
                                (IntKind.i64.wrap
                                  (IntKind.i64.wrap
                                      ((↑(nth (RV.p PV.nilp) r_1.fst 0).toPV.toStr.length : Int) - 3) +
                                    2))
                                (↑(nth (RV.p PV.nilp) r_1.fst 0).toPV.toStr.length : Int))
                            (bnd
                              (F 47
                                [AV.str [48, 49, 50, 51, 52, 53, 54, 55, 56, 57, 65, 66, 67, 68, 69, 70],
                                  AV.int IntKind.u8
                                    (byteAt
                                      (nth (RV.p PV.nilp) r_1.fst 0).toPV.toStr
                                      (IntKind.i64.wrap
                                        (IntKind.i64.wrap
                                            ((↑(nth (RV.p PV.nilp) r_1.fst 0).toPV.toStr.length : Int) - 3) +
                                          2)))]
                                [])
                              fun (r : Res) =>
                              ctl
                                (okR [RSh.one (Sh.int IntKind.i64)] r.fst &&
                                  okB [] r.snd)
                                (Option.some
                                  (ltB (nth (RV.p PV.nilp) r.fst 0).toPV.toInt 0))
                                Option.none)
                            Option.none)
                          (Option.some Bool.true))
                        fun (v : Bool) =>
                        ctl v
                          (Option.some
                            ([RV.agg [PV.nils], RV.p (PV.int IntKind.i64 3)],
                              []))
                          (ctl
                            (Bool.true &&
                              (leB 0
                                  (IntKind.i64.wrap
                                    ((↑(nth (RV.p PV.nilp) r_1.fst 0).toPV.toStr.length : Int) - 3)) &&
                                leB
                                  (IntKind.i64.wrap
                                    ((↑(nth (RV.p PV.nilp) r_1.fst 0).toPV.toStr.length : Int) - 3))
                                  (↑(nth (RV.p PV.nilp) r_1.fst 0).toPV.toStr.length : Int)))
                            (bnd
                              (F 48
                                [AV.str
                                    (cutI
                                      (nth (RV.p PV.nilp) r_1.fst 0).toPV.toStr 0
                                      (IntKind.i64.wrap
                                        ((↑(nth (RV.p PV.nilp) r_1.fst 0).toPV.toStr.length : Int) - 3)))]
                                [])
                              fun (r : Res) =>
                              ctl
                                (okR [RSh.one (Sh.sl 1)] r.fst && okB [] r.snd)
                                (bnd
                                  (F 49
                                    [AV.agg
                                        [PV.sl 1
                                            (nth (RV.p PV.nilp) r.fst 0).toPV.toEs]]
                                    [])
                                  fun (r_2 : Res) =>
                                  ctl
                                    (okR [RSh.one Sh.bool] r_2.fst &&
                                      okB [] r_2.snd)
                                    (ctl
                                      (!(nth (RV.p PV.nilp) r_2.fst 0).toPV.toBool)
                                      (Option.some
                                        ([RV.agg [PV.nils],
                                            RV.p (PV.int IntKind.i64 3)],
                                          []))
                                      (ctl
                                        (Bool.true &&
                                          (leB 0
                                              (IntKind.i64.wrap
                                                ((↑(nth (RV.p PV.nilp) r_1.fst 0).toPV.toStr.length : Int) - 3)) &&
                                            leB
                                              (IntKind.i64.wrap
                                                ((↑(nth (RV.p PV.nilp) r_1.fst 0).toPV.toStr.length : Int) - 3))
                                              (↑(nth (RV.p PV.nilp) r_1.fst 0).toPV.toStr.length : Int)))
                                        (bnd
                                          (F 50
                                            [AV.str
                                                (cutI
                                                  (nth (RV.p PV.nilp) r_1.fst 0).toPV.toStr 0
                                                  (IntKind.i64.wrap
                                                    ((↑(nth (RV.p PV.nilp) r_1.fst 0).toPV.toStr.length : Int) -
                                                      3)))]
                                            [])
                                          fun (r_3 : Res) =>
                                          ctl
                                            (okR [RSh.one (Sh.sl 1)] r_3.fst &&
                                              okB [] r_3.snd)
                                            (ctl
                                              (bytesOk
                                                (nth (RV.p PV.nilp) r_3.fst 0).toPV.toEs)
                                              (ctl (bytesOk b)
                                                (ctl
                                                  (!toBytes
                                                        (nth (RV.p PV.nilp) r_3.fst 0).toPV.toEs ==
                                                      toBytes b)
                                                  (Option.some
                                                    ([RV.agg [PV.nils],
                                                        RV.p (PV.int IntKind.i64 4)],
                                                      []))
                                                  (Option.some
                                                    ([RV.agg
                                                          [PV.sl 1
                                                              (nth (RV.p PV.nilp) r.fst 0).toPV.toEs],
                                                        RV.p (PV.int IntKind.i64 0)],
                                                      [])))
                                                Option.none)
                                              Option.none)
                                            Option.none)
                                        Option.none))
                                    Option.none)
                                Option.none)
                            Option.none))
              Option.none)
          Option.none)
      Option.none) := by kernel_rfl

/-- dynpos/dynposref04.Texts, the loop of block 0 -/
theorem r39_0 (F : Fun) (a0 : List (List PV)) (b1 : List (List PV)) (x12 : Int) (x13 : Int) : lp E F 39 0 [] 0
  {
    vals :=
      [AV.sl 1 a0, AV.sl 1 b1, AV.int IntKind.i64 x12,
        AV.int IntKind.i64 x13],
    blks := [] } =
  ctl (ltB x13 x12)
    (getE a0 x13 fun (c : List PV) =>
      ctl (okCs [Sh.str] c)
        (getE b1 x13 fun (c_1 : List PV) =>
          ctl (okCs [Sh.str] c_1)
            (ctl
              (!(nth PV.nilp c 0).toStr == (nth PV.nilp c_1 0).toStr)
              (Option.some (Ex.ret, { vals := [AV.bool Bool.false], blks := [] }))
              (lp E F 39 0 [] 0
                {
                  vals :=
                    [AV.sl 1 a0, AV.sl 1 b1, AV.int IntKind.i64 x12,
                      AV.int IntKind.i64 (IntKind.i64.wrap (x13 + 1))],
                  blks := [] }))
            Option.none)
        Option.none)
    (Option.some (Ex.exit 0, { vals := [], blks := [] })) := (lp_unfold ..).trans (by kernel_rfl)

/-- dynpos/dynposref04.Texts -/
theorem r39 (F : Fun) (a : List (List PV)) (b : List (List PV)) : funK E F 39 [AV.sl 1 a, AV.sl 1 b] [] =
  ctl ((↑a.length : Int) != (↑b.length : Int)) (Option.some ([RV.p (PV.bool Bool.false)], []))
    (bnd
      (lp E F 39 0 [] 0
        {
          vals :=
            [AV.sl 1 a, AV.sl 1 b, AV.int IntKind.i64 (↑a.length : Int),
              AV.int IntKind.i64 0],
          blks := [] })
      fun (p : Ex × Pack) =>
      ctl (p.fst.eqb (Ex.exit 0)) (Option.some ([RV.p (PV.bool Bool.true)], []))
        (ctl (p.fst.eqb Ex.ret)
          (ctl (okPack { slots := [(4, Sum.inl Sh.bool)], blks := [] } p.snd)
            (Option.some
              ([RV.p (PV.bool (nth AV.undef p.snd.vals 0).toPV.toBool)], []))
            Option.none)
          Option.none)) := by kernel_rfl

/-- dynpos/dynposref04.field, the loop of block 0 -/
theorem r40_0 (F : Fun) (s0 : List UInt8) (i3 : Int) : lp E F 40 0 [] 0 { vals := [AV.str s0, AV.int IntKind.i64 i3], blks := [] } =
  ctl (ltB i3 (↑s0.length : Int))
    (ctl (leB 0 i3 && ltB i3 (↑s0.length : Int))
      (bnd
        (ctl (!ltB (byteAt s0 i3) 32)
          (ctl (leB 0 i3 && ltB i3 (↑s0.length : Int))
            (Option.some (ltB 126 (byteAt s0 i3))) Option.none)
          (Option.some Bool.true))
        fun (v : Bool) =>
        bnd
          (ctl (!v)
            (ctl (leB 0 i3 && ltB i3 (↑s0.length : Int))
              (Option.some (byteAt s0 i3 == 36)) Option.none)
            (Option.some Bool.true))
          fun (v : Bool) =>
          bnd
            (ctl (!v)
              (ctl (leB 0 i3 && ltB i3 (↑s0.length : Int))
                (Option.some (byteAt s0 i3 == 42)) Option.none)
              (Option.some Bool.true))
            fun (v : Bool) =>
            bnd
              (ctl (!v)
                (ctl (leB 0 i3 && ltB i3 (↑s0.length : Int))
                  (Option.some (byteAt s0 i3 == 44)) Option.none)
                (Option.some Bool.true))
              fun (v : Bool) =>
              ctl v (Option.some (Ex.ret, { vals := [AV.bool Bool.false], blks := [] }))
                (lp E F 40 0 [] 0
                  { vals := [AV.str s0, AV.int IntKind.i64 (IntKind.i64.wrap (i3 + 1))], blks := [] }))
      Option.none)
    (Option.some (Ex.exit 0, { vals := [], blks := [] })) := (lp_unfold ..).trans (by kernel_rfl)

/-- dynpos/dynposref04.field -/
theorem r40 (F : Fun) (s : List UInt8) : funK E F 40 [AV.str s] [] =
  ctl (ltB 20 (↑s.length : Int)) (Option.some ([RV.p (PV.bool Bool.false)], []))
    (bnd
      (lp E F 40 0 [] 0
        { vals := [AV.str s, AV.int IntKind.i64 0], blks := [] })
      fun (p : Ex × Pack) =>
      ctl (p.fst.eqb (Ex.exit 0)) (Option.some ([RV.p (PV.bool Bool.true)], []))
        (ctl (p.fst.eqb Ex.ret)
          (ctl (okPack { slots := [(2, Sum.inl Sh.bool)], blks := [] } p.snd)
            (Option.some
              ([RV.p (PV.bool (nth AV.undef p.snd.vals 0).toPV.toBool)], []))
            Option.none)
          Option.none)) := by kernel_rfl

/-- dynpos/dynposref04.hex, the loop of block 0 -/
theorem r41_0 (F : Fun) (b0 : Int) (i3 : Int) : lp E F 41 0 [] 0
  { vals := [AV.int IntKind.u8 b0, AV.int IntKind.i64 i3], blks := [] } =
  ctl (ltB i3 16)
    (ctl (leB 0 i3 && ltB i3 16)
      (ctl (byteAt [48, 49, 50, 51, 52, 53, 54, 55, 56, 57, 65, 66, 67, 68, 69, 70] i3 == b0)
        (Option.some (Ex.ret, { vals := [AV.int IntKind.i64 i3], blks := [] }))
        (lp E F 41 0 [] 0
          { vals := [AV.int IntKind.u8 b0, AV.int IntKind.i64 (IntKind.i64.wrap (i3 + 1))], blks := [] }))
      Option.none)
    (Option.some (Ex.exit 0, { vals := [], blks := [] })) := (lp_unfold ..).trans (by kernel_rfl)

/-- dynpos/dynposref04.hex -/
theorem r41 (F : Fun) (b : Int) : funK E F 41 [AV.int IntKind.u8 b] [] =
  bnd
    (lp E F 41 0 [] 0
      { vals := [AV.int IntKind.u8 b, AV.int IntKind.i64 0], blks := [] })
    fun (p : Ex × Pack) =>
    ctl (p.fst.eqb (Ex.exit 0))
      (Option.some ([RV.p (PV.int IntKind.i64 (-1))], []))
      (ctl (p.fst.eqb Ex.ret)
        (ctl (okPack { slots := [(2, Sum.inl (Sh.int IntKind.i64))], blks := [] } p.snd)
          (Option.some
            ([RV.p
                  (PV.int IntKind.i64 (nth AV.undef p.snd.vals 0).toPV.toInt)],
              []))
          Option.none)
        Option.none) := by kernel_rfl

/-- dynpos/dynposref04.Fields, the loop of block 0 -/
theorem r42_0 (F : Fun) (body0 : List UInt8) (i4 : Int) (c0 : List (List PV)) : lp E F 42 0 [] 0
  { vals := [AV.str body0, AV.int IntKind.i64 i4], blks := [Blk.arr 1 c0] } =
  ctl (ltB i4 (↑body0.length : Int))
    (ctl (leB 0 i4 && ltB i4 (↑body0.length : Int))
      (ctl (byteAt body0 i4 == 44)
        (ctl (leN ((c0.length + 1) * 16) 140737488355328)
          (lp E F 42 0 [] 0
            { vals := [AV.str body0, AV.int IntKind.i64 (IntKind.i64.wrap (i4 + 1))],
              blks := [Blk.arr 1 (c0 ++ [[PV.str []]])] })
          Option.none)
        (ctl
          (leB 0 (IntKind.i64.wrap ((↑c0.length : Int) - 1)) && ltB (IntKind.i64.wrap ((↑c0.length : Int) - 1)) (↑c0.length : Int))
          (ctl
            (okCs [Sh.str]
              (List.take 1 (List.drop 0 (nth [] c0 (IntKind.i64.wrap ((↑c0.length : Int) - 1)).toNat))))
            (ctl
              (leB 0 i4 &&
                (leB i4 (IntKind.i64.wrap (i4 + 1)) && leB (IntKind.i64.wrap (i4 + 1)) (↑body0.length : Int)))
              (ctl
                (leN
                  ((nth PV.nilp (nth [] c0 (IntKind.i64.wrap ((↑c0.length : Int) - 1)).toNat) 0).toStr.length +
                    (cutI body0 i4 (IntKind.i64.wrap (i4 + 1))).length)
                  9223372036854775807)
                (ctl
                  (leB 0 (IntKind.i64.wrap ((↑c0.length : Int) - 1)) && ltB (IntKind.i64.wrap ((↑c0.length : Int) - 1)) (↑c0.length : Int))
                  (lp E F 42 0 [] 0
                    { vals := [AV.str body0, AV.int IntKind.i64 (IntKind.i64.wrap (i4 + 1))],
                      blks :=
                        [Blk.arr 1
                            (setEs c0 (IntKind.i64.wrap ((↑c0.length : Int) - 1)).toNat 0
                              [PV.str
                                  ((nth PV.nilp (nth [] c0 (IntKind.i64.wrap ((↑c0.length : Int) - 1)).toNat)
                                        0).toStr ++
                                    cutI body0 i4 (IntKind.i64.wrap (i4 + 1)))])] })
                  Option.none)
                Option.none)
              Option.none)
            Option.none)
          Option.none))
      Option.none)
    (Option.some (Ex.exit 0, { vals := [], blks := [Blk.arr 1 c0] })) := (lp_unfold ..).trans (by kernel_rfl)

/-- dynpos/dynposref04.Fields -/
theorem r42 (F : Fun) (body : List UInt8) : funK E F 42 [AV.str body] [] =
  bnd
    (lp E F 42 0 [] 0
      { vals := [AV.str body, AV.int IntKind.i64 0],
        blks := [Blk.arr 1 [[PV.str []]]] })
    fun (p : Ex × Pack) =>
    ctl (p.fst.eqb (Ex.exit 0))
      (ctl
        (okPack { slots := [(3, Sum.inr (Sum.inr (AV.t (TV.hsl 0))))], blks := [Sum.inr 1] } p.snd)
        (Option.some ([RV.p (PV.sl 1 (nth (Blk.box []) p.snd.blks 0).toEs)], []))
        Option.none)
      Option.none := by kernel_rfl

/-- dynpos/sentence.Fields -/
theorem r48 (F : Fun) (body : List UInt8) : funK E F 48 [AV.str body] [] =
  bnd (F 54 [AV.str body, AV.str [44]] []) fun (r : Res) =>
    ctl
      (okR [RSh.one (Sh.sl 1)] r.fst && okB [] r.snd)
      (Option.some
        ([RV.p
              (PV.sl 1 (nth (RV.p PV.nilp) r.fst 0).toPV.toEs)],
          []))
      Option.none := by kernel_rfl

/-- dynpos/sentence.Valid -/
theorem r49 (F : Fun) (s0 : List (List PV)) : funK E F 49 [AV.agg [PV.sl 1 s0]] [] =
  bnd
    (ctl (leB 1 (↑s0.length : Int)) (Option.some (leB (↑s0.length : Int) 16)) (Option.some Bool.false))
    fun (v : Bool) =>
    ctl v
      (bnd (F 55 [AV.sl 1 s0, AV.fn 56 []] []) fun (r : Res) =>
        ctl
          (okR [RSh.one Sh.bool] r.fst && okB [] r.snd)
          (bnd
            (ctl (!(nth (RV.p PV.nilp) r.fst 0).toPV.toBool)
              (ctl (!ltB 1 (↑s0.length : Int))
                (getE s0 0 fun (c : List PV) =>
                  ctl (okCs [Sh.str] c)
                    (Option.some !(nth PV.nilp c 0).toStr == []) Option.none)
                (Option.some Bool.true))
              (Option.some Bool.false))
            fun (v : Bool) => Option.some ([RV.p (PV.bool v)], []))
          Option.none)
      (Option.some ([RV.p (PV.bool Bool.false)], [])) := by kernel_rfl

/-- dynpos/sentence.text -/
theorem r50 (F : Fun) (body : List UInt8) : funK E F 50 [AV.str body] [] =
  bnd (F 58 [AV.sl 1 (byteEs body)] []) fun (r : Res) =>
    ctl
      (okR [RSh.one (Sh.int IntKind.u8)] r.fst && okB [] r.snd &&
        (noslR r.fst && noslB r.snd))
      (ctl (leN (1 + body.length) 9223372036854775807)
        (ctl (leN (([36] ++ body).length + 1) 9223372036854775807)
          (ctl
            (leB 0 ((nth (RV.p PV.nilp) r.fst 0).toPV.toInt.fdiv 16) &&
              (leB ((nth (RV.p PV.nilp) r.fst 0).toPV.toInt.fdiv 16)
                  (IntKind.u8.wrap ((nth (RV.p PV.nilp) r.fst 0).toPV.toInt.fdiv 16 + 1)) &&
                leB
                  (IntKind.u8.wrap ((nth (RV.p PV.nilp) r.fst 0).toPV.toInt.fdiv 16 + 1)) 16))
            (ctl
              (leN
                (([36] ++ body ++ [42]).length +
                  (cutI (α := UInt8) [48, 49, 50, 51, 52, 53, 54, 55, 56, 57, 65, 66, 67, 68, 69, 70]
                      ((nth (RV.p PV.nilp) r.fst 0).toPV.toInt.fdiv 16)
                      (IntKind.u8.wrap ((nth (RV.p PV.nilp) r.fst 0).toPV.toInt.fdiv 16 + 1))).length)
                9223372036854775807)
              (ctl
                (Bool.true &&
                  (leB
                      (IntKind.u8.wrap
                        (↑(BitVec.ofInt 8 (nth (RV.p PV.nilp) r.fst 0).toPV.toInt &&& BitVec.ofInt 8 15).toNat :
                          Int))
                      (IntKind.u8.wrap
                        (IntKind.u8.wrap
                            (↑(BitVec.ofInt 8 (nth (RV.p PV.nilp) r.fst 0).toPV.toInt &&& BitVec.ofInt 8 15).toNat :
                              Int) +
                          1)) &&
                    leB
                      (IntKind.u8.wrap
                        (IntKind.u8.wrap
                            (↑(BitVec.ofInt 8 (nth (RV.p PV.nilp) r.fst 0).toPV.toInt &&& BitVec.ofInt 8 15).toNat :
                              Int) +
                          1))
                      16))
                (ctl
                  (leN
                    (([36] ++ body ++ [42] ++
                          cutI (α := UInt8) [48, 49, 50, 51, 52, 53, 54, 55, 56, 57, 65, 66, 67, 68, 69, 70]
                            ((nth (RV.p PV.nilp) r.fst 0).toPV.toInt.fdiv 16)
                            (IntKind.u8.wrap ((nth (RV.p PV.nilp) r.fst 0).toPV.toInt.fdiv 16 + 1))).length +
                      (cutI (α := UInt8) [48, 49, 50, 51, 52, 53, 54, 55, 56, 57, 65, 66, 67, 68, 69, 70]
                          (IntKind.u8.wrap
                            (↑(BitVec.ofInt 8 (nth (RV.p PV.nilp) r.fst 0).toPV.toInt &&& BitVec.ofInt 8 15).toNat :
                              Int))
                          (IntKind.u8.wrap
                            (IntKind.u8.wrap
                                (↑(BitVec.ofInt 8 (nth (RV.p PV.nilp) r.fst 0).toPV.toInt &&&
                                        BitVec.ofInt 8 15).toNat :
                                  Int) +
                              1))).length)
                    9223372036854775807)
                  (ctl
                    (leN
                      (([36] ++ body ++ [42] ++
                              cutI (α := UInt8) [48, 49, 50, 51, 52, 53, 54, 55, 56, 57, 65, 66, 67, 68, 69, 70]
                                ((nth (RV.p PV.nilp) r.fst 0).toPV.toInt.fdiv 16)
                                (IntKind.u8.wrap ((nth (RV.p PV.nilp) r.fst 0).toPV.toInt.fdiv 16 + 1)) ++
                            cutI (α := UInt8) [48, 49, 50, 51, 52, 53, 54, 55, 56, 57, 65, 66, 67, 68, 69, 70]
                              (IntKind.u8.wrap
                                (↑(BitVec.ofInt 8 (nth (RV.p PV.nilp) r.fst 0).toPV.toInt &&&
                                        BitVec.ofInt 8 15).toNat :
                                  Int))
                              (IntKind.u8.wrap
                                (IntKind.u8.wrap
                                    (↑(BitVec.ofInt 8 (nth (RV.p PV.nilp) r.fst 0).toPV.toInt &&&
                                            BitVec.ofInt 8 15).toNat :
                                      Int) +
                                  1))).length +
                        2)
                      9223372036854775807)
                    (Option.some
                      ([RV.p
                            (PV.sl 1
                              (byteEs
                                ([36] ++ body ++ [42] ++
                                      cutI (α := UInt8) [48, 49, 50, 51, 52, 53, 54, 55, 56, 57, 65, 66, 67, 68, 69, 70]
                                        ((nth (RV.p PV.nilp) r.fst 0).toPV.toInt.fdiv 16)
                                        (IntKind.u8.wrap ((nth (RV.p PV.nilp) r.fst 0).toPV.toInt.fdiv 16 + 1)) ++
                                    cutI (α := UInt8) [48, 49, 50, 51, 52, 53, 54, 55, 56, 57, 65, 66, 67, 68, 69, 70]
                                      (IntKind.u8.wrap
                                        (↑(BitVec.ofInt 8 (nth (RV.p PV.nilp) r.fst 0).toPV.toInt &&&
                                                BitVec.ofInt 8 15).toNat :
                                          Int))
                                      (IntKind.u8.wrap
                                        (IntKind.u8.wrap
                                            (↑(BitVec.ofInt 8 (nth (RV.p PV.nilp) r.fst 0).toPV.toInt &&&
                                                    BitVec.ofInt 8 15).toNat :
                                              Int) +
                                          1)) ++
                                  [13, 10])))],
                        []))
                    Option.none)
                  Option.none)
                Option.none)
              Option.none)
            Option.none)
          Option.none)
        Option.none)
      Option.none := by kernel_rfl

/-- slices.ContainsFunc[[]string,string] -/
theorem r55a (F : Fun) (s : List (List PV)) : funK E F 55 [AV.sl 1 s, AV.fn 56 []] [] =
  bnd (F 63 [AV.sl 1 s, AV.fn 56 []] []) fun (r : Res) =>
    ctl
      (okR [RSh.one (Sh.int IntKind.i64)] r.fst && okB [] r.snd)
      (Option.some
        ([RV.p
              (PV.bool
                (leB 0 (nth (RV.p PV.nilp) r.fst 0).toPV.toInt))],
          []))
      Option.none := by kernel_rfl

/-- dynpos/sentence.Valid$1 -/
theorem r56 (F : Fun) (f : List UInt8) : funK E F 56 [AV.str f] [] =
  bnd (F 57 [AV.str f] []) fun (r : Res) =>
    ctl
      (okR [RSh.one Sh.bool] r.fst && okB [] r.snd)
      (Option.some
        ([RV.p
              (PV.bool !(nth (RV.p PV.nilp) r.fst 0).toPV.toBool)],
          []))
      Option.none := by kernel_rfl

/-- dynpos/sentence.field, the loop of block 0 -/
theorem r57_0 (F : Fun) (x9 : List (List PV)) (x10 : Int) (x11 : Int) : lp E F 57 0 [] 0
  { vals := [AV.sl 1 x9, AV.int IntKind.i64 x10, AV.int IntKind.i64 x11], blks := [] } =
  ctl (ltB x11 x10)
    (getE x9 x11 fun (c : List PV) =>
      ctl (okCs [Sh.int IntKind.u8] c)
        (bnd
          (ctl (!ltB (nth PV.nilp c 0).toInt 32)
            (Option.some (ltB 126 (nth PV.nilp c 0).toInt)) (Option.some Bool.true))
          fun (v : Bool) =>
          bnd
            (ctl (!v)
              (bnd
                (F 47
                  [AV.str [36, 42, 44],
                    AV.int IntKind.u8 (nth PV.nilp c 0).toInt]
                  [])
                fun (r : Res) =>
                ctl
                  (okR [RSh.one (Sh.int IntKind.i64)] r.fst && okB [] r.snd)
                  (Option.some (leB 0 (nth (RV.p PV.nilp) r.fst 0).toPV.toInt))
                  Option.none)
              (Option.some Bool.true))
            fun (v : Bool) =>
            ctl v (Option.some (Ex.ret, { vals := [AV.bool Bool.false], blks := [] }))
              (lp E F 57 0 [] 0
                {
                  vals :=
                    [AV.sl 1 x9, AV.int IntKind.i64 x10, AV.int IntKind.i64 (IntKind.i64.wrap (x11 + 1))],
                  blks := [] }))
        Option.none)
    (Option.some (Ex.exit 0, { vals := [], blks := [] })) := (lp_unfold ..).trans (by kernel_rfl)

/-- dynpos/sentence.field -/
theorem r57 (F : Fun) (f : List UInt8) : funK E F 57 [AV.str f] [] =
  ctl (ltB 20 (↑f.length : Int)) (Option.some ([RV.p (PV.bool Bool.false)], []))
    (bnd
      (lp E F 57 0 [] 0
        {
          vals :=
            [AV.sl 1 (byteEs f), AV.int IntKind.i64 (↑(byteEs f).length : Int),
              AV.int IntKind.i64 0],
          blks := [] })
      fun (p : Ex × Pack) =>
      ctl (p.fst.eqb (Ex.exit 0)) (Option.some ([RV.p (PV.bool Bool.true)], []))
        (ctl (p.fst.eqb Ex.ret)
          (ctl (okPack { slots := [(2, Sum.inl Sh.bool)], blks := [] } p.snd)
            (Option.some
              ([RV.p (PV.bool (nth AV.undef p.snd.vals 0).toPV.toBool)], []))
            Option.none)
          Option.none)) := by kernel_rfl

/-- dynpos/sentence.Sum, the loop of block 0 -/
theorem r58_0 (F : Fun) (sum3 : Int) (x6 : List (List PV)) (x7 : Int) (x8 : Int) : lp E F 58 0 [] 0
  {
    vals :=
      [AV.int IntKind.u8 sum3, AV.sl 1 x6, AV.int IntKind.i64 x7,
        AV.int IntKind.i64 x8],
    blks := [] } =
  ctl (ltB x8 x7)
    (getE x6 x8 fun (c : List PV) =>
      ctl (okCs [Sh.int IntKind.u8] c)
        (lp E F 58 0 [] 0
          {
            vals :=
              [AV.int IntKind.u8
                  (IntKind.u8.wrap (↑(BitVec.ofInt 8 sum3 ^^^ BitVec.ofInt 8 (nth PV.nilp c 0).toInt).toNat : Int)),
                AV.sl 1 x6, AV.int IntKind.i64 x7, AV.int IntKind.i64 (IntKind.i64.wrap (x8 + 1))],
            blks := [] })
        Option.none)
    (Option.some (Ex.exit 0, { vals := [AV.int IntKind.u8 sum3], blks := [] })) := (lp_unfold ..).trans (by kernel_rfl)

/-- dynpos/sentence.Sum -/
theorem r58 (F : Fun) (body : List (List PV)) : funK E F 58 [AV.sl 1 body] [] =
  bnd
    (lp E F 58 0 [] 0
      {
        vals :=
          [AV.int IntKind.u8 0, AV.sl 1 body, AV.int IntKind.i64 (↑body.length : Int),
            AV.int IntKind.i64 0],
        blks := [] })
    fun (p : Ex × Pack) =>
    ctl (p.fst.eqb (Ex.exit 0))
      (ctl (okPack { slots := [(3, Sum.inl (Sh.int IntKind.u8))], blks := [] } p.snd)
        (Option.some
          ([RV.p (PV.int IntKind.u8 (nth AV.undef p.snd.vals 0).toPV.toInt)],
            []))
        Option.none)
      Option.none := by kernel_rfl

/-- slices.IndexFunc[[]string,string], the loop of block 0 -/
theorem r63_0a (F : Fun) (s0 : List (List PV)) (x7 : Int) (x8 : Int) : lp E F 63 0 [AV.undef, AV.fn 56 []] 0
  { vals := [AV.sl 1 s0, AV.int IntKind.i64 x7, AV.int IntKind.i64 x8], blks := [] } =
  ctl (ltB x8 x7)
    (getE s0 x8 fun (c : List PV) =>
      ctl (okCs [Sh.str] c)
        (bnd (F 56 [AV.str (nth PV.nilp c 0).toStr] [])
          fun (r : Res) =>
          ctl
            (okR [RSh.one Sh.bool] r.fst && okB [] r.snd)
            (ctl (nth (RV.p PV.nilp) r.fst 0).toPV.toBool
              (Option.some (Ex.ret, { vals := [AV.int IntKind.i64 x8], blks := [] }))
              (lp E F 63 0 [AV.undef, AV.fn 56 []] 0
                {
                  vals :=
                    [AV.sl 1 s0, AV.int IntKind.i64 x7, AV.int IntKind.i64 (IntKind.i64.wrap (x8 + 1))],
                  blks := [] }))
            Option.none)
        Option.none)
    (Option.some (Ex.exit 0, { vals := [], blks := [] })) := (lp_unfold ..).trans (by kernel_rfl)

/-- slices.IndexFunc[[]string,string] -/
theorem r63a (F : Fun) (s : List (List PV)) : funK E F 63 [AV.sl 1 s, AV.fn 56 []] [] =
  bnd
    (lp E F 63 0 [AV.undef, AV.fn 56 []] 0
      { vals := [AV.sl 1 s, AV.int IntKind.i64 (↑s.length : Int), AV.int IntKind.i64 0], blks := [] })
    fun (p : Ex × Pack) =>
    ctl (p.fst.eqb (Ex.exit 0))
      (Option.some ([RV.p (PV.int IntKind.i64 (-1))], []))
      (ctl (p.fst.eqb Ex.ret)
        (ctl (okPack { slots := [(4, Sum.inl (Sh.int IntKind.i64))], blks := [] } p.snd)
          (Option.some
            ([RV.p
                  (PV.int IntKind.i64 (nth AV.undef p.snd.vals 0).toPV.toInt)],
              []))
          Option.none)
        Option.none) := by kernel_rfl

end Go.Proofs.YtmlhemkadoadaaaDoor.Vm
