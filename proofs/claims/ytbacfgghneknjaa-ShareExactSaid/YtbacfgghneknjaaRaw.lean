/- The raw theorems, by program: what each function and each loop comes to. -/
import Derived.Test.YtbacfgghneknjaaEnv
import Derived.Test.YtbacfgghneknjaaVm34
import Derived.KernelRfl
namespace Go.Proofs.Ytbacfgghneknjaa.Vm
open Go
set_option maxRecDepth 100000
set_option linter.unusedVariables false

/-- dynpos/dynposmake.New -/
theorem r9 (F : Fun) (l : List (List PV)) : funK E F 9 [AV.sl 1 l] [] =
  ctl
    (Bool.true &&
      (leB 0 (minI 600 (↑l.length : Int)) && leB (minI 600 (↑l.length : Int)) (↑l.length : Int)))
    (Option.some
      ([RV.ownp
            [PV.sl 1 (cutI l 0 (minI 600 (↑l.length : Int))), PV.int IntKind.i64 0]],
        []))
    Option.none := by kernel_rfl

/-- (*dynpos/dynposmake.Src).Shares, the loop of block 0 -/
theorem r10_0 (F : Fun) (k6 : Int) (b0_0 : List (List PV)) (b0_1 : Int) (c1 : List (List PV)) : lp E F 10 1 [] 0
  { vals := [AV.int IntKind.i64 k6],
    blks := [Blk.box [AV.sl 1 b0_0, AV.int IntKind.i64 b0_1], Blk.arr 3 c1] } =
  ctl (ltB 0 k6)
    (bnd
      (F 12 [AV.t (TV.ptr 0 0), AV.int IntKind.i64 (-9), AV.int IntKind.i64 5]
        [Blk.box [AV.sl 1 b0_0, AV.int IntKind.i64 b0_1]])
      fun (r : Res) =>
      ctl
        (okR [RSh.one (Sh.int IntKind.i64)] r.fst &&
          okB [Sum.inl [Sh.sl 1, Sh.int IntKind.i64]] r.snd)
        (bnd
          (F 18 [AV.t (TV.ptr 0 0), AV.int IntKind.i64 12]
            [Blk.box
                [AV.sl 1
                    (nth PV.nilp
                        (List.map AV.toPV (nth (Blk.box []) r.snd 0).toCs) 0).toEs,
                  AV.int IntKind.i64
                    (nth PV.nilp
                        (List.map AV.toPV (nth (Blk.box []) r.snd 0).toCs) 1).toInt]])
          fun (r_1 : Res) =>
          ctl
            (okR [RSh.one (Sh.int IntKind.i64)] r_1.fst &&
              okB [Sum.inl [Sh.sl 1, Sh.int IntKind.i64]] r_1.snd)
            (bnd
              (F 21
                [AV.t (TV.ptr 0 0),
                  AV.sl 1
                    [[PV.int IntKind.i64 1], [PV.int IntKind.i64 1], [PV.int IntKind.i64 2],
                      [PV.int IntKind.i64 3], [PV.int IntKind.i64 7], [PV.int IntKind.i64 100]]]
                [Blk.box
                    [AV.sl 1
                        (nth PV.nilp
                            (List.map AV.toPV (nth (Blk.box []) r_1.snd 0).toCs) 0).toEs,
                      AV.int IntKind.i64
                        (nth PV.nilp
                            (List.map AV.toPV (nth (Blk.box []) r_1.snd 0).toCs) 1).toInt]])
              fun (r_2 : Res) =>
              ctl
                (okR [RSh.one (Sh.int IntKind.i64)] r_2.fst &&
                  okB [Sum.inl [Sh.sl 1, Sh.int IntKind.i64]] r_2.snd)
                (ctl (leN ((c1.length + 1) * 24) 140737488355328)
                  (lp E F 10 1 [] 0
                    { vals := [AV.int IntKind.i64 (IntKind.i64.wrap (k6 - 1))],
                      blks :=
                        [Blk.box
                            [AV.sl 1
                                (nth PV.nilp
                                    (List.map AV.toPV (nth (Blk.box []) r_2.snd 0).toCs) 0).toEs,
                              AV.int IntKind.i64
                                (nth PV.nilp
                                    (List.map AV.toPV (nth (Blk.box []) r_2.snd 0).toCs) 1).toInt],
                          Blk.arr 3
                            (c1 ++
                              [[PV.int IntKind.i64 (nth (RV.p PV.nilp) r.fst 0).toPV.toInt,
                                  PV.int IntKind.i64
                                    (IntKind.i64.wrap
                                      ((nth (RV.p PV.nilp) r.fst 0).toPV.toInt +
                                        (nth (RV.p PV.nilp) r_1.fst 0).toPV.toInt)),
                                  PV.int IntKind.i64
                                    (nth (RV.p PV.nilp) r_2.fst 0).toPV.toInt]])] })
                  Option.none)
                Option.none)
            Option.none)
        Option.none)
    (Option.some
      (Ex.exit 0,
        { vals := [],
          blks := [Blk.box [AV.sl 1 b0_0, AV.int IntKind.i64 b0_1], Blk.arr 3 c1] })) := (lp_unfold ..).trans (by kernel_rfl)

/-- (*dynpos/dynposmake.Src).Shares -/
theorem r10 (F : Fun) (s0 : List (List PV)) (s1 : Int) (most : Int) : funK E F 10 [AV.t (TV.ptr 0 0), AV.int IntKind.i64 most] [Blk.box [AV.sl 1 s0, AV.int IntKind.i64 s1]] =
  bnd
    (F 18 [AV.t (TV.ptr 0 0), AV.int IntKind.i64 (IntKind.i64.wrap (most + 1))]
      [Blk.box [AV.sl 1 s0, AV.int IntKind.i64 s1]])
    fun (r : Res) =>
    ctl
      (okR [RSh.one (Sh.int IntKind.i64)] r.fst &&
        okB [Sum.inl [Sh.sl 1, Sh.int IntKind.i64]] r.snd)
      (bnd
        (lp E F 10 1 [] 0
          { vals := [AV.int IntKind.i64 (nth (RV.p PV.nilp) r.fst 0).toPV.toInt],
            blks :=
              [Blk.box
                  [AV.sl 1
                      (nth PV.nilp
                          (List.map AV.toPV (nth (Blk.box []) r.snd 0).toCs) 0).toEs,
                    AV.int IntKind.i64
                      (nth PV.nilp
                          (List.map AV.toPV (nth (Blk.box []) r.snd 0).toCs) 1).toInt],
                Blk.arr 3 []] })
        fun (p : Ex × Pack) =>
        ctl (p.fst.eqb (Ex.exit 0))
          (ctl
            (okPack
              { slots := [(5, Sum.inr (Sum.inr (AV.t (TV.hsl 1))))],
                blks := [Sum.inl [Sum.inl (Sh.sl 1), Sum.inl (Sh.int IntKind.i64)], Sum.inr 3] }
              p.snd)
            (Option.some
              ([RV.own 3 (nth (Blk.box []) p.snd.blks 1).toEs],
                [Blk.box
                    [AV.sl 1
                        (nth AV.undef (nth (Blk.box []) p.snd.blks 0).toCs 0).toPV.toEs,
                      AV.int IntKind.i64
                        (nth AV.undef (nth (Blk.box []) p.snd.blks 0).toCs 1).toPV.toInt]]))
            Option.none)
          Option.none)
      Option.none := by kernel_rfl

/-- dynpos/share.Reach, the loop of block 0 -/
theorem r11_0 (F : Fun) (low2 : Int) (high3 : Int) (x13 : List (List PV)) (x14 : Int) (x15 : Int) : lp E F 11 0 [] 0
  {
    vals :=
      [AV.int IntKind.i64 low2, AV.int IntKind.i64 high3, AV.sl 3 x13,
        AV.int IntKind.i64 x14, AV.int IntKind.i64 x15],
    blks := [] } =
  ctl (ltB x15 x14)
    (getE x13 x15 fun (c : List PV) =>
      ctl
        (okCs [Sh.int IntKind.i64, Sh.int IntKind.i64, Sh.int IntKind.i64] c)
        (lp E F 11 0 [] 0
          {
            vals :=
              [AV.int IntKind.i64 (IntKind.i64.wrap (low2 + (nth PV.nilp c 0).toInt)),
                AV.int IntKind.i64 (IntKind.i64.wrap (high3 + (nth PV.nilp c 1).toInt)),
                AV.sl 3 x13, AV.int IntKind.i64 x14, AV.int IntKind.i64 (IntKind.i64.wrap (x15 + 1))],
            blks := [] })
        Option.none)
    (Option.some (Ex.exit 0, { vals := [AV.int IntKind.i64 low2, AV.int IntKind.i64 high3], blks := [] })) := (lp_unfold ..).trans (by kernel_rfl)

/-- dynpos/share.Reach -/
theorem r11 (F : Fun) (l : List (List PV)) : funK E F 11 [AV.sl 3 l] [] =
  bnd (F 22 [AV.sl 3 l] []) fun (r : Res) =>
    ctl
      (okR [RSh.one (Sh.int IntKind.i64)] r.fst && okB [] r.snd)
      (ctl ((nth (RV.p PV.nilp) r.fst 0).toPV.toInt != 0)
        (Option.some
          ([RV.p (PV.int IntKind.i64 0), RV.p (PV.int IntKind.i64 0),
              RV.p
                (PV.int IntKind.i64 (nth (RV.p PV.nilp) r.fst 0).toPV.toInt)],
            []))
        (bnd
          (lp E F 11 0 [] 0
            {
              vals :=
                [AV.int IntKind.i64 0, AV.int IntKind.i64 0, AV.sl 3 l,
                  AV.int IntKind.i64 (↑l.length : Int), AV.int IntKind.i64 0],
              blks := [] })
          fun (p : Ex × Pack) =>
          ctl (p.fst.eqb (Ex.exit 0))
            (ctl
              (okPack { slots := [(2, Sum.inl (Sh.int IntKind.i64)), (3, Sum.inl (Sh.int IntKind.i64))], blks := [] }
                p.snd)
              (Option.some
                ([RV.p (PV.int IntKind.i64 (nth AV.undef p.snd.vals 0).toPV.toInt),
                    RV.p (PV.int IntKind.i64 (nth AV.undef p.snd.vals 1).toPV.toInt),
                    RV.p (PV.int IntKind.i64 0)],
                  []))
              Option.none)
            Option.none))
      Option.none := by kernel_rfl

/-- (*dynpos/dynposmake.Src).Range -/
theorem r12 (F : Fun) (s0 : List (List PV)) (s1 : Int) (lo : Int) (hi : Int) : funK E F 12 [AV.t (TV.ptr 0 0), AV.int IntKind.i64 lo, AV.int IntKind.i64 hi] [Blk.box [AV.sl 1 s0, AV.int IntKind.i64 s1]] =
  bnd
    (F 18 [AV.t (TV.ptr 0 0), AV.int IntKind.i64 (IntKind.i64.wrap (IntKind.i64.wrap (hi - lo) + 1))]
      [Blk.box [AV.sl 1 s0, AV.int IntKind.i64 s1]])
    fun (r : Res) =>
    ctl
      (okR [RSh.one (Sh.int IntKind.i64)] r.fst &&
        okB [Sum.inl [Sh.sl 1, Sh.int IntKind.i64]] r.snd)
      (Option.some
        ([RV.p
              (PV.int IntKind.i64
                (IntKind.i64.wrap (lo + (nth (RV.p PV.nilp) r.fst 0).toPV.toInt)))],
          [Blk.box
              [AV.sl 1
                  (nth PV.nilp
                      (List.map AV.toPV (nth (Blk.box []) r.snd 0).toCs) 0).toEs,
                AV.int IntKind.i64
                  (nth PV.nilp
                      (List.map AV.toPV (nth (Blk.box []) r.snd 0).toCs) 1).toInt]]))
      Option.none := by kernel_rfl

/-- dynpos/share.Divide, the loop of block 0 -/
theorem r13_0 (F : Fun) (l0 : List (List PV)) (total1 : Int) (sum10 : Int) (least11 : Int) (most12 : Int) : lp E F 13 0 [] 0
  {
    vals :=
      [AV.sl 3 l0, AV.int IntKind.i64 total1, AV.int IntKind.i64 sum10,
        AV.int IntKind.i64 least11, AV.int IntKind.i64 most12],
    blks := [] } =
  ctl (ltB least11 most12)
    (bnd (F 31 [AV.int IntKind.i64 (IntKind.i64.wrap (least11 + most12)), AV.int IntKind.i64 2] [])
      fun (r : Res) =>
      ctl
        (okR
            [RSh.one (Sh.int IntKind.i64), RSh.one (Sh.int IntKind.i64)] r.fst &&
          okB [] r.snd)
        (bnd
          (F 32
            [AV.sl 3 l0,
              AV.int IntKind.i64 (nth (RV.p PV.nilp) r.fst 0).toPV.toInt]
            [])
          fun (r_1 : Res) =>
          ctl
            (okR [RSh.own 1, RSh.one (Sh.int IntKind.i64)] r_1.fst &&
              okB [] r_1.snd)
            (ctl
              (leB sum10 (nth (RV.p PV.nilp) r_1.fst 1).toPV.toInt)
              (lp E F 13 0 [] 0
                {
                  vals :=
                    [AV.sl 3 l0, AV.int IntKind.i64 total1, AV.int IntKind.i64 sum10,
                      AV.int IntKind.i64 least11,
                      AV.int IntKind.i64 (nth (RV.p PV.nilp) r.fst 0).toPV.toInt],
                  blks := [] })
              (lp E F 13 0 [] 0
                {
                  vals :=
                    [AV.sl 3 l0, AV.int IntKind.i64 total1, AV.int IntKind.i64 sum10,
                      AV.int IntKind.i64
                        (IntKind.i64.wrap ((nth (RV.p PV.nilp) r.fst 0).toPV.toInt + 1)),
                      AV.int IntKind.i64 most12],
                  blks := [] }))
            Option.none)
        Option.none)
    (Option.some
      (Ex.exit 0,
        {
          vals :=
            [AV.sl 3 l0, AV.int IntKind.i64 total1, AV.int IntKind.i64 sum10,
              AV.int IntKind.i64 least11],
          blks := [] })) := (lp_unfold ..).trans (by kernel_rfl)

/-- dynpos/share.Divide, the loop of block 2 -/
theorem r13_2 (F : Fun) (total1 : Int) (sum10 : Int) (least11 : Int) (n18 : Int) (x69 : List (List PV)) (x70 : Int) (x71 : Int) (c0 : List (List PV)) : lp E F 13 0 [] 2
  {
    vals :=
      [AV.int IntKind.i64 total1, AV.int IntKind.i64 sum10, AV.int IntKind.i64 least11,
        AV.int IntKind.i64 n18, AV.sl 3 x69, AV.int IntKind.i64 x70,
        AV.int IntKind.i64 x71],
    blks := [Blk.arr 1 c0] } =
  ctl (ltB x71 x70)
    (getE x69 x71 fun (c : List PV) =>
      ctl
        (okCs [Sh.int IntKind.i64, Sh.int IntKind.i64, Sh.int IntKind.i64] c)
        (bnd
          (ctl (ltB n18 sum10)
            (ctl (leB 0 x71 && ltB x71 (↑c0.length : Int))
              (ctl
                (okCs [Sh.int IntKind.i64] (List.take 1 (List.drop 0 (nth [] c0 x71.toNat))))
                (Option.some
                  (ltB (nth PV.nilp (nth [] c0 x71.toNat) 0).toInt
                    (nth PV.nilp c 1).toInt))
                Option.none)
              Option.none)
            (Option.some Bool.false))
          fun (v : Bool) =>
          bnd
            (ctl v
              (ctl (leB 0 x71 && ltB x71 (↑c0.length : Int))
                (ctl
                  (okCs [Sh.int IntKind.i64] (List.take 1 (List.drop 0 (nth [] c0 x71.toNat))))
                  (bnd
                    (F 33
                      [AV.agg
                          [PV.int IntKind.i64 (nth PV.nilp c 0).toInt,
                            PV.int IntKind.i64 (nth PV.nilp c 1).toInt,
                            PV.int IntKind.i64 (nth PV.nilp c 2).toInt],
                        AV.int IntKind.i64 (nth PV.nilp (nth [] c0 x71.toNat) 0).toInt]
                      [])
                    fun (r : Res) =>
                    ctl
                      (okR [RSh.one (Sh.int IntKind.i64)] r.fst && okB [] r.snd)
                      (Option.some ((nth (RV.p PV.nilp) r.fst 0).toPV.toInt == least11)) Option.none)
                  Option.none)
                Option.none)
              (Option.some Bool.false))
            fun (v : Bool) =>
            ctl v
              (ctl (leB 0 x71 && ltB x71 (↑c0.length : Int))
                (ctl
                  (okCs [Sh.int IntKind.i64] (List.take 1 (List.drop 0 (nth [] c0 x71.toNat))))
                  (ctl (leB 0 x71 && ltB x71 (↑c0.length : Int))
                    (lp E F 13 0 [] 2
                      {
                        vals :=
                          [AV.int IntKind.i64 total1, AV.int IntKind.i64 sum10, AV.int IntKind.i64 least11,
                            AV.int IntKind.i64 (IntKind.i64.wrap (n18 + 1)), AV.sl 3 x69, AV.int IntKind.i64 x70,
                            AV.int IntKind.i64 (IntKind.i64.wrap (x71 + 1))],
                        blks :=
                          [Blk.arr 1
                              (setEs c0 x71.toNat 0
                                [PV.int IntKind.i64
                                    (IntKind.i64.wrap ((nth PV.nilp (nth [] c0 x71.toNat) 0).toInt + 1))])] })
                    Option.none)
                  Option.none)
                Option.none)
              (lp E F 13 0 [] 2
                {
                  vals :=
                    [AV.int IntKind.i64 total1, AV.int IntKind.i64 sum10, AV.int IntKind.i64 least11,
                      AV.int IntKind.i64 n18, AV.sl 3 x69, AV.int IntKind.i64 x70,
                      AV.int IntKind.i64 (IntKind.i64.wrap (x71 + 1))],
                  blks := [Blk.arr 1 c0] }))
        Option.none)
    (Option.some
      (Ex.exit 2,
        { vals := [AV.int IntKind.i64 total1, AV.int IntKind.i64 sum10], blks := [Blk.arr 1 c0] })) := (lp_unfold ..).trans (by kernel_rfl)

/-- dynpos/share.Divide -/
theorem r13 (F : Fun) (l : List (List PV)) (total : Int) : funK E F 13 [AV.sl 3 l, AV.int IntKind.i64 total] [] =
  bnd (F 11 [AV.sl 3 l] []) fun (r : Res) =>
    ctl
      (okR
          [RSh.one (Sh.int IntKind.i64), RSh.one (Sh.int IntKind.i64),
            RSh.one (Sh.int IntKind.i64)]
          r.fst &&
        okB [] r.snd)
      (ctl ((nth (RV.p PV.nilp) r.fst 2).toPV.toInt != 0)
        (Option.some
          ([RV.own 1 [], RV.p (PV.int IntKind.i64 0),
              RV.p
                (PV.int IntKind.i64 (nth (RV.p PV.nilp) r.fst 2).toPV.toInt)],
            []))
        (bnd (ctl (!ltB total (-500000)) (Option.some (ltB 500000 total)) (Option.some Bool.true))
          fun (v : Bool) =>
          ctl v
            (Option.some
              ([RV.own 1 [], RV.p (PV.int IntKind.i64 0),
                  RV.p (PV.int IntKind.i64 1)],
                []))
            (bnd
              (F 30
                [AV.int IntKind.i64 total,
                  AV.int IntKind.i64 (nth (RV.p PV.nilp) r.fst 0).toPV.toInt,
                  AV.int IntKind.i64 (nth (RV.p PV.nilp) r.fst 1).toPV.toInt]
                [])
              fun (r : Res) =>
              ctl
                (okR [RSh.one (Sh.int IntKind.i64)] r.fst && okB [] r.snd)
                (bnd
                  (lp E F 13 0 [] 0
                    {
                      vals :=
                        [AV.sl 3 l, AV.int IntKind.i64 total,
                          AV.int IntKind.i64 (nth (RV.p PV.nilp) r.fst 0).toPV.toInt,
                          AV.int IntKind.i64 (-1000200), AV.int IntKind.i64 1000200],
                      blks := [] })
                  fun (p : Ex × Pack) =>
                  ctl (p.fst.eqb (Ex.exit 0))
                    (ctl
                      (okPack
                        {
                          slots :=
                            [(0, Sum.inl (Sh.sl 3)), (1, Sum.inl (Sh.int IntKind.i64)), (10, Sum.inl (Sh.int IntKind.i64)),
                              (11, Sum.inl (Sh.int IntKind.i64))],
                          blks := [] }
                        p.snd)
                      (bnd
                        (F 32
                          [AV.sl 3 (nth AV.undef p.snd.vals 0).toPV.toEs,
                            AV.int IntKind.i64 (IntKind.i64.wrap ((nth AV.undef p.snd.vals 3).toPV.toInt - 1))]
                          [])
                        fun (r : Res) =>
                        ctl
                          (okR [RSh.own 1, RSh.one (Sh.int IntKind.i64)] r.fst &&
                            okB [] r.snd)
                          (bnd
                            (lp E F 13 0 [] 2
                              {
                                vals :=
                                  [AV.int IntKind.i64 (nth AV.undef p.snd.vals 1).toPV.toInt,
                                    AV.int IntKind.i64 (nth AV.undef p.snd.vals 2).toPV.toInt,
                                    AV.int IntKind.i64 (nth AV.undef p.snd.vals 3).toPV.toInt,
                                    AV.int IntKind.i64 (nth (RV.p PV.nilp) r.fst 1).toPV.toInt,
                                    AV.sl 3 (nth AV.undef p.snd.vals 0).toPV.toEs,
                                    AV.int IntKind.i64 (↑(nth AV.undef p.snd.vals 0).toPV.toEs.length : Int),
                                    AV.int IntKind.i64 0],
                                blks := [Blk.arr 1 (nth (RV.p PV.nilp) r.fst 0).toEs] })
                            fun (p : Ex × Pack) =>
                            ctl (p.fst.eqb (Ex.exit 2))
                              (ctl
                                (okPack
                                  {
                                    slots :=
                                      [(1, Sum.inl (Sh.int IntKind.i64)), (10, Sum.inl (Sh.int IntKind.i64)),
                                        (17, Sum.inr (Sum.inr (AV.t (TV.hsl 0))))],
                                    blks := [Sum.inr 1] }
                                  p.snd)
                                (Option.some
                                  ([RV.own 1 (nth (Blk.box []) p.snd.blks 0).toEs,
                                      RV.p
                                        (PV.int IntKind.i64
                                          (IntKind.i64.wrap
                                            ((nth AV.undef p.snd.vals 0).toPV.toInt -
                                              (nth AV.undef p.snd.vals 1).toPV.toInt))),
                                      RV.p (PV.int IntKind.i64 0)],
                                    []))
                                Option.none)
                              Option.none)
                          Option.none)
                      Option.none)
                    Option.none)
                Option.none)))
      Option.none := by kernel_rfl

/-- dynpos/dynposlaw13.sane -/
theorem r14 (F : Fun) : funK E F 14 [] [] =
  bnd
    (F 13
      [AV.sl 3
          [[PV.int IntKind.i64 0, PV.int IntKind.i64 10, PV.int IntKind.i64 1],
            [PV.int IntKind.i64 0, PV.int IntKind.i64 10, PV.int IntKind.i64 2]],
        AV.int IntKind.i64 9]
      [])
    fun (r : Res) =>
    ctl
      (okR
            [RSh.own 1, RSh.one (Sh.int IntKind.i64),
              RSh.one (Sh.int IntKind.i64)]
            r.fst &&
          okB [] r.snd &&
        (noslR r.fst && noslB r.snd))
      (bnd
        (F 13
          [AV.sl 3
              [[PV.int IntKind.i64 0, PV.int IntKind.i64 10, PV.int IntKind.i64 1],
                [PV.int IntKind.i64 0, PV.int IntKind.i64 10, PV.int IntKind.i64 1]],
            AV.int IntKind.i64 5]
          [])
        fun (r_1 : Res) =>
        ctl
          (okR
                [RSh.own 1, RSh.one (Sh.int IntKind.i64),
                  RSh.one (Sh.int IntKind.i64)]
                r_1.fst &&
              okB [] r_1.snd &&
            (noslR r_1.fst && noslB r_1.snd))
          (bnd
            (ctl ((nth (RV.p PV.nilp) r.fst 2).toPV.toInt == 0)
              (Option.some ((nth (RV.p PV.nilp) r_1.fst 2).toPV.toInt == 0)) (Option.some Bool.false))
            fun (v : Bool) =>
            bnd
              (ctl v (Option.some ((nth (RV.p PV.nilp) r.fst 1).toPV.toInt == 0))
                (Option.some Bool.false))
              fun (v : Bool) =>
              bnd
                (ctl v (Option.some ((nth (RV.p PV.nilp) r_1.fst 1).toPV.toInt == 0))
                  (Option.some Bool.false))
                fun (v : Bool) =>
                ctl v
                  (bnd
                    (bnd
                      (F 15
                        [AV.sl 1 (nth (RV.p PV.nilp) r.fst 0).toEs,
                          AV.sl 1 [[PV.int IntKind.i64 6], [PV.int IntKind.i64 3]]]
                        [])
                      fun (r : Res) =>
                      ctl
                        (okR [RSh.one Sh.bool] r.fst && okB [] r.snd &&
                          (noslR r.fst && noslB r.snd))
                        (Option.some (nth (RV.p PV.nilp) r.fst 0).toPV.toBool) Option.none)
                    fun (v : Bool) =>
                    ctl v
                      (bnd
                        (bnd
                          (F 15
                            [AV.sl 1 (nth (RV.p PV.nilp) r_1.fst 0).toEs,
                              AV.sl 1 [[PV.int IntKind.i64 3], [PV.int IntKind.i64 2]]]
                            [])
                          fun (r : Res) =>
                          ctl
                            (okR [RSh.one Sh.bool] r.fst && okB [] r.snd &&
                              (noslR r.fst && noslB r.snd))
                            (Option.some (nth (RV.p PV.nilp) r.fst 0).toPV.toBool) Option.none)
                        fun (v : Bool) => Option.some ([RV.p (PV.bool v)], []))
                      (Option.some ([RV.p (PV.bool Bool.false)], [])))
                  (Option.some ([RV.p (PV.bool Bool.false)], [])))
          Option.none)
      Option.none := by kernel_rfl

/-- dynpos/dynposref01.Ints, the loop of block 0 -/
theorem r15_0 (F : Fun) (a0 : List (List PV)) (b1 : List (List PV)) (x12 : Int) (x13 : Int) : lp E F 15 0 [] 0
  { vals := [AV.sl 1 a0, AV.sl 1 b1, AV.int IntKind.i64 x12, AV.int IntKind.i64 x13],
    blks := [] } =
  ctl (ltB x13 x12)
    (getE a0 x13 fun (c : List PV) =>
      ctl (okCs [Sh.int IntKind.i64] c)
        (getE b1 x13 fun (c_1 : List PV) =>
          ctl (okCs [Sh.int IntKind.i64] c_1)
            (ctl
              ((nth PV.nilp c 0).toInt != (nth PV.nilp c_1 0).toInt)
              (Option.some (Ex.ret, { vals := [AV.bool Bool.false], blks := [] }))
              (lp E F 15 0 [] 0
                {
                  vals :=
                    [AV.sl 1 a0, AV.sl 1 b1, AV.int IntKind.i64 x12,
                      AV.int IntKind.i64 (IntKind.i64.wrap (x13 + 1))],
                  blks := [] }))
            Option.none)
        Option.none)
    (Option.some (Ex.exit 0, { vals := [], blks := [] })) := (lp_unfold ..).trans (by kernel_rfl)

/-- dynpos/dynposref01.Ints -/
theorem r15 (F : Fun) (a : List (List PV)) (b : List (List PV)) : funK E F 15 [AV.sl 1 a, AV.sl 1 b] [] =
  ctl ((↑a.length : Int) != (↑b.length : Int)) (Option.some ([RV.p (PV.bool Bool.false)], []))
    (bnd
      (lp E F 15 0 [] 0
        {
          vals :=
            [AV.sl 1 a, AV.sl 1 b, AV.int IntKind.i64 (↑a.length : Int),
              AV.int IntKind.i64 0],
          blks := [] })
      fun (p : Ex × Pack) =>
      ctl (p.fst.eqb (Ex.exit 0)) (Option.some ([RV.p (PV.bool Bool.true)], []))
        (ctl (p.fst.eqb Ex.ret)
          (ctl (okPack { slots := [(4, Sum.inl Sh.bool)], blks := [] } p.snd)
            (Option.some ([RV.p (PV.bool (nth AV.undef p.snd.vals 0).toPV.toBool)], []))
            Option.none)
          Option.none)) := by kernel_rfl

/-- dynpos/share.Sum, the loop of block 1 -/
theorem r16_1 (F : Fun) (x1 : List (List PV)) (sum6 : Int) (x26 : List (List PV)) (x27 : Int) (x28 : Int) : lp E F 16 0 [] 1
  {
    vals :=
      [AV.sl 1 x1, AV.int IntKind.i64 sum6, AV.sl 3 x26, AV.int IntKind.i64 x27,
        AV.int IntKind.i64 x28],
    blks := [] } =
  ctl (ltB x28 x27)
    (getE x26 x28 fun (c : List PV) =>
      ctl
        (okCs [Sh.int IntKind.i64, Sh.int IntKind.i64, Sh.int IntKind.i64] c)
        (getE x1 x28 fun (c_1 : List PV) =>
          ctl (okCs [Sh.int IntKind.i64] c_1)
            (getE x1 x28 fun (c_2 : List PV) =>
              ctl (okCs [Sh.int IntKind.i64] c_2)
                (lp E F 16 0 [] 1
                  {
                    vals :=
                      [AV.sl 1 x1,
                        AV.int IntKind.i64
                          (IntKind.i64.wrap
                            (sum6 +
                              IntKind.i64.wrap
                                (IntKind.i64.wrap
                                    ((nth PV.nilp c 2).toInt * (nth PV.nilp c_1 0).toInt) *
                                  (nth PV.nilp c_2 0).toInt))),
                        AV.sl 3 x26, AV.int IntKind.i64 x27, AV.int IntKind.i64 (IntKind.i64.wrap (x28 + 1))],
                    blks := [] })
                Option.none)
            Option.none)
        Option.none)
    (Option.some (Ex.exit 1, { vals := [AV.int IntKind.i64 sum6], blks := [] })) := (lp_unfold ..).trans (by kernel_rfl)

/-- dynpos/share.Sum -/
theorem r16 (F : Fun) (l : List (List PV)) (x : List (List PV)) : funK E F 16 [AV.sl 3 l, AV.sl 1 x] [] =
  bnd (F 22 [AV.sl 3 l] []) fun (r : Res) =>
    ctl
      (okR [RSh.one (Sh.int IntKind.i64)] r.fst && okB [] r.snd)
      (ctl ((nth (RV.p PV.nilp) r.fst 0).toPV.toInt != 0)
        (bnd (F 22 [AV.sl 3 l] []) fun (r : Res) =>
          ctl
            (okR [RSh.one (Sh.int IntKind.i64)] r.fst && okB [] r.snd)
            (Option.some
              ([RV.p (PV.int IntKind.i64 0),
                  RV.p
                    (PV.int IntKind.i64 (nth (RV.p PV.nilp) r.fst 0).toPV.toInt)],
                []))
            Option.none)
        (ctl ((↑x.length : Int) != (↑l.length : Int))
          (Option.some ([RV.p (PV.int IntKind.i64 0), RV.p (PV.int IntKind.i64 8)], []))
          (bnd (F 34 [AV.sl 3 l, AV.sl 1 x] []) fun (r : Res) =>
            ctl (okR [RSh.one Sh.bool] r.fst && okB [] r.snd)
              (ctl (!(nth (RV.p PV.nilp) r.fst 0).toPV.toBool)
                (Option.some
                  ([RV.p (PV.int IntKind.i64 0), RV.p (PV.int IntKind.i64 1)], []))
                (bnd
                  (lp E F 16 0 [] 1
                    {
                      vals :=
                        [AV.sl 1 x, AV.int IntKind.i64 0, AV.sl 3 l,
                          AV.int IntKind.i64 (↑l.length : Int), AV.int IntKind.i64 0],
                      blks := [] })
                  fun (p : Ex × Pack) =>
                  ctl (p.fst.eqb (Ex.exit 1))
                    (ctl (okPack { slots := [(6, Sum.inl (Sh.int IntKind.i64))], blks := [] } p.snd)
                      (Option.some
                        ([RV.p (PV.int IntKind.i64 (nth AV.undef p.snd.vals 0).toPV.toInt),
                            RV.p (PV.int IntKind.i64 0)],
                          []))
                      Option.none)
                    Option.none))
              Option.none)))
      Option.none := by kernel_rfl

/-- dynpos/dynposref13.Reach, the loop of block 0 -/
theorem r17_0 (F : Fun) (low6 : Int) (high7 : Int) (x15 : List (List PV)) (x16 : Int) (x17 : Int) : lp E F 17 0 [] 0
  {
    vals :=
      [AV.int IntKind.i64 low6, AV.int IntKind.i64 high7, AV.sl 3 x15,
        AV.int IntKind.i64 x16, AV.int IntKind.i64 x17],
    blks := [] } =
  ctl (ltB x17 x16)
    (getE x15 x17 fun (c : List PV) =>
      ctl
        (okCs [Sh.int IntKind.i64, Sh.int IntKind.i64, Sh.int IntKind.i64] c)
        (lp E F 17 0 [] 0
          {
            vals :=
              [AV.int IntKind.i64 (IntKind.i64.wrap (low6 + (nth PV.nilp c 0).toInt)),
                AV.int IntKind.i64 (IntKind.i64.wrap (high7 + (nth PV.nilp c 1).toInt)),
                AV.sl 3 x15, AV.int IntKind.i64 x16, AV.int IntKind.i64 (IntKind.i64.wrap (x17 + 1))],
            blks := [] })
        Option.none)
    (Option.some (Ex.exit 0, { vals := [AV.int IntKind.i64 low6, AV.int IntKind.i64 high7], blks := [] })) := (lp_unfold ..).trans (by kernel_rfl)

/-- dynpos/dynposref13.Reach -/
theorem r17 (F : Fun) (l : List (List PV)) : funK E F 17 [AV.sl 3 l] [] =
  bnd (F 23 [AV.sl 3 l] []) fun (r : Res) =>
    ctl
      (okR [RSh.one (Sh.int IntKind.i64)] r.fst && okB [] r.snd)
      (ctl ((nth (RV.p PV.nilp) r.fst 0).toPV.toInt != 0)
        (Option.some
          ([RV.p (PV.int IntKind.i64 0), RV.p (PV.int IntKind.i64 0),
              RV.p
                (PV.int IntKind.i64 (nth (RV.p PV.nilp) r.fst 0).toPV.toInt)],
            []))
        (bnd
          (lp E F 17 0 [] 0
            {
              vals :=
                [AV.int IntKind.i64 0, AV.int IntKind.i64 0, AV.sl 3 l,
                  AV.int IntKind.i64 (↑l.length : Int), AV.int IntKind.i64 0],
              blks := [] })
          fun (p : Ex × Pack) =>
          ctl (p.fst.eqb (Ex.exit 0))
            (ctl
              (okPack { slots := [(6, Sum.inl (Sh.int IntKind.i64)), (7, Sum.inl (Sh.int IntKind.i64))], blks := [] }
                p.snd)
              (Option.some
                ([RV.p (PV.int IntKind.i64 (nth AV.undef p.snd.vals 0).toPV.toInt),
                    RV.p (PV.int IntKind.i64 (nth AV.undef p.snd.vals 1).toPV.toInt),
                    RV.p (PV.int IntKind.i64 0)],
                  []))
              Option.none)
            Option.none))
      Option.none := by kernel_rfl

/-- (*dynpos/dynposmake.Src).N -/
theorem r18 (F : Fun) (s0 : List (List PV)) (s1 : Int) (n : Int) : funK E F 18 [AV.t (TV.ptr 0 0), AV.int IntKind.i64 n] [Blk.box [AV.sl 1 s0, AV.int IntKind.i64 s1]] =
  ctl (leB (↑s0.length : Int) s1)
    (Option.some
      ([RV.p (PV.int IntKind.i64 0)],
        [Blk.box [AV.sl 1 s0, AV.int IntKind.i64 s1]]))
    (getE s0 (IntKind.i64.wrap (IntKind.i64.wrap (s1 + 1) - 1)) fun (c : List PV) =>
      ctl (okCs [Sh.int IntKind.i64] c)
        (bnd
          (F 35 [AV.int IntKind.i64 (nth PV.nilp c 0).toInt, AV.int IntKind.i64 n] [])
          fun (r : Res) =>
          ctl
            (okR [RSh.one (Sh.int IntKind.i64)] r.fst && okB [] r.snd)
            (Option.some
              ([RV.p
                    (PV.int IntKind.i64 (nth (RV.p PV.nilp) r.fst 0).toPV.toInt)],
                [Blk.box [AV.sl 1 s0, AV.int IntKind.i64 (IntKind.i64.wrap (s1 + 1))]]))
            Option.none)
        Option.none) := by kernel_rfl

/-- dynpos/dynposref01.Clamp -/
theorem r19 (F : Fun) (x : Int) (low : Int) (high : Int) : funK E F 19 [AV.int IntKind.i64 x, AV.int IntKind.i64 low, AV.int IntKind.i64 high] [] =
  bnd (ctl (!ltB high low) (Option.some (ltB x low)) (Option.some Bool.true)) fun (v : Bool) =>
    ctl v (Option.some ([RV.p (PV.int IntKind.i64 low)], []))
      (ctl (ltB high x) (Option.some ([RV.p (PV.int IntKind.i64 high)], []))
        (Option.some ([RV.p (PV.int IntKind.i64 x)], []))) := by kernel_rfl

/-- dynpos/share.Price, the loop of block 0 -/
theorem r20_0 (F : Fun) (x1 : List (List PV)) (low4 : Int) (high5 : Int) (less7 : Bool) (more8 : Bool) (x17 : List (List PV)) (x18 : Int) (x19 : Int) : lp E F 20 0 [] 0
  {
    vals :=
      [AV.sl 1 x1, AV.int IntKind.i64 low4, AV.int IntKind.i64 high5, AV.bool less7,
        AV.bool more8, AV.sl 3 x17, AV.int IntKind.i64 x18, AV.int IntKind.i64 x19],
    blks := [] } =
  ctl (ltB x19 x18)
    (getE x17 x19 fun (c : List PV) =>
      ctl
        (okCs [Sh.int IntKind.i64, Sh.int IntKind.i64, Sh.int IntKind.i64] c)
        (getE x1 x19 fun (c_1 : List PV) =>
          ctl (okCs [Sh.int IntKind.i64] c_1)
            (bnd
              (F 36
                [AV.agg
                    [PV.int IntKind.i64 (nth PV.nilp c 0).toInt,
                      PV.int IntKind.i64 (nth PV.nilp c 1).toInt,
                      PV.int IntKind.i64 (nth PV.nilp c 2).toInt],
                  AV.int IntKind.i64 (nth PV.nilp c_1 0).toInt]
                [])
              fun (r : Res) =>
              ctl
                (okR [RSh.one (Sh.int IntKind.i64)] r.fst && okB [] r.snd)
                (getE x1 x19 fun (c_2 : List PV) =>
                  ctl (okCs [Sh.int IntKind.i64] c_2)
                    (bnd
                      (ctl
                        (ltB (nth PV.nilp c 0).toInt
                          (nth PV.nilp c_2 0).toInt)
                        (ctl (!!less7)
                          (Option.some (ltB low4 (nth (RV.p PV.nilp) r.fst 0).toPV.toInt))
                          (Option.some Bool.true))
                        (Option.some Bool.false))
                      fun (v : Bool) =>
                      ctl v
                        (getE x1 x19 fun (c_3 : List PV) =>
                          ctl (okCs [Sh.int IntKind.i64] c_3)
                            (bnd
                              (F 33
                                [AV.agg
                                    [PV.int IntKind.i64 (nth PV.nilp c 0).toInt,
                                      PV.int IntKind.i64 (nth PV.nilp c 1).toInt,
                                      PV.int IntKind.i64 (nth PV.nilp c 2).toInt],
                                  AV.int IntKind.i64 (nth PV.nilp c_3 0).toInt]
                                [])
                              fun (r_1 : Res) =>
                              ctl
                                (okR [RSh.one (Sh.int IntKind.i64)] r_1.fst && okB [] r_1.snd)
                                (getE x1 x19 fun (c_4 : List PV) =>
                                  ctl (okCs [Sh.int IntKind.i64] c_4)
                                    (bnd
                                      (ctl
                                        (ltB (nth PV.nilp c_4 0).toInt
                                          (nth PV.nilp c 1).toInt)
                                        (ctl (!!more8)
                                          (Option.some
                                            (ltB (nth (RV.p PV.nilp) r_1.fst 0).toPV.toInt high5))
                                          (Option.some Bool.true))
                                        (Option.some Bool.false))
                                      fun (v : Bool) =>
                                      ctl v
                                        (lp E F 20 0 [] 0
                                          {
                                            vals :=
                                              [AV.sl 1 x1,
                                                AV.int IntKind.i64
                                                  (nth (RV.p PV.nilp) r.fst 0).toPV.toInt,
                                                AV.int IntKind.i64
                                                  (nth (RV.p PV.nilp) r_1.fst 0).toPV.toInt,
                                                AV.bool Bool.true, AV.bool Bool.true, AV.sl 3 x17,
                                                AV.int IntKind.i64 x18, AV.int IntKind.i64 (IntKind.i64.wrap (x19 + 1))],
                                            blks := [] })
                                        (lp E F 20 0 [] 0
                                          {
                                            vals :=
                                              [AV.sl 1 x1,
                                                AV.int IntKind.i64
                                                  (nth (RV.p PV.nilp) r.fst 0).toPV.toInt,
                                                AV.int IntKind.i64 high5, AV.bool Bool.true, AV.bool more8,
                                                AV.sl 3 x17, AV.int IntKind.i64 x18,
                                                AV.int IntKind.i64 (IntKind.i64.wrap (x19 + 1))],
                                            blks := [] }))
                                    Option.none)
                                Option.none)
                            Option.none)
                        (getE x1 x19 fun (c_3 : List PV) =>
                          ctl (okCs [Sh.int IntKind.i64] c_3)
                            (bnd
                              (F 33
                                [AV.agg
                                    [PV.int IntKind.i64 (nth PV.nilp c 0).toInt,
                                      PV.int IntKind.i64 (nth PV.nilp c 1).toInt,
                                      PV.int IntKind.i64 (nth PV.nilp c 2).toInt],
                                  AV.int IntKind.i64 (nth PV.nilp c_3 0).toInt]
                                [])
                              fun (r : Res) =>
                              ctl
                                (okR [RSh.one (Sh.int IntKind.i64)] r.fst && okB [] r.snd)
                                (getE x1 x19 fun (c_4 : List PV) =>
                                  ctl (okCs [Sh.int IntKind.i64] c_4)
                                    (bnd
                                      (ctl
                                        (ltB (nth PV.nilp c_4 0).toInt
                                          (nth PV.nilp c 1).toInt)
                                        (ctl (!!more8)
                                          (Option.some
                                            (ltB (nth (RV.p PV.nilp) r.fst 0).toPV.toInt high5))
                                          (Option.some Bool.true))
                                        (Option.some Bool.false))
                                      fun (v : Bool) =>
                                      ctl v
                                        (lp E F 20 0 [] 0
                                          {
                                            vals :=
                                              [AV.sl 1 x1, AV.int IntKind.i64 low4,
                                                AV.int IntKind.i64
                                                  (nth (RV.p PV.nilp) r.fst 0).toPV.toInt,
                                                AV.bool less7, AV.bool Bool.true, AV.sl 3 x17,
                                                AV.int IntKind.i64 x18, AV.int IntKind.i64 (IntKind.i64.wrap (x19 + 1))],
                                            blks := [] })
                                        (lp E F 20 0 [] 0
                                          {
                                            vals :=
                                              [AV.sl 1 x1, AV.int IntKind.i64 low4, AV.int IntKind.i64 high5,
                                                AV.bool less7, AV.bool more8, AV.sl 3 x17,
                                                AV.int IntKind.i64 x18, AV.int IntKind.i64 (IntKind.i64.wrap (x19 + 1))],
                                            blks := [] }))
                                    Option.none)
                                Option.none)
                            Option.none))
                    Option.none)
                Option.none)
            Option.none)
        Option.none)
    (Option.some
      (Ex.exit 0,
        {
          vals :=
            [AV.int IntKind.i64 low4, AV.int IntKind.i64 high5, AV.bool less7,
              AV.bool more8],
          blks := [] })) := (lp_unfold ..).trans (by kernel_rfl)

/-- dynpos/share.Price -/
theorem r20 (F : Fun) (l : List (List PV)) (x : List (List PV)) : funK E F 20 [AV.sl 3 l, AV.sl 1 x] [] =
  bnd (F 34 [AV.sl 3 l, AV.sl 1 x] []) fun (r : Res) =>
    ctl (okR [RSh.one Sh.bool] r.fst && okB [] r.snd)
      (ctl (!(nth (RV.p PV.nilp) r.fst 0).toPV.toBool)
        (Option.some
          ([RV.p (PV.int IntKind.i64 0), RV.p (PV.int IntKind.i64 0),
              RV.p (PV.bool Bool.false)],
            []))
        (bnd
          (lp E F 20 0 [] 0
            {
              vals :=
                [AV.sl 1 x, AV.int IntKind.i64 0, AV.int IntKind.i64 0, AV.bool Bool.false,
                  AV.bool Bool.false, AV.sl 3 l, AV.int IntKind.i64 (↑l.length : Int),
                  AV.int IntKind.i64 0],
              blks := [] })
          fun (p : Ex × Pack) =>
          ctl (p.fst.eqb (Ex.exit 0))
            (ctl
              (okPack
                {
                  slots :=
                    [(4, Sum.inl (Sh.int IntKind.i64)), (5, Sum.inl (Sh.int IntKind.i64)), (7, Sum.inl Sh.bool),
                      (8, Sum.inl Sh.bool)],
                  blks := [] }
                p.snd)
              (bnd
                (ctl (!!(nth AV.undef p.snd.vals 2).toPV.toBool)
                  (Option.some !(nth AV.undef p.snd.vals 3).toPV.toBool) (Option.some Bool.true))
                fun (v : Bool) =>
                ctl v
                  (Option.some
                    ([RV.p (PV.int IntKind.i64 0), RV.p (PV.int IntKind.i64 0),
                        RV.p (PV.bool Bool.false)],
                      []))
                  (Option.some
                    ([RV.p (PV.int IntKind.i64 (nth AV.undef p.snd.vals 0).toPV.toInt),
                        RV.p (PV.int IntKind.i64 (nth AV.undef p.snd.vals 1).toPV.toInt),
                        RV.p (PV.bool Bool.true)],
                      [])))
              Option.none)
            Option.none))
      Option.none := by kernel_rfl

/-- (*dynpos/dynposmake.Src).Pick -/
theorem r21 (F : Fun) (s0 : List (List PV)) (s1 : Int) (l : List (List PV)) : funK E F 21 [AV.t (TV.ptr 0 0), AV.sl 1 l] [Blk.box [AV.sl 1 s0, AV.int IntKind.i64 s1]] =
  bnd
    (F 18 [AV.t (TV.ptr 0 0), AV.int IntKind.i64 (↑l.length : Int)]
      [Blk.box [AV.sl 1 s0, AV.int IntKind.i64 s1]])
    fun (r : Res) =>
    ctl
      (okR [RSh.one (Sh.int IntKind.i64)] r.fst &&
        okB [Sum.inl [Sh.sl 1, Sh.int IntKind.i64]] r.snd)
      (getE l (nth (RV.p PV.nilp) r.fst 0).toPV.toInt
        fun (c : List PV) =>
        ctl (okCs [Sh.int IntKind.i64] c)
          (Option.some
            ([RV.p (PV.int IntKind.i64 (nth PV.nilp c 0).toInt)],
              [Blk.box
                  [AV.sl 1
                      (nth PV.nilp
                          (List.map AV.toPV (nth (Blk.box []) r.snd 0).toCs) 0).toEs,
                    AV.int IntKind.i64
                      (nth PV.nilp
                          (List.map AV.toPV (nth (Blk.box []) r.snd 0).toCs) 1).toInt]]))
          Option.none)
      Option.none := by kernel_rfl

/-- dynpos/share.Valid, the loop of block 0 -/
theorem r22_0 (F : Fun) (x8 : List (List PV)) (x9 : Int) (x10 : Int) : lp E F 22 0 [] 0
  { vals := [AV.sl 3 x8, AV.int IntKind.i64 x9, AV.int IntKind.i64 x10], blks := [] } =
  ctl (ltB x10 x9)
    (getE x8 x10 fun (c : List PV) =>
      ctl
        (okCs [Sh.int IntKind.i64, Sh.int IntKind.i64, Sh.int IntKind.i64] c)
        (bnd
          (ctl (!ltB (nth PV.nilp c 0).toInt (-5000))
            (Option.some
              (ltB (nth PV.nilp c 1).toInt
                (nth PV.nilp c 0).toInt))
            (Option.some Bool.true))
          fun (v : Bool) =>
          bnd
            (ctl (!v) (Option.some (ltB 5000 (nth PV.nilp c 1).toInt)) (Option.some Bool.true))
            fun (v : Bool) =>
            bnd
              (ctl (!v) (Option.some (ltB (nth PV.nilp c 2).toInt 1)) (Option.some Bool.true))
              fun (v : Bool) =>
              bnd
                (ctl (!v) (Option.some (ltB 100 (nth PV.nilp c 2).toInt)) (Option.some Bool.true))
                fun (v : Bool) =>
                ctl v (Option.some (Ex.ret, { vals := [AV.int IntKind.i64 1], blks := [] }))
                  (lp E F 22 0 [] 0
                    { vals := [AV.sl 3 x8, AV.int IntKind.i64 x9, AV.int IntKind.i64 (IntKind.i64.wrap (x10 + 1))],
                      blks := [] }))
        Option.none)
    (Option.some (Ex.exit 0, { vals := [], blks := [] })) := (lp_unfold ..).trans (by kernel_rfl)

/-- dynpos/share.Valid -/
theorem r22 (F : Fun) (l : List (List PV)) : funK E F 22 [AV.sl 3 l] [] =
  ctl (ltB 8 (↑l.length : Int)) (Option.some ([RV.p (PV.int IntKind.i64 2)], []))
    (bnd
      (lp E F 22 0 [] 0
        { vals := [AV.sl 3 l, AV.int IntKind.i64 (↑l.length : Int), AV.int IntKind.i64 0], blks := [] })
      fun (p : Ex × Pack) =>
      ctl (p.fst.eqb (Ex.exit 0)) (Option.some ([RV.p (PV.int IntKind.i64 0)], []))
        (ctl (p.fst.eqb Ex.ret)
          (ctl (okPack { slots := [(2, Sum.inl (Sh.int IntKind.i64))], blks := [] } p.snd)
            (Option.some
              ([RV.p (PV.int IntKind.i64 (nth AV.undef p.snd.vals 0).toPV.toInt)], []))
            Option.none)
          Option.none)) := by kernel_rfl

/-- dynpos/dynposref13.Valid, the loop of block 0 -/
theorem r23_0 (F : Fun) (x8 : List (List PV)) (x9 : Int) (x10 : Int) : lp E F 23 0 [] 0
  { vals := [AV.sl 3 x8, AV.int IntKind.i64 x9, AV.int IntKind.i64 x10], blks := [] } =
  ctl (ltB x10 x9)
    (getE x8 x10 fun (c : List PV) =>
      ctl
        (okCs [Sh.int IntKind.i64, Sh.int IntKind.i64, Sh.int IntKind.i64] c)
        (bnd
          (ctl (!ltB (nth PV.nilp c 0).toInt (-5000))
            (Option.some
              (ltB (nth PV.nilp c 1).toInt
                (nth PV.nilp c 0).toInt))
            (Option.some Bool.true))
          fun (v : Bool) =>
          bnd
            (ctl (!v) (Option.some (ltB 5000 (nth PV.nilp c 1).toInt)) (Option.some Bool.true))
            fun (v : Bool) =>
            bnd
              (ctl (!v) (Option.some (ltB (nth PV.nilp c 2).toInt 1)) (Option.some Bool.true))
              fun (v : Bool) =>
              bnd
                (ctl (!v) (Option.some (ltB 100 (nth PV.nilp c 2).toInt)) (Option.some Bool.true))
                fun (v : Bool) =>
                ctl v (Option.some (Ex.ret, { vals := [AV.int IntKind.i64 1], blks := [] }))
                  (lp E F 23 0 [] 0
                    { vals := [AV.sl 3 x8, AV.int IntKind.i64 x9, AV.int IntKind.i64 (IntKind.i64.wrap (x10 + 1))],
                      blks := [] }))
        Option.none)
    (Option.some (Ex.exit 0, { vals := [], blks := [] })) := (lp_unfold ..).trans (by kernel_rfl)

/-- dynpos/dynposref13.Valid -/
theorem r23 (F : Fun) (l : List (List PV)) : funK E F 23 [AV.sl 3 l] [] =
  ctl (ltB 8 (↑l.length : Int)) (Option.some ([RV.p (PV.int IntKind.i64 2)], []))
    (bnd
      (lp E F 23 0 [] 0
        { vals := [AV.sl 3 l, AV.int IntKind.i64 (↑l.length : Int), AV.int IntKind.i64 0], blks := [] })
      fun (p : Ex × Pack) =>
      ctl (p.fst.eqb (Ex.exit 0)) (Option.some ([RV.p (PV.int IntKind.i64 0)], []))
        (ctl (p.fst.eqb Ex.ret)
          (ctl (okPack { slots := [(2, Sum.inl (Sh.int IntKind.i64))], blks := [] } p.snd)
            (Option.some
              ([RV.p (PV.int IntKind.i64 (nth AV.undef p.snd.vals 0).toPV.toInt)], []))
            Option.none)
          Option.none)) := by kernel_rfl

/-- (*dynpos/dynposmake.Src).Odd -/
theorem r24 (F : Fun) (s0 : List (List PV)) (s1 : Int) : funK E F 24 [AV.t (TV.ptr 0 0)] [Blk.box [AV.sl 1 s0, AV.int IntKind.i64 s1]] =
  bnd
    (F 21
      [AV.t (TV.ptr 0 0),
        AV.sl 1
          [[PV.int IntKind.i64 (-1)], [PV.int IntKind.i64 0], [PV.int IntKind.i64 1],
            [PV.int IntKind.i64 4611686018427387904], [PV.int IntKind.i64 (-4611686018427387904)],
            [PV.int IntKind.i64 9223372036854775807], [PV.int IntKind.i64 (-9223372036854775808)],
            [PV.int IntKind.i64 1000000000], [PV.int IntKind.i64 1000000001], [PV.int IntKind.i64 (-1000000001)],
            [PV.int IntKind.i64 3600], [PV.int IntKind.i64 1800], [PV.int IntKind.i64 100000000],
            [PV.int IntKind.i64 100000001], [PV.int IntKind.i64 5001]]]
      [Blk.box [AV.sl 1 s0, AV.int IntKind.i64 s1]])
    fun (r : Res) =>
    ctl
      (okR [RSh.one (Sh.int IntKind.i64)] r.fst &&
        okB [Sum.inl [Sh.sl 1, Sh.int IntKind.i64]] r.snd)
      (Option.some
        ([RV.p
              (PV.int IntKind.i64 (nth (RV.p PV.nilp) r.fst 0).toPV.toInt)],
          [Blk.box
              [AV.sl 1
                  (nth PV.nilp
                      (List.map AV.toPV (nth (Blk.box []) r.snd 0).toCs) 0).toEs,
                AV.int IntKind.i64
                  (nth PV.nilp
                      (List.map AV.toPV (nth (Blk.box []) r.snd 0).toCs) 1).toInt]]))
      Option.none := by kernel_rfl

/-- dynpos/dynposref13.Divide, the loop of block 0 -/
theorem r25_0 (F : Fun) (l0 : List (List PV)) (total1 : Int) (low7 : Int) (goal10 : Int) (x38 : List (List PV)) (x39 : Int) (x40 : Int) (c0 : List (List PV)) : lp E F 25 0 [] 0
  {
    vals :=
      [AV.sl 3 l0, AV.int IntKind.i64 total1, AV.int IntKind.i64 low7,
        AV.int IntKind.i64 goal10, AV.sl 3 x38, AV.int IntKind.i64 x39,
        AV.int IntKind.i64 x40],
    blks := [Blk.arr 1 c0] } =
  ctl (ltB x40 x39)
    (getE x38 x40 fun (c : List PV) =>
      ctl
        (okCs [Sh.int IntKind.i64, Sh.int IntKind.i64, Sh.int IntKind.i64] c)
        (ctl (leN ((c0.length + 1) * 8) 140737488355328)
          (lp E F 25 0 [] 0
            {
              vals :=
                [AV.sl 3 l0, AV.int IntKind.i64 total1, AV.int IntKind.i64 low7,
                  AV.int IntKind.i64 goal10, AV.sl 3 x38, AV.int IntKind.i64 x39,
                  AV.int IntKind.i64 (IntKind.i64.wrap (x40 + 1))],
              blks := [Blk.arr 1 (c0 ++ [[PV.int IntKind.i64 (nth PV.nilp c 0).toInt]])] })
          Option.none)
        Option.none)
    (Option.some
      (Ex.exit 0,
        {
          vals :=
            [AV.sl 3 l0, AV.int IntKind.i64 total1, AV.int IntKind.i64 low7,
              AV.int IntKind.i64 goal10],
          blks := [Blk.arr 1 c0] })) := (lp_unfold ..).trans (by kernel_rfl)

/-- dynpos/dynposref13.Divide, the loop of block 2 -/
theorem r25_2 (F : Fun) (l0 : List (List PV)) (total1 : Int) (goal10 : Int) (n14 : Int) (c0 : List (List PV)) : lp E F 25 0 [] 2
  {
    vals :=
      [AV.sl 3 l0, AV.int IntKind.i64 total1, AV.int IntKind.i64 goal10,
        AV.int IntKind.i64 n14],
    blks := [Blk.arr 1 c0] } =
  ctl (ltB n14 goal10)
    (bnd
      (lp E F 25 0 [] 4
        {
          vals :=
            [AV.sl 3 l0, AV.int IntKind.i64 total1, AV.int IntKind.i64 goal10,
              AV.int IntKind.i64 n14, AV.int IntKind.i64 (-1), AV.sl 3 l0,
              AV.int IntKind.i64 (↑l0.length : Int), AV.int IntKind.i64 0],
          blks := [Blk.arr 1 c0] })
      fun (p : Ex × Pack) =>
      ctl (p.fst.eqb (Ex.exit 4))
        (ctl
          (okPack
            {
              slots :=
                [(0, Sum.inl (Sh.sl 3)), (1, Sum.inl (Sh.int IntKind.i64)), (10, Sum.inl (Sh.int IntKind.i64)),
                  (11, Sum.inr (Sum.inr (AV.t (TV.hsl 0)))), (14, Sum.inl (Sh.int IntKind.i64)),
                  (15, Sum.inl (Sh.int IntKind.i64))],
              blks := [Sum.inr 1] }
            p.snd)
          (ctl
            (leB 0 (nth AV.undef p.snd.vals 4).toPV.toInt &&
              ltB (nth AV.undef p.snd.vals 4).toPV.toInt
                (↑(nth (Blk.box []) p.snd.blks 0).toEs.length : Int))
            (ctl
              (okCs [Sh.int IntKind.i64]
                (List.take 1
                  (List.drop 0
                    (nth [] (nth (Blk.box []) p.snd.blks 0).toEs
                      (nth AV.undef p.snd.vals 4).toPV.toInt.toNat))))
              (ctl
                (leB 0 (nth AV.undef p.snd.vals 4).toPV.toInt &&
                  ltB (nth AV.undef p.snd.vals 4).toPV.toInt
                    (↑(nth (Blk.box []) p.snd.blks 0).toEs.length : Int))
                (lp E F 25 0 [] 2
                  {
                    vals :=
                      [AV.sl 3 (nth AV.undef p.snd.vals 0).toPV.toEs,
                        AV.int IntKind.i64 (nth AV.undef p.snd.vals 1).toPV.toInt,
                        AV.int IntKind.i64 (nth AV.undef p.snd.vals 2).toPV.toInt,
                        AV.int IntKind.i64 (IntKind.i64.wrap ((nth AV.undef p.snd.vals 3).toPV.toInt + 1))],
                    blks :=
                      [Blk.arr 1
                          (setEs (nth (Blk.box []) p.snd.blks 0).toEs
                            (nth AV.undef p.snd.vals 4).toPV.toInt.toNat 0
                            [PV.int IntKind.i64
                                (IntKind.i64.wrap
                                  ((nth PV.nilp
                                        (nth [] (nth (Blk.box []) p.snd.blks 0).toEs
                                          (nth AV.undef p.snd.vals 4).toPV.toInt.toNat)
                                        0).toInt +
                                    1))])] })
                Option.none)
              Option.none)
            Option.none)
          Option.none)
        Option.none)
    (Option.some
      (Ex.exit 2,
        { vals := [AV.int IntKind.i64 total1, AV.int IntKind.i64 goal10], blks := [Blk.arr 1 c0] })) := (lp_unfold ..).trans (by kernel_rfl)

/-- dynpos/dynposref13.Divide, the loop of block 4 -/
theorem r25_4 (F : Fun) (l0 : List (List PV)) (total1 : Int) (goal10 : Int) (n14 : Int) (best15 : Int) (x56 : List (List PV)) (x57 : Int) (x58 : Int) (c0 : List (List PV)) : lp E F 25 0 [] 4
  {
    vals :=
      [AV.sl 3 l0, AV.int IntKind.i64 total1, AV.int IntKind.i64 goal10,
        AV.int IntKind.i64 n14, AV.int IntKind.i64 best15, AV.sl 3 x56,
        AV.int IntKind.i64 x57, AV.int IntKind.i64 x58],
    blks := [Blk.arr 1 c0] } =
  ctl (ltB x58 x57)
    (getE x56 x58 fun (c : List PV) =>
      ctl
        (okCs [Sh.int IntKind.i64, Sh.int IntKind.i64, Sh.int IntKind.i64] c)
        (ctl (leB 0 x58 && ltB x58 (↑c0.length : Int))
          (ctl (okCs [Sh.int IntKind.i64] (List.take 1 (List.drop 0 (nth [] c0 x58.toNat))))
            (bnd
              (ctl
                (ltB (nth PV.nilp (nth [] c0 x58.toNat) 0).toInt
                  (nth PV.nilp c 1).toInt)
                (ctl (!ltB best15 0)
                  (ctl (leB 0 x58 && ltB x58 (↑c0.length : Int))
                    (ctl
                      (okCs [Sh.int IntKind.i64] (List.take 1 (List.drop 0 (nth [] c0 x58.toNat))))
                      (bnd
                        (F 37
                          [AV.agg
                              [PV.int IntKind.i64 (nth PV.nilp c 0).toInt,
                                PV.int IntKind.i64 (nth PV.nilp c 1).toInt,
                                PV.int IntKind.i64 (nth PV.nilp c 2).toInt],
                            AV.int IntKind.i64 (nth PV.nilp (nth [] c0 x58.toNat) 0).toInt]
                          [])
                        fun (r : Res) =>
                        ctl
                          (okR [RSh.one (Sh.int IntKind.i64)] r.fst && okB [] r.snd)
                          (getE l0 best15 fun (c : List PV) =>
                            ctl
                              (okCs
                                [Sh.int IntKind.i64, Sh.int IntKind.i64, Sh.int IntKind.i64] c)
                              (ctl (leB 0 best15 && ltB best15 (↑c0.length : Int))
                                (ctl
                                  (okCs [Sh.int IntKind.i64] (List.take 1 (List.drop 0 (nth [] c0 best15.toNat))))
                                  (bnd
                                    (F 37
                                      [AV.agg
                                          [PV.int IntKind.i64 (nth PV.nilp c 0).toInt,
                                            PV.int IntKind.i64 (nth PV.nilp c 1).toInt,
                                            PV.int IntKind.i64 (nth PV.nilp c 2).toInt],
                                        AV.int IntKind.i64
                                          (nth PV.nilp (nth [] c0 best15.toNat) 0).toInt]
                                      [])
                                    fun (r_1 : Res) =>
                                    ctl
                                      (okR [RSh.one (Sh.int IntKind.i64)] r_1.fst &&
                                        okB [] r_1.snd)
                                      (Option.some
                                        (ltB (nth (RV.p PV.nilp) r.fst 0).toPV.toInt
                                          (nth (RV.p PV.nilp) r_1.fst 0).toPV.toInt))
                                      Option.none)
                                  Option.none)
                                Option.none)
                              Option.none)
                          Option.none)
                      Option.none)
                    Option.none)
                  (Option.some Bool.true))
                (Option.some Bool.false))
              fun (v : Bool) =>
              ctl v
                (lp E F 25 0 [] 4
                  {
                    vals :=
                      [AV.sl 3 l0, AV.int IntKind.i64 total1, AV.int IntKind.i64 goal10,
                        AV.int IntKind.i64 n14, AV.int IntKind.i64 x58, AV.sl 3 x56,
                        AV.int IntKind.i64 x57, AV.int IntKind.i64 (IntKind.i64.wrap (x58 + 1))],
                    blks := [Blk.arr 1 c0] })
                (lp E F 25 0 [] 4
                  {
                    vals :=
                      [AV.sl 3 l0, AV.int IntKind.i64 total1, AV.int IntKind.i64 goal10,
                        AV.int IntKind.i64 n14, AV.int IntKind.i64 best15, AV.sl 3 x56,
                        AV.int IntKind.i64 x57, AV.int IntKind.i64 (IntKind.i64.wrap (x58 + 1))],
                    blks := [Blk.arr 1 c0] }))
            Option.none)
          Option.none)
        Option.none)
    (Option.some
      (Ex.exit 4,
        {
          vals :=
            [AV.sl 3 l0, AV.int IntKind.i64 total1, AV.int IntKind.i64 goal10,
              AV.int IntKind.i64 n14, AV.int IntKind.i64 best15],
          blks := [Blk.arr 1 c0] })) := (lp_unfold ..).trans (by kernel_rfl)

/-- dynpos/dynposref13.Divide -/
theorem r25 (F : Fun) (l : List (List PV)) (total : Int) : funK E F 25 [AV.sl 3 l, AV.int IntKind.i64 total] [] =
  bnd (F 17 [AV.sl 3 l] []) fun (r : Res) =>
    ctl
      (okR
          [RSh.one (Sh.int IntKind.i64), RSh.one (Sh.int IntKind.i64),
            RSh.one (Sh.int IntKind.i64)]
          r.fst &&
        okB [] r.snd)
      (ctl ((nth (RV.p PV.nilp) r.fst 2).toPV.toInt != 0)
        (Option.some
          ([RV.p (PV.sl 1 []), RV.p (PV.int IntKind.i64 0),
              RV.p
                (PV.int IntKind.i64 (nth (RV.p PV.nilp) r.fst 2).toPV.toInt)],
            []))
        (bnd (ctl (!ltB total (-500000)) (Option.some (ltB 500000 total)) (Option.some Bool.true))
          fun (v : Bool) =>
          ctl v
            (Option.some
              ([RV.p (PV.sl 1 []), RV.p (PV.int IntKind.i64 0),
                  RV.p (PV.int IntKind.i64 1)],
                []))
            (bnd
              (lp E F 25 0 [] 0
                {
                  vals :=
                    [AV.sl 3 l, AV.int IntKind.i64 total,
                      AV.int IntKind.i64 (nth (RV.p PV.nilp) r.fst 0).toPV.toInt,
                      AV.int IntKind.i64
                        (minI (nth (RV.p PV.nilp) r.fst 1).toPV.toInt
                          (maxI (nth (RV.p PV.nilp) r.fst 0).toPV.toInt total)),
                      AV.sl 3 l, AV.int IntKind.i64 (↑l.length : Int), AV.int IntKind.i64 0],
                  blks := [Blk.arr 1 []] })
              fun (p : Ex × Pack) =>
              ctl (p.fst.eqb (Ex.exit 0))
                (ctl
                  (okPack
                    {
                      slots :=
                        [(0, Sum.inl (Sh.sl 3)), (1, Sum.inl (Sh.int IntKind.i64)), (7, Sum.inl (Sh.int IntKind.i64)),
                          (10, Sum.inl (Sh.int IntKind.i64)), (11, Sum.inr (Sum.inr (AV.t (TV.hsl 0))))],
                      blks := [Sum.inr 1] }
                    p.snd)
                  (bnd
                    (lp E F 25 0 [] 2
                      {
                        vals :=
                          [AV.sl 3 (nth AV.undef p.snd.vals 0).toPV.toEs,
                            AV.int IntKind.i64 (nth AV.undef p.snd.vals 1).toPV.toInt,
                            AV.int IntKind.i64 (nth AV.undef p.snd.vals 3).toPV.toInt,
                            AV.int IntKind.i64 (nth AV.undef p.snd.vals 2).toPV.toInt],
                        blks := [Blk.arr 1 (nth (Blk.box []) p.snd.blks 0).toEs] })
                    fun (p : Ex × Pack) =>
                    ctl (p.fst.eqb (Ex.exit 2))
                      (ctl
                        (okPack
                          {
                            slots :=
                              [(1, Sum.inl (Sh.int IntKind.i64)), (10, Sum.inl (Sh.int IntKind.i64)),
                                (11, Sum.inr (Sum.inr (AV.t (TV.hsl 0))))],
                            blks := [Sum.inr 1] }
                          p.snd)
                        (Option.some
                          ([RV.p (PV.sl 1 (nth (Blk.box []) p.snd.blks 0).toEs),
                              RV.p
                                (PV.int IntKind.i64
                                  (IntKind.i64.wrap
                                    ((nth AV.undef p.snd.vals 0).toPV.toInt -
                                      (nth AV.undef p.snd.vals 1).toPV.toInt))),
                              RV.p (PV.int IntKind.i64 0)],
                            []))
                        Option.none)
                      Option.none)
                  Option.none)
                Option.none)))
      Option.none := by kernel_rfl

/-- dynpos/dynposref13.Sum, the loop of block 0 -/
theorem r26_0 (F : Fun) (x1 : List (List PV)) (n7 : Int) (x24 : List (List PV)) (x25 : Int) (x26 : Int) : lp E F 26 0 [] 0
  {
    vals :=
      [AV.sl 1 x1, AV.int IntKind.i64 n7, AV.sl 3 x24, AV.int IntKind.i64 x25,
        AV.int IntKind.i64 x26],
    blks := [] } =
  ctl (ltB x26 x25)
    (getE x24 x26 fun (c : List PV) =>
      ctl
        (okCs [Sh.int IntKind.i64, Sh.int IntKind.i64, Sh.int IntKind.i64] c)
        (getE x1 x26 fun (c_1 : List PV) =>
          ctl (okCs [Sh.int IntKind.i64] c_1)
            (getE x1 x26 fun (c_2 : List PV) =>
              ctl (okCs [Sh.int IntKind.i64] c_2)
                (lp E F 26 0 [] 0
                  {
                    vals :=
                      [AV.sl 1 x1,
                        AV.int IntKind.i64
                          (IntKind.i64.wrap
                            (n7 +
                              IntKind.i64.wrap
                                (IntKind.i64.wrap
                                    ((nth PV.nilp c 2).toInt * (nth PV.nilp c_1 0).toInt) *
                                  (nth PV.nilp c_2 0).toInt))),
                        AV.sl 3 x24, AV.int IntKind.i64 x25, AV.int IntKind.i64 (IntKind.i64.wrap (x26 + 1))],
                    blks := [] })
                Option.none)
            Option.none)
        Option.none)
    (Option.some (Ex.exit 0, { vals := [AV.int IntKind.i64 n7], blks := [] })) := (lp_unfold ..).trans (by kernel_rfl)

/-- dynpos/dynposref13.Sum -/
theorem r26 (F : Fun) (l : List (List PV)) (x : List (List PV)) : funK E F 26 [AV.sl 3 l, AV.sl 1 x] [] =
  bnd (F 23 [AV.sl 3 l] []) fun (r : Res) =>
    ctl
      (okR [RSh.one (Sh.int IntKind.i64)] r.fst && okB [] r.snd)
      (ctl ((nth (RV.p PV.nilp) r.fst 0).toPV.toInt != 0)
        (Option.some
          ([RV.p (PV.int IntKind.i64 0),
              RV.p
                (PV.int IntKind.i64 (nth (RV.p PV.nilp) r.fst 0).toPV.toInt)],
            []))
        (ctl ((↑x.length : Int) != (↑l.length : Int))
          (Option.some ([RV.p (PV.int IntKind.i64 0), RV.p (PV.int IntKind.i64 8)], []))
          (bnd (F 38 [AV.sl 3 l, AV.sl 1 x] []) fun (r : Res) =>
            ctl (okR [RSh.one Sh.bool] r.fst && okB [] r.snd)
              (ctl (!(nth (RV.p PV.nilp) r.fst 0).toPV.toBool)
                (Option.some
                  ([RV.p (PV.int IntKind.i64 0), RV.p (PV.int IntKind.i64 1)], []))
                (bnd
                  (lp E F 26 0 [] 0
                    {
                      vals :=
                        [AV.sl 1 x, AV.int IntKind.i64 0, AV.sl 3 l,
                          AV.int IntKind.i64 (↑l.length : Int), AV.int IntKind.i64 0],
                      blks := [] })
                  fun (p : Ex × Pack) =>
                  ctl (p.fst.eqb (Ex.exit 0))
                    (ctl (okPack { slots := [(7, Sum.inl (Sh.int IntKind.i64))], blks := [] } p.snd)
                      (Option.some
                        ([RV.p (PV.int IntKind.i64 (nth AV.undef p.snd.vals 0).toPV.toInt),
                            RV.p (PV.int IntKind.i64 0)],
                          []))
                      Option.none)
                    Option.none))
              Option.none)))
      Option.none := by kernel_rfl

/-- dynpos/dynposref13.Price, the loop of block 0 -/
theorem r27_0 (F : Fun) (x1 : List (List PV)) (low7 : Int) (high8 : Int) (less9 : Bool) (more10 : Bool) (x24 : List (List PV)) (x25 : Int) (x26 : Int) : lp E F 27 0 [] 0
  {
    vals :=
      [AV.sl 1 x1, AV.int IntKind.i64 low7, AV.int IntKind.i64 high8, AV.bool less9,
        AV.bool more10, AV.sl 3 x24, AV.int IntKind.i64 x25, AV.int IntKind.i64 x26],
    blks := [] } =
  ctl (ltB x26 x25)
    (getE x24 x26 fun (c : List PV) =>
      ctl
        (okCs [Sh.int IntKind.i64, Sh.int IntKind.i64, Sh.int IntKind.i64] c)
        (getE x1 x26 fun (c_1 : List PV) =>
          ctl (okCs [Sh.int IntKind.i64] c_1)
            (ctl
              (ltB (nth PV.nilp c 0).toInt
                (nth PV.nilp c_1 0).toInt)
              (getE x1 x26 fun (c_2 : List PV) =>
                ctl (okCs [Sh.int IntKind.i64] c_2)
                  (bnd
                    (F 37
                      [AV.agg
                          [PV.int IntKind.i64 (nth PV.nilp c 0).toInt,
                            PV.int IntKind.i64 (nth PV.nilp c 1).toInt,
                            PV.int IntKind.i64 (nth PV.nilp c 2).toInt],
                        AV.int IntKind.i64 (IntKind.i64.wrap ((nth PV.nilp c_2 0).toInt - 1))]
                      [])
                    fun (r : Res) =>
                    ctl
                      (okR [RSh.one (Sh.int IntKind.i64)] r.fst && okB [] r.snd)
                      (bnd
                        (ctl (!!less9)
                          (Option.some (ltB low7 (nth (RV.p PV.nilp) r.fst 0).toPV.toInt))
                          (Option.some Bool.true))
                        fun (v : Bool) =>
                        ctl v
                          (getE x1 x26 fun (c_3 : List PV) =>
                            ctl (okCs [Sh.int IntKind.i64] c_3)
                              (ctl
                                (ltB (nth PV.nilp c_3 0).toInt
                                  (nth PV.nilp c 1).toInt)
                                (getE x1 x26 fun (c_4 : List PV) =>
                                  ctl (okCs [Sh.int IntKind.i64] c_4)
                                    (bnd
                                      (F 37
                                        [AV.agg
                                            [PV.int IntKind.i64 (nth PV.nilp c 0).toInt,
                                              PV.int IntKind.i64 (nth PV.nilp c 1).toInt,
                                              PV.int IntKind.i64 (nth PV.nilp c 2).toInt],
                                          AV.int IntKind.i64 (nth PV.nilp c_4 0).toInt]
                                        [])
                                      fun (r_1 : Res) =>
                                      ctl
                                        (okR [RSh.one (Sh.int IntKind.i64)] r_1.fst &&
                                          okB [] r_1.snd)
                                        (bnd
                                          (ctl (!!more10)
                                            (Option.some
                                              (ltB (nth (RV.p PV.nilp) r_1.fst 0).toPV.toInt
                                                high8))
                                            (Option.some Bool.true))
                                          fun (v : Bool) =>
                                          ctl v
                                            (lp E F 27 0 [] 0
                                              {
                                                vals :=
                                                  [AV.sl 1 x1,
                                                    AV.int IntKind.i64
                                                      (nth (RV.p PV.nilp) r.fst 0).toPV.toInt,
                                                    AV.int IntKind.i64
                                                      (nth (RV.p PV.nilp) r_1.fst 0).toPV.toInt,
                                                    AV.bool Bool.true, AV.bool Bool.true, AV.sl 3 x24,
                                                    AV.int IntKind.i64 x25, AV.int IntKind.i64 (IntKind.i64.wrap (x26 + 1))],
                                                blks := [] })
                                            (lp E F 27 0 [] 0
                                              {
                                                vals :=
                                                  [AV.sl 1 x1,
                                                    AV.int IntKind.i64
                                                      (nth (RV.p PV.nilp) r.fst 0).toPV.toInt,
                                                    AV.int IntKind.i64 high8, AV.bool Bool.true, AV.bool more10,
                                                    AV.sl 3 x24, AV.int IntKind.i64 x25,
                                                    AV.int IntKind.i64 (IntKind.i64.wrap (x26 + 1))],
                                                blks := [] }))
                                        Option.none)
                                    Option.none)
                                (lp E F 27 0 [] 0
                                  {
                                    vals :=
                                      [AV.sl 1 x1,
                                        AV.int IntKind.i64
                                          (nth (RV.p PV.nilp) r.fst 0).toPV.toInt,
                                        AV.int IntKind.i64 high8, AV.bool Bool.true, AV.bool more10,
                                        AV.sl 3 x24, AV.int IntKind.i64 x25,
                                        AV.int IntKind.i64 (IntKind.i64.wrap (x26 + 1))],
                                    blks := [] }))
                              Option.none)
                          (getE x1 x26 fun (c_3 : List PV) =>
                            ctl (okCs [Sh.int IntKind.i64] c_3)
                              (ctl
                                (ltB (nth PV.nilp c_3 0).toInt
                                  (nth PV.nilp c 1).toInt)
                                (getE x1 x26 fun (c_4 : List PV) =>
                                  ctl (okCs [Sh.int IntKind.i64] c_4)
                                    (bnd
                                      (F 37
                                        [AV.agg
                                            [PV.int IntKind.i64 (nth PV.nilp c 0).toInt,
                                              PV.int IntKind.i64 (nth PV.nilp c 1).toInt,
                                              PV.int IntKind.i64 (nth PV.nilp c 2).toInt],
                                          AV.int IntKind.i64 (nth PV.nilp c_4 0).toInt]
                                        [])
                                      fun (r : Res) =>
                                      ctl
                                        (okR [RSh.one (Sh.int IntKind.i64)] r.fst &&
                                          okB [] r.snd)
                                        (bnd
                                          (ctl (!!more10)
                                            (Option.some
                                              (ltB (nth (RV.p PV.nilp) r.fst 0).toPV.toInt high8))
                                            (Option.some Bool.true))
                                          fun (v : Bool) =>
                                          ctl v
                                            (lp E F 27 0 [] 0
                                              {
                                                vals :=
                                                  [AV.sl 1 x1, AV.int IntKind.i64 low7,
                                                    AV.int IntKind.i64
                                                      (nth (RV.p PV.nilp) r.fst 0).toPV.toInt,
                                                    AV.bool less9, AV.bool Bool.true, AV.sl 3 x24,
                                                    AV.int IntKind.i64 x25, AV.int IntKind.i64 (IntKind.i64.wrap (x26 + 1))],
                                                blks := [] })
                                            (lp E F 27 0 [] 0
                                              {
                                                vals :=
                                                  [AV.sl 1 x1, AV.int IntKind.i64 low7, AV.int IntKind.i64 high8,
                                                    AV.bool less9, AV.bool more10, AV.sl 3 x24,
                                                    AV.int IntKind.i64 x25, AV.int IntKind.i64 (IntKind.i64.wrap (x26 + 1))],
                                                blks := [] }))
                                        Option.none)
                                    Option.none)
                                (lp E F 27 0 [] 0
                                  {
                                    vals :=
                                      [AV.sl 1 x1, AV.int IntKind.i64 low7, AV.int IntKind.i64 high8,
                                        AV.bool less9, AV.bool more10, AV.sl 3 x24,
                                        AV.int IntKind.i64 x25, AV.int IntKind.i64 (IntKind.i64.wrap (x26 + 1))],
                                    blks := [] }))
                              Option.none))
                      Option.none)
                  Option.none)
              (getE x1 x26 fun (c_2 : List PV) =>
                ctl (okCs [Sh.int IntKind.i64] c_2)
                  (ctl
                    (ltB (nth PV.nilp c_2 0).toInt
                      (nth PV.nilp c 1).toInt)
                    (getE x1 x26 fun (c_3 : List PV) =>
                      ctl (okCs [Sh.int IntKind.i64] c_3)
                        (bnd
                          (F 37
                            [AV.agg
                                [PV.int IntKind.i64 (nth PV.nilp c 0).toInt,
                                  PV.int IntKind.i64 (nth PV.nilp c 1).toInt,
                                  PV.int IntKind.i64 (nth PV.nilp c 2).toInt],
                              AV.int IntKind.i64 (nth PV.nilp c_3 0).toInt]
                            [])
                          fun (r : Res) =>
                          ctl
                            (okR [RSh.one (Sh.int IntKind.i64)] r.fst && okB [] r.snd)
                            (bnd
                              (ctl (!!more10)
                                (Option.some (ltB (nth (RV.p PV.nilp) r.fst 0).toPV.toInt high8))
                                (Option.some Bool.true))
                              fun (v : Bool) =>
                              ctl v
                                (lp E F 27 0 [] 0
                                  {
                                    vals :=
                                      [AV.sl 1 x1, AV.int IntKind.i64 low7,
                                        AV.int IntKind.i64
                                          (nth (RV.p PV.nilp) r.fst 0).toPV.toInt,
                                        AV.bool less9, AV.bool Bool.true, AV.sl 3 x24,
                                        AV.int IntKind.i64 x25, AV.int IntKind.i64 (IntKind.i64.wrap (x26 + 1))],
                                    blks := [] })
                                (lp E F 27 0 [] 0
                                  {
                                    vals :=
                                      [AV.sl 1 x1, AV.int IntKind.i64 low7, AV.int IntKind.i64 high8,
                                        AV.bool less9, AV.bool more10, AV.sl 3 x24,
                                        AV.int IntKind.i64 x25, AV.int IntKind.i64 (IntKind.i64.wrap (x26 + 1))],
                                    blks := [] }))
                            Option.none)
                        Option.none)
                    (lp E F 27 0 [] 0
                      {
                        vals :=
                          [AV.sl 1 x1, AV.int IntKind.i64 low7, AV.int IntKind.i64 high8,
                            AV.bool less9, AV.bool more10, AV.sl 3 x24, AV.int IntKind.i64 x25,
                            AV.int IntKind.i64 (IntKind.i64.wrap (x26 + 1))],
                        blks := [] }))
                  Option.none))
            Option.none)
        Option.none)
    (Option.some
      (Ex.exit 0,
        {
          vals :=
            [AV.int IntKind.i64 low7, AV.int IntKind.i64 high8, AV.bool less9,
              AV.bool more10],
          blks := [] })) := (lp_unfold ..).trans (by kernel_rfl)

/-- dynpos/dynposref13.Price -/
theorem r27 (F : Fun) (l : List (List PV)) (x : List (List PV)) : funK E F 27 [AV.sl 3 l, AV.sl 1 x] [] =
  bnd (F 23 [AV.sl 3 l] []) fun (r : Res) =>
    ctl
      (okR [RSh.one (Sh.int IntKind.i64)] r.fst && okB [] r.snd)
      (bnd
        (ctl (!(nth (RV.p PV.nilp) r.fst 0).toPV.toInt != 0)
          (bnd (F 38 [AV.sl 3 l, AV.sl 1 x] []) fun (r : Res) =>
            ctl (okR [RSh.one Sh.bool] r.fst && okB [] r.snd)
              (Option.some !(nth (RV.p PV.nilp) r.fst 0).toPV.toBool) Option.none)
          (Option.some Bool.true))
        fun (v : Bool) =>
        ctl v
          (Option.some
            ([RV.p (PV.int IntKind.i64 0), RV.p (PV.int IntKind.i64 0),
                RV.p (PV.bool Bool.false)],
              []))
          (bnd
            (lp E F 27 0 [] 0
              {
                vals :=
                  [AV.sl 1 x, AV.int IntKind.i64 0, AV.int IntKind.i64 0,
                    AV.bool Bool.false, AV.bool Bool.false, AV.sl 3 l,
                    AV.int IntKind.i64 (↑l.length : Int), AV.int IntKind.i64 0],
                blks := [] })
            fun (p : Ex × Pack) =>
            ctl (p.fst.eqb (Ex.exit 0))
              (ctl
                (okPack
                  {
                    slots :=
                      [(7, Sum.inl (Sh.int IntKind.i64)), (8, Sum.inl (Sh.int IntKind.i64)), (9, Sum.inl Sh.bool),
                        (10, Sum.inl Sh.bool)],
                    blks := [] }
                  p.snd)
                (bnd
                  (ctl (!!(nth AV.undef p.snd.vals 2).toPV.toBool)
                    (Option.some !(nth AV.undef p.snd.vals 3).toPV.toBool) (Option.some Bool.true))
                  fun (v : Bool) =>
                  ctl v
                    (Option.some
                      ([RV.p (PV.int IntKind.i64 0), RV.p (PV.int IntKind.i64 0),
                          RV.p (PV.bool Bool.false)],
                        []))
                    (Option.some
                      ([RV.p (PV.int IntKind.i64 (nth AV.undef p.snd.vals 0).toPV.toInt),
                          RV.p (PV.int IntKind.i64 (nth AV.undef p.snd.vals 1).toPV.toInt),
                          RV.p (PV.bool Bool.true)],
                        [])))
                Option.none)
              Option.none))
      Option.none := by kernel_rfl

/-- dynpos/share.Check, the loop of block 0 -/
theorem r28_0 (F : Fun) (l0 : List (List PV)) (total1 : Int) (x2 : List (List PV)) (least7 : Int) (most8 : Int) (sum10 : Int) (x26 : List (List PV)) (x27 : Int) (x28 : Int) : lp E F 28 0 [] 0
  {
    vals :=
      [AV.sl 3 l0, AV.int IntKind.i64 total1, AV.sl 1 x2, AV.int IntKind.i64 least7,
        AV.int IntKind.i64 most8, AV.int IntKind.i64 sum10, AV.sl 1 x26,
        AV.int IntKind.i64 x27, AV.int IntKind.i64 x28],
    blks := [] } =
  ctl (ltB x28 x27)
    (getE x26 x28 fun (c : List PV) =>
      ctl (okCs [Sh.int IntKind.i64] c)
        (lp E F 28 0 [] 0
          {
            vals :=
              [AV.sl 3 l0, AV.int IntKind.i64 total1, AV.sl 1 x2, AV.int IntKind.i64 least7,
                AV.int IntKind.i64 most8,
                AV.int IntKind.i64 (IntKind.i64.wrap (sum10 + (nth PV.nilp c 0).toInt)),
                AV.sl 1 x26, AV.int IntKind.i64 x27, AV.int IntKind.i64 (IntKind.i64.wrap (x28 + 1))],
            blks := [] })
        Option.none)
    (Option.some
      (Ex.exit 0,
        {
          vals :=
            [AV.sl 3 l0, AV.int IntKind.i64 total1, AV.sl 1 x2, AV.int IntKind.i64 least7,
              AV.int IntKind.i64 most8, AV.int IntKind.i64 sum10],
          blks := [] })) := (lp_unfold ..).trans (by kernel_rfl)

/-- dynpos/share.Check -/
theorem r28 (F : Fun) (l : List (List PV)) (total : Int) (x : List (List PV)) : funK E F 28 [AV.sl 3 l, AV.int IntKind.i64 total, AV.sl 1 x] [] =
  bnd (F 34 [AV.sl 3 l, AV.sl 1 x] []) fun (r : Res) =>
    ctl (okR [RSh.one Sh.bool] r.fst && okB [] r.snd)
      (ctl (!(nth (RV.p PV.nilp) r.fst 0).toPV.toBool)
        (Option.some ([RV.p (PV.bool Bool.false)], []))
        (bnd (F 11 [AV.sl 3 l] []) fun (r : Res) =>
          ctl
            (okR
                [RSh.one (Sh.int IntKind.i64), RSh.one (Sh.int IntKind.i64),
                  RSh.one (Sh.int IntKind.i64)]
                r.fst &&
              okB [] r.snd)
            (bnd
              (lp E F 28 0 [] 0
                {
                  vals :=
                    [AV.sl 3 l, AV.int IntKind.i64 total, AV.sl 1 x,
                      AV.int IntKind.i64 (nth (RV.p PV.nilp) r.fst 0).toPV.toInt,
                      AV.int IntKind.i64 (nth (RV.p PV.nilp) r.fst 1).toPV.toInt,
                      AV.int IntKind.i64 0, AV.sl 1 x, AV.int IntKind.i64 (↑x.length : Int),
                      AV.int IntKind.i64 0],
                  blks := [] })
              fun (p : Ex × Pack) =>
              ctl (p.fst.eqb (Ex.exit 0))
                (ctl
                  (okPack
                    {
                      slots :=
                        [(0, Sum.inl (Sh.sl 3)), (1, Sum.inl (Sh.int IntKind.i64)), (2, Sum.inl (Sh.sl 1)),
                          (7, Sum.inl (Sh.int IntKind.i64)), (8, Sum.inl (Sh.int IntKind.i64)),
                          (10, Sum.inl (Sh.int IntKind.i64))],
                      blks := [] }
                    p.snd)
                  (bnd
                    (F 20
                      [AV.sl 3 (nth AV.undef p.snd.vals 0).toPV.toEs,
                        AV.sl 1 (nth AV.undef p.snd.vals 2).toPV.toEs]
                      [])
                    fun (r : Res) =>
                    ctl
                      (okR
                          [RSh.one (Sh.int IntKind.i64), RSh.one (Sh.int IntKind.i64),
                            RSh.one Sh.bool]
                          r.fst &&
                        okB [] r.snd)
                      (bnd
                        (F 30
                          [AV.int IntKind.i64 (nth AV.undef p.snd.vals 1).toPV.toInt,
                            AV.int IntKind.i64 (nth AV.undef p.snd.vals 3).toPV.toInt,
                            AV.int IntKind.i64 (nth AV.undef p.snd.vals 4).toPV.toInt]
                          [])
                        fun (r_1 : Res) =>
                        ctl
                          (okR [RSh.one (Sh.int IntKind.i64)] r_1.fst && okB [] r_1.snd)
                          (bnd
                            (ctl
                              ((nth AV.undef p.snd.vals 5).toPV.toInt ==
                                (nth (RV.p PV.nilp) r_1.fst 0).toPV.toInt)
                              (ctl (!!(nth (RV.p PV.nilp) r.fst 2).toPV.toBool)
                                (Option.some
                                  (leB (nth (RV.p PV.nilp) r.fst 0).toPV.toInt
                                    (nth (RV.p PV.nilp) r.fst 1).toPV.toInt))
                                (Option.some Bool.true))
                              (Option.some Bool.false))
                            fun (v : Bool) => Option.some ([RV.p (PV.bool v)], []))
                          Option.none)
                      Option.none)
                  Option.none)
                Option.none)
            Option.none))
      Option.none := by kernel_rfl

/-- dynpos/dynposref13.Check, the loop of block 0 -/
theorem r29_0 (F : Fun) (l0 : List (List PV)) (total1 : Int) (x2 : List (List PV)) (low7 : Int) (high8 : Int) (n10 : Int) (x31 : List (List PV)) (x32 : Int) (x33 : Int) : lp E F 29 0 [] 0
  {
    vals :=
      [AV.sl 3 l0, AV.int IntKind.i64 total1, AV.sl 1 x2, AV.int IntKind.i64 low7,
        AV.int IntKind.i64 high8, AV.int IntKind.i64 n10, AV.sl 1 x31,
        AV.int IntKind.i64 x32, AV.int IntKind.i64 x33],
    blks := [] } =
  ctl (ltB x33 x32)
    (getE x31 x33 fun (c : List PV) =>
      ctl (okCs [Sh.int IntKind.i64] c)
        (lp E F 29 0 [] 0
          {
            vals :=
              [AV.sl 3 l0, AV.int IntKind.i64 total1, AV.sl 1 x2, AV.int IntKind.i64 low7,
                AV.int IntKind.i64 high8,
                AV.int IntKind.i64 (IntKind.i64.wrap (n10 + (nth PV.nilp c 0).toInt)),
                AV.sl 1 x31, AV.int IntKind.i64 x32, AV.int IntKind.i64 (IntKind.i64.wrap (x33 + 1))],
            blks := [] })
        Option.none)
    (Option.some
      (Ex.exit 0,
        {
          vals :=
            [AV.sl 3 l0, AV.int IntKind.i64 total1, AV.sl 1 x2, AV.int IntKind.i64 low7,
              AV.int IntKind.i64 high8, AV.int IntKind.i64 n10],
          blks := [] })) := (lp_unfold ..).trans (by kernel_rfl)

/-- dynpos/dynposref13.Check, the loop of block 2 -/
theorem r29_2 (F : Fun) (l0 : List (List PV)) (x2 : List (List PV)) (x48 : List (List PV)) (x49 : Int) (x50 : Int) : lp E F 29 0 [] 2
  {
    vals :=
      [AV.sl 3 l0, AV.sl 1 x2, AV.sl 3 x48, AV.int IntKind.i64 x49,
        AV.int IntKind.i64 x50],
    blks := [] } =
  ctl (ltB x50 x49)
    (getE x48 x50 fun (c : List PV) =>
      ctl
        (okCs [Sh.int IntKind.i64, Sh.int IntKind.i64, Sh.int IntKind.i64] c)
        (bnd
          (lp E F 29 0 [] 4
            {
              vals :=
                [AV.sl 3 l0, AV.sl 1 x2, AV.int IntKind.i64 x50, AV.sl 3 x48,
                  AV.int IntKind.i64 x49, AV.int IntKind.i64 x50, AV.sl 3 l0,
                  AV.int IntKind.i64 (↑l0.length : Int), AV.int IntKind.i64 0],
              blks :=
                [Blk.box
                    [AV.int IntKind.i64 (nth PV.nilp c 0).toInt,
                      AV.int IntKind.i64 (nth PV.nilp c 1).toInt,
                      AV.int IntKind.i64 (nth PV.nilp c 2).toInt]] })
          fun (p : Ex × Pack) =>
          ctl (p.fst.eqb (Ex.exit 4))
            (ctl
              (okPack
                {
                  slots :=
                    [(0, Sum.inl (Sh.sl 3)), (2, Sum.inl (Sh.sl 1)), (48, Sum.inl (Sh.sl 3)),
                      (49, Sum.inl (Sh.int IntKind.i64)), (50, Sum.inl (Sh.int IntKind.i64))],
                  blks := [] }
                p.snd)
              (lp E F 29 0 [] 2
                {
                  vals :=
                    [AV.sl 3 (nth AV.undef p.snd.vals 0).toPV.toEs,
                      AV.sl 1 (nth AV.undef p.snd.vals 1).toPV.toEs,
                      AV.sl 3 (nth AV.undef p.snd.vals 2).toPV.toEs,
                      AV.int IntKind.i64 (nth AV.undef p.snd.vals 3).toPV.toInt,
                      AV.int IntKind.i64 (IntKind.i64.wrap ((nth AV.undef p.snd.vals 4).toPV.toInt + 1))],
                  blks := [] })
              Option.none)
            (ctl (p.fst.eqb Ex.ret)
              (ctl (okPack { slots := [(6, Sum.inl Sh.bool)], blks := [] } p.snd)
                (Option.some
                  (Ex.ret,
                    { vals := [AV.bool (nth AV.undef p.snd.vals 0).toPV.toBool], blks := [] }))
                Option.none)
              Option.none))
        Option.none)
    (Option.some (Ex.exit 2, { vals := [], blks := [] })) := (lp_unfold ..).trans (by kernel_rfl)

/-- dynpos/dynposref13.Check, the loop of block 4 -/
theorem r29_4 (F : Fun) (l0 : List (List PV)) (x2 : List (List PV)) (i13 : Int) (x48 : List (List PV)) (x49 : Int) (x50 : Int) (x55 : List (List PV)) (x56 : Int) (x57 : Int) (b0_0 : Int) (b0_1 : Int) (b0_2 : Int) : lp E F 29 0 [] 4
  {
    vals :=
      [AV.sl 3 l0, AV.sl 1 x2, AV.int IntKind.i64 i13, AV.sl 3 x48,
        AV.int IntKind.i64 x49, AV.int IntKind.i64 x50, AV.sl 3 x55,
        AV.int IntKind.i64 x56, AV.int IntKind.i64 x57],
    blks :=
      [Blk.box
          [AV.int IntKind.i64 b0_0, AV.int IntKind.i64 b0_1, AV.int IntKind.i64 b0_2]] } =
  ctl (ltB x57 x56)
    (getE x55 x57 fun (c : List PV) =>
      ctl
        (okCs [Sh.int IntKind.i64, Sh.int IntKind.i64, Sh.int IntKind.i64] c)
        (bnd
          (ctl (i13 != x57)
            (getE x2 i13 fun (c : List PV) =>
              ctl (okCs [Sh.int IntKind.i64] c)
                (Option.some (ltB b0_0 (nth PV.nilp c 0).toInt)) Option.none)
            (Option.some Bool.false))
          fun (v : Bool) =>
          bnd
            (ctl v
              (getE x2 x57 fun (c_1 : List PV) =>
                ctl (okCs [Sh.int IntKind.i64] c_1)
                  (Option.some
                    (ltB (nth PV.nilp c_1 0).toInt
                      (nth PV.nilp c 1).toInt))
                  Option.none)
              (Option.some Bool.false))
            fun (v : Bool) =>
            bnd
              (ctl v
                (getE x2 x57 fun (c_1 : List PV) =>
                  ctl (okCs [Sh.int IntKind.i64] c_1)
                    (bnd
                      (F 37
                        [AV.agg
                            [PV.int IntKind.i64 (nth PV.nilp c 0).toInt,
                              PV.int IntKind.i64 (nth PV.nilp c 1).toInt,
                              PV.int IntKind.i64 (nth PV.nilp c 2).toInt],
                          AV.int IntKind.i64 (nth PV.nilp c_1 0).toInt]
                        [])
                      fun (r : Res) =>
                      ctl
                        (okR [RSh.one (Sh.int IntKind.i64)] r.fst && okB [] r.snd)
                        (getE x2 i13 fun (c : List PV) =>
                          ctl (okCs [Sh.int IntKind.i64] c)
                            (bnd
                              (F 37
                                [AV.agg
                                    [PV.int IntKind.i64 b0_0, PV.int IntKind.i64 b0_1, PV.int IntKind.i64 b0_2],
                                  AV.int IntKind.i64 (IntKind.i64.wrap ((nth PV.nilp c 0).toInt - 1))]
                                [])
                              fun (r_1 : Res) =>
                              ctl
                                (okR [RSh.one (Sh.int IntKind.i64)] r_1.fst && okB [] r_1.snd)
                                (Option.some
                                  (ltB (nth (RV.p PV.nilp) r.fst 0).toPV.toInt
                                    (nth (RV.p PV.nilp) r_1.fst 0).toPV.toInt))
                                Option.none)
                            Option.none)
                        Option.none)
                    Option.none)
                (Option.some Bool.false))
              fun (v : Bool) =>
              ctl v (Option.some (Ex.ret, { vals := [AV.bool Bool.false], blks := [] }))
                (lp E F 29 0 [] 4
                  {
                    vals :=
                      [AV.sl 3 l0, AV.sl 1 x2, AV.int IntKind.i64 i13, AV.sl 3 x48,
                        AV.int IntKind.i64 x49, AV.int IntKind.i64 x50, AV.sl 3 x55,
                        AV.int IntKind.i64 x56, AV.int IntKind.i64 (IntKind.i64.wrap (x57 + 1))],
                    blks :=
                      [Blk.box
                          [AV.int IntKind.i64 b0_0, AV.int IntKind.i64 b0_1, AV.int IntKind.i64 b0_2]] }))
        Option.none)
    (Option.some
      (Ex.exit 4,
        {
          vals :=
            [AV.sl 3 l0, AV.sl 1 x2, AV.sl 3 x48, AV.int IntKind.i64 x49,
              AV.int IntKind.i64 x50],
          blks := [] })) := (lp_unfold ..).trans (by kernel_rfl)

/-- dynpos/dynposref13.Check -/
theorem r29 (F : Fun) (l : List (List PV)) (total : Int) (x : List (List PV)) : funK E F 29 [AV.sl 3 l, AV.int IntKind.i64 total, AV.sl 1 x] [] =
  bnd (F 17 [AV.sl 3 l] []) fun (r : Res) =>
    ctl
      (okR
          [RSh.one (Sh.int IntKind.i64), RSh.one (Sh.int IntKind.i64),
            RSh.one (Sh.int IntKind.i64)]
          r.fst &&
        okB [] r.snd)
      (bnd
        (ctl (!(nth (RV.p PV.nilp) r.fst 2).toPV.toInt != 0)
          (bnd (F 38 [AV.sl 3 l, AV.sl 1 x] []) fun (r : Res) =>
            ctl (okR [RSh.one Sh.bool] r.fst && okB [] r.snd)
              (Option.some !(nth (RV.p PV.nilp) r.fst 0).toPV.toBool) Option.none)
          (Option.some Bool.true))
        fun (v : Bool) =>
        ctl v (Option.some ([RV.p (PV.bool Bool.false)], []))
          (bnd
            (lp E F 29 0 [] 0
              {
                vals :=
                  [AV.sl 3 l, AV.int IntKind.i64 total, AV.sl 1 x,
                    AV.int IntKind.i64 (nth (RV.p PV.nilp) r.fst 0).toPV.toInt,
                    AV.int IntKind.i64 (nth (RV.p PV.nilp) r.fst 1).toPV.toInt,
                    AV.int IntKind.i64 0, AV.sl 1 x, AV.int IntKind.i64 (↑x.length : Int),
                    AV.int IntKind.i64 0],
                blks := [] })
            fun (p : Ex × Pack) =>
            ctl (p.fst.eqb (Ex.exit 0))
              (ctl
                (okPack
                  {
                    slots :=
                      [(0, Sum.inl (Sh.sl 3)), (1, Sum.inl (Sh.int IntKind.i64)), (2, Sum.inl (Sh.sl 1)),
                        (7, Sum.inl (Sh.int IntKind.i64)), (8, Sum.inl (Sh.int IntKind.i64)),
                        (10, Sum.inl (Sh.int IntKind.i64))],
                    blks := [] }
                  p.snd)
                (ctl
                  ((nth AV.undef p.snd.vals 5).toPV.toInt !=
                    minI (nth AV.undef p.snd.vals 4).toPV.toInt
                      (maxI (nth AV.undef p.snd.vals 3).toPV.toInt
                        (nth AV.undef p.snd.vals 1).toPV.toInt))
                  (Option.some ([RV.p (PV.bool Bool.false)], []))
                  (bnd
                    (lp E F 29 0 [] 2
                      {
                        vals :=
                          [AV.sl 3 (nth AV.undef p.snd.vals 0).toPV.toEs,
                            AV.sl 1 (nth AV.undef p.snd.vals 2).toPV.toEs,
                            AV.sl 3 (nth AV.undef p.snd.vals 0).toPV.toEs,
                            AV.int IntKind.i64 (↑(nth AV.undef p.snd.vals 0).toPV.toEs.length : Int),
                            AV.int IntKind.i64 0],
                        blks := [] })
                    fun (p : Ex × Pack) =>
                    ctl (p.fst.eqb (Ex.exit 2)) (Option.some ([RV.p (PV.bool Bool.true)], []))
                      (ctl (p.fst.eqb Ex.ret)
                        (ctl (okPack { slots := [(6, Sum.inl Sh.bool)], blks := [] } p.snd)
                          (Option.some
                            ([RV.p (PV.bool (nth AV.undef p.snd.vals 0).toPV.toBool)], []))
                          Option.none)
                        Option.none)))
                Option.none)
              Option.none))
      Option.none := by kernel_rfl

/-- dynpos/arith.Clamp -/
theorem r30 (F : Fun) (x : Int) (low : Int) (high : Int) : funK E F 30 [AV.int IntKind.i64 x, AV.int IntKind.i64 low, AV.int IntKind.i64 high] [] =
  Option.some ([RV.p (PV.int IntKind.i64 (maxI (minI high x) low))], []) := by kernel_rfl

/-- dynpos/arith.Floor -/
theorem r31 (F : Fun) (n : Int) (d : Int) : funK E F 31 [AV.int IntKind.i64 n, AV.int IntKind.i64 d] [] =
  bnd (F 39 [AV.int IntKind.i64 n, AV.int IntKind.i64 d, AV.fn 40 []] [])
    fun (r : Res) =>
    ctl
      (okR
          [RSh.one (Sh.int IntKind.i64), RSh.one (Sh.int IntKind.i64)] r.fst &&
        okB [] r.snd)
      (Option.some
        ([RV.p
              (PV.int IntKind.i64 (nth (RV.p PV.nilp) r.fst 0).toPV.toInt),
            RV.p
              (PV.int IntKind.i64 (nth (RV.p PV.nilp) r.fst 1).toPV.toInt)],
          []))
      Option.none := by kernel_rfl

/-- dynpos/share.priced, the loop of block 0 -/
theorem r32_0 (F : Fun) (price1 : Int) (sum5 : Int) (x10 : List (List PV)) (x11 : Int) (x12 : Int) (c0 : List (List PV)) : lp E F 32 0 [] 0
  {
    vals :=
      [AV.int IntKind.i64 price1, AV.int IntKind.i64 sum5, AV.sl 3 x10,
        AV.int IntKind.i64 x11, AV.int IntKind.i64 x12],
    blks := [Blk.arr 1 c0] } =
  ctl (ltB x12 x11)
    (getE x10 x12 fun (c : List PV) =>
      ctl
        (okCs [Sh.int IntKind.i64, Sh.int IntKind.i64, Sh.int IntKind.i64] c)
        (bnd
          (F 31
            [AV.int IntKind.i64 (IntKind.i64.wrap (price1 + (nth PV.nilp c 2).toInt)),
              AV.int IntKind.i64 (IntKind.i64.wrap (2 * (nth PV.nilp c 2).toInt))]
            [])
          fun (r : Res) =>
          ctl
            (okR
                [RSh.one (Sh.int IntKind.i64), RSh.one (Sh.int IntKind.i64)] r.fst &&
              okB [] r.snd)
            (bnd
              (F 30
                [AV.int IntKind.i64 (nth (RV.p PV.nilp) r.fst 0).toPV.toInt,
                  AV.int IntKind.i64 (nth PV.nilp c 0).toInt,
                  AV.int IntKind.i64 (nth PV.nilp c 1).toInt]
                [])
              fun (r : Res) =>
              ctl
                (okR [RSh.one (Sh.int IntKind.i64)] r.fst && okB [] r.snd)
                (ctl (leN ((c0.length + 1) * 8) 140737488355328)
                  (lp E F 32 0 [] 0
                    {
                      vals :=
                        [AV.int IntKind.i64 price1,
                          AV.int IntKind.i64
                            (IntKind.i64.wrap (sum5 + (nth (RV.p PV.nilp) r.fst 0).toPV.toInt)),
                          AV.sl 3 x10, AV.int IntKind.i64 x11, AV.int IntKind.i64 (IntKind.i64.wrap (x12 + 1))],
                      blks :=
                        [Blk.arr 1
                            (c0 ++
                              [[PV.int IntKind.i64
                                    (nth (RV.p PV.nilp) r.fst 0).toPV.toInt]])] })
                  Option.none)
                Option.none)
            Option.none)
        Option.none)
    (Option.some (Ex.exit 0, { vals := [AV.int IntKind.i64 sum5], blks := [Blk.arr 1 c0] })) := (lp_unfold ..).trans (by kernel_rfl)

/-- dynpos/share.priced -/
theorem r32 (F : Fun) (l : List (List PV)) (price : Int) : funK E F 32 [AV.sl 3 l, AV.int IntKind.i64 price] [] =
  bnd
    (lp E F 32 0 [] 0
      {
        vals :=
          [AV.int IntKind.i64 price, AV.int IntKind.i64 0, AV.sl 3 l,
            AV.int IntKind.i64 (↑l.length : Int), AV.int IntKind.i64 0],
        blks := [Blk.arr 1 []] })
    fun (p : Ex × Pack) =>
    ctl (p.fst.eqb (Ex.exit 0))
      (ctl
        (okPack
          { slots := [(4, Sum.inr (Sum.inr (AV.t (TV.hsl 0)))), (5, Sum.inl (Sh.int IntKind.i64))], blks := [Sum.inr 1] }
          p.snd)
        (Option.some
          ([RV.own 1 (nth (Blk.box []) p.snd.blks 0).toEs,
              RV.p (PV.int IntKind.i64 (nth AV.undef p.snd.vals 0).toPV.toInt)],
            []))
        Option.none)
      Option.none := by kernel_rfl

/-- dynpos/share.next -/
theorem r33 (F : Fun) (s0 : Int) (s1 : Int) (s2 : Int) (x : Int) : funK E F 33 [AV.agg [PV.int IntKind.i64 s0, PV.int IntKind.i64 s1, PV.int IntKind.i64 s2],
  AV.int IntKind.i64 x] [] =
  Option.some ([RV.p (PV.int IntKind.i64 (IntKind.i64.wrap (s2 * IntKind.i64.wrap (IntKind.i64.wrap (2 * x) + 1))))], []) := by kernel_rfl

/-- dynpos/share.ranged, the loop of block 0 -/
theorem r34_0 (F : Fun) (x1 : List (List PV)) (x17 : List (List PV)) (x18 : Int) (x19 : Int) : lp E F 34 0 [] 0
  { vals := [AV.sl 1 x1, AV.sl 3 x17, AV.int IntKind.i64 x18, AV.int IntKind.i64 x19],
    blks := [] } =
  ctl (ltB x19 x18)
    (getE x17 x19 fun (c : List PV) =>
      ctl
        (okCs [Sh.int IntKind.i64, Sh.int IntKind.i64, Sh.int IntKind.i64] c)
        (getE x1 x19 fun (c_1 : List PV) =>
          ctl (okCs [Sh.int IntKind.i64] c_1)
            (bnd
              (ctl
                (!ltB (nth PV.nilp c_1 0).toInt
                    (nth PV.nilp c 0).toInt)
                (getE x1 x19 fun (c_2 : List PV) =>
                  ctl (okCs [Sh.int IntKind.i64] c_2)
                    (Option.some
                      (ltB (nth PV.nilp c 1).toInt
                        (nth PV.nilp c_2 0).toInt))
                    Option.none)
                (Option.some Bool.true))
              fun (v : Bool) =>
              ctl v (Option.some (Ex.ret, { vals := [AV.bool Bool.false], blks := [] }))
                (lp E F 34 0 [] 0
                  {
                    vals :=
                      [AV.sl 1 x1, AV.sl 3 x17, AV.int IntKind.i64 x18,
                        AV.int IntKind.i64 (IntKind.i64.wrap (x19 + 1))],
                    blks := [] }))
            Option.none)
        Option.none)
    (Option.some (Ex.exit 0, { vals := [], blks := [] })) := (lp_unfold ..).trans (by kernel_rfl)

/-- dynpos/share.ranged -/
theorem r34 (F : Fun) (l : List (List PV)) (x : List (List PV)) : funK E F 34 [AV.sl 3 l, AV.sl 1 x] [] =
  bnd (F 22 [AV.sl 3 l] []) fun (r : Res) =>
    ctl
      (okR [RSh.one (Sh.int IntKind.i64)] r.fst && okB [] r.snd)
      (bnd
        (ctl (!(nth (RV.p PV.nilp) r.fst 0).toPV.toInt != 0)
          (Option.some ((↑x.length : Int) != (↑l.length : Int))) (Option.some Bool.true))
        fun (v : Bool) =>
        ctl v (Option.some ([RV.p (PV.bool Bool.false)], []))
          (bnd
            (lp E F 34 0 [] 0
              {
                vals :=
                  [AV.sl 1 x, AV.sl 3 l, AV.int IntKind.i64 (↑l.length : Int),
                    AV.int IntKind.i64 0],
                blks := [] })
            fun (p : Ex × Pack) =>
            ctl (p.fst.eqb (Ex.exit 0)) (Option.some ([RV.p (PV.bool Bool.true)], []))
              (ctl (p.fst.eqb Ex.ret)
                (ctl (okPack { slots := [(4, Sum.inl Sh.bool)], blks := [] } p.snd)
                  (Option.some ([RV.p (PV.bool (nth AV.undef p.snd.vals 0).toPV.toBool)], []))
                  Option.none)
                Option.none)))
      Option.none := by kernel_rfl

/-- dynpos/dynposmake.Mod -/
theorem r35 (F : Fun) (x : Int) (n : Int) : funK E F 35 [AV.int IntKind.i64 x, AV.int IntKind.i64 n] [] =
  ctl (ltB n 1) (Option.some ([RV.p (PV.int IntKind.i64 0)], []))
    (ctl (Bool.true && neB n 0)
      (ctl (Bool.true && neB n 0)
        (Option.some ([RV.p (PV.int IntKind.i64 ((IntKind.i64.wrap (x.tmod n + n)).tmod n))], [])) Option.none)
      Option.none) := by kernel_rfl

/-- dynpos/share.last -/
theorem r36 (F : Fun) (s0 : Int) (s1 : Int) (s2 : Int) (x : Int) : funK E F 36 [AV.agg [PV.int IntKind.i64 s0, PV.int IntKind.i64 s1, PV.int IntKind.i64 s2],
  AV.int IntKind.i64 x] [] =
  Option.some ([RV.p (PV.int IntKind.i64 (IntKind.i64.wrap (s2 * IntKind.i64.wrap (IntKind.i64.wrap (2 * x) - 1))))], []) := by kernel_rfl

/-- dynpos/dynposref13.rise -/
theorem r37 (F : Fun) (s0 : Int) (s1 : Int) (s2 : Int) (x : Int) : funK E F 37 [AV.agg [PV.int IntKind.i64 s0, PV.int IntKind.i64 s1, PV.int IntKind.i64 s2],
  AV.int IntKind.i64 x] [] =
  Option.some ([RV.p (PV.int IntKind.i64 (IntKind.i64.wrap (s2 * IntKind.i64.wrap (IntKind.i64.wrap (2 * x) + 1))))], []) := by kernel_rfl

/-- dynpos/dynposref13.inside, the loop of block 0 -/
theorem r38_0 (F : Fun) (x1 : List (List PV)) (x12 : List (List PV)) (x13 : Int) (x14 : Int) : lp E F 38 0 [] 0
  { vals := [AV.sl 1 x1, AV.sl 3 x12, AV.int IntKind.i64 x13, AV.int IntKind.i64 x14],
    blks := [] } =
  ctl (ltB x14 x13)
    (getE x12 x14 fun (c : List PV) =>
      ctl
        (okCs [Sh.int IntKind.i64, Sh.int IntKind.i64, Sh.int IntKind.i64] c)
        (getE x1 x14 fun (c_1 : List PV) =>
          ctl (okCs [Sh.int IntKind.i64] c_1)
            (bnd
              (ctl
                (!ltB (nth PV.nilp c_1 0).toInt
                    (nth PV.nilp c 0).toInt)
                (getE x1 x14 fun (c_2 : List PV) =>
                  ctl (okCs [Sh.int IntKind.i64] c_2)
                    (Option.some
                      (ltB (nth PV.nilp c 1).toInt
                        (nth PV.nilp c_2 0).toInt))
                    Option.none)
                (Option.some Bool.true))
              fun (v : Bool) =>
              ctl v (Option.some (Ex.ret, { vals := [AV.bool Bool.false], blks := [] }))
                (lp E F 38 0 [] 0
                  {
                    vals :=
                      [AV.sl 1 x1, AV.sl 3 x12, AV.int IntKind.i64 x13,
                        AV.int IntKind.i64 (IntKind.i64.wrap (x14 + 1))],
                    blks := [] }))
            Option.none)
        Option.none)
    (Option.some (Ex.exit 0, { vals := [], blks := [] })) := (lp_unfold ..).trans (by kernel_rfl)

/-- dynpos/dynposref13.inside -/
theorem r38 (F : Fun) (l : List (List PV)) (x : List (List PV)) : funK E F 38 [AV.sl 3 l, AV.sl 1 x] [] =
  ctl ((↑x.length : Int) != (↑l.length : Int)) (Option.some ([RV.p (PV.bool Bool.false)], []))
    (bnd
      (lp E F 38 0 [] 0
        {
          vals :=
            [AV.sl 1 x, AV.sl 3 l, AV.int IntKind.i64 (↑l.length : Int),
              AV.int IntKind.i64 0],
          blks := [] })
      fun (p : Ex × Pack) =>
      ctl (p.fst.eqb (Ex.exit 0)) (Option.some ([RV.p (PV.bool Bool.true)], []))
        (ctl (p.fst.eqb Ex.ret)
          (ctl (okPack { slots := [(4, Sum.inl Sh.bool)], blks := [] } p.snd)
            (Option.some ([RV.p (PV.bool (nth AV.undef p.snd.vals 0).toPV.toBool)], []))
            Option.none)
          Option.none)) := by kernel_rfl

/-- dynpos/arith.divide -/
theorem r39a (F : Fun) (n : Int) (d : Int) : funK E F 39 [AV.int IntKind.i64 n, AV.int IntKind.i64 d, AV.fn 40 []] [] =
  bnd
    (ctl (!ltB n (-1000000000000000000)) (Option.some (ltB 1000000000000000000 n)) (Option.some Bool.true)) fun (v : Bool) =>
    bnd (ctl (!v) (Option.some (ltB d 1)) (Option.some Bool.true)) fun (v : Bool) =>
      bnd (ctl (!v) (Option.some (ltB 1000000000 d)) (Option.some Bool.true)) fun (v : Bool) =>
        ctl v
          (Option.some ([RV.p (PV.int IntKind.i64 0), RV.p (PV.int IntKind.i64 1)], []))
          (bnd (F 40 [AV.int IntKind.i64 n, AV.int IntKind.i64 d] []) fun (r : Res) =>
            ctl
              (okR [RSh.one (Sh.int IntKind.i64)] r.fst && okB [] r.snd)
              (Option.some
                ([RV.p
                      (PV.int IntKind.i64 (nth (RV.p PV.nilp) r.fst 0).toPV.toInt),
                    RV.p (PV.int IntKind.i64 0)],
                  []))
              Option.none) := by kernel_rfl

/-- dynpos/arith.floor -/
theorem r40 (F : Fun) (n : Int) (d : Int) : funK E F 40 [AV.int IntKind.i64 n, AV.int IntKind.i64 d] [] =
  ctl (Bool.true && neB d 0)
    (ctl (Bool.true && neB d 0)
      (ctl (ltB (n.tmod d) 0)
        (Option.some ([RV.p (PV.int IntKind.i64 (IntKind.i64.wrap (IntKind.i64.wrap (n.tdiv d) - 1)))], []))
        (Option.some ([RV.p (PV.int IntKind.i64 (IntKind.i64.wrap (n.tdiv d)))], [])))
      Option.none)
    Option.none := by kernel_rfl

end Go.Proofs.Ytbacfgghneknjaa.Vm
