/- The raw theorems, by program: what each function and each loop comes to. -/
import Derived.Test.YtbacfgghneknjaaEnv
import Derived.Test.YtbacfgghneknjaaVm34
import Derived.KernelRfl
namespace Go.Proofs.Ytbacfgghneknjaa.Vm
open Go
set_option maxRecDepth 100000
set_option linter.unusedVariables false

/-- dynpos/dynposlaw13.SharePrice, the loop of block 0 -/
theorem r6_0 (F : Fun) (total8 : Int) (n21 : Int) (i23 : Int) (b0_0 : List (List PV)) (b0_1 : Int) (c1 : List (List PV)) : lp E F 6 0 [] 0
  { vals := [AV.int IntKind.i64 total8, AV.int IntKind.i64 n21, AV.int IntKind.i64 i23],
    blks := [Blk.box [AV.sl 1 b0_0, AV.int IntKind.i64 b0_1], Blk.arr 3 c1] } =
  ctl (ltB i23 n21)
    (bnd
      (F 21 [AV.t (TV.ptr 0 0), AV.sl 1 [[PV.int IntKind.i64 4]]]
        [Blk.box [AV.sl 1 b0_0, AV.int IntKind.i64 b0_1]])
      fun (r : Res) =>
      ctl
        (okR [RSh.one (Sh.int IntKind.i64)] r.fst &&
          okB [Sum.inl [Sh.sl 1, Sh.int IntKind.i64]] r.snd)
        (ctl (leN ((c1.length + 1) * 24) 140737488355328)
          (lp E F 6 0 [] 0
            {
              vals :=
                [AV.int IntKind.i64 total8, AV.int IntKind.i64 n21, AV.int IntKind.i64 (IntKind.i64.wrap (i23 + 1))],
              blks :=
                [Blk.box
                    [AV.sl 1
                        (nth PV.nilp
                            (List.map AV.toPV (nth (Blk.box []) r.snd 0).toCs) 0).toEs,
                      AV.int IntKind.i64
                        (nth PV.nilp
                            (List.map AV.toPV (nth (Blk.box []) r.snd 0).toCs) 1).toInt],
                  Blk.arr 3
                    (c1 ++
                      [[PV.int IntKind.i64 (-9), PV.int IntKind.i64 20,
                          PV.int IntKind.i64 (nth (RV.p PV.nilp) r.fst 0).toPV.toInt]])] })
          Option.none)
        Option.none)
    (Option.some
      (Ex.exit 0,
        { vals := [AV.int IntKind.i64 total8, AV.int IntKind.i64 n21], blks := [Blk.arr 3 c1] })) := (lp_unfold ..).trans (by kernel_rfl)

/-- dynpos/dynposlaw13.SharePrice, the loop of block 2 -/
theorem r6_2 (F : Fun) (n21 : Int) (z24 : List (List PV)) (m25 : Int) (x133 : List (List PV)) (x134 : Int) (x135 : Int) : lp E F 6 0 [] 2
  {
    vals :=
      [AV.int IntKind.i64 n21, AV.sl 1 z24, AV.int IntKind.i64 m25, AV.sl 1 x133,
        AV.int IntKind.i64 x134, AV.int IntKind.i64 x135],
    blks := [] } =
  ctl (ltB x135 x134)
    (getE x133 x135 fun (c : List PV) =>
      ctl (okCs [Sh.int IntKind.i64] c)
        (getE z24 (IntKind.i64.wrap (n21 - 1)) fun (c_1 : List PV) =>
          ctl (okCs [Sh.int IntKind.i64] c_1)
            (bnd
              (ctl
                (!ltB 1
                    (IntKind.i64.wrap ((nth PV.nilp c 0).toInt - (nth PV.nilp c_1 0).toInt)))
                (getE z24 (IntKind.i64.wrap (n21 - 1)) fun (c_2 : List PV) =>
                  ctl (okCs [Sh.int IntKind.i64] c_2)
                    (Option.some
                      (ltB (nth PV.nilp c 0).toInt
                        (nth PV.nilp c_2 0).toInt))
                    Option.none)
                (Option.some Bool.true))
              fun (v : Bool) =>
              ctl v (Option.some (Ex.ret, { vals := [AV.bool Bool.false], blks := [] }))
                (lp E F 6 0 [] 2
                  {
                    vals :=
                      [AV.int IntKind.i64 n21, AV.sl 1 z24, AV.int IntKind.i64 m25,
                        AV.sl 1 x133, AV.int IntKind.i64 x134, AV.int IntKind.i64 (IntKind.i64.wrap (x135 + 1))],
                    blks := [] }))
            Option.none)
        Option.none)
    (Option.some (Ex.exit 2, { vals := [AV.sl 1 z24, AV.int IntKind.i64 m25], blks := [] })) := (lp_unfold ..).trans (by kernel_rfl)

/-- dynpos/dynposlaw13.SharePrice -/
theorem r6 (F : Fun) (t : List (List PV)) : funK E F 6 [AV.sl 1 t] [] =
  bnd (F 9 [AV.sl 1 t] []) fun (r : Res) =>
    ctl
      (okR [RSh.ownp [Sh.sl 1, Sh.int IntKind.i64]] r.fst &&
        okB [] r.snd)
      (bnd
        (F 10 [AV.t (TV.ptr 0 0), AV.int IntKind.i64 5]
          [Blk.box
              [AV.sl 1
                  (nth PV.nilp (nth (RV.p PV.nilp) r.fst 0).toCs
                      0).toEs,
                AV.int IntKind.i64
                  (nth PV.nilp (nth (RV.p PV.nilp) r.fst 0).toCs
                      1).toInt]])
        fun (r : Res) =>
        ctl
          (okR [RSh.one (Sh.sl 3)] r.fst &&
            okB [Sum.inl [Sh.sl 1, Sh.int IntKind.i64]] r.snd)
          (bnd
            (F 17 [AV.sl 3 (nth (RV.p PV.nilp) r.fst 0).toPV.toEs] [])
            fun (r_1 : Res) =>
            ctl
              (okR
                  [RSh.one (Sh.int IntKind.i64), RSh.one (Sh.int IntKind.i64),
                    RSh.one (Sh.int IntKind.i64)]
                  r_1.fst &&
                okB [] r_1.snd)
              (bnd
                (F 12
                  [AV.t (TV.ptr 0 0),
                    AV.int IntKind.i64 (nth (RV.p PV.nilp) r_1.fst 0).toPV.toInt,
                    AV.int IntKind.i64 (nth (RV.p PV.nilp) r_1.fst 1).toPV.toInt]
                  [Blk.box
                      [AV.sl 1
                          (nth PV.nilp
                              (List.map AV.toPV (nth (Blk.box []) r.snd 0).toCs) 0).toEs,
                        AV.int IntKind.i64
                          (nth PV.nilp
                              (List.map AV.toPV (nth (Blk.box []) r.snd 0).toCs) 1).toInt]])
                fun (r_2 : Res) =>
                ctl
                  (okR [RSh.one (Sh.int IntKind.i64)] r_2.fst &&
                    okB [Sum.inl [Sh.sl 1, Sh.int IntKind.i64]] r_2.snd)
                  (bnd
                    (F 13
                      [AV.sl 3 (nth (RV.p PV.nilp) r.fst 0).toPV.toEs,
                        AV.int IntKind.i64 (nth (RV.p PV.nilp) r_2.fst 0).toPV.toInt]
                      [])
                    fun (r_3 : Res) =>
                    ctl
                      (okR
                          [RSh.one (Sh.sl 1), RSh.one (Sh.int IntKind.i64),
                            RSh.one (Sh.int IntKind.i64)]
                          r_3.fst &&
                        okB [] r_3.snd)
                      (bnd
                        (F 13
                          [AV.sl 3 (nth (RV.p PV.nilp) r.fst 0).toPV.toEs,
                            AV.int IntKind.i64
                              (minI (nth (RV.p PV.nilp) r_1.fst 1).toPV.toInt
                                (IntKind.i64.wrap ((nth (RV.p PV.nilp) r_2.fst 0).toPV.toInt + 3)))]
                          [])
                        fun (r_4 : Res) =>
                        ctl
                          (okR
                              [RSh.one (Sh.sl 1), RSh.one (Sh.int IntKind.i64),
                                RSh.one (Sh.int IntKind.i64)]
                              r_4.fst &&
                            okB [] r_4.snd)
                          (bnd
                            (F 20
                              [AV.sl 3 (nth (RV.p PV.nilp) r.fst 0).toPV.toEs,
                                AV.sl 1 (nth (RV.p PV.nilp) r_3.fst 0).toPV.toEs]
                              [])
                            fun (r_5 : Res) =>
                            ctl
                              (okR
                                  [RSh.one (Sh.int IntKind.i64),
                                    RSh.one (Sh.int IntKind.i64), RSh.one Sh.bool]
                                  r_5.fst &&
                                okB [] r_5.snd)
                              (bnd
                                (F 20
                                  [AV.sl 3 (nth (RV.p PV.nilp) r.fst 0).toPV.toEs,
                                    AV.sl 1 (nth (RV.p PV.nilp) r_4.fst 0).toPV.toEs]
                                  [])
                                fun (r : Res) =>
                                ctl
                                  (okR
                                      [RSh.one (Sh.int IntKind.i64),
                                        RSh.one (Sh.int IntKind.i64), RSh.one Sh.bool]
                                      r.fst &&
                                    okB [] r.snd)
                                  (bnd
                                    (ctl (!(nth (RV.p PV.nilp) r_3.fst 2).toPV.toInt != 0)
                                      (Option.some ((nth (RV.p PV.nilp) r_4.fst 2).toPV.toInt != 0)) (Option.some Bool.true))
                                    fun (v : Bool) =>
                                    bnd
                                      (ctl (!v)
                                        (ctl (nth (RV.p PV.nilp) r_5.fst 2).toPV.toBool
                                          (Option.some
                                            (ltB (nth (RV.p PV.nilp) r_5.fst 1).toPV.toInt
                                              (nth (RV.p PV.nilp) r_5.fst 0).toPV.toInt))
                                          (Option.some Bool.false))
                                        (Option.some Bool.true))
                                      fun (v : Bool) =>
                                      bnd
                                        (ctl (!v)
                                          (ctl (nth (RV.p PV.nilp) r_5.fst 2).toPV.toBool
                                            (ctl (nth (RV.p PV.nilp) r.fst 2).toPV.toBool
                                              (ctl
                                                (!ltB (nth (RV.p PV.nilp) r.fst 0).toPV.toInt
                                                    (nth (RV.p PV.nilp) r_5.fst 0).toPV.toInt)
                                                (Option.some
                                                  (ltB (nth (RV.p PV.nilp) r.fst 1).toPV.toInt
                                                    (nth (RV.p PV.nilp) r_5.fst 1).toPV.toInt))
                                                (Option.some Bool.true))
                                              (Option.some Bool.false))
                                            (Option.some Bool.false))
                                          (Option.some Bool.true))
                                        fun (v : Bool) =>
                                        ctl v (Option.some ([RV.p (PV.bool Bool.false)], []))
                                          (bnd
                                            (F 12
                                              [AV.t (TV.ptr 0 0), AV.int IntKind.i64 1,
                                                AV.int IntKind.i64 6]
                                              [Blk.box
                                                  [AV.sl 1
                                                      (nth PV.nilp
                                                          (List.map AV.toPV (nth (Blk.box []) r_2.snd 0).toCs) 0).toEs,
                                                    AV.int IntKind.i64
                                                      (nth PV.nilp
                                                          (List.map AV.toPV (nth (Blk.box []) r_2.snd 0).toCs) 1).toInt]])
                                            fun (r : Res) =>
                                            ctl
                                              (okR [RSh.one (Sh.int IntKind.i64)] r.fst &&
                                                okB [Sum.inl [Sh.sl 1, Sh.int IntKind.i64]] r.snd)
                                              (bnd
                                                (lp E F 6 0 [] 0
                                                  {
                                                    vals :=
                                                      [AV.int IntKind.i64
                                                          (nth (RV.p PV.nilp) r_2.fst 0).toPV.toInt,
                                                        AV.int IntKind.i64
                                                          (nth (RV.p PV.nilp) r.fst 0).toPV.toInt,
                                                        AV.int IntKind.i64 0],
                                                    blks :=
                                                      [Blk.box
                                                          [AV.sl 1
                                                              (nth PV.nilp
                                                                  (List.map AV.toPV (nth (Blk.box []) r.snd 0).toCs) 0).toEs,
                                                            AV.int IntKind.i64
                                                              (nth PV.nilp
                                                                  (List.map AV.toPV (nth (Blk.box []) r.snd 0).toCs) 1).toInt],
                                                        Blk.arr 3 []] })
                                                fun (p : Ex × Pack) =>
                                                ctl (p.fst.eqb (Ex.exit 0))
                                                  (ctl
                                                    (okPack
                                                      {
                                                        slots :=
                                                          [(8, Sum.inl (Sh.int IntKind.i64)), (21, Sum.inl (Sh.int IntKind.i64)),
                                                            (22, Sum.inr (Sum.inr (AV.t (TV.hsl 0))))],
                                                        blks := [Sum.inr 3] }
                                                      p.snd)
                                                    (bnd
                                                      (F 13
                                                        [AV.sl 3 (nth (Blk.box []) p.snd.blks 0).toEs,
                                                          AV.int IntKind.i64 (nth AV.undef p.snd.vals 0).toPV.toInt]
                                                        [])
                                                      fun (r : Res) =>
                                                      ctl
                                                        (okR
                                                            [RSh.one (Sh.sl 1),
                                                              RSh.one (Sh.int IntKind.i64),
                                                              RSh.one (Sh.int IntKind.i64)]
                                                            r.fst &&
                                                          okB [] r.snd)
                                                        (bnd
                                                          (ctl
                                                            (!(nth (RV.p PV.nilp) r.fst 2).toPV.toInt != 0)
                                                            (Option.some
                                                              ((↑(nth (RV.p PV.nilp) r.fst 0).toPV.toEs.length : Int) !=
                                                                (nth AV.undef p.snd.vals 1).toPV.toInt))
                                                            (Option.some Bool.true))
                                                          fun (v : Bool) =>
                                                          ctl v (Option.some ([RV.p (PV.bool Bool.false)], []))
                                                            (bnd
                                                              (lp E F 6 0 [] 2
                                                                {
                                                                  vals :=
                                                                    [AV.int IntKind.i64
                                                                        (nth AV.undef p.snd.vals 1).toPV.toInt,
                                                                      AV.sl 1
                                                                        (nth (RV.p PV.nilp) r.fst 0).toPV.toEs,
                                                                      AV.int IntKind.i64
                                                                        (nth (RV.p PV.nilp) r.fst 1).toPV.toInt,
                                                                      AV.sl 1
                                                                        (nth (RV.p PV.nilp) r.fst 0).toPV.toEs,
                                                                      AV.int IntKind.i64
                                                                        (↑(nth (RV.p PV.nilp) r.fst 0).toPV.toEs.length : Int),
                                                                      AV.int IntKind.i64 0],
                                                                  blks := [] })
                                                              fun (p : Ex × Pack) =>
                                                              ctl (p.fst.eqb (Ex.exit 2))
                                                                (ctl
                                                                  (okPack
                                                                    { slots := [(24, Sum.inl (Sh.sl 1)), (25, Sum.inl (Sh.int IntKind.i64))], blks := [] }
                                                                    p.snd)
                                                                  (bnd
                                                                    (ctl (!(nth AV.undef p.snd.vals 1).toPV.toInt == 0)
                                                                      (getE (nth AV.undef p.snd.vals 0).toPV.toEs 0
                                                                        fun (c : List PV) =>
                                                                        ctl (okCs [Sh.int IntKind.i64] c)
                                                                          (Option.some ((nth PV.nilp c 0).toInt == -9)) Option.none)
                                                                      (Option.some Bool.true))
                                                                    fun (v : Bool) =>
                                                                    bnd
                                                                      (ctl (!v)
                                                                        (getE (nth AV.undef p.snd.vals 0).toPV.toEs 0
                                                                          fun (c : List PV) =>
                                                                          ctl (okCs [Sh.int IntKind.i64] c)
                                                                            (Option.some ((nth PV.nilp c 0).toInt == 20)) Option.none)
                                                                        (Option.some Bool.true))
                                                                      fun (v : Bool) =>
                                                                      bnd
                                                                        (ctl v
                                                                          (bnd (F 14 [] []) fun (r : Res) =>
                                                                            ctl
                                                                              (okR [RSh.one Sh.bool] r.fst &&
                                                                                okB [] r.snd)
                                                                              (Option.some
                                                                                (nth (RV.p PV.nilp) r.fst 0).toPV.toBool)
                                                                              Option.none)
                                                                          (Option.some Bool.false))
                                                                        fun (v : Bool) => Option.some ([RV.p (PV.bool v)], []))
                                                                  Option.none)
                                                                (ctl (p.fst.eqb Ex.ret)
                                                                  (ctl
                                                                    (okPack { slots := [(2, Sum.inl Sh.bool)], blks := [] } p.snd)
                                                                    (Option.some
                                                                      ([RV.p
                                                                            (PV.bool (nth AV.undef p.snd.vals 0).toPV.toBool)],
                                                                        []))
                                                                    Option.none)
                                                                  Option.none)))
                                                        Option.none)
                                                    Option.none)
                                                  Option.none)
                                              Option.none))
                                  Option.none)
                              Option.none)
                          Option.none)
                      Option.none)
                  Option.none)
              Option.none)
          Option.none)
      Option.none := by kernel_rfl

end Go.Proofs.Ytbacfgghneknjaa.Vm
