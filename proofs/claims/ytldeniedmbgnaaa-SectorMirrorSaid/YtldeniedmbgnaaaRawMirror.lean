/- The raw theorems, by program: what each function and each loop comes to. -/
import Derived.Test.YtldeniedmbgnaaaEnv
import Derived.Test.YtldeniedmbgnaaaVm34
import Derived.KernelRfl
namespace Go.Proofs.Ytldeniedmbgnaaa.Vm
open Go
set_option maxRecDepth 100000
set_option linter.unusedVariables false

/-- dynpos/dynposlaw11.SectorMirror, the loop of block 0 -/
theorem r3_0 (F : Fun) (x24 : List (List PV)) (x25 : Int) (x26 : Int) (b0_0 : List (List PV)) (b0_1 : Int) (b1_0 : Int) (b1_1 : Int) (b1_2 : Int) (b1_3 : Int) (b1_4 : Int) (b1_5 : List (List PV)) (b2_0 : Int) (b2_1 : Int) (b2_2 : Int) (b2_3 : Int) (b2_4 : Int) (c3 : List (List PV)) : lp E F 3 0 [] 0
  { vals := [AV.sl 2 x24, AV.int IntKind.i64 x25, AV.int IntKind.i64 x26],
    blks :=
      [Blk.box [AV.sl 1 b0_0, AV.int IntKind.i64 b0_1],
        Blk.box
          [AV.int IntKind.i64 b1_0, AV.int IntKind.i64 b1_1, AV.int IntKind.i64 b1_2,
            AV.int IntKind.i64 b1_3, AV.int IntKind.i64 b1_4, AV.sl 2 b1_5],
        Blk.box
          [AV.int IntKind.i64 b2_0, AV.int IntKind.i64 b2_1, AV.int IntKind.i64 b2_2,
            AV.int IntKind.i64 b2_3, AV.int IntKind.i64 b2_4, AV.t (TV.hsl 3)],
        Blk.arr 2 c3] } =
  ctl (ltB x26 x25)
    (getE x24 x26 fun (c : List PV) =>
      ctl (okCs [Sh.int IntKind.i64, Sh.int IntKind.i64] c)
        (ctl (leN ((c3.length + 1) * 16) 140737488355328)
          (lp E F 3 0 [] 0
            { vals := [AV.sl 2 x24, AV.int IntKind.i64 x25, AV.int IntKind.i64 (IntKind.i64.wrap (x26 + 1))],
              blks :=
                [Blk.box [AV.sl 1 b0_0, AV.int IntKind.i64 b0_1],
                  Blk.box
                    [AV.int IntKind.i64 b1_0, AV.int IntKind.i64 b1_1, AV.int IntKind.i64 b1_2,
                      AV.int IntKind.i64 b1_3, AV.int IntKind.i64 b1_4, AV.sl 2 b1_5],
                  Blk.box
                    [AV.int IntKind.i64 b2_0, AV.int IntKind.i64 b2_1, AV.int IntKind.i64 b2_2,
                      AV.int IntKind.i64 b2_3, AV.int IntKind.i64 b2_4, AV.t (TV.hsl 3)],
                  Blk.arr 2
                    (c3 ++
                      [[PV.int IntKind.i64 ((IntKind.i64.wrap (3600 - (nth PV.nilp c 1).toInt)).tmod 3600),
                          PV.int IntKind.i64 ((IntKind.i64.wrap (3600 - (nth PV.nilp c 0).toInt)).tmod 3600)]])] })
          Option.none)
        Option.none)
    (Option.some
      (Ex.exit 0,
        { vals := [],
          blks :=
            [Blk.box [AV.sl 1 b0_0, AV.int IntKind.i64 b0_1],
              Blk.box
                [AV.int IntKind.i64 b1_0, AV.int IntKind.i64 b1_1, AV.int IntKind.i64 b1_2,
                  AV.int IntKind.i64 b1_3, AV.int IntKind.i64 b1_4, AV.sl 2 b1_5],
              Blk.box
                [AV.int IntKind.i64 b2_0, AV.int IntKind.i64 b2_1, AV.int IntKind.i64 b2_2,
                  AV.int IntKind.i64 b2_3, AV.int IntKind.i64 b2_4, AV.t (TV.hsl 3)],
              Blk.arr 2 c3] })) := (lp_unfold ..).trans (by kernel_rfl)

/-- dynpos/dynposlaw11.SectorMirror -/
theorem r3 (F : Fun) (t : List (List PV)) : funK E F 3 [AV.sl 1 t] [] =
  bnd (F 8 [AV.sl 1 t] []) fun (r : Res) =>
    ctl
      (okR [RSh.ownp [Sh.sl 1, Sh.int IntKind.i64]] r.fst &&
        okB [] r.snd)
      (bnd
        (F 9 [AV.t (TV.ptr 0 0)]
          [Blk.box
              [AV.sl 1
                  (nth PV.nilp (nth (RV.p PV.nilp) r.fst 0).toCs
                      0).toEs,
                AV.int IntKind.i64
                  (nth PV.nilp (nth (RV.p PV.nilp) r.fst 0).toCs
                      1).toInt]])
        fun (r : Res) =>
        ctl
          (okR
              [RSh.agg
                  [Sh.int IntKind.i64, Sh.int IntKind.i64, Sh.int IntKind.i64,
                    Sh.int IntKind.i64, Sh.int IntKind.i64, Sh.sl 2]]
              r.fst &&
            okB [Sum.inl [Sh.sl 1, Sh.int IntKind.i64]] r.snd)
          (bnd
            (lp E F 3 0 [] 0
              {
                vals :=
                  [AV.sl 2
                      (nth PV.nilp
                          (nth (RV.p PV.nilp) r.fst 0).toCs 5).toEs,
                    AV.int IntKind.i64
                      (↑(nth PV.nilp
                                (nth (RV.p PV.nilp) r.fst 0).toCs 5).toEs.length :
                        Int),
                    AV.int IntKind.i64 0],
                blks :=
                  [Blk.box
                      [AV.sl 1
                          (nth PV.nilp
                              (List.map AV.toPV (nth (Blk.box []) r.snd 0).toCs) 0).toEs,
                        AV.int IntKind.i64
                          (nth PV.nilp
                              (List.map AV.toPV (nth (Blk.box []) r.snd 0).toCs) 1).toInt],
                    Blk.box
                      [AV.int IntKind.i64
                          (nth PV.nilp
                              (nth (RV.p PV.nilp) r.fst 0).toCs 0).toInt,
                        AV.int IntKind.i64
                          (nth PV.nilp
                              (nth (RV.p PV.nilp) r.fst 0).toCs 1).toInt,
                        AV.int IntKind.i64
                          (nth PV.nilp
                              (nth (RV.p PV.nilp) r.fst 0).toCs 2).toInt,
                        AV.int IntKind.i64
                          (nth PV.nilp
                              (nth (RV.p PV.nilp) r.fst 0).toCs 3).toInt,
                        AV.int IntKind.i64
                          (nth PV.nilp
                              (nth (RV.p PV.nilp) r.fst 0).toCs 4).toInt,
                        AV.sl 2
                          (nth PV.nilp
                              (nth (RV.p PV.nilp) r.fst 0).toCs 5).toEs],
                    Blk.box
                      [AV.int IntKind.i64
                          (nth PV.nilp
                              (nth (RV.p PV.nilp) r.fst 0).toCs 0).toInt,
                        AV.int IntKind.i64
                          (nth PV.nilp
                              (nth (RV.p PV.nilp) r.fst 0).toCs 1).toInt,
                        AV.int IntKind.i64
                          (nth PV.nilp
                              (nth (RV.p PV.nilp) r.fst 0).toCs 2).toInt,
                        AV.int IntKind.i64
                          (nth PV.nilp
                              (nth (RV.p PV.nilp) r.fst 0).toCs 3).toInt,
                        AV.int IntKind.i64
                          (nth PV.nilp
                              (nth (RV.p PV.nilp) r.fst 0).toCs 4).toInt,
                        AV.t (TV.hsl 3)],
                    Blk.arr 2 []] })
            fun (p : Ex × Pack) =>
            ctl (p.fst.eqb (Ex.exit 0))
              (ctl
                (okPack
                  {
                    slots :=
                      [(3, Sum.inr (Sum.inr (AV.t (TV.ptr 0 0)))),
                        (4, Sum.inr (Sum.inr (AV.t (TV.ptr 1 0)))),
                        (5, Sum.inr (Sum.inr (AV.t (TV.ptr 2 0))))],
                    blks :=
                      [Sum.inl [Sum.inl (Sh.sl 1), Sum.inl (Sh.int IntKind.i64)],
                        Sum.inl
                          [Sum.inl (Sh.int IntKind.i64), Sum.inl (Sh.int IntKind.i64), Sum.inl (Sh.int IntKind.i64),
                            Sum.inl (Sh.int IntKind.i64), Sum.inl (Sh.int IntKind.i64), Sum.inl (Sh.sl 2)],
                        Sum.inl
                          [Sum.inl (Sh.int IntKind.i64), Sum.inl (Sh.int IntKind.i64), Sum.inl (Sh.int IntKind.i64),
                            Sum.inl (Sh.int IntKind.i64), Sum.inl (Sh.int IntKind.i64),
                            Sum.inr (AV.t (TV.hsl 3))],
                        Sum.inr 2] }
                  p.snd)
                (bnd
                  (F 10
                    [AV.agg
                        [PV.int IntKind.i64
                            (nth AV.undef (nth (Blk.box []) p.snd.blks 1).toCs 0).toPV.toInt,
                          PV.int IntKind.i64
                            (nth AV.undef (nth (Blk.box []) p.snd.blks 1).toCs 1).toPV.toInt,
                          PV.int IntKind.i64
                            (nth AV.undef (nth (Blk.box []) p.snd.blks 1).toCs 2).toPV.toInt,
                          PV.int IntKind.i64
                            (nth AV.undef (nth (Blk.box []) p.snd.blks 1).toCs 3).toPV.toInt,
                          PV.int IntKind.i64
                            (nth AV.undef (nth (Blk.box []) p.snd.blks 1).toCs 4).toPV.toInt,
                          PV.sl 2
                            (nth AV.undef (nth (Blk.box []) p.snd.blks 1).toCs 5).toPV.toEs]]
                    [])
                  fun (r : Res) =>
                  ctl
                    (okR
                        [RSh.one (Sh.int IntKind.i64), RSh.one (Sh.int IntKind.i64)]
                        r.fst &&
                      okB [] r.snd)
                    (bnd
                      (F 10
                        [AV.agg
                            [PV.int IntKind.i64
                                (nth AV.undef (nth (Blk.box []) p.snd.blks 2).toCs 0).toPV.toInt,
                              PV.int IntKind.i64
                                (nth AV.undef (nth (Blk.box []) p.snd.blks 2).toCs 1).toPV.toInt,
                              PV.int IntKind.i64
                                (nth AV.undef (nth (Blk.box []) p.snd.blks 2).toCs 2).toPV.toInt,
                              PV.int IntKind.i64
                                (nth AV.undef (nth (Blk.box []) p.snd.blks 2).toCs 3).toPV.toInt,
                              PV.int IntKind.i64
                                (nth AV.undef (nth (Blk.box []) p.snd.blks 2).toCs 4).toPV.toInt,
                              PV.sl 2 (nth (Blk.box []) p.snd.blks 3).toEs]]
                        [])
                      fun (r_1 : Res) =>
                      ctl
                        (okR
                            [RSh.one (Sh.int IntKind.i64), RSh.one (Sh.int IntKind.i64)]
                            r_1.fst &&
                          okB [] r_1.snd)
                        (bnd
                          (ctl
                            (!(nth (RV.p PV.nilp) r_1.fst 0).toPV.toInt !=
                                IntKind.i64.wrap (0 - (nth (RV.p PV.nilp) r.fst 1).toPV.toInt))
                            (Option.some
                              ((nth (RV.p PV.nilp) r_1.fst 1).toPV.toInt !=
                                IntKind.i64.wrap (0 - (nth (RV.p PV.nilp) r.fst 0).toPV.toInt)))
                            (Option.some Bool.true))
                          fun (v : Bool) =>
                          ctl v (Option.some ([RV.p (PV.bool Bool.false)], []))
                            (bnd
                              (F 11
                                [AV.t (TV.ptr 0 0),
                                  AV.int IntKind.i64 (nth (RV.p PV.nilp) r.fst 0).toPV.toInt,
                                  AV.int IntKind.i64 (nth (RV.p PV.nilp) r.fst 1).toPV.toInt]
                                [Blk.box
                                    [AV.sl 1
                                        (nth AV.undef (nth (Blk.box []) p.snd.blks 0).toCs
                                              0).toPV.toEs,
                                      AV.int IntKind.i64
                                        (nth AV.undef (nth (Blk.box []) p.snd.blks 0).toCs
                                              1).toPV.toInt]])
                              fun (r : Res) =>
                              ctl
                                (okR [RSh.one (Sh.int IntKind.i64)] r.fst &&
                                  okB [Sum.inl [Sh.sl 1, Sh.int IntKind.i64]] r.snd)
                                (bnd
                                  (F 12
                                    [AV.agg
                                        [PV.int IntKind.i64
                                            (nth AV.undef (nth (Blk.box []) p.snd.blks 1).toCs
                                                  0).toPV.toInt,
                                          PV.int IntKind.i64
                                            (nth AV.undef (nth (Blk.box []) p.snd.blks 1).toCs
                                                  1).toPV.toInt,
                                          PV.int IntKind.i64
                                            (nth AV.undef (nth (Blk.box []) p.snd.blks 1).toCs
                                                  2).toPV.toInt,
                                          PV.int IntKind.i64
                                            (nth AV.undef (nth (Blk.box []) p.snd.blks 1).toCs
                                                  3).toPV.toInt,
                                          PV.int IntKind.i64
                                            (nth AV.undef (nth (Blk.box []) p.snd.blks 1).toCs
                                                  4).toPV.toInt,
                                          PV.sl 2
                                            (nth AV.undef (nth (Blk.box []) p.snd.blks 1).toCs
                                                  5).toPV.toEs],
                                      AV.int IntKind.i64
                                        (nth (RV.p PV.nilp) r.fst 0).toPV.toInt]
                                    [])
                                  fun (r_2 : Res) =>
                                  ctl
                                    (okR
                                        [RSh.one (Sh.int IntKind.i64),
                                          RSh.one (Sh.int IntKind.i64)]
                                        r_2.fst &&
                                      okB [] r_2.snd)
                                    (bnd
                                      (F 12
                                        [AV.agg
                                            [PV.int IntKind.i64
                                                (nth AV.undef (nth (Blk.box []) p.snd.blks 2).toCs
                                                      0).toPV.toInt,
                                              PV.int IntKind.i64
                                                (nth AV.undef (nth (Blk.box []) p.snd.blks 2).toCs
                                                      1).toPV.toInt,
                                              PV.int IntKind.i64
                                                (nth AV.undef (nth (Blk.box []) p.snd.blks 2).toCs
                                                      2).toPV.toInt,
                                              PV.int IntKind.i64
                                                (nth AV.undef (nth (Blk.box []) p.snd.blks 2).toCs
                                                      3).toPV.toInt,
                                              PV.int IntKind.i64
                                                (nth AV.undef (nth (Blk.box []) p.snd.blks 2).toCs
                                                      4).toPV.toInt,
                                              PV.sl 2 (nth (Blk.box []) p.snd.blks 3).toEs],
                                          AV.int IntKind.i64
                                            (IntKind.i64.wrap (0 - (nth (RV.p PV.nilp) r.fst 0).toPV.toInt))]
                                        [])
                                      fun (r : Res) =>
                                      ctl
                                        (okR
                                            [RSh.one (Sh.int IntKind.i64),
                                              RSh.one (Sh.int IntKind.i64)]
                                            r.fst &&
                                          okB [] r.snd)
                                        (bnd
                                          (ctl
                                            ((nth (RV.p PV.nilp) r_2.fst 0).toPV.toInt ==
                                              (nth (RV.p PV.nilp) r.fst 0).toPV.toInt)
                                            (Option.some
                                              ((nth (RV.p PV.nilp) r_2.fst 1).toPV.toInt ==
                                                (nth (RV.p PV.nilp) r.fst 1).toPV.toInt))
                                            (Option.some Bool.false))
                                          fun (v : Bool) =>
                                          bnd
                                            (ctl v
                                              (bnd
                                                (F 13
                                                  [AV.agg
                                                      [PV.int IntKind.i64
                                                          (nth AV.undef
                                                                (nth (Blk.box []) p.snd.blks 2).toCs 0).toPV.toInt,
                                                        PV.int IntKind.i64
                                                          (nth AV.undef
                                                                (nth (Blk.box []) p.snd.blks 2).toCs 1).toPV.toInt,
                                                        PV.int IntKind.i64
                                                          (nth AV.undef
                                                                (nth (Blk.box []) p.snd.blks 2).toCs 2).toPV.toInt,
                                                        PV.int IntKind.i64
                                                          (nth AV.undef
                                                                (nth (Blk.box []) p.snd.blks 2).toCs 3).toPV.toInt,
                                                        PV.int IntKind.i64
                                                          (nth AV.undef
                                                                (nth (Blk.box []) p.snd.blks 2).toCs 4).toPV.toInt,
                                                        PV.sl 2 (nth (Blk.box []) p.snd.blks 3).toEs]]
                                                  [])
                                                fun (r : Res) =>
                                                ctl
                                                  (okR [RSh.one Sh.bool] r.fst && okB [] r.snd)
                                                  (Option.some (nth (RV.p PV.nilp) r.fst 0).toPV.toBool) Option.none)
                                              (Option.some Bool.false))
                                            fun (v : Bool) =>
                                            bnd
                                              (ctl v
                                                (bnd (F 14 [] []) fun (r : Res) =>
                                                  ctl
                                                    (okR [RSh.one Sh.bool] r.fst && okB [] r.snd)
                                                    (Option.some (nth (RV.p PV.nilp) r.fst 0).toPV.toBool) Option.none)
                                                (Option.some Bool.false))
                                              fun (v : Bool) => Option.some ([RV.p (PV.bool v)], []))
                                        Option.none)
                                    Option.none)
                                Option.none))
                        Option.none)
                    Option.none)
                Option.none)
              Option.none)
          Option.none)
      Option.none := by kernel_rfl

end Go.Proofs.Ytldeniedmbgnaaa.Vm
