/- The raw theorems, by program: what each function and each loop comes to. -/
import Derived.Test.YtgdeaamklodkkaaDoorEnv
import Derived.Test.YtgdeaamklodkkaaDoorVm34
import Derived.KernelRfl
namespace Go.Proofs.YtgdeaamklodkkaaDoor.Vm
open Go
set_option maxRecDepth 100000
set_option linter.unusedVariables false

/-- dynpos/dynposlaw40.ReportCounts, the loop of block 0 -/
theorem r3_0 (F : Fun) (a1 : Int) (b2 : Int) (time9 : Int) (k10 : Int) (b0_0 : List (List PV)) (b0_1 : Int) (b1_0 : List (List PV)) (b1_1 : Int) : lp E F 3 0 [] 0
  {
    vals :=
      [AV.int IntKind.u8 a1, AV.int IntKind.u8 b2, AV.int IntKind.i64 time9,
        AV.int IntKind.i64 k10],
    blks :=
      [Blk.box [AV.sl 1 b0_0, AV.int IntKind.i64 b0_1],
        Blk.box [AV.sl 3 b1_0, AV.int IntKind.u64 b1_1]] } =
  ctl (ltB 0 k10)
    (bnd
      (F 11 [AV.t (TV.ptr 0 0), AV.int IntKind.i64 5]
        [Blk.box [AV.sl 1 b0_0, AV.int IntKind.i64 b0_1]])
      fun (r : Res) =>
      ctl
        (okR [RSh.one (Sh.int IntKind.i64)] r.fst &&
          okB [Sum.inl [Sh.sl 1, Sh.int IntKind.i64]] r.snd)
        (bnd
          (F 13
            [AV.t (TV.ptr 0 0), AV.int IntKind.i64 1, AV.int IntKind.i64 3]
            [Blk.box
                [AV.sl 1
                    (nth PV.nilp
                        (List.map AV.toPV (nth (Blk.box []) r.snd 0).toCs) 0).toEs,
                  AV.int IntKind.i64
                    (nth PV.nilp
                        (List.map AV.toPV (nth (Blk.box []) r.snd 0).toCs) 1).toInt]])
          fun (r_1 : Res) =>
          ctl
            (okR [RSh.one (Sh.int IntKind.i64)] r_1.fst &&
              okB [Sum.inl [Sh.sl 1, Sh.int IntKind.i64]] r_1.snd)
            (bnd
              (F 12
                [AV.agg [PV.sl 3 b1_0, PV.int IntKind.u64 b1_1],
                  AV.agg
                    [PV.int IntKind.i64
                        (IntKind.i64.wrap (time9 + (nth (RV.p PV.nilp) r.fst 0).toPV.toInt)),
                      PV.int IntKind.i64 1,
                      PV.sl 1
                        [[PV.int IntKind.i64
                              (nth (RV.p PV.nilp) r_1.fst 0).toPV.toInt]]]]
                [])
              fun (r_2 : Res) =>
              ctl
                (okR
                    [RSh.agg [Sh.sl 3, Sh.int IntKind.u64],
                      RSh.one (Sh.int IntKind.i64)]
                    r_2.fst &&
                  okB [] r_2.snd)
                (lp E F 3 0 [] 0
                  {
                    vals :=
                      [AV.int IntKind.u8 a1, AV.int IntKind.u8 b2,
                        AV.int IntKind.i64
                          (IntKind.i64.wrap (time9 + (nth (RV.p PV.nilp) r.fst 0).toPV.toInt)),
                        AV.int IntKind.i64 (IntKind.i64.wrap (k10 - 1))],
                    blks :=
                      [Blk.box
                          [AV.sl 1
                              (nth PV.nilp
                                  (List.map AV.toPV (nth (Blk.box []) r_1.snd 0).toCs) 0).toEs,
                            AV.int IntKind.i64
                              (nth PV.nilp
                                  (List.map AV.toPV (nth (Blk.box []) r_1.snd 0).toCs) 1).toInt],
                        Blk.box
                          [AV.sl 3
                              (nth PV.nilp
                                  (nth (RV.p PV.nilp) r_2.fst 0).toCs 0).toEs,
                            AV.int IntKind.u64
                              (nth PV.nilp
                                  (nth (RV.p PV.nilp) r_2.fst 0).toCs 1).toInt]] })
                Option.none)
            Option.none)
        Option.none)
    (Option.some
      (Ex.exit 0,
        { vals := [AV.int IntKind.u8 a1, AV.int IntKind.u8 b2],
          blks := [Blk.box [AV.sl 3 b1_0, AV.int IntKind.u64 b1_1]] })) := (lp_unfold ..).trans (by kernel_rfl)

/-- dynpos/dynposlaw40.ReportCounts, the loop of block 2 -/
theorem r3_2 (F : Fun) (from11 : Int) (to12 : Int) (e14 : Int) (sum15 : Int) (x61_0 : Int) (x61_1 : Int) (x61_2 : Int) (x61_3 : Int) (x62 : Int) (b0_0 : Int) (b0_1 : Int) (b0_2 : Int) (b0_3 : Int) (b0_4 : Int) (b0_5 : Int) (b0_6 : Int) : lp E F 3 0 [] 2
  {
    vals :=
      [AV.int IntKind.i64 from11, AV.int IntKind.i64 to12, AV.int IntKind.i64 e14,
        AV.int IntKind.i64 sum15,
        AV.agg
          [PV.int IntKind.i64 x61_0, PV.int IntKind.i64 x61_1, PV.int IntKind.i64 x61_2,
            PV.int IntKind.i64 x61_3],
        AV.int IntKind.i64 x62],
    blks :=
      [Blk.box
          [AV.int IntKind.i64 b0_0, AV.int IntKind.i64 b0_1, AV.int IntKind.i64 b0_2,
            AV.int IntKind.i64 b0_3, AV.int IntKind.i64 b0_4, AV.int IntKind.i64 b0_5,
            AV.int IntKind.i64 b0_6]] } =
  ctl (ltB x62 4)
    (getE
      [[PV.int IntKind.i64 x61_0], [PV.int IntKind.i64 x61_1], [PV.int IntKind.i64 x61_2],
        [PV.int IntKind.i64 x61_3]]
      x62 fun (c : List PV) =>
      ctl (okCs [Sh.int IntKind.i64] c)
        (bnd
          (ctl (ltB 0 x62)
            (Option.some (ltB 0 (nth PV.nilp c 0).toInt)) (Option.some Bool.false))
          fun (v : Bool) =>
          bnd (ctl v (Option.some (ltB x62 b0_4)) (Option.some Bool.false)) fun (v : Bool) =>
            bnd
              (ctl (!v)
                (ctl (ltB 0 x62)
                  (ctl (x62 == b0_4) (Option.some ((nth PV.nilp c 0).toInt == 0)) (Option.some Bool.false))
                  (Option.some Bool.false))
                (Option.some Bool.true))
              fun (v : Bool) =>
              ctl v (Option.some (Ex.ret, { vals := [AV.bool Bool.false], blks := [] }))
                (lp E F 3 0 [] 2
                  {
                    vals :=
                      [AV.int IntKind.i64 from11, AV.int IntKind.i64 to12, AV.int IntKind.i64 e14,
                        AV.int IntKind.i64 (IntKind.i64.wrap (sum15 + (nth PV.nilp c 0).toInt)),
                        AV.agg
                          [PV.int IntKind.i64 x61_0, PV.int IntKind.i64 x61_1, PV.int IntKind.i64 x61_2,
                            PV.int IntKind.i64 x61_3],
                        AV.int IntKind.i64 (IntKind.i64.wrap (x62 + 1))],
                    blks :=
                      [Blk.box
                          [AV.int IntKind.i64 b0_0, AV.int IntKind.i64 b0_1, AV.int IntKind.i64 b0_2,
                            AV.int IntKind.i64 b0_3, AV.int IntKind.i64 b0_4, AV.int IntKind.i64 b0_5,
                            AV.int IntKind.i64 b0_6]] }))
        Option.none)
    (Option.some
      (Ex.exit 2,
        {
          vals :=
            [AV.int IntKind.i64 from11, AV.int IntKind.i64 to12, AV.int IntKind.i64 e14,
              AV.int IntKind.i64 sum15],
          blks := [] })) := (lp_unfold ..).trans (by kernel_rfl)

/-- dynpos/dynposlaw40.ReportCounts -/
theorem r3 (F : Fun) (t : List (List PV)) (a : Int) (b : Int) : funK E F 3 [AV.sl 1 t, AV.int IntKind.u8 a, AV.int IntKind.u8 b] [] =
  ctl (ltB 600 (↑t.length : Int))
    (bnd (F 8 [] []) fun (r : Res) =>
      ctl
        (okR [RSh.one Sh.bool] r.fst && okB [] r.snd)
        (Option.some
          ([RV.p
                (PV.bool (nth (RV.p PV.nilp) r.fst 0).toPV.toBool)],
            []))
        Option.none)
    (bnd (F 9 [AV.sl 1 t] []) fun (r : Res) =>
      ctl
        (okR [RSh.ownp [Sh.sl 1, Sh.int IntKind.i64]] r.fst &&
          okB [] r.snd)
        (bnd (F 10 [] []) fun (r_1 : Res) =>
          ctl
            (okR [RSh.agg [Sh.sl 3, Sh.int IntKind.u64]] r_1.fst &&
              okB [] r_1.snd)
            (bnd
              (F 11 [AV.t (TV.ptr 0 0), AV.int IntKind.i64 12]
                [Blk.box
                    [AV.sl 1
                        (nth PV.nilp
                            (nth (RV.p PV.nilp) r.fst 0).toCs 0).toEs,
                      AV.int IntKind.i64
                        (nth PV.nilp
                            (nth (RV.p PV.nilp) r.fst 0).toCs 1).toInt]])
              fun (r : Res) =>
              ctl
                (okR [RSh.one (Sh.int IntKind.i64)] r.fst &&
                  okB [Sum.inl [Sh.sl 1, Sh.int IntKind.i64]] r.snd)
                (bnd
                  (lp E F 3 0 [] 0
                    {
                      vals :=
                        [AV.int IntKind.u8 a, AV.int IntKind.u8 b, AV.int IntKind.i64 0,
                          AV.int IntKind.i64
                            (nth (RV.p PV.nilp) r.fst 0).toPV.toInt],
                      blks :=
                        [Blk.box
                            [AV.sl 1
                                (nth PV.nilp
                                    (List.map AV.toPV (nth (Blk.box []) r.snd 0).toCs) 0).toEs,
                              AV.int IntKind.i64
                                (nth PV.nilp
                                    (List.map AV.toPV (nth (Blk.box []) r.snd 0).toCs) 1).toInt],
                          Blk.box
                            [AV.sl 3
                                (nth PV.nilp
                                    (nth (RV.p PV.nilp) r_1.fst 0).toCs 0).toEs,
                              AV.int IntKind.u64
                                (nth PV.nilp
                                    (nth (RV.p PV.nilp) r_1.fst 0).toCs 1).toInt]] })
                  fun (p : Ex × Pack) =>
                  ctl (p.fst.eqb (Ex.exit 0))
                    (ctl
                      (okPack
                        {
                          slots :=
                            [(1, Sum.inl (Sh.int IntKind.u8)), (2, Sum.inl (Sh.int IntKind.u8)),
                              (8, Sum.inr (Sum.inr (AV.t (TV.ptr 0 0))))],
                          blks := [Sum.inl [Sum.inl (Sh.sl 3), Sum.inl (Sh.int IntKind.u64)]] }
                        p.snd)
                      (bnd
                        (F 14
                          [AV.agg
                              [PV.sl 3
                                  (nth AV.undef
                                        (nth (Blk.box []) p.snd.blks 0).toCs 0).toPV.toEs,
                                PV.int IntKind.u64
                                  (nth AV.undef
                                        (nth (Blk.box []) p.snd.blks 0).toCs 1).toPV.toInt],
                            AV.int IntKind.i64
                              ((IntKind.i64.wrap (nth AV.undef p.snd.vals 0).toPV.toInt).tmod 40),
                            AV.int IntKind.i64
                              (IntKind.i64.wrap
                                ((IntKind.i64.wrap (nth AV.undef p.snd.vals 0).toPV.toInt).tmod 40 +
                                  (IntKind.i64.wrap (nth AV.undef p.snd.vals 1).toPV.toInt).tmod 40))]
                          [])
                        fun (r : Res) =>
                        ctl
                          (okR
                              [RSh.agg
                                  [Sh.int IntKind.i64, Sh.int IntKind.i64, Sh.int IntKind.i64,
                                    Sh.int IntKind.i64, Sh.int IntKind.i64, Sh.int IntKind.i64,
                                    Sh.int IntKind.i64],
                                RSh.one (Sh.int IntKind.i64)]
                              r.fst &&
                            okB [] r.snd)
                          (bnd
                            (lp E F 3 0 [] 2
                              {
                                vals :=
                                  [AV.int IntKind.i64
                                      ((IntKind.i64.wrap (nth AV.undef p.snd.vals 0).toPV.toInt).tmod 40),
                                    AV.int IntKind.i64
                                      (IntKind.i64.wrap
                                        ((IntKind.i64.wrap (nth AV.undef p.snd.vals 0).toPV.toInt).tmod 40 +
                                          (IntKind.i64.wrap (nth AV.undef p.snd.vals 1).toPV.toInt).tmod 40)),
                                    AV.int IntKind.i64
                                      (nth (RV.p PV.nilp) r.fst 1).toPV.toInt,
                                    AV.int IntKind.i64 0,
                                    AV.agg
                                      [PV.int IntKind.i64
                                          (nth PV.nilp
                                              (nth (RV.p PV.nilp) r.fst 0).toCs 0).toInt,
                                        PV.int IntKind.i64
                                          (nth PV.nilp
                                              (nth (RV.p PV.nilp) r.fst 0).toCs 1).toInt,
                                        PV.int IntKind.i64
                                          (nth PV.nilp
                                              (nth (RV.p PV.nilp) r.fst 0).toCs 2).toInt,
                                        PV.int IntKind.i64
                                          (nth PV.nilp
                                              (nth (RV.p PV.nilp) r.fst 0).toCs 3).toInt],
                                    AV.int IntKind.i64 0],
                                blks :=
                                  [Blk.box
                                      [AV.int IntKind.i64
                                          (nth PV.nilp
                                              (nth (RV.p PV.nilp) r.fst 0).toCs 0).toInt,
                                        AV.int IntKind.i64
                                          (nth PV.nilp
                                              (nth (RV.p PV.nilp) r.fst 0).toCs 1).toInt,
                                        AV.int IntKind.i64
                                          (nth PV.nilp
                                              (nth (RV.p PV.nilp) r.fst 0).toCs 2).toInt,
                                        AV.int IntKind.i64
                                          (nth PV.nilp
                                              (nth (RV.p PV.nilp) r.fst 0).toCs 3).toInt,
                                        AV.int IntKind.i64
                                          (nth PV.nilp
                                              (nth (RV.p PV.nilp) r.fst 0).toCs 4).toInt,
                                        AV.int IntKind.i64
                                          (nth PV.nilp
                                              (nth (RV.p PV.nilp) r.fst 0).toCs 5).toInt,
                                        AV.int IntKind.i64
                                          (nth PV.nilp
                                              (nth (RV.p PV.nilp) r.fst 0).toCs 6).toInt]] })
                            fun (p : Ex × Pack) =>
                            ctl (p.fst.eqb (Ex.exit 2))
                              (ctl
                                (okPack
                                  {
                                    slots :=
                                      [(11, Sum.inl (Sh.int IntKind.i64)), (12, Sum.inl (Sh.int IntKind.i64)),
                                        (14, Sum.inl (Sh.int IntKind.i64)), (15, Sum.inl (Sh.int IntKind.i64))],
                                    blks := [] }
                                  p.snd)
                                (bnd
                                  (ctl ((nth AV.undef p.snd.vals 2).toPV.toInt == 0)
                                    (Option.some
                                      ((nth AV.undef p.snd.vals 3).toPV.toInt ==
                                        IntKind.i64.wrap
                                          ((nth AV.undef p.snd.vals 1).toPV.toInt -
                                            (nth AV.undef p.snd.vals 0).toPV.toInt)))
                                    (Option.some Bool.false))
                                  fun (v : Bool) =>
                                  bnd
                                    (ctl v
                                      (bnd (F 8 [] []) fun (r : Res) =>
                                        ctl
                                          (okR [RSh.one Sh.bool] r.fst &&
                                            okB [] r.snd)
                                          (Option.some (nth (RV.p PV.nilp) r.fst 0).toPV.toBool) Option.none)
                                      (Option.some Bool.false))
                                    fun (v : Bool) => Option.some ([RV.p (PV.bool v)], []))
                                Option.none)
                              (ctl (p.fst.eqb Ex.ret)
                                (ctl (okPack { slots := [(6, Sum.inl Sh.bool)], blks := [] } p.snd)
                                  (Option.some
                                    ([RV.p
                                          (PV.bool (nth AV.undef p.snd.vals 0).toPV.toBool)],
                                      []))
                                  Option.none)
                                Option.none))
                          Option.none)
                      Option.none)
                    Option.none)
                Option.none)
            Option.none)
        Option.none) := by kernel_rfl

end Go.Proofs.YtgdeaamklodkkaaDoor.Vm
