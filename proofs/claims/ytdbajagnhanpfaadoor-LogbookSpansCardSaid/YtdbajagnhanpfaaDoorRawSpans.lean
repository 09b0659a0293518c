/- The raw theorems, by program: what each function and each loop comes to. -/
import Derived.Test.YtdbajagnhanpfaaDoorEnv
import Derived.Test.YtdbajagnhanpfaaDoorVm34
import Derived.KernelRfl
namespace Go.Proofs.YtdbajagnhanpfaaDoor.Vm
open Go
set_option maxRecDepth 100000
set_option linter.unusedVariables false

/-- dynpos/dynposlaw36.LogbookSpans, the loop of block 0 -/
theorem r4_0 (F : Fun) (kind9 : Int) (to11 : Int) (l12 : List (List PV)) (at14 : Int) (x58 : List (List PV)) (x59 : Int) (x60 : Int) (b0_0 : List (List PV)) (b0_1 : Int) : lp E F 4 0 [] 0
  {
    vals :=
      [AV.int IntKind.i64 kind9, AV.int IntKind.i64 to11, AV.sl 3 l12,
        AV.int IntKind.i64 at14, AV.sl 3 x58, AV.int IntKind.i64 x59,
        AV.int IntKind.i64 x60],
    blks := [Blk.box [AV.sl 3 b0_0, AV.int IntKind.u64 b0_1]] } =
  ctl (ltB x60 x59)
    (getE x58 x60 fun (c : List PV) =>
      ctl
        (okCs
          [Sh.int IntKind.i64, Sh.int IntKind.i64, Sh.int IntKind.i64] c)
        (bnd
          (ctl (!(nth PV.nilp c 0).toInt != at14)
            (Option.some
              (leB (nth PV.nilp c 1).toInt
                (nth PV.nilp c 0).toInt))
            (Option.some Bool.true))
          fun (v : Bool) =>
          bnd
            (ctl (!v)
              (ctl (ltB 0 x60)
                (getE l12 (IntKind.i64.wrap (x60 - 1)) fun (c_1 : List PV) =>
                  ctl
                    (okCs
                      [Sh.int IntKind.i64, Sh.int IntKind.i64, Sh.int IntKind.i64] c_1)
                    (Option.some
                      ((nth PV.nilp c_1 2).toInt == (nth PV.nilp c 2).toInt))
                    Option.none)
                (Option.some Bool.false))
              (Option.some Bool.true))
            fun (v : Bool) =>
            ctl v (Option.some (Ex.ret, { vals := [AV.bool Bool.false], blks := [] }))
              (bnd
                (lp E F 4 0 [] 2
                  {
                    vals :=
                      [AV.int IntKind.i64 kind9, AV.int IntKind.i64 to11, AV.sl 3 l12,
                        AV.int IntKind.i64 (nth PV.nilp c 0).toInt,
                        AV.sl 3 x58, AV.int IntKind.i64 x59, AV.int IntKind.i64 x60],
                    blks :=
                      [Blk.box [AV.sl 3 b0_0, AV.int IntKind.u64 b0_1],
                        Blk.box
                          [AV.int IntKind.i64 (nth PV.nilp c 0).toInt,
                            AV.int IntKind.i64 (nth PV.nilp c 1).toInt,
                            AV.int IntKind.i64 (nth PV.nilp c 2).toInt]] })
                fun (p : Ex × Pack) =>
                ctl (p.fst.eqb (Ex.exit 2))
                  (ctl
                    (okPack
                      {
                        slots :=
                          [(8, Sum.inr (Sum.inr (AV.t (TV.ptr 0 0)))), (9, Sum.inl (Sh.int IntKind.i64)),
                            (11, Sum.inl (Sh.int IntKind.i64)), (12, Sum.inl (Sh.sl 3)),
                            (16, Sum.inr (Sum.inr (AV.t (TV.ptr 1 0)))), (58, Sum.inl (Sh.sl 3)),
                            (59, Sum.inl (Sh.int IntKind.i64)), (60, Sum.inl (Sh.int IntKind.i64))],
                        blks :=
                          [Sum.inl [Sum.inl (Sh.sl 3), Sum.inl (Sh.int IntKind.u64)],
                            Sum.inl
                              [Sum.inl (Sh.int IntKind.i64), Sum.inl (Sh.int IntKind.i64),
                                Sum.inl (Sh.int IntKind.i64)]] }
                      p.snd)
                    (lp E F 4 0 [] 0
                      {
                        vals :=
                          [AV.int IntKind.i64 (nth AV.undef p.snd.vals 0).toPV.toInt,
                            AV.int IntKind.i64 (nth AV.undef p.snd.vals 1).toPV.toInt,
                            AV.sl 3 (nth AV.undef p.snd.vals 2).toPV.toEs,
                            AV.int IntKind.i64
                              (nth AV.undef (nth (Blk.box []) p.snd.blks 1).toCs
                                    1).toPV.toInt,
                            AV.sl 3 (nth AV.undef p.snd.vals 3).toPV.toEs,
                            AV.int IntKind.i64 (nth AV.undef p.snd.vals 4).toPV.toInt,
                            AV.int IntKind.i64
                              (IntKind.i64.wrap ((nth AV.undef p.snd.vals 5).toPV.toInt + 1))],
                        blks :=
                          [Blk.box
                              [AV.sl 3
                                  (nth AV.undef
                                        (nth (Blk.box []) p.snd.blks 0).toCs 0).toPV.toEs,
                                AV.int IntKind.u64
                                  (nth AV.undef
                                        (nth (Blk.box []) p.snd.blks 0).toCs 1).toPV.toInt]] })
                    Option.none)
                  (ctl (p.fst.eqb Ex.ret)
                    (ctl (okPack { slots := [(6, Sum.inl Sh.bool)], blks := [] } p.snd)
                      (Option.some
                        (Ex.ret,
                          { vals := [AV.bool (nth AV.undef p.snd.vals 0).toPV.toBool], blks := [] }))
                      Option.none)
                    Option.none)))
        Option.none)
    (Option.some (Ex.exit 0, { vals := [AV.int IntKind.i64 to11, AV.int IntKind.i64 at14], blks := [] })) := (lp_unfold ..).trans (by kernel_rfl)

/-- dynpos/dynposlaw36.LogbookSpans, the loop of block 2 -/
theorem r4_2 (F : Fun) (kind9 : Int) (to11 : Int) (l12 : List (List PV)) (k17 : Int) (x58 : List (List PV)) (x59 : Int) (x60 : Int) (b0_0 : List (List PV)) (b0_1 : Int) (b1_0 : Int) (b1_1 : Int) (b1_2 : Int) : lp E F 4 0 [] 2
  {
    vals :=
      [AV.int IntKind.i64 kind9, AV.int IntKind.i64 to11, AV.sl 3 l12,
        AV.int IntKind.i64 k17, AV.sl 3 x58, AV.int IntKind.i64 x59,
        AV.int IntKind.i64 x60],
    blks :=
      [Blk.box [AV.sl 3 b0_0, AV.int IntKind.u64 b0_1],
        Blk.box
          [AV.int IntKind.i64 b1_0, AV.int IntKind.i64 b1_1, AV.int IntKind.i64 b1_2]] } =
  ctl (ltB k17 b1_1)
    (bnd
      (F 16
        [AV.agg [PV.sl 3 b0_0, PV.int IntKind.u64 b0_1],
          AV.int IntKind.i64 kind9, AV.int IntKind.i64 k17]
        [])
      fun (r : Res) =>
      ctl
        (okR
            [RSh.one (Sh.int IntKind.i64), RSh.one Sh.bool] r.fst &&
          okB [] r.snd)
        (ctl ((nth (RV.p PV.nilp) r.fst 0).toPV.toInt != b1_2)
          (Option.some (Ex.ret, { vals := [AV.bool Bool.false], blks := [] }))
          (lp E F 4 0 [] 2
            {
              vals :=
                [AV.int IntKind.i64 kind9, AV.int IntKind.i64 to11, AV.sl 3 l12,
                  AV.int IntKind.i64 (IntKind.i64.wrap (k17 + 1)), AV.sl 3 x58, AV.int IntKind.i64 x59,
                  AV.int IntKind.i64 x60],
              blks :=
                [Blk.box [AV.sl 3 b0_0, AV.int IntKind.u64 b0_1],
                  Blk.box
                    [AV.int IntKind.i64 b1_0, AV.int IntKind.i64 b1_1, AV.int IntKind.i64 b1_2]] }))
        Option.none)
    (Option.some
      (Ex.exit 2,
        {
          vals :=
            [AV.int IntKind.i64 kind9, AV.int IntKind.i64 to11, AV.sl 3 l12,
              AV.sl 3 x58, AV.int IntKind.i64 x59, AV.int IntKind.i64 x60],
          blks :=
            [Blk.box [AV.sl 3 b0_0, AV.int IntKind.u64 b0_1],
              Blk.box
                [AV.int IntKind.i64 b1_0, AV.int IntKind.i64 b1_1, AV.int IntKind.i64 b1_2]] })) := (lp_unfold ..).trans (by kernel_rfl)

/-- dynpos/dynposlaw36.LogbookSpans -/
theorem r4 (F : Fun) (t : List (List PV)) (a : Int) (b : Int) : funK E F 4 [AV.sl 1 t, AV.int IntKind.u8 a, AV.int IntKind.u8 b] [] =
  ctl (ltB 600 (↑t.length : Int))
    (bnd (F 11 [] []) fun (r : Res) =>
      ctl
        (okR [RSh.one Sh.bool] r.fst && okB [] r.snd)
        (Option.some
          ([RV.p
                (PV.bool (nth (RV.p PV.nilp) r.fst 0).toPV.toBool)],
            []))
        Option.none)
    (bnd (F 12 [AV.sl 1 t] []) fun (r : Res) =>
      ctl
        (okR [RSh.ownp [Sh.sl 1, Sh.int IntKind.i64]] r.fst &&
          okB [] r.snd)
        (bnd
          (F 13 [AV.t (TV.ptr 0 0), AV.int IntKind.i64 14]
            [Blk.box
                [AV.sl 1
                    (nth PV.nilp
                        (nth (RV.p PV.nilp) r.fst 0).toCs 0).toEs,
                  AV.int IntKind.i64
                    (nth PV.nilp
                        (nth (RV.p PV.nilp) r.fst 0).toCs 1).toInt]])
          fun (r : Res) =>
          ctl
            (okR [RSh.agg [Sh.sl 3, Sh.int IntKind.u64]] r.fst &&
              okB [Sum.inl [Sh.sl 1, Sh.int IntKind.i64]] r.snd)
            (bnd
              (F 14
                [AV.t (TV.ptr 0 0), AV.int IntKind.i64 1,
                  AV.int IntKind.i64 3]
                [Blk.box
                    [AV.sl 1
                        (nth PV.nilp
                            (List.map AV.toPV (nth (Blk.box []) r.snd 0).toCs) 0).toEs,
                      AV.int IntKind.i64
                        (nth PV.nilp
                            (List.map AV.toPV (nth (Blk.box []) r.snd 0).toCs) 1).toInt]])
              fun (r_1 : Res) =>
              ctl
                (okR [RSh.one (Sh.int IntKind.i64)] r_1.fst &&
                  okB [Sum.inl [Sh.sl 1, Sh.int IntKind.i64]] r_1.snd)
                (bnd
                  (F 15
                    [AV.agg
                        [PV.sl 3
                            (nth PV.nilp
                                (nth (RV.p PV.nilp) r.fst 0).toCs 0).toEs,
                          PV.int IntKind.u64
                            (nth PV.nilp
                                (nth (RV.p PV.nilp) r.fst 0).toCs 1).toInt],
                      AV.int IntKind.i64
                        (nth (RV.p PV.nilp) r_1.fst 0).toPV.toInt,
                      AV.int IntKind.i64 ((IntKind.i64.wrap a).tmod 40),
                      AV.int IntKind.i64 (IntKind.i64.wrap ((IntKind.i64.wrap a).tmod 40 + (IntKind.i64.wrap b).tmod 40))]
                    [])
                  fun (r_2 : Res) =>
                  ctl
                    (okR [RSh.own 3, RSh.one (Sh.int IntKind.i64)] r_2.fst &&
                      okB [] r_2.snd)
                    (bnd
                      (ctl (!(nth (RV.p PV.nilp) r_2.fst 1).toPV.toInt != 0)
                        (Option.some
                          !((↑(nth (RV.p PV.nilp) r_2.fst 0).toEs.length : Int) == 0) ==
                              ((IntKind.i64.wrap a).tmod 40 == IntKind.i64.wrap ((IntKind.i64.wrap a).tmod 40 + (IntKind.i64.wrap b).tmod 40)))
                        (Option.some Bool.true))
                      fun (v : Bool) =>
                      ctl v (Option.some ([RV.p (PV.bool Bool.false)], []))
                        (bnd
                          (lp E F 4 0 [] 0
                            {
                              vals :=
                                [AV.int IntKind.i64
                                    (nth (RV.p PV.nilp) r_1.fst 0).toPV.toInt,
                                  AV.int IntKind.i64 (IntKind.i64.wrap ((IntKind.i64.wrap a).tmod 40 + (IntKind.i64.wrap b).tmod 40)),
                                  AV.sl 3 (nth (RV.p PV.nilp) r_2.fst 0).toEs,
                                  AV.int IntKind.i64 ((IntKind.i64.wrap a).tmod 40),
                                  AV.sl 3 (nth (RV.p PV.nilp) r_2.fst 0).toEs,
                                  AV.int IntKind.i64
                                    (↑(nth (RV.p PV.nilp) r_2.fst 0).toEs.length : Int),
                                  AV.int IntKind.i64 0],
                              blks :=
                                [Blk.box
                                    [AV.sl 3
                                        (nth PV.nilp
                                            (nth (RV.p PV.nilp) r.fst 0).toCs 0).toEs,
                                      AV.int IntKind.u64
                                        (nth PV.nilp
                                            (nth (RV.p PV.nilp) r.fst 0).toCs 1).toInt]] })
                          fun (p : Ex × Pack) =>
                          ctl (p.fst.eqb (Ex.exit 0))
                            (ctl
                              (okPack
                                { slots := [(11, Sum.inl (Sh.int IntKind.i64)), (14, Sum.inl (Sh.int IntKind.i64))], blks := [] } p.snd)
                              (bnd
                                (ctl
                                  ((nth AV.undef p.snd.vals 1).toPV.toInt ==
                                    (nth AV.undef p.snd.vals 0).toPV.toInt)
                                  (bnd (F 11 [] []) fun (r : Res) =>
                                    ctl
                                      (okR [RSh.one Sh.bool] r.fst &&
                                        okB [] r.snd)
                                      (Option.some (nth (RV.p PV.nilp) r.fst 0).toPV.toBool) Option.none)
                                  (Option.some Bool.false))
                                fun (v : Bool) => Option.some ([RV.p (PV.bool v)], []))
                              Option.none)
                            (ctl (p.fst.eqb Ex.ret)
                              (ctl (okPack { slots := [(6, Sum.inl Sh.bool)], blks := [] } p.snd)
                                (Option.some
                                  ([RV.p
                                        (PV.bool (nth AV.undef p.snd.vals 0).toPV.toBool)],
                                    []))
                                Option.none)
                              Option.none)))
                    Option.none)
                Option.none)
            Option.none)
        Option.none) := by kernel_rfl

end Go.Proofs.YtdbajagnhanpfaaDoor.Vm
