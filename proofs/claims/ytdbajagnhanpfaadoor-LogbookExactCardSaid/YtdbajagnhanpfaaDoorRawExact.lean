/- The raw theorems, by program: what each function and each loop comes to. -/
import Derived.Test.YtdbajagnhanpfaaDoorEnv
import Derived.Test.YtdbajagnhanpfaaDoorVm34
import Derived.KernelRfl
namespace Go.Proofs.YtdbajagnhanpfaaDoor.Vm
open Go
set_option maxRecDepth 100000
set_option linter.unusedVariables false

/-- dynpos/dynposlaw36.LogbookExact, the loop of block 0 -/
theorem r6_0 (F : Fun) (t0 : List (List PV)) (kind3 : Int) (from4 : Int) (to5 : Int) (x64 : List (List PV)) (x65 : Int) (x66 : Int) (b0_0 : List (List PV)) (b0_1 : Int) (b1_0 : Int) (b1_1 : Int) (b1_2 : List (List PV)) : lp E F 6 0 [] 0
  {
    vals :=
      [AV.sl 1 t0, AV.int IntKind.i64 kind3, AV.int IntKind.i64 from4,
        AV.int IntKind.i64 to5, AV.sl 3 x64, AV.int IntKind.i64 x65,
        AV.int IntKind.i64 x66],
    blks :=
      [Blk.box [AV.sl 3 b0_0, AV.int IntKind.u64 b0_1],
        Blk.box
          [AV.int IntKind.i64 b1_0, AV.int IntKind.i64 b1_1, AV.sl 1 b1_2]] } =
  ctl (ltB x66 x65)
    (getE x64 x66 fun (c : List PV) =>
      ctl
        (okCs [Sh.int IntKind.i64, Sh.int IntKind.i64, Sh.sl 1] c)
        (ctl (ltB 10 (↑(nth PV.nilp c 2).toEs.length : Int))
          (bnd (F 11 [] []) fun (r : Res) =>
            ctl
              (okR [RSh.one Sh.bool] r.fst && okB [] r.snd)
              (Option.some
                (Ex.ret,
                  { vals := [AV.bool (nth (RV.p PV.nilp) r.fst 0).toPV.toBool],
                    blks := [] }))
              Option.none)
          (lp E F 6 0 [] 0
            {
              vals :=
                [AV.sl 1 t0, AV.int IntKind.i64 kind3, AV.int IntKind.i64 from4,
                  AV.int IntKind.i64 to5, AV.sl 3 x64, AV.int IntKind.i64 x65,
                  AV.int IntKind.i64 (IntKind.i64.wrap (x66 + 1))],
              blks :=
                [Blk.box [AV.sl 3 b0_0, AV.int IntKind.u64 b0_1],
                  Blk.box
                    [AV.int IntKind.i64 b1_0, AV.int IntKind.i64 b1_1, AV.sl 1 b1_2]] }))
        Option.none)
    (Option.some
      (Ex.exit 0,
        {
          vals :=
            [AV.sl 1 t0, AV.int IntKind.i64 kind3, AV.int IntKind.i64 from4,
              AV.int IntKind.i64 to5],
          blks :=
            [Blk.box [AV.sl 3 b0_0, AV.int IntKind.u64 b0_1],
              Blk.box
                [AV.int IntKind.i64 b1_0, AV.int IntKind.i64 b1_1, AV.sl 1 b1_2]] })) := (lp_unfold ..).trans (by kernel_rfl)

/-- dynpos/dynposlaw36.LogbookExact, the loop of block 2 -/
theorem r6_2 (F : Fun) (kind3 : Int) (from4 : Int) (to5 : Int) (x85_0 : List (List PV)) (x85_1 : Int) (x85_2 : List (List PV)) (x85_3 : Int) (x85_4 : List (List PV)) (x85_5 : Int) (x86 : Int) (b0_0 : Int) (b0_1 : Int) (b0_2 : List (List PV)) (b1_0 : List (List PV)) (b1_1 : Int) : lp E F 6 0 [] 2
  {
    vals :=
      [AV.int IntKind.i64 kind3, AV.int IntKind.i64 from4, AV.int IntKind.i64 to5,
        AV.agg
          [PV.sl 3 x85_0, PV.int IntKind.u64 x85_1, PV.sl 3 x85_2,
            PV.int IntKind.u64 x85_3, PV.sl 3 x85_4, PV.int IntKind.u64 x85_5],
        AV.int IntKind.i64 x86],
    blks :=
      [Blk.box
          [AV.int IntKind.i64 b0_0, AV.int IntKind.i64 b0_1, AV.sl 1 b0_2],
        Blk.box [AV.sl 1 b1_0, AV.int IntKind.i64 b1_1]] } =
  ctl (ltB x86 3)
    (getE
      [[PV.sl 3 x85_0, PV.int IntKind.u64 x85_1],
        [PV.sl 3 x85_2, PV.int IntKind.u64 x85_3],
        [PV.sl 3 x85_4, PV.int IntKind.u64 x85_5]]
      x86 fun (c : List PV) =>
      ctl (okCs [Sh.sl 3, Sh.int IntKind.u64] c)
        (bnd
          (F 19
            [AV.agg
                [PV.sl 3 (nth PV.nilp c 0).toEs,
                  PV.int IntKind.u64 (nth PV.nilp c 1).toInt]]
            [])
          fun (r : Res) =>
          ctl
            (okR [RSh.one (Sh.int IntKind.i64)] r.fst && okB [] r.snd)
            (bnd
              (F 21
                [AV.agg
                    [PV.sl 3 (nth PV.nilp c 0).toEs,
                      PV.int IntKind.u64 (nth PV.nilp c 1).toInt]]
                [])
              fun (r_1 : Res) =>
              ctl
                (okR [RSh.one (Sh.int IntKind.i64)] r_1.fst && okB [] r_1.snd)
                (ctl
                  ((nth (RV.p PV.nilp) r.fst 0).toPV.toInt !=
                    (nth (RV.p PV.nilp) r_1.fst 0).toPV.toInt)
                  (Option.some (Ex.ret, { vals := [AV.bool Bool.false], blks := [] }))
                  (bnd
                    (F 18 [AV.t (TV.ptr 0 0), AV.int IntKind.i64 50]
                      [Blk.box [AV.sl 1 b1_0, AV.int IntKind.i64 b1_1]])
                    fun (r : Res) =>
                    ctl
                      (okR [RSh.one (Sh.int IntKind.i64)] r.fst &&
                        okB [Sum.inl [Sh.sl 1, Sh.int IntKind.i64]] r.snd)
                      (bnd
                        (F 17
                          [AV.t (TV.ptr 0 0),
                            AV.int IntKind.i64
                              (nth (RV.p PV.nilp) r.fst 0).toPV.toInt]
                          [Blk.box
                              [AV.sl 1
                                  (nth PV.nilp
                                      (List.map AV.toPV (nth (Blk.box []) r.snd 0).toCs) 0).toEs,
                                AV.int IntKind.i64
                                  (nth PV.nilp
                                      (List.map AV.toPV (nth (Blk.box []) r.snd 0).toCs) 1).toInt]])
                        fun (r : Res) =>
                        ctl
                          (okR
                              [RSh.agg
                                  [Sh.int IntKind.i64, Sh.int IntKind.i64, Sh.sl 1]]
                              r.fst &&
                            okB [Sum.inl [Sh.sl 1, Sh.int IntKind.i64]] r.snd)
                          (bnd
                            (F 17 [AV.t (TV.ptr 0 0), AV.int IntKind.i64 to5]
                              [Blk.box
                                  [AV.sl 1
                                      (nth PV.nilp
                                          (List.map AV.toPV (nth (Blk.box []) r.snd 0).toCs) 0).toEs,
                                    AV.int IntKind.i64
                                      (nth PV.nilp
                                          (List.map AV.toPV (nth (Blk.box []) r.snd 0).toCs) 1).toInt]])
                            fun (r_2 : Res) =>
                            ctl
                              (okR
                                  [RSh.agg
                                      [Sh.int IntKind.i64, Sh.int IntKind.i64, Sh.sl 1]]
                                  r_2.fst &&
                                okB [Sum.inl [Sh.sl 1, Sh.int IntKind.i64]] r_2.snd)
                              (bnd
                                (lp E F 6 0 [] 4
                                  {
                                    vals :=
                                      [AV.int IntKind.i64 kind3, AV.int IntKind.i64 from4,
                                        AV.int IntKind.i64 to5,
                                        AV.agg
                                          [PV.sl 3 x85_0, PV.int IntKind.u64 x85_1, PV.sl 3 x85_2,
                                            PV.int IntKind.u64 x85_3, PV.sl 3 x85_4, PV.int IntKind.u64 x85_5],
                                        AV.int IntKind.i64 x86,
                                        AV.agg
                                          [PV.int IntKind.i64 b0_0, PV.int IntKind.i64 b0_1, PV.sl 1 b0_2,
                                            PV.int IntKind.i64
                                              (nth PV.nilp
                                                  (nth (RV.p PV.nilp) r.fst 0).toCs 0).toInt,
                                            PV.int IntKind.i64
                                              (nth PV.nilp
                                                  (nth (RV.p PV.nilp) r.fst 0).toCs 1).toInt,
                                            PV.sl 1
                                              (nth PV.nilp
                                                  (nth (RV.p PV.nilp) r.fst 0).toCs 2).toEs,
                                            PV.int IntKind.i64
                                              (nth PV.nilp
                                                  (nth (RV.p PV.nilp) r_2.fst 0).toCs 0).toInt,
                                            PV.int IntKind.i64
                                              (nth PV.nilp
                                                  (nth (RV.p PV.nilp) r_2.fst 0).toCs 1).toInt,
                                            PV.sl 1
                                              (nth PV.nilp
                                                  (nth (RV.p PV.nilp) r_2.fst 0).toCs 2).toEs],
                                        AV.int IntKind.i64 0],
                                    blks :=
                                      [Blk.box
                                          [AV.int IntKind.i64 b0_0, AV.int IntKind.i64 b0_1, AV.sl 1 b0_2],
                                        Blk.box
                                          [AV.sl 1
                                              (nth PV.nilp
                                                  (List.map AV.toPV (nth (Blk.box []) r_2.snd 0).toCs) 0).toEs,
                                            AV.int IntKind.i64
                                              (nth PV.nilp
                                                  (List.map AV.toPV (nth (Blk.box []) r_2.snd 0).toCs) 1).toInt],
                                        Blk.box
                                          [AV.sl 3 (nth PV.nilp c 0).toEs,
                                            AV.int IntKind.u64 (nth PV.nilp c 1).toInt]] })
                                fun (p : Ex × Pack) =>
                                ctl (p.fst.eqb (Ex.exit 4))
                                  (ctl
                                    (okPack
                                      {
                                        slots :=
                                          [(3, Sum.inl (Sh.int IntKind.i64)), (4, Sum.inl (Sh.int IntKind.i64)),
                                            (5, Sum.inl (Sh.int IntKind.i64)),
                                            (8, Sum.inr (Sum.inr (AV.t (TV.ptr 0 0)))),
                                            (15, Sum.inr (Sum.inr (AV.t (TV.ptr 1 0)))),
                                            (18, Sum.inr (Sum.inr (AV.t (TV.ptr 2 0)))),
                                            (85,
                                              Sum.inr
                                                (Sum.inl
                                                  [Sh.sl 3, Sh.int IntKind.u64, Sh.sl 3,
                                                    Sh.int IntKind.u64, Sh.sl 3, Sh.int IntKind.u64])),
                                            (86, Sum.inl (Sh.int IntKind.i64))],
                                        blks :=
                                          [Sum.inl
                                              [Sum.inl (Sh.int IntKind.i64), Sum.inl (Sh.int IntKind.i64),
                                                Sum.inl (Sh.sl 1)],
                                            Sum.inl [Sum.inl (Sh.sl 1), Sum.inl (Sh.int IntKind.i64)],
                                            Sum.inl [Sum.inl (Sh.sl 3), Sum.inl (Sh.int IntKind.u64)]] }
                                      p.snd)
                                    (bnd
                                      (F 27
                                        [AV.agg
                                            [PV.sl 3
                                                (nth AV.undef
                                                      (nth (Blk.box []) p.snd.blks 2).toCs 0).toPV.toEs,
                                              PV.int IntKind.u64
                                                (nth AV.undef
                                                      (nth (Blk.box []) p.snd.blks 2).toCs 1).toPV.toInt]]
                                        [])
                                      fun (r : Res) =>
                                      ctl
                                        (okR
                                            [RSh.one Sh.str,
                                              RSh.one (Sh.int IntKind.i64)]
                                            r.fst &&
                                          okB [] r.snd)
                                        (bnd
                                          (F 28
                                            [AV.agg
                                                [PV.sl 3
                                                    (nth AV.undef
                                                          (nth (Blk.box []) p.snd.blks 2).toCs 0).toPV.toEs,
                                                  PV.int IntKind.u64
                                                    (nth AV.undef
                                                          (nth (Blk.box []) p.snd.blks 2).toCs 1).toPV.toInt]]
                                            [])
                                          fun (r_3 : Res) =>
                                          ctl
                                            (okR
                                                [RSh.one Sh.str,
                                                  RSh.one (Sh.int IntKind.i64)]
                                                r_3.fst &&
                                              okB [] r_3.snd)
                                            (bnd
                                              (ctl
                                                (!!(nth (RV.p PV.nilp) r.fst 0).toPV.toStr ==
                                                      (nth (RV.p PV.nilp) r_3.fst 0).toPV.toStr)
                                                (Option.some
                                                  ((nth (RV.p PV.nilp) r.fst 1).toPV.toInt !=
                                                    (nth (RV.p PV.nilp) r_3.fst 1).toPV.toInt))
                                                (Option.some Bool.true))
                                              fun (v : Bool) =>
                                              ctl v
                                                (Option.some (Ex.ret, { vals := [AV.bool Bool.false], blks := [] }))
                                                (bnd
                                                  (F 14
                                                    [AV.t (TV.ptr 0 0), AV.int IntKind.i64 0,
                                                      AV.int IntKind.i64 4]
                                                    [Blk.box
                                                        [AV.sl 1
                                                            (nth AV.undef
                                                                  (nth (Blk.box []) p.snd.blks 1).toCs 0).toPV.toEs,
                                                          AV.int IntKind.i64
                                                            (nth AV.undef
                                                                  (nth (Blk.box []) p.snd.blks 1).toCs 1).toPV.toInt]])
                                                  fun (r : Res) =>
                                                  ctl
                                                    (okR [RSh.one (Sh.int IntKind.i64)] r.fst &&
                                                      okB [Sum.inl [Sh.sl 1, Sh.int IntKind.i64]] r.snd)
                                                    (bnd
                                                      (F 18 [AV.t (TV.ptr 0 0), AV.int IntKind.i64 20]
                                                        [Blk.box
                                                            [AV.sl 1
                                                                (nth PV.nilp
                                                                    (List.map AV.toPV
                                                                      (nth (Blk.box []) r.snd 0).toCs)
                                                                    0).toEs,
                                                              AV.int IntKind.i64
                                                                (nth PV.nilp
                                                                    (List.map AV.toPV
                                                                      (nth (Blk.box []) r.snd 0).toCs)
                                                                    1).toInt]])
                                                      fun (r_4 : Res) =>
                                                      ctl
                                                        (okR [RSh.one (Sh.int IntKind.i64)] r_4.fst &&
                                                          okB [Sum.inl [Sh.sl 1, Sh.int IntKind.i64]] r_4.snd)
                                                        (bnd
                                                          (F 18 [AV.t (TV.ptr 0 0), AV.int IntKind.i64 50]
                                                            [Blk.box
                                                                [AV.sl 1
                                                                    (nth PV.nilp
                                                                        (List.map AV.toPV
                                                                          (nth (Blk.box []) r_4.snd 0).toCs)
                                                                        0).toEs,
                                                                  AV.int IntKind.i64
                                                                    (nth PV.nilp
                                                                        (List.map AV.toPV
                                                                          (nth (Blk.box []) r_4.snd 0).toCs)
                                                                        1).toInt]])
                                                          fun (r_5 : Res) =>
                                                          ctl
                                                            (okR [RSh.one (Sh.int IntKind.i64)] r_5.fst &&
                                                              okB [Sum.inl [Sh.sl 1, Sh.int IntKind.i64]] r_5.snd)
                                                            (bnd
                                                              (lp E F 6 0 [] 6
                                                                {
                                                                  vals :=
                                                                    [AV.int IntKind.i64
                                                                        (nth AV.undef p.snd.vals 0).toPV.toInt,
                                                                      AV.int IntKind.i64
                                                                        (nth AV.undef p.snd.vals 1).toPV.toInt,
                                                                      AV.int IntKind.i64
                                                                        (nth AV.undef p.snd.vals 2).toPV.toInt,
                                                                      AV.agg
                                                                        [PV.sl 3
                                                                            (nth PV.nilp
                                                                                (nth AV.undef p.snd.vals 3).toCs 0).toEs,
                                                                          PV.int IntKind.u64
                                                                            (nth PV.nilp
                                                                                (nth AV.undef p.snd.vals 3).toCs 1).toInt,
                                                                          PV.sl 3
                                                                            (nth PV.nilp
                                                                                (nth AV.undef p.snd.vals 3).toCs 2).toEs,
                                                                          PV.int IntKind.u64
                                                                            (nth PV.nilp
                                                                                (nth AV.undef p.snd.vals 3).toCs 3).toInt,
                                                                          PV.sl 3
                                                                            (nth PV.nilp
                                                                                (nth AV.undef p.snd.vals 3).toCs 4).toEs,
                                                                          PV.int IntKind.u64
                                                                            (nth PV.nilp
                                                                                (nth AV.undef p.snd.vals 3).toCs 5).toInt],
                                                                      AV.int IntKind.i64
                                                                        (nth AV.undef p.snd.vals 4).toPV.toInt,
                                                                      AV.agg
                                                                        [PV.int IntKind.i64
                                                                            (nth AV.undef p.snd.vals 0).toPV.toInt,
                                                                          PV.int IntKind.i64
                                                                            (nth AV.undef p.snd.vals 1).toPV.toInt,
                                                                          PV.int IntKind.i64
                                                                            (nth AV.undef p.snd.vals 2).toPV.toInt,
                                                                          PV.int IntKind.i64
                                                                            (nth (RV.p PV.nilp) r.fst 0).toPV.toInt,
                                                                          PV.int IntKind.i64
                                                                            (nth (RV.p PV.nilp) r_4.fst
                                                                                  0).toPV.toInt,
                                                                          PV.int IntKind.i64
                                                                            (nth (RV.p PV.nilp) r_5.fst
                                                                                  0).toPV.toInt],
                                                                      AV.int IntKind.i64 0],
                                                                  blks :=
                                                                    [Blk.box
                                                                        [AV.int IntKind.i64
                                                                            (nth AV.undef
                                                                                  (nth (Blk.box []) p.snd.blks 0).toCs 0).toPV.toInt,
                                                                          AV.int IntKind.i64
                                                                            (nth AV.undef
                                                                                  (nth (Blk.box []) p.snd.blks 0).toCs 1).toPV.toInt,
                                                                          AV.sl 1
                                                                            (nth AV.undef
                                                                                  (nth (Blk.box []) p.snd.blks 0).toCs 2).toPV.toEs],
                                                                      Blk.box
                                                                        [AV.sl 1
                                                                            (nth PV.nilp
                                                                                (List.map AV.toPV
                                                                                  (nth (Blk.box []) r_5.snd 0).toCs)
                                                                                0).toEs,
                                                                          AV.int IntKind.i64
                                                                            (nth PV.nilp
                                                                                (List.map AV.toPV
                                                                                  (nth (Blk.box []) r_5.snd 0).toCs)
                                                                                1).toInt],
                                                                      Blk.box
                                                                        [AV.sl 3
                                                                            (nth AV.undef
                                                                                  (nth (Blk.box []) p.snd.blks 2).toCs 0).toPV.toEs,
                                                                          AV.int IntKind.u64
                                                                            (nth AV.undef
                                                                                  (nth (Blk.box []) p.snd.blks 2).toCs 1).toPV.toInt]] })
                                                              fun (p : Ex × Pack) =>
                                                              ctl (p.fst.eqb (Ex.exit 6))
                                                                (ctl
                                                                  (okPack
                                                                    {
                                                                      slots :=
                                                                        [(3, Sum.inl (Sh.int IntKind.i64)), (4, Sum.inl (Sh.int IntKind.i64)),
                                                                          (5, Sum.inl (Sh.int IntKind.i64)),
                                                                          (8, Sum.inr (Sum.inr (AV.t (TV.ptr 0 0)))),
                                                                          (15, Sum.inr (Sum.inr (AV.t (TV.ptr 1 0)))),
                                                                          (85,
                                                                            Sum.inr
                                                                              (Sum.inl
                                                                                [Sh.sl 3, Sh.int IntKind.u64,
                                                                                  Sh.sl 3, Sh.int IntKind.u64,
                                                                                  Sh.sl 3, Sh.int IntKind.u64])),
                                                                          (86, Sum.inl (Sh.int IntKind.i64))],
                                                                      blks :=
                                                                        [Sum.inl
                                                                            [Sum.inl (Sh.int IntKind.i64), Sum.inl (Sh.int IntKind.i64),
                                                                              Sum.inl (Sh.sl 1)],
                                                                          Sum.inl [Sum.inl (Sh.sl 1), Sum.inl (Sh.int IntKind.i64)]] }
                                                                    p.snd)
                                                                  (lp E F 6 0 [] 2
                                                                    {
                                                                      vals :=
                                                                        [AV.int IntKind.i64
                                                                            (nth AV.undef p.snd.vals 0).toPV.toInt,
                                                                          AV.int IntKind.i64
                                                                            (nth AV.undef p.snd.vals 1).toPV.toInt,
                                                                          AV.int IntKind.i64
                                                                            (nth AV.undef p.snd.vals 2).toPV.toInt,
                                                                          AV.agg
                                                                            [PV.sl 3
                                                                                (nth PV.nilp
                                                                                    (nth AV.undef p.snd.vals 3).toCs 0).toEs,
                                                                              PV.int IntKind.u64
                                                                                (nth PV.nilp
                                                                                    (nth AV.undef p.snd.vals 3).toCs 1).toInt,
                                                                              PV.sl 3
                                                                                (nth PV.nilp
                                                                                    (nth AV.undef p.snd.vals 3).toCs 2).toEs,
                                                                              PV.int IntKind.u64
                                                                                (nth PV.nilp
                                                                                    (nth AV.undef p.snd.vals 3).toCs 3).toInt,
                                                                              PV.sl 3
                                                                                (nth PV.nilp
                                                                                    (nth AV.undef p.snd.vals 3).toCs 4).toEs,
                                                                              PV.int IntKind.u64
                                                                                (nth PV.nilp
                                                                                    (nth AV.undef p.snd.vals 3).toCs 5).toInt],
                                                                          AV.int IntKind.i64
                                                                            (IntKind.i64.wrap ((nth AV.undef p.snd.vals 4).toPV.toInt + 1))],
                                                                      blks :=
                                                                        [Blk.box
                                                                            [AV.int IntKind.i64
                                                                                (nth AV.undef
                                                                                      (nth (Blk.box []) p.snd.blks 0).toCs 0).toPV.toInt,
                                                                              AV.int IntKind.i64
                                                                                (nth AV.undef
                                                                                      (nth (Blk.box []) p.snd.blks 0).toCs 1).toPV.toInt,
                                                                              AV.sl 1
                                                                                (nth AV.undef
                                                                                      (nth (Blk.box []) p.snd.blks 0).toCs 2).toPV.toEs],
                                                                          Blk.box
                                                                            [AV.sl 1
                                                                                (nth AV.undef
                                                                                      (nth (Blk.box []) p.snd.blks 1).toCs 0).toPV.toEs,
                                                                              AV.int IntKind.i64
                                                                                (nth AV.undef
                                                                                      (nth (Blk.box []) p.snd.blks 1).toCs 1).toPV.toInt]] })
                                                                  Option.none)
                                                                (ctl (p.fst.eqb Ex.ret)
                                                                  (ctl
                                                                    (okPack { slots := [(12, Sum.inl Sh.bool)], blks := [] } p.snd)
                                                                    (Option.some
                                                                      (Ex.ret,
                                                                        {
                                                                          vals :=
                                                                            [AV.bool
                                                                                (nth AV.undef p.snd.vals 0).toPV.toBool],
                                                                          blks := [] }))
                                                                    Option.none)
                                                                  Option.none))
                                                            Option.none)
                                                        Option.none)
                                                    Option.none))
                                            Option.none)
                                        Option.none)
                                    Option.none)
                                  (ctl (p.fst.eqb Ex.ret)
                                    (ctl (okPack { slots := [(12, Sum.inl Sh.bool)], blks := [] } p.snd)
                                      (Option.some
                                        (Ex.ret,
                                          { vals := [AV.bool (nth AV.undef p.snd.vals 0).toPV.toBool], blks := [] }))
                                      Option.none)
                                    Option.none))
                              Option.none)
                          Option.none)
                      Option.none))
                Option.none)
            Option.none)
        Option.none)
    (Option.some (Ex.exit 2, { vals := [], blks := [] })) := (lp_unfold ..).trans (by kernel_rfl)

/-- dynpos/dynposlaw36.LogbookExact, the loop of block 4 -/
theorem r6_4 (F : Fun) (kind3 : Int) (from4 : Int) (to5 : Int) (x85_0 : List (List PV)) (x85_1 : Int) (x85_2 : List (List PV)) (x85_3 : Int) (x85_4 : List (List PV)) (x85_5 : Int) (x86 : Int) (x102_0 : Int) (x102_1 : Int) (x102_2 : List (List PV)) (x102_3 : Int) (x102_4 : Int) (x102_5 : List (List PV)) (x102_6 : Int) (x102_7 : Int) (x102_8 : List (List PV)) (x103 : Int) (b0_0 : Int) (b0_1 : Int) (b0_2 : List (List PV)) (b1_0 : List (List PV)) (b1_1 : Int) (b2_0 : List (List PV)) (b2_1 : Int) : lp E F 6 0 [] 4
  {
    vals :=
      [AV.int IntKind.i64 kind3, AV.int IntKind.i64 from4, AV.int IntKind.i64 to5,
        AV.agg
          [PV.sl 3 x85_0, PV.int IntKind.u64 x85_1, PV.sl 3 x85_2,
            PV.int IntKind.u64 x85_3, PV.sl 3 x85_4, PV.int IntKind.u64 x85_5],
        AV.int IntKind.i64 x86,
        AV.agg
          [PV.int IntKind.i64 x102_0, PV.int IntKind.i64 x102_1, PV.sl 1 x102_2,
            PV.int IntKind.i64 x102_3, PV.int IntKind.i64 x102_4, PV.sl 1 x102_5,
            PV.int IntKind.i64 x102_6, PV.int IntKind.i64 x102_7, PV.sl 1 x102_8],
        AV.int IntKind.i64 x103],
    blks :=
      [Blk.box
          [AV.int IntKind.i64 b0_0, AV.int IntKind.i64 b0_1, AV.sl 1 b0_2],
        Blk.box [AV.sl 1 b1_0, AV.int IntKind.i64 b1_1],
        Blk.box [AV.sl 3 b2_0, AV.int IntKind.u64 b2_1]] } =
  ctl (ltB x103 3)
    (getE
      [[PV.int IntKind.i64 x102_0, PV.int IntKind.i64 x102_1, PV.sl 1 x102_2],
        [PV.int IntKind.i64 x102_3, PV.int IntKind.i64 x102_4, PV.sl 1 x102_5],
        [PV.int IntKind.i64 x102_6, PV.int IntKind.i64 x102_7, PV.sl 1 x102_8]]
      x103 fun (c : List PV) =>
      ctl
        (okCs [Sh.int IntKind.i64, Sh.int IntKind.i64, Sh.sl 1] c)
        (bnd
          (F 10
            [AV.agg [PV.sl 3 b2_0, PV.int IntKind.u64 b2_1],
              AV.agg
                [PV.int IntKind.i64 (nth PV.nilp c 0).toInt,
                  PV.int IntKind.i64 (nth PV.nilp c 1).toInt,
                  PV.sl 1 (nth PV.nilp c 2).toEs]]
            [])
          fun (r : Res) =>
          ctl
            (okR
                [RSh.agg [Sh.sl 3, Sh.int IntKind.u64],
                  RSh.one (Sh.int IntKind.i64)]
                r.fst &&
              okB [] r.snd)
            (bnd
              (F 22
                [AV.agg [PV.sl 3 b2_0, PV.int IntKind.u64 b2_1],
                  AV.agg
                    [PV.int IntKind.i64 (nth PV.nilp c 0).toInt,
                      PV.int IntKind.i64 (nth PV.nilp c 1).toInt,
                      PV.sl 1 (nth PV.nilp c 2).toEs]]
                [])
              fun (r_1 : Res) =>
              ctl
                (okR
                    [RSh.agg [Sh.sl 3, Sh.int IntKind.u64],
                      RSh.one (Sh.int IntKind.i64)]
                    r_1.fst &&
                  okB [] r_1.snd)
                (bnd
                  (F 23
                    [AV.agg
                        [PV.int IntKind.i64 (nth PV.nilp c 0).toInt,
                          PV.int IntKind.i64 (nth PV.nilp c 1).toInt,
                          PV.sl 1 (nth PV.nilp c 2).toEs]]
                    [])
                  fun (r_2 : Res) =>
                  ctl
                    (okR
                        [RSh.one Sh.str, RSh.one (Sh.int IntKind.i64)]
                        r_2.fst &&
                      okB [] r_2.snd)
                    (bnd
                      (F 8
                        [AV.agg
                            [PV.int IntKind.i64 (nth PV.nilp c 0).toInt,
                              PV.int IntKind.i64 (nth PV.nilp c 1).toInt,
                              PV.sl 1 (nth PV.nilp c 2).toEs]]
                        [])
                      fun (r_3 : Res) =>
                      ctl
                        (okR
                            [RSh.one Sh.str, RSh.one (Sh.int IntKind.i64)]
                            r_3.fst &&
                          okB [] r_3.snd)
                        (bnd
                          (ctl
                            (!(nth (RV.p PV.nilp) r.fst 1).toPV.toInt !=
                                (nth (RV.p PV.nilp) r_1.fst 1).toPV.toInt)
                            (bnd
                              (F 24
                                [AV.agg
                                    [PV.sl 3
                                        (nth PV.nilp
                                            (nth (RV.p PV.nilp) r.fst 0).toCs 0).toEs,
                                      PV.int IntKind.u64
                                        (nth PV.nilp
                                            (nth (RV.p PV.nilp) r.fst 0).toCs 1).toInt],
                                  AV.agg
                                    [PV.sl 3
                                        (nth PV.nilp
                                            (nth (RV.p PV.nilp) r_1.fst 0).toCs 0).toEs,
                                      PV.int IntKind.u64
                                        (nth PV.nilp
                                            (nth (RV.p PV.nilp) r_1.fst 0).toCs 1).toInt]]
                                [])
                              fun (r : Res) =>
                              ctl
                                (okR [RSh.one Sh.bool] r.fst && okB [] r.snd)
                                (Option.some !(nth (RV.p PV.nilp) r.fst 0).toPV.toBool) Option.none)
                            (Option.some Bool.true))
                          fun (v : Bool) =>
                          bnd
                            (ctl (!v)
                              (Option.some
                                !(nth (RV.p PV.nilp) r_2.fst 0).toPV.toStr ==
                                    (nth (RV.p PV.nilp) r_3.fst 0).toPV.toStr)
                              (Option.some Bool.true))
                            fun (v : Bool) =>
                            bnd
                              (ctl (!v)
                                (Option.some
                                  ((nth (RV.p PV.nilp) r_2.fst 1).toPV.toInt !=
                                    (nth (RV.p PV.nilp) r_3.fst 1).toPV.toInt))
                                (Option.some Bool.true))
                              fun (v : Bool) =>
                              bnd
                                (ctl (!v)
                                  (bnd
                                    (F 25
                                      [AV.agg
                                          [PV.int IntKind.i64 (nth PV.nilp c 0).toInt,
                                            PV.int IntKind.i64 (nth PV.nilp c 1).toInt,
                                            PV.sl 1 (nth PV.nilp c 2).toEs]]
                                      [])
                                    fun (r : Res) =>
                                    ctl
                                      (okR [RSh.one Sh.bool] r.fst &&
                                        okB [] r.snd)
                                      (bnd
                                        (F 26
                                          [AV.agg
                                              [PV.int IntKind.i64 (nth PV.nilp c 0).toInt,
                                                PV.int IntKind.i64 (nth PV.nilp c 1).toInt,
                                                PV.sl 1 (nth PV.nilp c 2).toEs]]
                                          [])
                                        fun (r_4 : Res) =>
                                        ctl
                                          (okR [RSh.one Sh.bool] r_4.fst &&
                                            okB [] r_4.snd)
                                          (Option.some
                                            !(nth (RV.p PV.nilp) r.fst 0).toPV.toBool ==
                                                (nth (RV.p PV.nilp) r_4.fst 0).toPV.toBool)
                                          Option.none)
                                      Option.none)
                                  (Option.some Bool.true))
                                fun (v : Bool) =>
                                ctl v (Option.some (Ex.ret, { vals := [AV.bool Bool.false], blks := [] }))
                                  (lp E F 6 0 [] 4
                                    {
                                      vals :=
                                        [AV.int IntKind.i64 kind3, AV.int IntKind.i64 from4,
                                          AV.int IntKind.i64 to5,
                                          AV.agg
                                            [PV.sl 3 x85_0, PV.int IntKind.u64 x85_1, PV.sl 3 x85_2,
                                              PV.int IntKind.u64 x85_3, PV.sl 3 x85_4,
                                              PV.int IntKind.u64 x85_5],
                                          AV.int IntKind.i64 x86,
                                          AV.agg
                                            [PV.int IntKind.i64 x102_0, PV.int IntKind.i64 x102_1,
                                              PV.sl 1 x102_2, PV.int IntKind.i64 x102_3,
                                              PV.int IntKind.i64 x102_4, PV.sl 1 x102_5,
                                              PV.int IntKind.i64 x102_6, PV.int IntKind.i64 x102_7,
                                              PV.sl 1 x102_8],
                                          AV.int IntKind.i64 (IntKind.i64.wrap (x103 + 1))],
                                      blks :=
                                        [Blk.box
                                            [AV.int IntKind.i64 b0_0, AV.int IntKind.i64 b0_1, AV.sl 1 b0_2],
                                          Blk.box [AV.sl 1 b1_0, AV.int IntKind.i64 b1_1],
                                          Blk.box [AV.sl 3 b2_0, AV.int IntKind.u64 b2_1]] }))
                        Option.none)
                    Option.none)
                Option.none)
            Option.none)
        Option.none)
    (Option.some
      (Ex.exit 4,
        {
          vals :=
            [AV.int IntKind.i64 kind3, AV.int IntKind.i64 from4, AV.int IntKind.i64 to5,
              AV.agg
                [PV.sl 3 x85_0, PV.int IntKind.u64 x85_1, PV.sl 3 x85_2,
                  PV.int IntKind.u64 x85_3, PV.sl 3 x85_4, PV.int IntKind.u64 x85_5],
              AV.int IntKind.i64 x86],
          blks :=
            [Blk.box
                [AV.int IntKind.i64 b0_0, AV.int IntKind.i64 b0_1, AV.sl 1 b0_2],
              Blk.box [AV.sl 1 b1_0, AV.int IntKind.i64 b1_1],
              Blk.box [AV.sl 3 b2_0, AV.int IntKind.u64 b2_1]] })) := (lp_unfold ..).trans (by kernel_rfl)

/-- dynpos/dynposlaw36.LogbookExact, the loop of block 6 -/
theorem r6_6 (F : Fun) (kind3 : Int) (from4 : Int) (to5 : Int) (x85_0 : List (List PV)) (x85_1 : Int) (x85_2 : List (List PV)) (x85_3 : Int) (x85_4 : List (List PV)) (x85_5 : Int) (x86 : Int) (x184_0 : Int) (x184_1 : Int) (x184_2 : Int) (x184_3 : Int) (x184_4 : Int) (x184_5 : Int) (x185 : Int) (b0_0 : Int) (b0_1 : Int) (b0_2 : List (List PV)) (b1_0 : List (List PV)) (b1_1 : Int) (b2_0 : List (List PV)) (b2_1 : Int) : lp E F 6 0 [] 6
  {
    vals :=
      [AV.int IntKind.i64 kind3, AV.int IntKind.i64 from4, AV.int IntKind.i64 to5,
        AV.agg
          [PV.sl 3 x85_0, PV.int IntKind.u64 x85_1, PV.sl 3 x85_2,
            PV.int IntKind.u64 x85_3, PV.sl 3 x85_4, PV.int IntKind.u64 x85_5],
        AV.int IntKind.i64 x86,
        AV.agg
          [PV.int IntKind.i64 x184_0, PV.int IntKind.i64 x184_1, PV.int IntKind.i64 x184_2,
            PV.int IntKind.i64 x184_3, PV.int IntKind.i64 x184_4, PV.int IntKind.i64 x184_5],
        AV.int IntKind.i64 x185],
    blks :=
      [Blk.box
          [AV.int IntKind.i64 b0_0, AV.int IntKind.i64 b0_1, AV.sl 1 b0_2],
        Blk.box [AV.sl 1 b1_0, AV.int IntKind.i64 b1_1],
        Blk.box [AV.sl 3 b2_0, AV.int IntKind.u64 b2_1]] } =
  ctl (ltB x185 2)
    (getE
      [[PV.int IntKind.i64 x184_0, PV.int IntKind.i64 x184_1, PV.int IntKind.i64 x184_2],
        [PV.int IntKind.i64 x184_3, PV.int IntKind.i64 x184_4, PV.int IntKind.i64 x184_5]]
      x185 fun (c : List PV) =>
      ctl
        (okCs
          [Sh.int IntKind.i64, Sh.int IntKind.i64, Sh.int IntKind.i64] c)
        (bnd
          (F 16
            [AV.agg [PV.sl 3 b2_0, PV.int IntKind.u64 b2_1],
              AV.int IntKind.i64 (nth PV.nilp c 0).toInt,
              AV.int IntKind.i64 (nth PV.nilp c 1).toInt]
            [])
          fun (r : Res) =>
          ctl
            (okR
                [RSh.one (Sh.int IntKind.i64), RSh.one Sh.bool] r.fst &&
              okB [] r.snd)
            (bnd
              (F 29
                [AV.agg [PV.sl 3 b2_0, PV.int IntKind.u64 b2_1],
                  AV.int IntKind.i64 (nth PV.nilp c 0).toInt,
                  AV.int IntKind.i64 (nth PV.nilp c 1).toInt]
                [])
              fun (r_1 : Res) =>
              ctl
                (okR
                    [RSh.one (Sh.int IntKind.i64), RSh.one Sh.bool] r_1.fst &&
                  okB [] r_1.snd)
                (bnd
                  (F 15
                    [AV.agg [PV.sl 3 b2_0, PV.int IntKind.u64 b2_1],
                      AV.int IntKind.i64 (nth PV.nilp c 0).toInt,
                      AV.int IntKind.i64 (nth PV.nilp c 1).toInt,
                      AV.int IntKind.i64 (nth PV.nilp c 2).toInt]
                    [])
                  fun (r_2 : Res) =>
                  ctl
                    (okR [RSh.own 3, RSh.one (Sh.int IntKind.i64)] r_2.fst &&
                      okB [] r_2.snd)
                    (bnd
                      (F 30
                        [AV.agg [PV.sl 3 b2_0, PV.int IntKind.u64 b2_1],
                          AV.int IntKind.i64 (nth PV.nilp c 0).toInt,
                          AV.int IntKind.i64 (nth PV.nilp c 1).toInt,
                          AV.int IntKind.i64 (nth PV.nilp c 2).toInt]
                        [])
                      fun (r_3 : Res) =>
                      ctl
                        (okR
                            [RSh.one (Sh.sl 3), RSh.one (Sh.int IntKind.i64)]
                            r_3.fst &&
                          okB [] r_3.snd)
                        (bnd
                          (F 31
                            [AV.agg [PV.sl 3 b2_0, PV.int IntKind.u64 b2_1],
                              AV.int IntKind.i64 (nth PV.nilp c 1).toInt,
                              AV.int IntKind.i64 (nth PV.nilp c 2).toInt]
                            [])
                          fun (r_4 : Res) =>
                          ctl
                            (okR
                                [RSh.one (Sh.sl 3),
                                  RSh.one (Sh.int IntKind.i64)]
                                r_4.fst &&
                              okB [] r_4.snd)
                            (bnd
                              (F 32
                                [AV.agg [PV.sl 3 b2_0, PV.int IntKind.u64 b2_1],
                                  AV.int IntKind.i64 (nth PV.nilp c 1).toInt,
                                  AV.int IntKind.i64 (nth PV.nilp c 2).toInt]
                                [])
                              fun (r_5 : Res) =>
                              ctl
                                (okR
                                    [RSh.one (Sh.sl 3),
                                      RSh.one (Sh.int IntKind.i64)]
                                    r_5.fst &&
                                  okB [] r_5.snd)
                                (bnd
                                  (ctl
                                    (!(nth (RV.p PV.nilp) r.fst 0).toPV.toInt !=
                                        (nth (RV.p PV.nilp) r_1.fst 0).toPV.toInt)
                                    (Option.some
                                      !(nth (RV.p PV.nilp) r.fst 1).toPV.toBool ==
                                          (nth (RV.p PV.nilp) r_1.fst 1).toPV.toBool)
                                    (Option.some Bool.true))
                                  fun (v : Bool) =>
                                  bnd
                                    (ctl (!v)
                                      (Option.some
                                        ((nth (RV.p PV.nilp) r_2.fst 1).toPV.toInt !=
                                          (nth (RV.p PV.nilp) r_3.fst 1).toPV.toInt))
                                      (Option.some Bool.true))
                                    fun (v : Bool) =>
                                    bnd
                                      (ctl (!v)
                                        (bnd
                                          (F 33
                                            [AV.sl 3
                                                (nth (RV.p PV.nilp) r_2.fst 0).toEs,
                                              AV.sl 3
                                                (nth (RV.p PV.nilp) r_3.fst 0).toPV.toEs]
                                            [])
                                          fun (r : Res) =>
                                          ctl
                                            (okR [RSh.one Sh.bool] r.fst &&
                                                okB [] r.snd &&
                                              (noslR r.fst && noslB r.snd))
                                            (Option.some !(nth (RV.p PV.nilp) r.fst 0).toPV.toBool) Option.none)
                                        (Option.some Bool.true))
                                      fun (v : Bool) =>
                                      bnd
                                        (ctl (!v)
                                          (Option.some
                                            ((nth (RV.p PV.nilp) r_4.fst 1).toPV.toInt !=
                                              (nth (RV.p PV.nilp) r_5.fst 1).toPV.toInt))
                                          (Option.some Bool.true))
                                        fun (v : Bool) =>
                                        bnd
                                          (ctl (!v)
                                            (bnd
                                              (F 33
                                                [AV.sl 3
                                                    (nth (RV.p PV.nilp) r_4.fst 0).toPV.toEs,
                                                  AV.sl 3
                                                    (nth (RV.p PV.nilp) r_5.fst 0).toPV.toEs]
                                                [])
                                              fun (r : Res) =>
                                              ctl
                                                (okR [RSh.one Sh.bool] r.fst &&
                                                  okB [] r.snd)
                                                (Option.some !(nth (RV.p PV.nilp) r.fst 0).toPV.toBool) Option.none)
                                            (Option.some Bool.true))
                                          fun (v : Bool) =>
                                          ctl v (Option.some (Ex.ret, { vals := [AV.bool Bool.false], blks := [] }))
                                            (lp E F 6 0 [] 6
                                              {
                                                vals :=
                                                  [AV.int IntKind.i64 kind3, AV.int IntKind.i64 from4,
                                                    AV.int IntKind.i64 to5,
                                                    AV.agg
                                                      [PV.sl 3 x85_0, PV.int IntKind.u64 x85_1, PV.sl 3 x85_2,
                                                        PV.int IntKind.u64 x85_3, PV.sl 3 x85_4,
                                                        PV.int IntKind.u64 x85_5],
                                                    AV.int IntKind.i64 x86,
                                                    AV.agg
                                                      [PV.int IntKind.i64 x184_0, PV.int IntKind.i64 x184_1,
                                                        PV.int IntKind.i64 x184_2, PV.int IntKind.i64 x184_3,
                                                        PV.int IntKind.i64 x184_4, PV.int IntKind.i64 x184_5],
                                                    AV.int IntKind.i64 (IntKind.i64.wrap (x185 + 1))],
                                                blks :=
                                                  [Blk.box
                                                      [AV.int IntKind.i64 b0_0, AV.int IntKind.i64 b0_1,
                                                        AV.sl 1 b0_2],
                                                    Blk.box [AV.sl 1 b1_0, AV.int IntKind.i64 b1_1],
                                                    Blk.box [AV.sl 3 b2_0, AV.int IntKind.u64 b2_1]] }))
                                Option.none)
                            Option.none)
                        Option.none)
                    Option.none)
                Option.none)
            Option.none)
        Option.none)
    (Option.some
      (Ex.exit 6,
        {
          vals :=
            [AV.int IntKind.i64 kind3, AV.int IntKind.i64 from4, AV.int IntKind.i64 to5,
              AV.agg
                [PV.sl 3 x85_0, PV.int IntKind.u64 x85_1, PV.sl 3 x85_2,
                  PV.int IntKind.u64 x85_3, PV.sl 3 x85_4, PV.int IntKind.u64 x85_5],
              AV.int IntKind.i64 x86],
          blks :=
            [Blk.box
                [AV.int IntKind.i64 b0_0, AV.int IntKind.i64 b0_1, AV.sl 1 b0_2],
              Blk.box [AV.sl 1 b1_0, AV.int IntKind.i64 b1_1]] })) := (lp_unfold ..).trans (by kernel_rfl)

/-- dynpos/dynposlaw36.LogbookExact -/
theorem r6 (F : Fun) (t : List (List PV)) (raw0 : List (List PV)) (raw1 : Int) (odd0 : Int) (odd1 : Int) (odd2 : List (List PV)) (kind : Int) (zfrom : Int) (to : Int) : funK E F 6 [AV.sl 1 t, AV.agg [PV.sl 3 raw0, PV.int IntKind.u64 raw1],
  AV.agg [PV.int IntKind.i64 odd0, PV.int IntKind.i64 odd1, PV.sl 1 odd2],
  AV.int IntKind.i64 kind, AV.int IntKind.i64 zfrom, AV.int IntKind.i64 to] [] =
  bnd
    (ctl (!ltB 600 (↑t.length : Int)) (Option.some (ltB 30 (↑raw0.length : Int))) (Option.some Bool.true))
    fun (v : Bool) =>
    bnd (ctl (!v) (Option.some (ltB 10 (↑odd2.length : Int))) (Option.some Bool.true)) fun (v : Bool) =>
      ctl v
        (bnd (F 11 [] []) fun (r : Res) =>
          ctl
            (okR [RSh.one Sh.bool] r.fst && okB [] r.snd)
            (Option.some
              ([RV.p
                    (PV.bool (nth (RV.p PV.nilp) r.fst 0).toPV.toBool)],
                []))
            Option.none)
        (bnd
          (lp E F 6 0 [] 0
            {
              vals :=
                [AV.sl 1 t, AV.int IntKind.i64 kind, AV.int IntKind.i64 zfrom,
                  AV.int IntKind.i64 to, AV.sl 3 raw0, AV.int IntKind.i64 (↑raw0.length : Int),
                  AV.int IntKind.i64 0],
              blks :=
                [Blk.box [AV.sl 3 raw0, AV.int IntKind.u64 raw1],
                  Blk.box
                    [AV.int IntKind.i64 odd0, AV.int IntKind.i64 odd1, AV.sl 1 odd2]] })
          fun (p : Ex × Pack) =>
          ctl (p.fst.eqb (Ex.exit 0))
            (ctl
              (okPack
                {
                  slots :=
                    [(0, Sum.inl (Sh.sl 1)), (3, Sum.inl (Sh.int IntKind.i64)),
                      (4, Sum.inl (Sh.int IntKind.i64)), (5, Sum.inl (Sh.int IntKind.i64)),
                      (7, Sum.inr (Sum.inr (AV.t (TV.ptr 0 0)))),
                      (8, Sum.inr (Sum.inr (AV.t (TV.ptr 1 0))))],
                  blks :=
                    [Sum.inl [Sum.inl (Sh.sl 3), Sum.inl (Sh.int IntKind.u64)],
                      Sum.inl
                        [Sum.inl (Sh.int IntKind.i64), Sum.inl (Sh.int IntKind.i64), Sum.inl (Sh.sl 1)]] }
                p.snd)
              (bnd (F 12 [AV.sl 1 (nth AV.undef p.snd.vals 0).toPV.toEs] [])
                fun (r : Res) =>
                ctl
                  (okR [RSh.ownp [Sh.sl 1, Sh.int IntKind.i64]] r.fst &&
                    okB [] r.snd)
                  (bnd
                    (F 13 [AV.t (TV.ptr 0 0), AV.int IntKind.i64 12]
                      [Blk.box
                          [AV.sl 1
                              (nth PV.nilp
                                  (nth (RV.p PV.nilp) r.fst 0).toCs 0).toEs,
                            AV.int IntKind.i64
                              (nth PV.nilp
                                  (nth (RV.p PV.nilp) r.fst 0).toCs 1).toInt]])
                    fun (r : Res) =>
                    ctl
                      (okR [RSh.agg [Sh.sl 3, Sh.int IntKind.u64]] r.fst &&
                        okB [Sum.inl [Sh.sl 1, Sh.int IntKind.i64]] r.snd)
                      (bnd
                        (F 20
                          [AV.t (TV.ptr 0 0),
                            AV.agg
                              [PV.sl 3
                                  (nth PV.nilp
                                      (nth (RV.p PV.nilp) r.fst 0).toCs 0).toEs,
                                PV.int IntKind.u64
                                  (nth PV.nilp
                                      (nth (RV.p PV.nilp) r.fst 0).toCs 1).toInt]]
                          [Blk.box
                              [AV.sl 1
                                  (nth PV.nilp
                                      (List.map AV.toPV (nth (Blk.box []) r.snd 0).toCs) 0).toEs,
                                AV.int IntKind.i64
                                  (nth PV.nilp
                                      (List.map AV.toPV (nth (Blk.box []) r.snd 0).toCs) 1).toInt]])
                        fun (r_1 : Res) =>
                        ctl
                          (okR [RSh.agg [Sh.sl 3, Sh.int IntKind.u64]]
                              r_1.fst &&
                            okB [Sum.inl [Sh.sl 1, Sh.int IntKind.i64]] r_1.snd)
                          (bnd
                            (lp E F 6 0 [] 2
                              {
                                vals :=
                                  [AV.int IntKind.i64 (nth AV.undef p.snd.vals 1).toPV.toInt,
                                    AV.int IntKind.i64 (nth AV.undef p.snd.vals 2).toPV.toInt,
                                    AV.int IntKind.i64 (nth AV.undef p.snd.vals 3).toPV.toInt,
                                    AV.agg
                                      [PV.sl 3
                                          (nth PV.nilp
                                              (nth (RV.p PV.nilp) r.fst 0).toCs 0).toEs,
                                        PV.int IntKind.u64
                                          (nth PV.nilp
                                              (nth (RV.p PV.nilp) r.fst 0).toCs 1).toInt,
                                        PV.sl 3
                                          (nth PV.nilp
                                              (nth (RV.p PV.nilp) r_1.fst 0).toCs 0).toEs,
                                        PV.int IntKind.u64
                                          (nth PV.nilp
                                              (nth (RV.p PV.nilp) r_1.fst 0).toCs 1).toInt,
                                        PV.sl 3
                                          (nth AV.undef
                                                (nth (Blk.box []) p.snd.blks 0).toCs 0).toPV.toEs,
                                        PV.int IntKind.u64
                                          (nth AV.undef
                                                (nth (Blk.box []) p.snd.blks 0).toCs 1).toPV.toInt],
                                    AV.int IntKind.i64 0],
                                blks :=
                                  [Blk.box
                                      [AV.int IntKind.i64
                                          (nth AV.undef
                                                (nth (Blk.box []) p.snd.blks 1).toCs 0).toPV.toInt,
                                        AV.int IntKind.i64
                                          (nth AV.undef
                                                (nth (Blk.box []) p.snd.blks 1).toCs 1).toPV.toInt,
                                        AV.sl 1
                                          (nth AV.undef
                                                (nth (Blk.box []) p.snd.blks 1).toCs 2).toPV.toEs],
                                    Blk.box
                                      [AV.sl 1
                                          (nth PV.nilp
                                              (List.map AV.toPV (nth (Blk.box []) r_1.snd 0).toCs) 0).toEs,
                                        AV.int IntKind.i64
                                          (nth PV.nilp
                                              (List.map AV.toPV (nth (Blk.box []) r_1.snd 0).toCs) 1).toInt]] })
                            fun (p : Ex × Pack) =>
                            ctl (p.fst.eqb (Ex.exit 2))
                              (bnd (F 34 [] []) fun (r : Res) =>
                                ctl
                                  (okR [RSh.agg [Sh.sl 3, Sh.int IntKind.u64]]
                                      r.fst &&
                                    okB [] r.snd)
                                  (bnd (F 7 [] []) fun (r_2 : Res) =>
                                    ctl
                                      (okR
                                          [RSh.agg [Sh.sl 3, Sh.int IntKind.u64]] r_2.fst &&
                                        okB [] r_2.snd)
                                      (bnd
                                        (F 24
                                          [AV.agg
                                              [PV.sl 3
                                                  (nth PV.nilp
                                                      (nth (RV.p PV.nilp) r.fst 0).toCs 0).toEs,
                                                PV.int IntKind.u64
                                                  (nth PV.nilp
                                                      (nth (RV.p PV.nilp) r.fst 0).toCs 1).toInt],
                                            AV.agg
                                              [PV.sl 3
                                                  (nth PV.nilp
                                                      (nth (RV.p PV.nilp) r_2.fst 0).toCs 0).toEs,
                                                PV.int IntKind.u64
                                                  (nth PV.nilp
                                                      (nth (RV.p PV.nilp) r_2.fst 0).toCs 1).toInt]]
                                          [])
                                        fun (r : Res) =>
                                        ctl
                                          (okR [RSh.one Sh.bool] r.fst &&
                                            okB [] r.snd)
                                          (bnd
                                            (ctl
                                              (nth (RV.p PV.nilp) r.fst 0).toPV.toBool
                                              (bnd (F 11 [] []) fun (r : Res) =>
                                                ctl
                                                  (okR [RSh.one Sh.bool] r.fst &&
                                                    okB [] r.snd)
                                                  (Option.some (nth (RV.p PV.nilp) r.fst 0).toPV.toBool) Option.none)
                                              (Option.some Bool.false))
                                            fun (v : Bool) => Option.some ([RV.p (PV.bool v)], []))
                                          Option.none)
                                      Option.none)
                                  Option.none)
                              (ctl (p.fst.eqb Ex.ret)
                                (ctl (okPack { slots := [(12, Sum.inl Sh.bool)], blks := [] } p.snd)
                                  (Option.some
                                    ([RV.p
                                          (PV.bool (nth AV.undef p.snd.vals 0).toPV.toBool)],
                                      []))
                                  Option.none)
                                Option.none))
                          Option.none)
                      Option.none)
                  Option.none)
              Option.none)
            (ctl (p.fst.eqb Ex.ret)
              (ctl (okPack { slots := [(12, Sum.inl Sh.bool)], blks := [] } p.snd)
                (Option.some
                  ([RV.p (PV.bool (nth AV.undef p.snd.vals 0).toPV.toBool)], []))
                Option.none)
              Option.none)) := by kernel_rfl

end Go.Proofs.YtdbajagnhanpfaaDoor.Vm
