/- The raw theorems, by program: what each function and each loop comes to. -/
import Derived.Test.YthmhnnppikdafaaEnv
import Derived.Test.YthmhnnppikdafaaVm34
import Derived.KernelRfl
namespace Go.Proofs.Ythmhnnppikdafaa.Vm
open Go
set_option maxRecDepth 100000
set_option linter.unusedVariables false

/-- dynpos/dynposlaw33.FailoverOne, the loop of block 0 -/
theorem r6_0 (F : Fun) (l4 : List (List PV)) (at5 : Int) (time6 : Int) (b0_0 : List (List PV)) (b0_1 : Int) : lp E F 6 0 [] 0
  { vals := [AV.sl 3 l4, AV.int IntKind.i64 at5, AV.int IntKind.i64 time6],
    blks := [Blk.box [AV.sl 1 b0_0, AV.int IntKind.i64 b0_1]] } =
  ctl (ltB time6 (IntKind.i64.wrap (at5 + 4)))
    (bnd
      (F 12 [AV.t (TV.ptr 0 0), AV.sl 3 l4, AV.int IntKind.i64 time6]
        [Blk.box [AV.sl 1 b0_0, AV.int IntKind.i64 b0_1]])
      fun (r : Res) =>
      ctl
        (okR [RSh.one (Sh.sl 3)] r.fst &&
          okB [Sum.inl [Sh.sl 1, Sh.int IntKind.i64]] r.snd)
        (bnd
          (F 14
            [AV.t (TV.ptr 0 0),
              AV.int IntKind.i64 (↑(nth (RV.p PV.nilp) r.fst 0).toPV.toEs.length : Int)]
            [Blk.box
                [AV.sl 1
                    (nth PV.nilp
                        (List.map AV.toPV (nth (Blk.box []) r.snd 0).toCs) 0).toEs,
                  AV.int IntKind.i64
                    (nth PV.nilp
                        (List.map AV.toPV (nth (Blk.box []) r.snd 0).toCs) 1).toInt]])
          fun (r_1 : Res) =>
          ctl
            (okR [RSh.one (Sh.sl 1)] r_1.fst &&
              okB [Sum.inl [Sh.sl 1, Sh.int IntKind.i64]] r_1.snd)
            (bnd
              (F 16 [AV.t (TV.ptr 0 0), AV.int IntKind.i64 3]
                [Blk.box
                    [AV.sl 1
                        (nth PV.nilp
                            (List.map AV.toPV (nth (Blk.box []) r_1.snd 0).toCs) 0).toEs,
                      AV.int IntKind.i64
                        (nth PV.nilp
                            (List.map AV.toPV (nth (Blk.box []) r_1.snd 0).toCs) 1).toInt]])
              fun (r_2 : Res) =>
              ctl
                (okR [RSh.one (Sh.int IntKind.i64)] r_2.fst &&
                  okB [Sum.inl [Sh.sl 1, Sh.int IntKind.i64]] r_2.snd)
                (bnd
                  (F 13
                    [AV.sl 3 (nth (RV.p PV.nilp) r.fst 0).toPV.toEs,
                      AV.sl 1 (nth (RV.p PV.nilp) r_1.fst 0).toPV.toEs,
                      AV.int IntKind.i64 time6,
                      AV.int IntKind.i64 (nth (RV.p PV.nilp) r_2.fst 0).toPV.toInt]
                    [])
                  fun (r : Res) =>
                  ctl
                    (okR
                        [RSh.one (Sh.sl 3), RSh.one (Sh.int IntKind.i64)] r.fst &&
                      okB [] r.snd)
                    (ctl ((nth (RV.p PV.nilp) r.fst 1).toPV.toInt != 0)
                      (Option.some (Ex.ret, { vals := [AV.bool Bool.false], blks := [] }))
                      (bnd
                        (lp E F 6 0 [] 2
                          {
                            vals :=
                              [AV.int IntKind.i64 at5, AV.int IntKind.i64 time6,
                                AV.sl 1 (nth (RV.p PV.nilp) r_1.fst 0).toPV.toEs,
                                AV.sl 3 (nth (RV.p PV.nilp) r.fst 0).toPV.toEs,
                                AV.int IntKind.i64 0,
                                AV.sl 3 (nth (RV.p PV.nilp) r.fst 0).toPV.toEs,
                                AV.int IntKind.i64
                                  (↑(nth (RV.p PV.nilp) r.fst 0).toPV.toEs.length : Int),
                                AV.int IntKind.i64 0],
                            blks :=
                              [Blk.box
                                  [AV.sl 1
                                      (nth PV.nilp
                                          (List.map AV.toPV (nth (Blk.box []) r_2.snd 0).toCs) 0).toEs,
                                    AV.int IntKind.i64
                                      (nth PV.nilp
                                          (List.map AV.toPV (nth (Blk.box []) r_2.snd 0).toCs) 1).toInt]] })
                        fun (p : Ex × Pack) =>
                        ctl (p.fst.eqb (Ex.exit 2))
                          (ctl
                            (okPack
                              {
                                slots :=
                                  [(3, Sum.inr (Sum.inr (AV.t (TV.ptr 0 0)))), (5, Sum.inl (Sh.int IntKind.i64)),
                                    (6, Sum.inl (Sh.int IntKind.i64)), (8, Sum.inl (Sh.sl 3)),
                                    (10, Sum.inl (Sh.int IntKind.i64))],
                                blks := [Sum.inl [Sum.inl (Sh.sl 1), Sum.inl (Sh.int IntKind.i64)]] }
                              p.snd)
                            (ctl (ltB 1 (nth AV.undef p.snd.vals 3).toPV.toInt)
                              (Option.some (Ex.ret, { vals := [AV.bool Bool.false], blks := [] }))
                              (lp E F 6 0 [] 0
                                {
                                  vals :=
                                    [AV.sl 3 (nth AV.undef p.snd.vals 2).toPV.toEs,
                                      AV.int IntKind.i64 (nth AV.undef p.snd.vals 0).toPV.toInt,
                                      AV.int IntKind.i64 (IntKind.i64.wrap ((nth AV.undef p.snd.vals 1).toPV.toInt + 1))],
                                  blks :=
                                    [Blk.box
                                        [AV.sl 1
                                            (nth AV.undef (nth (Blk.box []) p.snd.blks 0).toCs
                                                  0).toPV.toEs,
                                          AV.int IntKind.i64
                                            (nth AV.undef (nth (Blk.box []) p.snd.blks 0).toCs
                                                  1).toPV.toInt]] }))
                            Option.none)
                          Option.none))
                    Option.none)
                Option.none)
            Option.none)
        Option.none)
    (Option.some (Ex.exit 0, { vals := [], blks := [] })) := (lp_unfold ..).trans (by kernel_rfl)

/-- dynpos/dynposlaw33.FailoverOne, the loop of block 2 -/
theorem r6_2 (F : Fun) (at5 : Int) (time6 : Int) (r7 : List (List PV)) (n8 : List (List PV)) (k10 : Int) (x52 : List (List PV)) (x53 : Int) (x54 : Int) (b0_0 : List (List PV)) (b0_1 : Int) : lp E F 6 0 [] 2
  {
    vals :=
      [AV.int IntKind.i64 at5, AV.int IntKind.i64 time6, AV.sl 1 r7, AV.sl 3 n8,
        AV.int IntKind.i64 k10, AV.sl 3 x52, AV.int IntKind.i64 x53,
        AV.int IntKind.i64 x54],
    blks := [Blk.box [AV.sl 1 b0_0, AV.int IntKind.i64 b0_1]] } =
  ctl (ltB x54 x53)
    (getE x52 x54 fun (c : List PV) =>
      ctl
        (okCs [Sh.int IntKind.i64, Sh.int IntKind.i64, Sh.int IntKind.i64] c)
        (ctl ((nth PV.nilp c 0).toInt == 1)
          (bnd (F 22 [AV.sl 3 n8, AV.sl 1 r7, AV.int IntKind.i64 x54] [])
            fun (r : Res) =>
            ctl (okR [RSh.one (Sh.sl 1)] r.fst && okB [] r.snd)
              (ctl
                (ltB (↑n8.length : Int)
                  (IntKind.i64.wrap (2 * (↑(nth (RV.p PV.nilp) r.fst 0).toPV.toEs.length : Int))))
                (lp E F 6 0 [] 2
                  {
                    vals :=
                      [AV.int IntKind.i64 at5, AV.int IntKind.i64 time6, AV.sl 1 r7,
                        AV.sl 3 n8, AV.int IntKind.i64 (IntKind.i64.wrap (k10 + 1)), AV.sl 3 x52,
                        AV.int IntKind.i64 x53, AV.int IntKind.i64 (IntKind.i64.wrap (x54 + 1))],
                    blks := [Blk.box [AV.sl 1 b0_0, AV.int IntKind.i64 b0_1]] })
                (lp E F 6 0 [] 2
                  {
                    vals :=
                      [AV.int IntKind.i64 at5, AV.int IntKind.i64 time6, AV.sl 1 r7,
                        AV.sl 3 n8, AV.int IntKind.i64 k10, AV.sl 3 x52,
                        AV.int IntKind.i64 x53, AV.int IntKind.i64 (IntKind.i64.wrap (x54 + 1))],
                    blks := [Blk.box [AV.sl 1 b0_0, AV.int IntKind.i64 b0_1]] }))
              Option.none)
          (lp E F 6 0 [] 2
            {
              vals :=
                [AV.int IntKind.i64 at5, AV.int IntKind.i64 time6, AV.sl 1 r7, AV.sl 3 n8,
                  AV.int IntKind.i64 k10, AV.sl 3 x52, AV.int IntKind.i64 x53,
                  AV.int IntKind.i64 (IntKind.i64.wrap (x54 + 1))],
              blks := [Blk.box [AV.sl 1 b0_0, AV.int IntKind.i64 b0_1]] }))
        Option.none)
    (Option.some
      (Ex.exit 2,
        {
          vals :=
            [AV.int IntKind.i64 at5, AV.int IntKind.i64 time6, AV.sl 3 n8,
              AV.int IntKind.i64 k10],
          blks := [Blk.box [AV.sl 1 b0_0, AV.int IntKind.i64 b0_1]] })) := (lp_unfold ..).trans (by kernel_rfl)

/-- dynpos/dynposlaw33.FailoverOne -/
theorem r6 (F : Fun) (t : List (List PV)) : funK E F 6 [AV.sl 1 t] [] =
  ctl (ltB 600 (↑t.length : Int))
    (bnd (F 8 [] []) fun (r : Res) =>
      ctl (okR [RSh.one Sh.bool] r.fst && okB [] r.snd)
        (Option.some
          ([RV.p
                (PV.bool (nth (RV.p PV.nilp) r.fst 0).toPV.toBool)],
            []))
        Option.none)
    (bnd (F 9 [AV.sl 1 t] []) fun (r : Res) =>
      ctl
        (okR [RSh.ownp [Sh.sl 1, Sh.int IntKind.i64]] r.fst &&
          okB [] r.snd)
        (bnd
          (F 16 [AV.t (TV.ptr 0 0), AV.int IntKind.i64 8]
            [Blk.box
                [AV.sl 1
                    (nth PV.nilp (nth (RV.p PV.nilp) r.fst 0).toCs
                        0).toEs,
                  AV.int IntKind.i64
                    (nth PV.nilp (nth (RV.p PV.nilp) r.fst 0).toCs
                        1).toInt]])
          fun (r : Res) =>
          ctl
            (okR [RSh.one (Sh.int IntKind.i64)] r.fst &&
              okB [Sum.inl [Sh.sl 1, Sh.int IntKind.i64]] r.snd)
            (bnd
              (F 15
                [AV.t (TV.ptr 0 0),
                  AV.int IntKind.i64 (nth (RV.p PV.nilp) r.fst 0).toPV.toInt]
                [Blk.box
                    [AV.sl 1
                        (nth PV.nilp
                            (List.map AV.toPV (nth (Blk.box []) r.snd 0).toCs) 0).toEs,
                      AV.int IntKind.i64
                        (nth PV.nilp
                            (List.map AV.toPV (nth (Blk.box []) r.snd 0).toCs) 1).toInt]])
              fun (r : Res) =>
              ctl
                (okR
                    [RSh.one (Sh.sl 3), RSh.one (Sh.int IntKind.i64)] r.fst &&
                  okB [Sum.inl [Sh.sl 1, Sh.int IntKind.i64]] r.snd)
                (bnd
                  (lp E F 6 0 [] 0
                    {
                      vals :=
                        [AV.sl 3 (nth (RV.p PV.nilp) r.fst 0).toPV.toEs,
                          AV.int IntKind.i64 (nth (RV.p PV.nilp) r.fst 1).toPV.toInt,
                          AV.int IntKind.i64 (nth (RV.p PV.nilp) r.fst 1).toPV.toInt],
                      blks :=
                        [Blk.box
                            [AV.sl 1
                                (nth PV.nilp
                                    (List.map AV.toPV (nth (Blk.box []) r.snd 0).toCs) 0).toEs,
                              AV.int IntKind.i64
                                (nth PV.nilp
                                    (List.map AV.toPV (nth (Blk.box []) r.snd 0).toCs) 1).toInt]] })
                  fun (p : Ex × Pack) =>
                  ctl (p.fst.eqb (Ex.exit 0))
                    (bnd (F 8 [] []) fun (r : Res) =>
                      ctl
                        (okR [RSh.one Sh.bool] r.fst && okB [] r.snd)
                        (Option.some
                          ([RV.p
                                (PV.bool (nth (RV.p PV.nilp) r.fst 0).toPV.toBool)],
                            []))
                        Option.none)
                    (ctl (p.fst.eqb Ex.ret)
                      (ctl (okPack { slots := [(2, Sum.inl Sh.bool)], blks := [] } p.snd)
                        (Option.some
                          ([RV.p (PV.bool (nth AV.undef p.snd.vals 0).toPV.toBool)], []))
                        Option.none)
                      Option.none))
                Option.none)
            Option.none)
        Option.none) := by kernel_rfl

end Go.Proofs.Ythmhnnppikdafaa.Vm
