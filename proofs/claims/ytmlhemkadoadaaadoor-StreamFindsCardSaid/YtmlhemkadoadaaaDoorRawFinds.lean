/- The raw theorems, by program: what each function and each loop comes to. -/
import Derived.Test.YtmlhemkadoadaaaDoorEnv
import Derived.Test.YtmlhemkadoadaaaDoorVm34
import Derived.KernelRfl
namespace Go.Proofs.YtmlhemkadoadaaaDoor.Vm
open Go
set_option maxRecDepth 100000
set_option linter.unusedVariables false

/-- dynpos/dynposlaw05.StreamFinds, the loop of block 0 -/
theorem r7_0 (F : Fun) (garbage6 : Int) (k7 : Int) (b0_0 : List (List PV)) (b0_1 : Int) (c1 : List (List PV)) (c2 : List (List PV)) : lp E F 7 0 [] 0
  { vals := [AV.int IntKind.i64 garbage6, AV.int IntKind.i64 k7],
    blks :=
      [Blk.box [AV.sl 1 b0_0, AV.int IntKind.i64 b0_1], Blk.arr 1 c1,
        Blk.arr 1 c2] } =
  ctl (ltB 0 k7)
    (bnd
      (F 21 [AV.t (TV.ptr 0 0), AV.int IntKind.i64 5]
        [Blk.box [AV.sl 1 b0_0, AV.int IntKind.i64 b0_1]])
      fun (r : Res) =>
      ctl
        (okR [RSh.one (Sh.int IntKind.i64)] r.fst &&
          okB [Sum.inl [Sh.sl 1, Sh.int IntKind.i64]] r.snd)
        (bnd
          (lp E F 7 0 [] 2
            {
              vals :=
                [AV.int IntKind.i64 garbage6, AV.int IntKind.i64 k7,
                  AV.int IntKind.i64 (nth (RV.p PV.nilp) r.fst 0).toPV.toInt],
              blks :=
                [Blk.box
                    [AV.sl 1
                        (nth PV.nilp
                            (List.map AV.toPV (nth (Blk.box []) r.snd 0).toCs) 0).toEs,
                      AV.int IntKind.i64
                        (nth PV.nilp
                            (List.map AV.toPV (nth (Blk.box []) r.snd 0).toCs) 1).toInt],
                  Blk.arr 1 c1, Blk.arr 1 c2] })
          fun (p : Ex × Pack) =>
          ctl (p.fst.eqb (Ex.exit 2))
            (ctl
              (okPack
                {
                  slots :=
                    [(3, Sum.inr (Sum.inr (AV.t (TV.ptr 0 0)))),
                      (4, Sum.inr (Sum.inr (AV.t (TV.hsl 1)))),
                      (5, Sum.inr (Sum.inr (AV.t (TV.hsl 2)))), (6, Sum.inl (Sh.int IntKind.i64)),
                      (7, Sum.inl (Sh.int IntKind.i64))],
                  blks := [Sum.inl [Sum.inl (Sh.sl 1), Sum.inl (Sh.int IntKind.i64)], Sum.inr 1, Sum.inr 1] }
                p.snd)
              (bnd
                (F 15 [AV.t (TV.ptr 0 0)]
                  [Blk.box
                      [AV.sl 1
                          (nth AV.undef (nth (Blk.box []) p.snd.blks 0).toCs
                                0).toPV.toEs,
                        AV.int IntKind.i64
                          (nth AV.undef (nth (Blk.box []) p.snd.blks 0).toCs
                                1).toPV.toInt]])
                fun (r : Res) =>
                ctl
                  (okR [RSh.one (Sh.sl 1)] r.fst &&
                    okB [Sum.inl [Sh.sl 1, Sh.int IntKind.i64]] r.snd)
                  (bnd
                    (F 16
                      [AV.agg
                          [PV.sl 1 (nth (RV.p PV.nilp) r.fst 0).toPV.toEs]]
                      [])
                    fun (r_1 : Res) =>
                    ctl
                      (okR
                          [RSh.one (Sh.sl 1), RSh.one (Sh.int IntKind.i64)]
                          r_1.fst &&
                        okB [] r_1.snd)
                      (ctl
                        (leN
                          (((nth (Blk.box []) p.snd.blks 1).toEs.length +
                              (nth (RV.p PV.nilp) r_1.fst 0).toPV.toEs.length) *
                            1)
                          140737488355328)
                        (ctl
                          (leN (((nth (Blk.box []) p.snd.blks 2).toEs.length + 1) * 24) 140737488355328)
                          (lp E F 7 0 [] 0
                            {
                              vals :=
                                [AV.int IntKind.i64 (nth AV.undef p.snd.vals 0).toPV.toInt,
                                  AV.int IntKind.i64
                                    (IntKind.i64.wrap ((nth AV.undef p.snd.vals 1).toPV.toInt - 1))],
                              blks :=
                                [Blk.box
                                    [AV.sl 1
                                        (nth PV.nilp
                                            (List.map AV.toPV (nth (Blk.box []) r.snd 0).toCs) 0).toEs,
                                      AV.int IntKind.i64
                                        (nth PV.nilp
                                            (List.map AV.toPV (nth (Blk.box []) r.snd 0).toCs) 1).toInt],
                                  Blk.arr 1
                                    ((nth (Blk.box []) p.snd.blks 1).toEs ++
                                      (nth (RV.p PV.nilp) r_1.fst 0).toPV.toEs),
                                  Blk.arr 1
                                    ((nth (Blk.box []) p.snd.blks 2).toEs ++
                                      [[PV.sl 1
                                            (nth (RV.p PV.nilp) r.fst 0).toPV.toEs]])] })
                          Option.none)
                        Option.none)
                      Option.none)
                  Option.none)
              Option.none)
            Option.none)
        Option.none)
    (Option.some
      (Ex.exit 0,
        { vals := [AV.int IntKind.i64 garbage6], blks := [Blk.arr 1 c1, Blk.arr 1 c2] })) := (lp_unfold ..).trans (by kernel_rfl)

/-- dynpos/dynposlaw05.StreamFinds, the loop of block 2 -/
theorem r7_2 (F : Fun) (garbage6 : Int) (k7 : Int) (n8 : Int) (b0_0 : List (List PV)) (b0_1 : Int) (c1 : List (List PV)) (c2 : List (List PV)) : lp E F 7 0 [] 2
  { vals := [AV.int IntKind.i64 garbage6, AV.int IntKind.i64 k7, AV.int IntKind.i64 n8],
    blks :=
      [Blk.box [AV.sl 1 b0_0, AV.int IntKind.i64 b0_1], Blk.arr 1 c1,
        Blk.arr 1 c2] } =
  ctl (ltB 0 n8)
    (bnd
      (F 22
        [AV.t (TV.ptr 0 0),
          AV.sl 1
            [[PV.int IntKind.i64 65], [PV.int IntKind.i64 42], [PV.int IntKind.i64 10],
              [PV.int IntKind.i64 13], [PV.int IntKind.i64 0], [PV.int IntKind.i64 44]]]
        [Blk.box [AV.sl 1 b0_0, AV.int IntKind.i64 b0_1]])
      fun (r : Res) =>
      ctl
        (okR [RSh.one (Sh.int IntKind.i64)] r.fst &&
          okB [Sum.inl [Sh.sl 1, Sh.int IntKind.i64]] r.snd)
        (ctl (leN ((c1.length + 1) * 1) 140737488355328)
          (lp E F 7 0 [] 2
            {
              vals :=
                [AV.int IntKind.i64 (IntKind.i64.wrap (garbage6 + 1)), AV.int IntKind.i64 k7,
                  AV.int IntKind.i64 (IntKind.i64.wrap (n8 - 1))],
              blks :=
                [Blk.box
                    [AV.sl 1
                        (nth PV.nilp
                            (List.map AV.toPV (nth (Blk.box []) r.snd 0).toCs) 0).toEs,
                      AV.int IntKind.i64
                        (nth PV.nilp
                            (List.map AV.toPV (nth (Blk.box []) r.snd 0).toCs) 1).toInt],
                  Blk.arr 1
                    (c1 ++
                      [[PV.int IntKind.u8
                            (IntKind.u8.wrap (nth (RV.p PV.nilp) r.fst 0).toPV.toInt)]]),
                  Blk.arr 1 c2] })
          Option.none)
        Option.none)
    (Option.some
      (Ex.exit 2,
        { vals := [AV.int IntKind.i64 garbage6, AV.int IntKind.i64 k7],
          blks :=
            [Blk.box [AV.sl 1 b0_0, AV.int IntKind.i64 b0_1], Blk.arr 1 c1,
              Blk.arr 1 c2] })) := (lp_unfold ..).trans (by kernel_rfl)

/-- dynpos/dynposlaw05.StreamFinds -/
theorem r7 (F : Fun) (t : List (List PV)) : funK E F 7 [AV.sl 1 t] [] =
  bnd (F 11 [AV.sl 1 t] []) fun (r : Res) =>
    ctl
      (okR [RSh.ownp [Sh.sl 1, Sh.int IntKind.i64]] r.fst &&
        okB [] r.snd)
      (bnd
        (F 21 [AV.t (TV.ptr 0 0), AV.int IntKind.i64 8]
          [Blk.box
              [AV.sl 1
                  (nth PV.nilp
                      (nth (RV.p PV.nilp) r.fst 0).toCs 0).toEs,
                AV.int IntKind.i64
                  (nth PV.nilp
                      (nth (RV.p PV.nilp) r.fst 0).toCs 1).toInt]])
        fun (r : Res) =>
        ctl
          (okR [RSh.one (Sh.int IntKind.i64)] r.fst &&
            okB [Sum.inl [Sh.sl 1, Sh.int IntKind.i64]] r.snd)
          (bnd
            (lp E F 7 0 [] 0
              {
                vals :=
                  [AV.int IntKind.i64 0,
                    AV.int IntKind.i64
                      (nth (RV.p PV.nilp) r.fst 0).toPV.toInt],
                blks :=
                  [Blk.box
                      [AV.sl 1
                          (nth PV.nilp
                              (List.map AV.toPV (nth (Blk.box []) r.snd 0).toCs) 0).toEs,
                        AV.int IntKind.i64
                          (nth PV.nilp
                              (List.map AV.toPV (nth (Blk.box []) r.snd 0).toCs) 1).toInt],
                    Blk.arr 1 [], Blk.arr 1 []] })
            fun (p : Ex × Pack) =>
            ctl (p.fst.eqb (Ex.exit 0))
              (ctl
                (okPack
                  {
                    slots :=
                      [(4, Sum.inr (Sum.inr (AV.t (TV.hsl 0)))),
                        (5, Sum.inr (Sum.inr (AV.t (TV.hsl 1)))), (6, Sum.inl (Sh.int IntKind.i64))],
                    blks := [Sum.inr 1, Sum.inr 1] }
                  p.snd)
                (bnd (F 17 [AV.sl 1 (nth (Blk.box []) p.snd.blks 0).toEs] [])
                  fun (r : Res) =>
                  ctl
                    (okR
                        [RSh.one (Sh.sl 1), RSh.one (Sh.int IntKind.i64)]
                        r.fst &&
                      okB [] r.snd)
                    (bnd
                      (F 13
                        [AV.sl 1 (nth (RV.p PV.nilp) r.fst 0).toPV.toEs,
                          AV.sl 1 (nth (Blk.box []) p.snd.blks 1).toEs]
                        [])
                      fun (r_1 : Res) =>
                      ctl
                        (okR [RSh.one Sh.bool] r_1.fst && okB [] r_1.snd &&
                          (noslR r_1.fst && noslB r_1.snd))
                        (bnd
                          (ctl (nth (RV.p PV.nilp) r_1.fst 0).toPV.toBool
                            (Option.some
                              ((nth (RV.p PV.nilp) r.fst 1).toPV.toInt ==
                                (nth AV.undef p.snd.vals 0).toPV.toInt))
                            (Option.some Bool.false))
                          fun (v : Bool) =>
                          bnd
                            (ctl v
                              (bnd (F 10 [] []) fun (r : Res) =>
                                ctl
                                  (okR [RSh.one Sh.bool] r.fst && okB [] r.snd)
                                  (Option.some (nth (RV.p PV.nilp) r.fst 0).toPV.toBool) Option.none)
                              (Option.some Bool.false))
                            fun (v : Bool) => Option.some ([RV.p (PV.bool v)], []))
                        Option.none)
                    Option.none)
                Option.none)
              Option.none)
          Option.none)
      Option.none := by kernel_rfl

end Go.Proofs.YtmlhemkadoadaaaDoor.Vm
