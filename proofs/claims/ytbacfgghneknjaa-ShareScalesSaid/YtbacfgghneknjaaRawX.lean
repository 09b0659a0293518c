/- The raw theorems, by program: what each function and each loop comes to. -/
import Derived.Test.YtbacfgghneknjaaEnv
import Derived.Test.YtbacfgghneknjaaVm34
import Derived.KernelRfl
namespace Go.Proofs.Ytbacfgghneknjaa.Vm
open Go
set_option maxRecDepth 100000
set_option linter.unusedVariables false

/-- dynpos/dynposlaw13.ShareScales, the loop of block 0 -/
theorem r4_0 (F : Fun) (x29 : Int) (x30 : Int) (b0_0 : List (List PV)) (b0_1 : Int) (c1 : List (List PV)) : lp E F 4 0 [] 0
  { vals := [AV.int IntKind.i64 x29, AV.int IntKind.i64 x30],
    blks := [Blk.box [AV.sl 1 b0_0, AV.int IntKind.i64 b0_1], Blk.arr 3 c1] } =
  ctl (ltB x30 x29)
    (ctl (leB 0 x30 && ltB x30 (↑c1.length : Int))
      (ctl (okCs [Sh.int IntKind.i64] (List.take 1 (List.drop 2 (nth [] c1 x30.toNat))))
        (ctl (leB 0 x30 && ltB x30 (↑c1.length : Int))
          (lp E F 4 0 [] 0
            { vals := [AV.int IntKind.i64 x29, AV.int IntKind.i64 (IntKind.i64.wrap (x30 + 1))],
              blks :=
                [Blk.box [AV.sl 1 b0_0, AV.int IntKind.i64 b0_1],
                  Blk.arr 3
                    (setEs c1 x30.toNat 2
                      [PV.int IntKind.i64
                          (IntKind.i64.wrap (1 + (nth PV.nilp (nth [] c1 x30.toNat) 2).toInt.tmod 20))])] })
          Option.none)
        Option.none)
      Option.none)
    (Option.some
      (Ex.exit 0,
        { vals := [],
          blks := [Blk.box [AV.sl 1 b0_0, AV.int IntKind.i64 b0_1], Blk.arr 3 c1] })) := (lp_unfold ..).trans (by kernel_rfl)

/-- dynpos/dynposlaw13.ShareScales, the loop of block 2 -/
theorem r4_2 (F : Fun) (k7 : Int) (x50 : Int) (x51 : Int) (b0_0 : List (List PV)) (b0_1 : Int) (c1 : List (List PV)) (c2 : List (List PV)) : lp E F 4 0 [] 2
  { vals := [AV.int IntKind.i64 k7, AV.int IntKind.i64 x50, AV.int IntKind.i64 x51],
    blks :=
      [Blk.box [AV.sl 1 b0_0, AV.int IntKind.i64 b0_1], Blk.arr 3 c1,
        Blk.arr 3 c2] } =
  ctl (ltB x51 x50)
    (ctl (leB 0 x51 && ltB x51 (↑c2.length : Int))
      (ctl (okCs [Sh.int IntKind.i64] (List.take 1 (List.drop 2 (nth [] c2 x51.toNat))))
        (ctl (leB 0 x51 && ltB x51 (↑c2.length : Int))
          (lp E F 4 0 [] 2
            {
              vals :=
                [AV.int IntKind.i64 k7, AV.int IntKind.i64 x50, AV.int IntKind.i64 (IntKind.i64.wrap (x51 + 1))],
              blks :=
                [Blk.box [AV.sl 1 b0_0, AV.int IntKind.i64 b0_1], Blk.arr 3 c1,
                  Blk.arr 3
                    (setEs c2 x51.toNat 2
                      [PV.int IntKind.i64
                          (IntKind.i64.wrap ((nth PV.nilp (nth [] c2 x51.toNat) 2).toInt * k7))])] })
          Option.none)
        Option.none)
      Option.none)
    (Option.some
      (Ex.exit 2,
        { vals := [AV.int IntKind.i64 k7],
          blks :=
            [Blk.box [AV.sl 1 b0_0, AV.int IntKind.i64 b0_1], Blk.arr 3 c1,
              Blk.arr 3 c2] })) := (lp_unfold ..).trans (by kernel_rfl)

/-- dynpos/dynposlaw13.ShareScales -/
theorem r4 (F : Fun) (t : List (List PV)) : funK E F 4 [AV.sl 1 t] [] =
  bnd (F 9 [AV.sl 1 t] []) fun (r : Res) =>
    ctl
      (okR [RSh.ownp [Sh.sl 1, Sh.int IntKind.i64]] r.fst &&
        okB [] r.snd)
      (bnd
        (F 10 [AV.t (TV.ptr 0 0), AV.int IntKind.i64 4]
          [Blk.box
              [AV.sl 1
                  (nth PV.nilp (nth (RV.p PV.nilp) r.fst 0).toCs
                      0).toEs,
                AV.int IntKind.i64
                  (nth PV.nilp (nth (RV.p PV.nilp) r.fst 0).toCs
                      1).toInt]])
        fun (r : Res) =>
        ctl
          (okR [RSh.own 3] r.fst &&
            okB [Sum.inl [Sh.sl 1, Sh.int IntKind.i64]] r.snd)
          (bnd
            (lp E F 4 0 [] 0
              {
                vals :=
                  [AV.int IntKind.i64 (↑(nth (RV.p PV.nilp) r.fst 0).toEs.length : Int),
                    AV.int IntKind.i64 0],
                blks :=
                  [Blk.box
                      [AV.sl 1
                          (nth PV.nilp
                              (List.map AV.toPV (nth (Blk.box []) r.snd 0).toCs) 0).toEs,
                        AV.int IntKind.i64
                          (nth PV.nilp
                              (List.map AV.toPV (nth (Blk.box []) r.snd 0).toCs) 1).toInt],
                    Blk.arr 3 (nth (RV.p PV.nilp) r.fst 0).toEs] })
            fun (p : Ex × Pack) =>
            ctl (p.fst.eqb (Ex.exit 0))
              (ctl
                (okPack
                  {
                    slots :=
                      [(3, Sum.inr (Sum.inr (AV.t (TV.ptr 0 0)))),
                        (4, Sum.inr (Sum.inr (AV.t (TV.hsl 1))))],
                    blks := [Sum.inl [Sum.inl (Sh.sl 1), Sum.inl (Sh.int IntKind.i64)], Sum.inr 3] }
                  p.snd)
                (ctl (leN ((nth (Blk.box []) p.snd.blks 1).toEs.length * 24) 140737488355328)
                  (bnd
                    (F 12 [AV.t (TV.ptr 0 0), AV.int IntKind.i64 1, AV.int IntKind.i64 4]
                      [Blk.box
                          [AV.sl 1
                              (nth AV.undef (nth (Blk.box []) p.snd.blks 0).toCs 0).toPV.toEs,
                            AV.int IntKind.i64
                              (nth AV.undef (nth (Blk.box []) p.snd.blks 0).toCs 1).toPV.toInt]])
                    fun (r : Res) =>
                    ctl
                      (okR [RSh.one (Sh.int IntKind.i64)] r.fst &&
                        okB [Sum.inl [Sh.sl 1, Sh.int IntKind.i64]] r.snd)
                      (bnd
                        (lp E F 4 0 [] 2
                          {
                            vals :=
                              [AV.int IntKind.i64 (nth (RV.p PV.nilp) r.fst 0).toPV.toInt,
                                AV.int IntKind.i64 (↑(nth (Blk.box []) p.snd.blks 1).toEs.length : Int),
                                AV.int IntKind.i64 0],
                            blks :=
                              [Blk.box
                                  [AV.sl 1
                                      (nth PV.nilp
                                          (List.map AV.toPV (nth (Blk.box []) r.snd 0).toCs) 0).toEs,
                                    AV.int IntKind.i64
                                      (nth PV.nilp
                                          (List.map AV.toPV (nth (Blk.box []) r.snd 0).toCs) 1).toInt],
                                Blk.arr 3 (nth (Blk.box []) p.snd.blks 1).toEs,
                                Blk.arr 3 (nth (Blk.box []) p.snd.blks 1).toEs] })
                        fun (p : Ex × Pack) =>
                        ctl (p.fst.eqb (Ex.exit 2))
                          (ctl
                            (okPack
                              {
                                slots :=
                                  [(3, Sum.inr (Sum.inr (AV.t (TV.ptr 0 0)))),
                                    (4, Sum.inr (Sum.inr (AV.t (TV.hsl 1)))),
                                    (6, Sum.inr (Sum.inr (AV.t (TV.hsl 2)))), (7, Sum.inl (Sh.int IntKind.i64))],
                                blks := [Sum.inl [Sum.inl (Sh.sl 1), Sum.inl (Sh.int IntKind.i64)], Sum.inr 3, Sum.inr 3] }
                              p.snd)
                            (bnd
                              (F 12
                                [AV.t (TV.ptr 0 0), AV.int IntKind.i64 (-20),
                                  AV.int IntKind.i64 30]
                                [Blk.box
                                    [AV.sl 1
                                        (nth AV.undef (nth (Blk.box []) p.snd.blks 0).toCs
                                              0).toPV.toEs,
                                      AV.int IntKind.i64
                                        (nth AV.undef (nth (Blk.box []) p.snd.blks 0).toCs
                                              1).toPV.toInt]])
                              fun (r : Res) =>
                              ctl
                                (okR [RSh.one (Sh.int IntKind.i64)] r.fst &&
                                  okB [Sum.inl [Sh.sl 1, Sh.int IntKind.i64]] r.snd)
                                (bnd
                                  (F 13
                                    [AV.sl 3 (nth (Blk.box []) p.snd.blks 1).toEs,
                                      AV.int IntKind.i64
                                        (nth (RV.p PV.nilp) r.fst 0).toPV.toInt]
                                    [])
                                  fun (r_1 : Res) =>
                                  ctl
                                    (okR
                                          [RSh.own 1, RSh.one (Sh.int IntKind.i64),
                                            RSh.one (Sh.int IntKind.i64)]
                                          r_1.fst &&
                                        okB [] r_1.snd &&
                                      (noslR r_1.fst && noslB r_1.snd))
                                    (bnd
                                      (F 13
                                        [AV.sl 3 (nth (Blk.box []) p.snd.blks 2).toEs,
                                          AV.int IntKind.i64
                                            (nth (RV.p PV.nilp) r.fst 0).toPV.toInt]
                                        [])
                                      fun (r_2 : Res) =>
                                      ctl
                                        (okR
                                              [RSh.own 1, RSh.one (Sh.int IntKind.i64),
                                                RSh.one (Sh.int IntKind.i64)]
                                              r_2.fst &&
                                            okB [] r_2.snd &&
                                          (noslR r_2.fst && noslB r_2.snd))
                                        (bnd
                                          (F 12
                                            [AV.t (TV.ptr 0 0), AV.int IntKind.i64 (-5),
                                              AV.int IntKind.i64 5]
                                            [Blk.box
                                                [AV.sl 1
                                                    (nth PV.nilp
                                                        (List.map AV.toPV (nth (Blk.box []) r.snd 0).toCs) 0).toEs,
                                                  AV.int IntKind.i64
                                                    (nth PV.nilp
                                                        (List.map AV.toPV (nth (Blk.box []) r.snd 0).toCs) 1).toInt]])
                                          fun (r_3 : Res) =>
                                          ctl
                                            (okR [RSh.one (Sh.int IntKind.i64)] r_3.fst &&
                                              okB [Sum.inl [Sh.sl 1, Sh.int IntKind.i64]] r_3.snd)
                                            (ctl
                                              (leN ((nth (Blk.box []) p.snd.blks 1).toEs.length * 24) 140737488355328)
                                              (ctl
                                                (leN (((nth (Blk.box []) p.snd.blks 1).toEs.length + 1) * 24) 140737488355328)
                                                (bnd
                                                  (F 13
                                                    [AV.sl 3
                                                        ((nth (Blk.box []) p.snd.blks 1).toEs ++
                                                          [[PV.int IntKind.i64
                                                                (nth (RV.p PV.nilp) r_3.fst 0).toPV.toInt,
                                                              PV.int IntKind.i64
                                                                (nth (RV.p PV.nilp) r_3.fst 0).toPV.toInt,
                                                              PV.int IntKind.i64 3]]),
                                                      AV.int IntKind.i64
                                                        (IntKind.i64.wrap
                                                          ((nth (RV.p PV.nilp) r.fst 0).toPV.toInt +
                                                            (nth (RV.p PV.nilp) r_3.fst 0).toPV.toInt))]
                                                    [])
                                                  fun (r : Res) =>
                                                  ctl
                                                    (okR
                                                          [RSh.own 1, RSh.one (Sh.int IntKind.i64),
                                                            RSh.one (Sh.int IntKind.i64)]
                                                          r.fst &&
                                                        okB [] r.snd &&
                                                      (noslR r.fst && noslB r.snd))
                                                    (bnd
                                                      (ctl
                                                        (!(nth (RV.p PV.nilp) r_1.fst 2).toPV.toInt != 0)
                                                        (Option.some ((nth (RV.p PV.nilp) r_2.fst 2).toPV.toInt != 0))
                                                        (Option.some Bool.true))
                                                      fun (v : Bool) =>
                                                      bnd
                                                        (ctl (!v)
                                                          (Option.some ((nth (RV.p PV.nilp) r.fst 2).toPV.toInt != 0))
                                                          (Option.some Bool.true))
                                                        fun (v : Bool) =>
                                                        bnd
                                                          (ctl (!v)
                                                            (Option.some
                                                              ((↑(nth (RV.p PV.nilp) r.fst 0).toEs.length : Int) !=
                                                                IntKind.i64.wrap ((↑(nth (Blk.box []) p.snd.blks 1).toEs.length : Int) + 1)))
                                                            (Option.some Bool.true))
                                                          fun (v : Bool) =>
                                                          bnd
                                                            (ctl (!v)
                                                              (bnd
                                                                (F 15
                                                                  [AV.sl 1
                                                                      (nth (RV.p PV.nilp) r_1.fst 0).toEs,
                                                                    AV.sl 1
                                                                      (nth (RV.p PV.nilp) r_2.fst 0).toEs]
                                                                  [])
                                                                fun (r : Res) =>
                                                                ctl
                                                                  (okR [RSh.one Sh.bool] r.fst &&
                                                                      okB [] r.snd &&
                                                                    (noslR r.fst && noslB r.snd))
                                                                  (Option.some !(nth (RV.p PV.nilp) r.fst 0).toPV.toBool)
                                                                  Option.none)
                                                              (Option.some Bool.true))
                                                            fun (v : Bool) =>
                                                            bnd
                                                              (ctl (!v)
                                                                (Option.some
                                                                  ((nth (RV.p PV.nilp) r_1.fst 1).toPV.toInt !=
                                                                    (nth (RV.p PV.nilp) r_2.fst 1).toPV.toInt))
                                                                (Option.some Bool.true))
                                                              fun (v : Bool) =>
                                                              bnd
                                                                (ctl (!v)
                                                                  (Option.some
                                                                    ((nth (RV.p PV.nilp) r.fst 1).toPV.toInt !=
                                                                      (nth (RV.p PV.nilp) r_1.fst 1).toPV.toInt))
                                                                  (Option.some Bool.true))
                                                                fun (v : Bool) =>
                                                                bnd
                                                                  (ctl (!v)
                                                                    (ctl
                                                                      (Bool.true &&
                                                                        ltB (↑(nth (Blk.box []) p.snd.blks 1).toEs.length : Int)
                                                                          (↑(nth (RV.p PV.nilp) r.fst 0).toEs.length : Int))
                                                                      (ctl
                                                                        (okCs [Sh.int IntKind.i64]
                                                                          (List.take 1
                                                                            (List.drop 0
                                                                              (nth []
                                                                                (nth (RV.p PV.nilp) r.fst 0).toEs
                                                                                (↑(nth (Blk.box []) p.snd.blks 1).toEs.length : Int).toNat))))
                                                                        (Option.some
                                                                          ((nth PV.nilp
                                                                                (nth []
                                                                                  (nth (RV.p PV.nilp) r.fst 0).toEs
                                                                                  (↑(nth (Blk.box []) p.snd.blks 1).toEs.length : Int).toNat)
                                                                                0).toInt !=
                                                                            (nth (RV.p PV.nilp) r_3.fst 0).toPV.toInt))
                                                                        Option.none)
                                                                      Option.none)
                                                                    (Option.some Bool.true))
                                                                  fun (v : Bool) =>
                                                                  ctl (!v)
                                                                    (ctl
                                                                      (Bool.true &&
                                                                        (Bool.true &&
                                                                          leB
                                                                            (↑(nth (Blk.box []) p.snd.blks 1).toEs.length : Int)
                                                                            (↑(nth (RV.p PV.nilp) r.fst 0).toEs.length : Int)))
                                                                      (bnd
                                                                        (bnd
                                                                          (F 15
                                                                            [AV.sl 1
                                                                                (cutI
                                                                                  (nth (RV.p PV.nilp) r.fst 0).toEs 0
                                                                                  (↑(nth (Blk.box []) p.snd.blks 1).toEs.length : Int)),
                                                                              AV.sl 1
                                                                                (nth (RV.p PV.nilp) r_1.fst 0).toEs]
                                                                            [])
                                                                          fun (r : Res) =>
                                                                          ctl
                                                                            (okR [RSh.one Sh.bool] r.fst &&
                                                                                okB [] r.snd &&
                                                                              (noslR r.fst && noslB r.snd))
                                                                            (Option.some
                                                                              !(nth (RV.p PV.nilp) r.fst 0).toPV.toBool)
                                                                            Option.none)
                                                                        fun (v : Bool) =>
                                                                        ctl v (Option.some ([RV.p (PV.bool Bool.false)], []))
                                                                          (bnd
                                                                            (F 16
                                                                              [AV.sl 3 (nth (Blk.box []) p.snd.blks 1).toEs,
                                                                                AV.sl 1
                                                                                  (nth (RV.p PV.nilp) r_1.fst 0).toEs]
                                                                              [])
                                                                            fun (r : Res) =>
                                                                            ctl
                                                                              (okR
                                                                                    [RSh.one (Sh.int IntKind.i64),
                                                                                      RSh.one (Sh.int IntKind.i64)]
                                                                                    r.fst &&
                                                                                  okB [] r.snd &&
                                                                                (noslR r.fst && noslB r.snd))
                                                                              (bnd
                                                                                (F 16
                                                                                  [AV.sl 3 (nth (Blk.box []) p.snd.blks 2).toEs,
                                                                                    AV.sl 1
                                                                                      (nth (RV.p PV.nilp) r_1.fst 0).toEs]
                                                                                  [])
                                                                                fun (r_4 : Res) =>
                                                                                ctl
                                                                                  (okR
                                                                                        [RSh.one (Sh.int IntKind.i64),
                                                                                          RSh.one (Sh.int IntKind.i64)]
                                                                                        r_4.fst &&
                                                                                      okB [] r_4.snd &&
                                                                                    (noslR r_4.fst && noslB r_4.snd))
                                                                                  (bnd
                                                                                    (ctl
                                                                                      ((nth (RV.p PV.nilp) r.fst 1).toPV.toInt ==
                                                                                        0)
                                                                                      (Option.some
                                                                                        ((nth (RV.p PV.nilp) r_4.fst
                                                                                                1).toPV.toInt ==
                                                                                          0))
                                                                                      (Option.some Bool.false))
                                                                                    fun (v : Bool) =>
                                                                                    bnd
                                                                                      (ctl v
                                                                                        (Option.some
                                                                                          ((nth (RV.p PV.nilp) r_4.fst
                                                                                                  0).toPV.toInt ==
                                                                                            IntKind.i64.wrap
                                                                                              ((nth AV.undef p.snd.vals 0).toPV.toInt *
                                                                                                (nth (RV.p PV.nilp) r.fst
                                                                                                      0).toPV.toInt)))
                                                                                        (Option.some Bool.false))
                                                                                      fun (v : Bool) =>
                                                                                      bnd
                                                                                        (ctl v
                                                                                          (bnd (F 14 [] []) fun (r : Res) =>
                                                                                            ctl
                                                                                              (okR [RSh.one Sh.bool] r.fst &&
                                                                                                okB [] r.snd)
                                                                                              (Option.some
                                                                                                (nth (RV.p PV.nilp) r.fst
                                                                                                      0).toPV.toBool)
                                                                                              Option.none)
                                                                                          (Option.some Bool.false))
                                                                                        fun (v : Bool) => Option.some ([RV.p (PV.bool v)], []))
                                                                                  Option.none)
                                                                              Option.none))
                                                                      Option.none)
                                                                    (Option.some ([RV.p (PV.bool Bool.false)], [])))
                                                    Option.none)
                                                Option.none)
                                              Option.none)
                                            Option.none)
                                        Option.none)
                                    Option.none)
                                Option.none)
                            Option.none)
                          Option.none)
                      Option.none)
                  Option.none)
                Option.none)
              Option.none)
          Option.none)
      Option.none := by kernel_rfl

end Go.Proofs.Ytbacfgghneknjaa.Vm
