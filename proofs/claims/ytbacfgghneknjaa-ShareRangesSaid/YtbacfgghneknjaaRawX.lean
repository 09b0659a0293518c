/- The raw theorems, by program: what each function and each loop comes to. -/
import Derived.Test.YtbacfgghneknjaaEnv
import Derived.Test.YtbacfgghneknjaaVm34
import Derived.KernelRfl
namespace Go.Proofs.Ytbacfgghneknjaa.Vm
open Go
set_option maxRecDepth 100000
set_option linter.unusedVariables false

/-- dynpos/dynposlaw13.ShareRanges, the loop of block 0 -/
theorem r5_0 (F : Fun) (l4 : List (List PV)) (total8 : Int) (x42 : Int) (x43 : Int) (b0_0 : List (List PV)) (b0_1 : Int) (c1 : List (List PV)) : lp E F 5 0 [] 0
  {
    vals :=
      [AV.sl 3 l4, AV.int IntKind.i64 total8, AV.int IntKind.i64 x42,
        AV.int IntKind.i64 x43],
    blks := [Blk.box [AV.sl 1 b0_0, AV.int IntKind.i64 b0_1], Blk.arr 3 c1] } =
  ctl (ltB x43 x42)
    (ctl (leB 0 x43 && ltB x43 (↑c1.length : Int))
      (ctl (okCs [Sh.int IntKind.i64] (List.take 1 (List.drop 0 (nth [] c1 x43.toNat))))
        (bnd
          (F 18 [AV.t (TV.ptr 0 0), AV.int IntKind.i64 4]
            [Blk.box [AV.sl 1 b0_0, AV.int IntKind.i64 b0_1]])
          fun (r : Res) =>
          ctl
            (okR [RSh.one (Sh.int IntKind.i64)] r.fst &&
              okB [Sum.inl [Sh.sl 1, Sh.int IntKind.i64]] r.snd)
            (ctl (leB 0 x43 && ltB x43 (↑c1.length : Int))
              (ctl
                (okCs [Sh.int IntKind.i64] (List.take 1 (List.drop 1 (nth [] c1 x43.toNat))))
                (bnd
                  (F 18 [AV.t (TV.ptr 0 0), AV.int IntKind.i64 4]
                    [Blk.box
                        [AV.sl 1
                            (nth PV.nilp
                                (List.map AV.toPV (nth (Blk.box []) r.snd 0).toCs) 0).toEs,
                          AV.int IntKind.i64
                            (nth PV.nilp
                                (List.map AV.toPV (nth (Blk.box []) r.snd 0).toCs) 1).toInt]])
                  fun (r_1 : Res) =>
                  ctl
                    (okR [RSh.one (Sh.int IntKind.i64)] r_1.fst &&
                      okB [Sum.inl [Sh.sl 1, Sh.int IntKind.i64]] r_1.snd)
                    (ctl (leB 0 x43 && ltB x43 (↑c1.length : Int))
                      (ctl
                        (leB 0 x43 &&
                          ltB x43
                            (↑(setEs c1 x43.toNat 0
                                    [PV.int IntKind.i64
                                        (IntKind.i64.wrap
                                          ((nth PV.nilp (nth [] c1 x43.toNat) 0).toInt -
                                            (nth (RV.p PV.nilp) r.fst 0).toPV.toInt))]).length :
                              Int))
                        (lp E F 5 0 [] 0
                          {
                            vals :=
                              [AV.sl 3 l4, AV.int IntKind.i64 total8, AV.int IntKind.i64 x42,
                                AV.int IntKind.i64 (IntKind.i64.wrap (x43 + 1))],
                            blks :=
                              [Blk.box
                                  [AV.sl 1
                                      (nth PV.nilp
                                          (List.map AV.toPV (nth (Blk.box []) r_1.snd 0).toCs) 0).toEs,
                                    AV.int IntKind.i64
                                      (nth PV.nilp
                                          (List.map AV.toPV (nth (Blk.box []) r_1.snd 0).toCs) 1).toInt],
                                Blk.arr 3
                                  (setEs
                                    (setEs c1 x43.toNat 0
                                      [PV.int IntKind.i64
                                          (IntKind.i64.wrap
                                            ((nth PV.nilp (nth [] c1 x43.toNat) 0).toInt -
                                              (nth (RV.p PV.nilp) r.fst 0).toPV.toInt))])
                                    x43.toNat 1
                                    [PV.int IntKind.i64
                                        (IntKind.i64.wrap
                                          ((nth PV.nilp (nth [] c1 x43.toNat) 1).toInt +
                                            (nth (RV.p PV.nilp) r_1.fst 0).toPV.toInt))])] })
                        Option.none)
                      Option.none)
                    Option.none)
                Option.none)
              Option.none)
            Option.none)
        Option.none)
      Option.none)
    (Option.some
      (Ex.exit 0, { vals := [AV.sl 3 l4, AV.int IntKind.i64 total8], blks := [Blk.arr 3 c1] })) := (lp_unfold ..).trans (by kernel_rfl)

/-- dynpos/dynposlaw13.ShareRanges -/
theorem r5 (F : Fun) (t : List (List PV)) : funK E F 5 [AV.sl 1 t] [] =
  bnd (F 9 [AV.sl 1 t] []) fun (r : Res) =>
    ctl
      (okR [RSh.ownp [Sh.sl 1, Sh.int IntKind.i64]] r.fst &&
        okB [] r.snd)
      (bnd
        (F 10 [AV.t (TV.ptr 0 0), AV.int IntKind.i64 4]
          [Blk.box
              [AV.sl 1
                  (nth PV.nilp (nth (RV.p PV.nilp) r.fst 0).toCs
                      0).toEs,
                AV.int IntKind.i64
                  (nth PV.nilp (nth (RV.p PV.nilp) r.fst 0).toCs
                      1).toInt]])
        fun (r : Res) =>
        ctl
          (okR [RSh.own 3] r.fst &&
            okB [Sum.inl [Sh.sl 1, Sh.int IntKind.i64]] r.snd)
          (bnd
            (F 17 [AV.sl 3 (nth (RV.p PV.nilp) r.fst 0).toEs] [])
            fun (r_1 : Res) =>
            ctl
              (okR
                    [RSh.one (Sh.int IntKind.i64), RSh.one (Sh.int IntKind.i64),
                      RSh.one (Sh.int IntKind.i64)]
                    r_1.fst &&
                  okB [] r_1.snd &&
                (noslR r_1.fst && noslB r_1.snd))
              (bnd
                (F 12
                  [AV.t (TV.ptr 0 0),
                    AV.int IntKind.i64 (nth (RV.p PV.nilp) r_1.fst 0).toPV.toInt,
                    AV.int IntKind.i64 (nth (RV.p PV.nilp) r_1.fst 1).toPV.toInt]
                  [Blk.box
                      [AV.sl 1
                          (nth PV.nilp
                              (List.map AV.toPV (nth (Blk.box []) r.snd 0).toCs) 0).toEs,
                        AV.int IntKind.i64
                          (nth PV.nilp
                              (List.map AV.toPV (nth (Blk.box []) r.snd 0).toCs) 1).toInt]])
                fun (r_2 : Res) =>
                ctl
                  (okR [RSh.one (Sh.int IntKind.i64)] r_2.fst &&
                    okB [Sum.inl [Sh.sl 1, Sh.int IntKind.i64]] r_2.snd)
                  (ctl
                    (leN ((nth (RV.p PV.nilp) r.fst 0).toEs.length * 24) 140737488355328)
                    (bnd
                      (lp E F 5 0 [] 0
                        {
                          vals :=
                            [AV.sl 3 (nth (RV.p PV.nilp) r.fst 0).toEs,
                              AV.int IntKind.i64 (nth (RV.p PV.nilp) r_2.fst 0).toPV.toInt,
                              AV.int IntKind.i64
                                (↑(nth (RV.p PV.nilp) r.fst 0).toEs.length : Int),
                              AV.int IntKind.i64 0],
                          blks :=
                            [Blk.box
                                [AV.sl 1
                                    (nth PV.nilp
                                        (List.map AV.toPV (nth (Blk.box []) r_2.snd 0).toCs) 0).toEs,
                                  AV.int IntKind.i64
                                    (nth PV.nilp
                                        (List.map AV.toPV (nth (Blk.box []) r_2.snd 0).toCs) 1).toInt],
                              Blk.arr 3 (nth (RV.p PV.nilp) r.fst 0).toEs] })
                      fun (p : Ex × Pack) =>
                      ctl (p.fst.eqb (Ex.exit 0))
                        (ctl
                          (okPack
                            {
                              slots :=
                                [(4, Sum.inl (Sh.sl 3)), (8, Sum.inl (Sh.int IntKind.i64)),
                                  (9, Sum.inr (Sum.inr (AV.t (TV.hsl 0))))],
                              blks := [Sum.inr 3] }
                            p.snd)
                          (bnd
                            (F 13
                              [AV.sl 3 (nth AV.undef p.snd.vals 0).toPV.toEs,
                                AV.int IntKind.i64 (nth AV.undef p.snd.vals 1).toPV.toInt]
                              [])
                            fun (r : Res) =>
                            ctl
                              (okR
                                  [RSh.own 1, RSh.one (Sh.int IntKind.i64),
                                    RSh.one (Sh.int IntKind.i64)]
                                  r.fst &&
                                okB [] r.snd)
                              (bnd
                                (F 13
                                  [AV.sl 3 (nth (Blk.box []) p.snd.blks 0).toEs,
                                    AV.int IntKind.i64 (nth AV.undef p.snd.vals 1).toPV.toInt]
                                  [])
                                fun (r_3 : Res) =>
                                ctl
                                  (okR
                                        [RSh.own 1, RSh.one (Sh.int IntKind.i64),
                                          RSh.one (Sh.int IntKind.i64)]
                                        r_3.fst &&
                                      okB [] r_3.snd &&
                                    (noslR r_3.fst && noslB r_3.snd))
                                  (bnd
                                    (F 16
                                      [AV.sl 3 (nth AV.undef p.snd.vals 0).toPV.toEs,
                                        AV.sl 1 (nth (RV.p PV.nilp) r.fst 0).toEs]
                                      [])
                                    fun (r_4 : Res) =>
                                    ctl
                                      (okR
                                            [RSh.one (Sh.int IntKind.i64),
                                              RSh.one (Sh.int IntKind.i64)]
                                            r_4.fst &&
                                          okB [] r_4.snd &&
                                        (noslR r_4.fst && noslB r_4.snd))
                                      (bnd
                                        (F 16
                                          [AV.sl 3 (nth (Blk.box []) p.snd.blks 0).toEs,
                                            AV.sl 1 (nth (RV.p PV.nilp) r_3.fst 0).toEs]
                                          [])
                                        fun (r_5 : Res) =>
                                        ctl
                                          (okR
                                                [RSh.one (Sh.int IntKind.i64),
                                                  RSh.one (Sh.int IntKind.i64)]
                                                r_5.fst &&
                                              okB [] r_5.snd &&
                                            (noslR r_5.fst && noslB r_5.snd))
                                          (bnd
                                            (F 13
                                              [AV.sl 3
                                                  [[PV.int IntKind.i64 (-3), PV.int IntKind.i64 9,
                                                      PV.int IntKind.i64 2]],
                                                AV.int IntKind.i64 (nth AV.undef p.snd.vals 1).toPV.toInt]
                                              [])
                                            fun (r_6 : Res) =>
                                            ctl
                                              (okR
                                                    [RSh.own 1, RSh.one (Sh.int IntKind.i64),
                                                      RSh.one (Sh.int IntKind.i64)]
                                                    r_6.fst &&
                                                  okB [] r_6.snd &&
                                                (noslR r_6.fst && noslB r_6.snd))
                                              (bnd
                                                (ctl
                                                  ((nth (RV.p PV.nilp) r.fst 2).toPV.toInt == 0)
                                                  (Option.some ((nth (RV.p PV.nilp) r_3.fst 2).toPV.toInt == 0))
                                                  (Option.some Bool.false))
                                                fun (v : Bool) =>
                                                bnd
                                                  (ctl v
                                                    (Option.some ((nth (RV.p PV.nilp) r_4.fst 1).toPV.toInt == 0))
                                                    (Option.some Bool.false))
                                                  fun (v : Bool) =>
                                                  bnd
                                                    (ctl v
                                                      (Option.some ((nth (RV.p PV.nilp) r_5.fst 1).toPV.toInt == 0))
                                                      (Option.some Bool.false))
                                                    fun (v : Bool) =>
                                                    bnd
                                                      (ctl v
                                                        (Option.some ((nth (RV.p PV.nilp) r_6.fst 2).toPV.toInt == 0))
                                                        (Option.some Bool.false))
                                                      fun (v : Bool) =>
                                                      bnd
                                                        (ctl v
                                                          (Option.some ((nth (RV.p PV.nilp) r_3.fst 1).toPV.toInt == 0))
                                                          (Option.some Bool.false))
                                                        fun (v : Bool) =>
                                                        bnd
                                                          (ctl v
                                                            (Option.some
                                                              (leB
                                                                (nth (RV.p PV.nilp) r_5.fst 0).toPV.toInt
                                                                (nth (RV.p PV.nilp) r_4.fst 0).toPV.toInt))
                                                            (Option.some Bool.false))
                                                          fun (v : Bool) =>
                                                          bnd
                                                            (ctl v
                                                              (Option.some
                                                                ((↑(nth (RV.p PV.nilp) r_6.fst 0).toEs.length : Int) == 1))
                                                              (Option.some Bool.false))
                                                            fun (v : Bool) =>
                                                            bnd
                                                              (ctl v
                                                                (ctl
                                                                  (Bool.true &&
                                                                    ltB 0
                                                                      (↑(nth (RV.p PV.nilp) r_6.fst 0).toEs.length : Int))
                                                                  (ctl
                                                                    (okCs [Sh.int IntKind.i64]
                                                                      (List.take 1
                                                                        (List.drop 0
                                                                          (nth []
                                                                            (nth (RV.p PV.nilp) r_6.fst 0).toEs 0))))
                                                                    (bnd
                                                                      (F 19
                                                                        [AV.int IntKind.i64
                                                                            (nth AV.undef p.snd.vals 1).toPV.toInt,
                                                                          AV.int IntKind.i64 (-3), AV.int IntKind.i64 9]
                                                                        [])
                                                                      fun (r : Res) =>
                                                                      ctl
                                                                        (okR [RSh.one (Sh.int IntKind.i64)] r.fst &&
                                                                          okB [] r.snd)
                                                                        (Option.some
                                                                          ((nth PV.nilp
                                                                                (nth []
                                                                                  (nth (RV.p PV.nilp) r_6.fst 0).toEs 0)
                                                                                0).toInt ==
                                                                            (nth (RV.p PV.nilp) r.fst 0).toPV.toInt))
                                                                        Option.none)
                                                                    Option.none)
                                                                  Option.none)
                                                                (Option.some Bool.false))
                                                              fun (v : Bool) =>
                                                              bnd
                                                                (ctl v
                                                                  (ctl
                                                                    (Bool.true &&
                                                                      ltB 0
                                                                        (↑(nth (RV.p PV.nilp) r_6.fst 0).toEs.length : Int))
                                                                    (ctl
                                                                      (okCs [Sh.int IntKind.i64]
                                                                        (List.take 1
                                                                          (List.drop 0
                                                                            (nth []
                                                                              (nth (RV.p PV.nilp) r_6.fst 0).toEs 0))))
                                                                      (Option.some
                                                                        ((nth (RV.p PV.nilp) r_6.fst 1).toPV.toInt ==
                                                                          IntKind.i64.wrap
                                                                            ((nth AV.undef p.snd.vals 1).toPV.toInt -
                                                                              (nth PV.nilp
                                                                                  (nth []
                                                                                    (nth (RV.p PV.nilp) r_6.fst 0).toEs 0)
                                                                                  0).toInt)))
                                                                      Option.none)
                                                                    Option.none)
                                                                  (Option.some Bool.false))
                                                                fun (v : Bool) =>
                                                                bnd
                                                                  (ctl v
                                                                    (bnd (F 14 [] []) fun (r : Res) =>
                                                                      ctl
                                                                        (okR [RSh.one Sh.bool] r.fst &&
                                                                          okB [] r.snd)
                                                                        (Option.some (nth (RV.p PV.nilp) r.fst 0).toPV.toBool)
                                                                        Option.none)
                                                                    (Option.some Bool.false))
                                                                  fun (v : Bool) => Option.some ([RV.p (PV.bool v)], []))
                                              Option.none)
                                          Option.none)
                                      Option.none)
                                  Option.none)
                              Option.none)
                          Option.none)
                        Option.none)
                    Option.none)
                  Option.none)
              Option.none)
          Option.none)
      Option.none := by kernel_rfl

end Go.Proofs.Ytbacfgghneknjaa.Vm
