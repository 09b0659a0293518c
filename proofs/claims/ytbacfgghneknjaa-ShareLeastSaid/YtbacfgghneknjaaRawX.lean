/- The raw theorems, by program: what each function and each loop comes to. -/
import Derived.Test.YtbacfgghneknjaaEnv
import Derived.Test.YtbacfgghneknjaaVm34
import Derived.KernelRfl
namespace Go.Proofs.Ytbacfgghneknjaa.Vm
open Go
set_option maxRecDepth 100000
set_option linter.unusedVariables false

/-- dynpos/dynposlaw13.ShareLeast, the loop of block 0 -/
theorem r8_0 (F : Fun) (l4 : List (List PV)) (total5 : Int) (x6 : List (List PV)) (missing7 : Int) (cost9 : Int) (f10 : Int) (sum11 : Int) (x56 : List (List PV)) (x57 : Int) (x58 : Int) (b0_0 : List (List PV)) (b0_1 : Int) : lp E F 8 0 [] 0
  {
    vals :=
      [AV.sl 3 l4, AV.int IntKind.i64 total5, AV.sl 1 x6, AV.int IntKind.i64 missing7,
        AV.int IntKind.i64 cost9, AV.int IntKind.i64 f10, AV.int IntKind.i64 sum11,
        AV.sl 1 x56, AV.int IntKind.i64 x57, AV.int IntKind.i64 x58],
    blks := [Blk.box [AV.sl 1 b0_0, AV.int IntKind.i64 b0_1]] } =
  ctl (ltB x58 x57)
    (getE x56 x58 fun (c : List PV) =>
      ctl (okCs [Sh.int IntKind.i64] c)
        (lp E F 8 0 [] 0
          {
            vals :=
              [AV.sl 3 l4, AV.int IntKind.i64 total5, AV.sl 1 x6,
                AV.int IntKind.i64 missing7, AV.int IntKind.i64 cost9, AV.int IntKind.i64 f10,
                AV.int IntKind.i64 (IntKind.i64.wrap (sum11 + (nth PV.nilp c 0).toInt)),
                AV.sl 1 x56, AV.int IntKind.i64 x57, AV.int IntKind.i64 (IntKind.i64.wrap (x58 + 1))],
            blks := [Blk.box [AV.sl 1 b0_0, AV.int IntKind.i64 b0_1]] })
        Option.none)
    (Option.some
      (Ex.exit 0,
        {
          vals :=
            [AV.sl 3 l4, AV.int IntKind.i64 total5, AV.sl 1 x6, AV.int IntKind.i64 missing7,
              AV.int IntKind.i64 cost9, AV.int IntKind.i64 f10, AV.int IntKind.i64 sum11],
          blks := [Blk.box [AV.sl 1 b0_0, AV.int IntKind.i64 b0_1]] })) := (lp_unfold ..).trans (by kernel_rfl)

/-- dynpos/dynposlaw13.ShareLeast, the loop of block 2 -/
theorem r8_2 (F : Fun) (l4 : List (List PV)) (total5 : Int) (cost9 : Int) (k15 : Int) (b0_0 : List (List PV)) (b0_1 : Int) (c1 : List (List PV)) : lp E F 8 0 [] 2
  {
    vals :=
      [AV.sl 3 l4, AV.int IntKind.i64 total5, AV.int IntKind.i64 cost9,
        AV.int IntKind.i64 k15],
    blks := [Blk.box [AV.sl 1 b0_0, AV.int IntKind.i64 b0_1], Blk.arr 1 c1] } =
  bnd (ctl (ltB k15 12) (Option.some (ltB 1 (↑l4.length : Int))) (Option.some Bool.false))
    fun (v : Bool) =>
    ctl v
      (bnd
        (F 18 [AV.t (TV.ptr 0 0), AV.int IntKind.i64 (↑l4.length : Int)]
          [Blk.box [AV.sl 1 b0_0, AV.int IntKind.i64 b0_1]])
        fun (r : Res) =>
        ctl
          (okR [RSh.one (Sh.int IntKind.i64)] r.fst &&
            okB [Sum.inl [Sh.sl 1, Sh.int IntKind.i64]] r.snd)
          (bnd
            (F 18 [AV.t (TV.ptr 0 0), AV.int IntKind.i64 (↑l4.length : Int)]
              [Blk.box
                  [AV.sl 1
                      (nth PV.nilp
                          (List.map AV.toPV (nth (Blk.box []) r.snd 0).toCs) 0).toEs,
                    AV.int IntKind.i64
                      (nth PV.nilp
                          (List.map AV.toPV (nth (Blk.box []) r.snd 0).toCs) 1).toInt]])
            fun (r_1 : Res) =>
            ctl
              (okR [RSh.one (Sh.int IntKind.i64)] r_1.fst &&
                okB [Sum.inl [Sh.sl 1, Sh.int IntKind.i64]] r_1.snd)
              (bnd
                (F 18 [AV.t (TV.ptr 0 0), AV.int IntKind.i64 4]
                  [Blk.box
                      [AV.sl 1
                          (nth PV.nilp
                              (List.map AV.toPV (nth (Blk.box []) r_1.snd 0).toCs) 0).toEs,
                        AV.int IntKind.i64
                          (nth PV.nilp
                              (List.map AV.toPV (nth (Blk.box []) r_1.snd 0).toCs) 1).toInt]])
                fun (r_2 : Res) =>
                ctl
                  (okR [RSh.one (Sh.int IntKind.i64)] r_2.fst &&
                    okB [Sum.inl [Sh.sl 1, Sh.int IntKind.i64]] r_2.snd)
                  (bnd
                    (ctl
                      (!(nth (RV.p PV.nilp) r.fst 0).toPV.toInt ==
                          (nth (RV.p PV.nilp) r_1.fst 0).toPV.toInt)
                      (ctl
                        (leB 0 (nth (RV.p PV.nilp) r.fst 0).toPV.toInt &&
                          ltB (nth (RV.p PV.nilp) r.fst 0).toPV.toInt (↑c1.length : Int))
                        (ctl
                          (okCs [Sh.int IntKind.i64]
                            (List.take 1
                              (List.drop 0
                                (nth [] c1 (nth (RV.p PV.nilp) r.fst 0).toPV.toInt.toNat))))
                          (getE l4 (nth (RV.p PV.nilp) r.fst 0).toPV.toInt
                            fun (c : List PV) =>
                            ctl
                              (okCs
                                [Sh.int IntKind.i64, Sh.int IntKind.i64, Sh.int IntKind.i64] c)
                              (Option.some
                                (ltB
                                  (IntKind.i64.wrap
                                    ((nth PV.nilp
                                          (nth [] c1
                                            (nth (RV.p PV.nilp) r.fst 0).toPV.toInt.toNat)
                                          0).toInt -
                                      (nth (RV.p PV.nilp) r_2.fst 0).toPV.toInt))
                                  (nth PV.nilp c 0).toInt))
                              Option.none)
                          Option.none)
                        Option.none)
                      (Option.some Bool.true))
                    fun (v : Bool) =>
                    bnd
                      (ctl (!v)
                        (ctl
                          (leB 0 (nth (RV.p PV.nilp) r_1.fst 0).toPV.toInt &&
                            ltB (nth (RV.p PV.nilp) r_1.fst 0).toPV.toInt (↑c1.length : Int))
                          (ctl
                            (okCs [Sh.int IntKind.i64]
                              (List.take 1
                                (List.drop 0
                                  (nth [] c1 (nth (RV.p PV.nilp) r_1.fst 0).toPV.toInt.toNat))))
                            (getE l4 (nth (RV.p PV.nilp) r_1.fst 0).toPV.toInt
                              fun (c : List PV) =>
                              ctl
                                (okCs
                                  [Sh.int IntKind.i64, Sh.int IntKind.i64, Sh.int IntKind.i64] c)
                                (Option.some
                                  (ltB (nth PV.nilp c 1).toInt
                                    (IntKind.i64.wrap
                                      ((nth PV.nilp
                                            (nth [] c1
                                              (nth (RV.p PV.nilp) r_1.fst 0).toPV.toInt.toNat)
                                            0).toInt +
                                        (nth (RV.p PV.nilp) r_2.fst 0).toPV.toInt))))
                                Option.none)
                            Option.none)
                          Option.none)
                        (Option.some Bool.true))
                      fun (v : Bool) =>
                      ctl v
                        (lp E F 8 0 [] 2
                          {
                            vals :=
                              [AV.sl 3 l4, AV.int IntKind.i64 total5, AV.int IntKind.i64 cost9,
                                AV.int IntKind.i64 (IntKind.i64.wrap (k15 + 1))],
                            blks :=
                              [Blk.box
                                  [AV.sl 1
                                      (nth PV.nilp
                                          (List.map AV.toPV (nth (Blk.box []) r_2.snd 0).toCs) 0).toEs,
                                    AV.int IntKind.i64
                                      (nth PV.nilp
                                          (List.map AV.toPV (nth (Blk.box []) r_2.snd 0).toCs) 1).toInt],
                                Blk.arr 1 c1] })
                        (ctl
                          (leB 0 (nth (RV.p PV.nilp) r.fst 0).toPV.toInt &&
                            ltB (nth (RV.p PV.nilp) r.fst 0).toPV.toInt (↑c1.length : Int))
                          (ctl
                            (okCs [Sh.int IntKind.i64]
                              (List.take 1
                                (List.drop 0
                                  (nth [] c1 (nth (RV.p PV.nilp) r.fst 0).toPV.toInt.toNat))))
                            (ctl
                              (leB 0 (nth (RV.p PV.nilp) r_1.fst 0).toPV.toInt &&
                                ltB (nth (RV.p PV.nilp) r_1.fst 0).toPV.toInt (↑c1.length : Int))
                              (ctl
                                (okCs [Sh.int IntKind.i64]
                                  (List.take 1
                                    (List.drop 0
                                      (nth [] c1
                                        (nth (RV.p PV.nilp) r_1.fst 0).toPV.toInt.toNat))))
                                (ctl
                                  (leB 0 (nth (RV.p PV.nilp) r.fst 0).toPV.toInt &&
                                    ltB (nth (RV.p PV.nilp) r.fst 0).toPV.toInt
                                      (↑c1.length : Int))
                                  (ctl
                                    (leB 0 (nth (RV.p PV.nilp) r_1.fst 0).toPV.toInt &&
                                      ltB (nth (RV.p PV.nilp) r_1.fst 0).toPV.toInt
                                        (↑(setEs c1 (nth (RV.p PV.nilp) r.fst 0).toPV.toInt.toNat
                                                0
                                                [PV.int IntKind.i64
                                                    (IntKind.i64.wrap
                                                      ((nth PV.nilp
                                                            (nth [] c1
                                                              (nth (RV.p PV.nilp) r.fst 0).toPV.toInt.toNat)
                                                            0).toInt -
                                                        (nth (RV.p PV.nilp) r_2.fst 0).toPV.toInt))]).length :
                                          Int))
                                    (bnd
                                      (F 16
                                        [AV.sl 3 l4,
                                          AV.sl 1
                                            (setEs
                                              (setEs c1
                                                (nth (RV.p PV.nilp) r.fst 0).toPV.toInt.toNat 0
                                                [PV.int IntKind.i64
                                                    (IntKind.i64.wrap
                                                      ((nth PV.nilp
                                                            (nth [] c1
                                                              (nth (RV.p PV.nilp) r.fst 0).toPV.toInt.toNat)
                                                            0).toInt -
                                                        (nth (RV.p PV.nilp) r_2.fst 0).toPV.toInt))])
                                              (nth (RV.p PV.nilp) r_1.fst 0).toPV.toInt.toNat 0
                                              [PV.int IntKind.i64
                                                  (IntKind.i64.wrap
                                                    ((nth PV.nilp
                                                          (nth [] c1
                                                            (nth (RV.p PV.nilp) r_1.fst 0).toPV.toInt.toNat)
                                                          0).toInt +
                                                      (nth (RV.p PV.nilp) r_2.fst 0).toPV.toInt))])]
                                        [])
                                      fun (r_3 : Res) =>
                                      ctl
                                        (okR
                                              [RSh.one (Sh.int IntKind.i64),
                                                RSh.one (Sh.int IntKind.i64)]
                                              r_3.fst &&
                                            okB [] r_3.snd &&
                                          (noslR r_3.fst && noslB r_3.snd))
                                        (bnd
                                          (ctl (!(nth (RV.p PV.nilp) r_3.fst 1).toPV.toInt != 0)
                                            (Option.some
                                              (ltB (nth (RV.p PV.nilp) r_3.fst 0).toPV.toInt
                                                cost9))
                                            (Option.some Bool.true))
                                          fun (v : Bool) =>
                                          bnd
                                            (ctl (!v)
                                              (bnd
                                                (F 28
                                                  [AV.sl 3 l4, AV.int IntKind.i64 total5,
                                                    AV.sl 1
                                                      (setEs
                                                        (setEs c1
                                                          (nth (RV.p PV.nilp) r.fst 0).toPV.toInt.toNat 0
                                                          [PV.int IntKind.i64
                                                              (IntKind.i64.wrap
                                                                ((nth PV.nilp
                                                                      (nth [] c1
                                                                        (nth (RV.p PV.nilp) r.fst 0).toPV.toInt.toNat)
                                                                      0).toInt -
                                                                  (nth (RV.p PV.nilp) r_2.fst 0).toPV.toInt))])
                                                        (nth (RV.p PV.nilp) r_1.fst 0).toPV.toInt.toNat 0
                                                        [PV.int IntKind.i64
                                                            (IntKind.i64.wrap
                                                              ((nth PV.nilp
                                                                    (nth [] c1
                                                                      (nth (RV.p PV.nilp) r_1.fst 0).toPV.toInt.toNat)
                                                                    0).toInt +
                                                                (nth (RV.p PV.nilp) r_2.fst 0).toPV.toInt))])]
                                                  [])
                                                fun (r : Res) =>
                                                ctl
                                                  (okR [RSh.one Sh.bool] r.fst && okB [] r.snd &&
                                                    (noslR r.fst && noslB r.snd))
                                                  (ctl (nth (RV.p PV.nilp) r.fst 0).toPV.toBool
                                                    (Option.some
                                                      (ltB cost9
                                                        (nth (RV.p PV.nilp) r_3.fst 0).toPV.toInt))
                                                    (Option.some Bool.false))
                                                  Option.none)
                                              (Option.some Bool.true))
                                            fun (v : Bool) =>
                                            ctl v (Option.some (Ex.ret, { vals := [AV.bool Bool.false], blks := [] }))
                                              (lp E F 8 0 [] 2
                                                {
                                                  vals :=
                                                    [AV.sl 3 l4, AV.int IntKind.i64 total5, AV.int IntKind.i64 cost9,
                                                      AV.int IntKind.i64 (IntKind.i64.wrap (k15 + 1))],
                                                  blks :=
                                                    [Blk.box
                                                        [AV.sl 1
                                                            (nth PV.nilp
                                                                (List.map AV.toPV (nth (Blk.box []) r_2.snd 0).toCs) 0).toEs,
                                                          AV.int IntKind.i64
                                                            (nth PV.nilp
                                                                (List.map AV.toPV (nth (Blk.box []) r_2.snd 0).toCs) 1).toInt],
                                                      Blk.arr 1
                                                        (setEs
                                                          (setEs c1
                                                            (nth (RV.p PV.nilp) r.fst 0).toPV.toInt.toNat 0
                                                            [PV.int IntKind.i64
                                                                (IntKind.i64.wrap
                                                                  ((nth PV.nilp
                                                                        (nth [] c1
                                                                          (nth (RV.p PV.nilp) r.fst 0).toPV.toInt.toNat)
                                                                        0).toInt -
                                                                    (nth (RV.p PV.nilp) r_2.fst 0).toPV.toInt))])
                                                          (nth (RV.p PV.nilp) r_1.fst 0).toPV.toInt.toNat 0
                                                          [PV.int IntKind.i64
                                                              (IntKind.i64.wrap
                                                                ((nth PV.nilp
                                                                      (nth [] c1
                                                                        (nth (RV.p PV.nilp) r_1.fst 0).toPV.toInt.toNat)
                                                                      0).toInt +
                                                                  (nth (RV.p PV.nilp) r_2.fst 0).toPV.toInt))])] }))
                                        Option.none)
                                    Option.none)
                                  Option.none)
                                Option.none)
                              Option.none)
                            Option.none)
                          Option.none))
                  Option.none)
              Option.none)
          Option.none)
      (Option.some (Ex.exit 2, { vals := [], blks := [] })) := (lp_unfold ..).trans (by kernel_rfl)

/-- dynpos/dynposlaw13.ShareLeast -/
theorem r8 (F : Fun) (t : List (List PV)) : funK E F 8 [AV.sl 1 t] [] =
  bnd (F 9 [AV.sl 1 t] []) fun (r : Res) =>
    ctl
      (okR [RSh.ownp [Sh.sl 1, Sh.int IntKind.i64]] r.fst &&
        okB [] r.snd)
      (bnd
        (F 10 [AV.t (TV.ptr 0 0), AV.int IntKind.i64 4]
          [Blk.box
              [AV.sl 1
                  (nth PV.nilp (nth (RV.p PV.nilp) r.fst 0).toCs
                      0).toEs,
                AV.int IntKind.i64
                  (nth PV.nilp (nth (RV.p PV.nilp) r.fst 0).toCs
                      1).toInt]])
        fun (r : Res) =>
        ctl
          (okR [RSh.one (Sh.sl 3)] r.fst &&
            okB [Sum.inl [Sh.sl 1, Sh.int IntKind.i64]] r.snd)
          (bnd
            (F 12 [AV.t (TV.ptr 0 0), AV.int IntKind.i64 (-30), AV.int IntKind.i64 40]
              [Blk.box
                  [AV.sl 1
                      (nth PV.nilp
                          (List.map AV.toPV (nth (Blk.box []) r.snd 0).toCs) 0).toEs,
                    AV.int IntKind.i64
                      (nth PV.nilp
                          (List.map AV.toPV (nth (Blk.box []) r.snd 0).toCs) 1).toInt]])
            fun (r_1 : Res) =>
            ctl
              (okR [RSh.one (Sh.int IntKind.i64)] r_1.fst &&
                okB [Sum.inl [Sh.sl 1, Sh.int IntKind.i64]] r_1.snd)
              (bnd
                (F 13
                  [AV.sl 3 (nth (RV.p PV.nilp) r.fst 0).toPV.toEs,
                    AV.int IntKind.i64 (nth (RV.p PV.nilp) r_1.fst 0).toPV.toInt]
                  [])
                fun (r_2 : Res) =>
                ctl
                  (okR
                      [RSh.one (Sh.sl 1), RSh.one (Sh.int IntKind.i64),
                        RSh.one (Sh.int IntKind.i64)]
                      r_2.fst &&
                    okB [] r_2.snd)
                  (bnd
                    (ctl (!(nth (RV.p PV.nilp) r_2.fst 2).toPV.toInt != 0)
                      (Option.some
                        ((↑(nth (RV.p PV.nilp) r_2.fst 0).toPV.toEs.length : Int) !=
                          (↑(nth (RV.p PV.nilp) r.fst 0).toPV.toEs.length : Int)))
                      (Option.some Bool.true))
                    fun (v : Bool) =>
                    bnd
                      (ctl (!v)
                        (bnd
                          (F 28
                            [AV.sl 3 (nth (RV.p PV.nilp) r.fst 0).toPV.toEs,
                              AV.int IntKind.i64 (nth (RV.p PV.nilp) r_1.fst 0).toPV.toInt,
                              AV.sl 1 (nth (RV.p PV.nilp) r_2.fst 0).toPV.toEs]
                            [])
                          fun (r : Res) =>
                          ctl
                            (okR [RSh.one Sh.bool] r.fst && okB [] r.snd)
                            (Option.some !(nth (RV.p PV.nilp) r.fst 0).toPV.toBool) Option.none)
                        (Option.some Bool.true))
                      fun (v : Bool) =>
                      ctl v (Option.some ([RV.p (PV.bool Bool.false)], []))
                        (bnd
                          (F 16
                            [AV.sl 3 (nth (RV.p PV.nilp) r.fst 0).toPV.toEs,
                              AV.sl 1 (nth (RV.p PV.nilp) r_2.fst 0).toPV.toEs]
                            [])
                          fun (r_3 : Res) =>
                          ctl
                            (okR
                                [RSh.one (Sh.int IntKind.i64), RSh.one (Sh.int IntKind.i64)]
                                r_3.fst &&
                              okB [] r_3.snd)
                            (bnd
                              (lp E F 8 0 [] 0
                                {
                                  vals :=
                                    [AV.sl 3 (nth (RV.p PV.nilp) r.fst 0).toPV.toEs,
                                      AV.int IntKind.i64
                                        (nth (RV.p PV.nilp) r_1.fst 0).toPV.toInt,
                                      AV.sl 1 (nth (RV.p PV.nilp) r_2.fst 0).toPV.toEs,
                                      AV.int IntKind.i64
                                        (nth (RV.p PV.nilp) r_2.fst 1).toPV.toInt,
                                      AV.int IntKind.i64
                                        (nth (RV.p PV.nilp) r_3.fst 0).toPV.toInt,
                                      AV.int IntKind.i64
                                        (nth (RV.p PV.nilp) r_3.fst 1).toPV.toInt,
                                      AV.int IntKind.i64 0,
                                      AV.sl 1 (nth (RV.p PV.nilp) r_2.fst 0).toPV.toEs,
                                      AV.int IntKind.i64
                                        (↑(nth (RV.p PV.nilp) r_2.fst 0).toPV.toEs.length : Int),
                                      AV.int IntKind.i64 0],
                                  blks :=
                                    [Blk.box
                                        [AV.sl 1
                                            (nth PV.nilp
                                                (List.map AV.toPV (nth (Blk.box []) r_1.snd 0).toCs) 0).toEs,
                                          AV.int IntKind.i64
                                            (nth PV.nilp
                                                (List.map AV.toPV (nth (Blk.box []) r_1.snd 0).toCs) 1).toInt]] })
                              fun (p : Ex × Pack) =>
                              ctl (p.fst.eqb (Ex.exit 0))
                                (ctl
                                  (okPack
                                    {
                                      slots :=
                                        [(3, Sum.inr (Sum.inr (AV.t (TV.ptr 0 0)))), (4, Sum.inl (Sh.sl 3)),
                                          (5, Sum.inl (Sh.int IntKind.i64)), (6, Sum.inl (Sh.sl 1)),
                                          (7, Sum.inl (Sh.int IntKind.i64)), (9, Sum.inl (Sh.int IntKind.i64)),
                                          (10, Sum.inl (Sh.int IntKind.i64)), (11, Sum.inl (Sh.int IntKind.i64))],
                                      blks := [Sum.inl [Sum.inl (Sh.sl 1), Sum.inl (Sh.int IntKind.i64)]] }
                                    p.snd)
                                  (bnd
                                    (ctl (!(nth AV.undef p.snd.vals 5).toPV.toInt != 0)
                                      (Option.some
                                        (IntKind.i64.wrap
                                            ((nth AV.undef p.snd.vals 6).toPV.toInt +
                                              (nth AV.undef p.snd.vals 3).toPV.toInt) !=
                                          (nth AV.undef p.snd.vals 1).toPV.toInt))
                                      (Option.some Bool.true))
                                    fun (v : Bool) =>
                                    ctl v (Option.some ([RV.p (PV.bool Bool.false)], []))
                                      (ctl
                                        (leN ((nth AV.undef p.snd.vals 2).toPV.toEs.length * 8) 140737488355328)
                                        (bnd
                                          (lp E F 8 0 [] 2
                                            {
                                              vals :=
                                                [AV.sl 3 (nth AV.undef p.snd.vals 0).toPV.toEs,
                                                  AV.int IntKind.i64 (nth AV.undef p.snd.vals 1).toPV.toInt,
                                                  AV.int IntKind.i64 (nth AV.undef p.snd.vals 4).toPV.toInt,
                                                  AV.int IntKind.i64 0],
                                              blks :=
                                                [Blk.box
                                                    [AV.sl 1
                                                        (nth AV.undef
                                                              (nth (Blk.box []) p.snd.blks 0).toCs 0).toPV.toEs,
                                                      AV.int IntKind.i64
                                                        (nth AV.undef
                                                              (nth (Blk.box []) p.snd.blks 0).toCs 1).toPV.toInt],
                                                  Blk.arr 1 (nth AV.undef p.snd.vals 2).toPV.toEs] })
                                          fun (p : Ex × Pack) =>
                                          ctl (p.fst.eqb (Ex.exit 2))
                                            (bnd (F 14 [] []) fun (r : Res) =>
                                              ctl
                                                (okR [RSh.one Sh.bool] r.fst && okB [] r.snd)
                                                (Option.some
                                                  ([RV.p
                                                        (PV.bool
                                                          (nth (RV.p PV.nilp) r.fst 0).toPV.toBool)],
                                                    []))
                                                Option.none)
                                            (ctl (p.fst.eqb Ex.ret)
                                              (ctl (okPack { slots := [(2, Sum.inl Sh.bool)], blks := [] } p.snd)
                                                (Option.some
                                                  ([RV.p
                                                        (PV.bool (nth AV.undef p.snd.vals 0).toPV.toBool)],
                                                    []))
                                                Option.none)
                                              Option.none))
                                        Option.none))
                                  Option.none)
                                Option.none)
                            Option.none))
                  Option.none)
              Option.none)
          Option.none)
      Option.none := by kernel_rfl

end Go.Proofs.Ytbacfgghneknjaa.Vm
