/- The raw theorems, by program: what each function and each loop comes to. -/
import Derived.Test.YtcnjaffogkkpnaaEnv
import Derived.Test.YtcnjaffogkkpnaaVm34
import Derived.KernelRfl
namespace Go.Proofs.Ytcnjaffogkkpnaa.Vm
open Go
set_option maxRecDepth 100000
set_option linter.unusedVariables false

/-- dynpos/dynposlaw14.AllocateRates, the loop of block 0 -/
theorem r5_0 (F : Fun) (m5 : List (List PV)) (last8 : List (List PV)) (x56 : List (List PV)) (x57 : Int) (x58 : Int) (b0_0 : Int) (b0_1 : Int) (b0_2 : List (List PV)) (b1_0 : Int) (b1_1 : Int) (b1_2 : Int) : lp E F 5 0 [] 0
  {
    vals :=
      [AV.sl 1 m5, AV.sl 2 last8, AV.sl 2 x56, AV.int IntKind.i64 x57,
        AV.int IntKind.i64 x58],
    blks :=
      [Blk.box [AV.int IntKind.i64 b0_0, AV.int IntKind.i64 b0_1, AV.sl 6 b0_2],
        Blk.box
          [AV.int IntKind.i64 b1_0, AV.int IntKind.i64 b1_1, AV.int IntKind.i64 b1_2]] } =
  ctl (ltB x58 x57)
    (getE x56 x58 fun (c : List PV) =>
      ctl (okCs [Sh.int IntKind.i64, Sh.int IntKind.i64] c)
        (getE b0_2 x58 fun (c_1 : List PV) =>
          ctl
            (okCs
              [Sh.int IntKind.i64, Sh.int IntKind.i64, Sh.int IntKind.i64,
                Sh.int IntKind.i64, Sh.int IntKind.i64, Sh.sl 2]
              c_1)
            (getE m5 x58 fun (c_2 : List PV) =>
              ctl (okCs [Sh.int IntKind.i64] c_2)
                (bnd
                  (F 15
                    [AV.agg
                        [PV.int IntKind.i64 (nth PV.nilp c_1 0).toInt,
                          PV.int IntKind.i64 (nth PV.nilp c_1 1).toInt,
                          PV.int IntKind.i64 (nth PV.nilp c_1 2).toInt,
                          PV.int IntKind.i64 (nth PV.nilp c_1 3).toInt,
                          PV.int IntKind.i64 (nth PV.nilp c_1 4).toInt,
                          PV.sl 2 (nth PV.nilp c_1 5).toEs],
                      AV.int IntKind.i64 (nth PV.nilp c_2 0).toInt]
                    [])
                  fun (r : Res) =>
                  ctl
                    (okR
                        [RSh.agg
                            [Sh.int IntKind.i64, Sh.int IntKind.i64, Sh.int IntKind.i64,
                              Sh.int IntKind.i64, Sh.int IntKind.i64, Sh.sl 2]]
                        r.fst &&
                      okB [] r.snd)
                    (bnd
                      (F 16
                        [AV.agg
                            [PV.int IntKind.i64
                                (nth PV.nilp
                                    (nth (RV.p PV.nilp) r.fst 0).toCs 0).toInt,
                              PV.int IntKind.i64
                                (nth PV.nilp
                                    (nth (RV.p PV.nilp) r.fst 0).toCs 1).toInt,
                              PV.int IntKind.i64
                                (nth PV.nilp
                                    (nth (RV.p PV.nilp) r.fst 0).toCs 2).toInt,
                              PV.int IntKind.i64
                                (nth PV.nilp
                                    (nth (RV.p PV.nilp) r.fst 0).toCs 3).toInt,
                              PV.int IntKind.i64
                                (nth PV.nilp
                                    (nth (RV.p PV.nilp) r.fst 0).toCs 4).toInt,
                              PV.sl 2
                                (nth PV.nilp
                                    (nth (RV.p PV.nilp) r.fst 0).toCs 5).toEs]]
                        [])
                      fun (r_1 : Res) =>
                      ctl
                        (okR
                            [RSh.one (Sh.int IntKind.i64), RSh.one (Sh.int IntKind.i64)]
                            r_1.fst &&
                          okB [] r_1.snd)
                        (getE last8 x58 fun (c_3 : List PV) =>
                          ctl (okCs [Sh.int IntKind.i64, Sh.int IntKind.i64] c_3)
                            (bnd
                              (ctl
                                (!ltB
                                    (nth PV.nilp
                                        (nth (RV.p PV.nilp) r.fst 0).toCs 3).toInt
                                    (IntKind.i64.wrap
                                      ((nth PV.nilp c 1).toInt - (nth PV.nilp c_3 1).toInt)))
                                (getE last8 x58 fun (c_4 : List PV) =>
                                  ctl (okCs [Sh.int IntKind.i64, Sh.int IntKind.i64] c_4)
                                    (Option.some
                                      (ltB
                                        (nth PV.nilp
                                            (nth (RV.p PV.nilp) r.fst 0).toCs 3).toInt
                                        (IntKind.i64.wrap
                                          ((nth PV.nilp c_4 1).toInt - (nth PV.nilp c 1).toInt))))
                                    Option.none)
                                (Option.some Bool.true))
                              fun (v : Bool) =>
                              bnd
                                (ctl v
                                  (Option.some
                                    ((nth PV.nilp c 1).toInt !=
                                      (nth (RV.p PV.nilp) r_1.fst 0).toPV.toInt))
                                  (Option.some Bool.false))
                                fun (v : Bool) =>
                                bnd
                                  (ctl v
                                    (Option.some
                                      ((nth PV.nilp c 1).toInt !=
                                        (nth (RV.p PV.nilp) r_1.fst 1).toPV.toInt))
                                    (Option.some Bool.false))
                                  fun (v : Bool) =>
                                  ctl v (Option.some (Ex.ret, { vals := [AV.bool Bool.false], blks := [] }))
                                    (bnd
                                      (F 17
                                        [AV.agg
                                            [PV.int IntKind.i64
                                                (nth PV.nilp
                                                    (nth (RV.p PV.nilp) r.fst 0).toCs 0).toInt,
                                              PV.int IntKind.i64
                                                (nth PV.nilp
                                                    (nth (RV.p PV.nilp) r.fst 0).toCs 1).toInt,
                                              PV.int IntKind.i64
                                                (nth PV.nilp
                                                    (nth (RV.p PV.nilp) r.fst 0).toCs 2).toInt,
                                              PV.int IntKind.i64
                                                (nth PV.nilp
                                                    (nth (RV.p PV.nilp) r.fst 0).toCs 3).toInt,
                                              PV.int IntKind.i64
                                                (nth PV.nilp
                                                    (nth (RV.p PV.nilp) r.fst 0).toCs 4).toInt,
                                              PV.sl 2
                                                (nth PV.nilp
                                                    (nth (RV.p PV.nilp) r.fst 0).toCs 5).toEs],
                                          AV.int IntKind.i64 (nth PV.nilp c 1).toInt]
                                        [])
                                      fun (r_2 : Res) =>
                                      ctl
                                        (okR
                                            [RSh.one (Sh.int IntKind.i64),
                                              RSh.one (Sh.int IntKind.i64)]
                                            r_2.fst &&
                                          okB [] r_2.snd)
                                        (getE last8 x58 fun (c_4 : List PV) =>
                                          ctl
                                            (okCs [Sh.int IntKind.i64, Sh.int IntKind.i64] c_4)
                                            (bnd
                                              (ctl
                                                (!ltB
                                                    (nth PV.nilp
                                                        (nth (RV.p PV.nilp) r.fst 0).toCs 3).toInt
                                                    (IntKind.i64.wrap
                                                      ((nth PV.nilp c 0).toInt -
                                                        (nth PV.nilp c_4 0).toInt)))
                                                (getE last8 x58 fun (c_5 : List PV) =>
                                                  ctl
                                                    (okCs [Sh.int IntKind.i64, Sh.int IntKind.i64] c_5)
                                                    (Option.some
                                                      (ltB
                                                        (nth PV.nilp
                                                            (nth (RV.p PV.nilp) r.fst 0).toCs 3).toInt
                                                        (IntKind.i64.wrap
                                                          ((nth PV.nilp c_5 0).toInt -
                                                            (nth PV.nilp c 0).toInt))))
                                                    Option.none)
                                                (Option.some Bool.true))
                                              fun (v : Bool) =>
                                              bnd
                                                (ctl v
                                                  (Option.some
                                                    ((nth PV.nilp c 0).toInt !=
                                                      (nth (RV.p PV.nilp) r_2.fst 0).toPV.toInt))
                                                  (Option.some Bool.false))
                                                fun (v : Bool) =>
                                                bnd
                                                  (ctl v
                                                    (Option.some
                                                      ((nth PV.nilp c 0).toInt !=
                                                        (nth (RV.p PV.nilp) r_2.fst 1).toPV.toInt))
                                                    (Option.some Bool.false))
                                                  fun (v : Bool) =>
                                                  ctl v (Option.some (Ex.ret, { vals := [AV.bool Bool.false], blks := [] }))
                                                    (lp E F 5 0 [] 0
                                                      {
                                                        vals :=
                                                          [AV.sl 1 m5, AV.sl 2 last8, AV.sl 2 x56,
                                                            AV.int IntKind.i64 x57, AV.int IntKind.i64 (IntKind.i64.wrap (x58 + 1))],
                                                        blks :=
                                                          [Blk.box
                                                              [AV.int IntKind.i64 b0_0, AV.int IntKind.i64 b0_1,
                                                                AV.sl 6 b0_2],
                                                            Blk.box
                                                              [AV.int IntKind.i64 b1_0, AV.int IntKind.i64 b1_1,
                                                                AV.int IntKind.i64 b1_2]] }))
                                            Option.none)
                                        Option.none))
                            Option.none)
                        Option.none)
                    Option.none)
                Option.none)
            Option.none)
        Option.none)
    (Option.some
      (Ex.exit 0,
        { vals := [AV.sl 1 m5, AV.sl 2 last8],
          blks :=
            [Blk.box [AV.int IntKind.i64 b0_0, AV.int IntKind.i64 b0_1, AV.sl 6 b0_2],
              Blk.box
                [AV.int IntKind.i64 b1_0, AV.int IntKind.i64 b1_1, AV.int IntKind.i64 b1_2]] })) := (lp_unfold ..).trans (by kernel_rfl)

/-- dynpos/dynposlaw14.AllocateRates, the loop of block 2 -/
theorem r5_2 (F : Fun) (m5 : List (List PV)) (last8 : List (List PV)) (x165 : Int) (x166 : Int) (b0_0 : Int) (b0_1 : Int) (b0_2 : List (List PV)) (b1_0 : Int) (b1_1 : Int) (b1_2 : Int) (b2_0 : Int) (b2_1 : Int) (c3 : List (List PV)) : lp E F 5 0 [] 2
  { vals := [AV.sl 1 m5, AV.sl 2 last8, AV.int IntKind.i64 x165, AV.int IntKind.i64 x166],
    blks :=
      [Blk.box [AV.int IntKind.i64 b0_0, AV.int IntKind.i64 b0_1, AV.sl 6 b0_2],
        Blk.box
          [AV.int IntKind.i64 b1_0, AV.int IntKind.i64 b1_1, AV.int IntKind.i64 b1_2],
        Blk.box
          [AV.int IntKind.i64 b2_0, AV.int IntKind.i64 b2_1, AV.t (TV.hsl 3)],
        Blk.arr 6 c3] } =
  ctl (ltB x166 x165)
    (ctl (leB 0 x166 && ltB x166 (↑c3.length : Int))
      (lp E F 5 0 [] 2
        {
          vals :=
            [AV.sl 1 m5, AV.sl 2 last8, AV.int IntKind.i64 x165,
              AV.int IntKind.i64 (IntKind.i64.wrap (x166 + 1))],
          blks :=
            [Blk.box [AV.int IntKind.i64 b0_0, AV.int IntKind.i64 b0_1, AV.sl 6 b0_2],
              Blk.box
                [AV.int IntKind.i64 b1_0, AV.int IntKind.i64 b1_1, AV.int IntKind.i64 b1_2],
              Blk.box
                [AV.int IntKind.i64 b2_0, AV.int IntKind.i64 b2_1, AV.t (TV.hsl 3)],
              Blk.arr 6 (setEs c3 x166.toNat 3 [PV.int IntKind.i64 5000])] })
      Option.none)
    (Option.some
      (Ex.exit 2,
        { vals := [AV.sl 1 m5, AV.sl 2 last8],
          blks :=
            [Blk.box [AV.int IntKind.i64 b0_0, AV.int IntKind.i64 b0_1, AV.sl 6 b0_2],
              Blk.box
                [AV.int IntKind.i64 b1_0, AV.int IntKind.i64 b1_1, AV.int IntKind.i64 b1_2],
              Blk.box
                [AV.int IntKind.i64 b2_0, AV.int IntKind.i64 b2_1, AV.t (TV.hsl 3)],
              Blk.arr 6 c3] })) := (lp_unfold ..).trans (by kernel_rfl)

/-- dynpos/dynposlaw14.AllocateRates -/
theorem r5 (F : Fun) (t : List (List PV)) : funK E F 5 [AV.sl 1 t] [] =
  bnd (F 8 [AV.sl 1 t] []) fun (r : Res) =>
    ctl
      (okR [RSh.ownp [Sh.sl 1, Sh.int IntKind.i64]] r.fst &&
        okB [] r.snd)
      (bnd
        (F 9 [AV.t (TV.ptr 0 0)]
          [Blk.box
              [AV.sl 1
                  (nth PV.nilp (nth (RV.p PV.nilp) r.fst 0).toCs
                      0).toEs,
                AV.int IntKind.i64
                  (nth PV.nilp (nth (RV.p PV.nilp) r.fst 0).toCs
                      1).toInt]])
        fun (r : Res) =>
        ctl
          (okR
              [RSh.agg [Sh.int IntKind.i64, Sh.int IntKind.i64, Sh.sl 6],
                RSh.one (Sh.sl 1), RSh.one (Sh.sl 2),
                RSh.agg [Sh.int IntKind.i64, Sh.int IntKind.i64, Sh.int IntKind.i64]]
              r.fst &&
            okB [Sum.inl [Sh.sl 1, Sh.int IntKind.i64]] r.snd)
          (bnd
            (F 14
              [AV.t (TV.ptr 0 0),
                AV.agg
                  [PV.int IntKind.i64
                      (nth PV.nilp
                          (nth (RV.p PV.nilp) r.fst 0).toCs 0).toInt,
                    PV.int IntKind.i64
                      (nth PV.nilp
                          (nth (RV.p PV.nilp) r.fst 0).toCs 1).toInt,
                    PV.sl 6
                      (nth PV.nilp
                          (nth (RV.p PV.nilp) r.fst 0).toCs 2).toEs]]
              [Blk.box
                  [AV.sl 1
                      (nth PV.nilp
                          (List.map AV.toPV (nth (Blk.box []) r.snd 0).toCs) 0).toEs,
                    AV.int IntKind.i64
                      (nth PV.nilp
                          (List.map AV.toPV (nth (Blk.box []) r.snd 0).toCs) 1).toInt]])
            fun (r_1 : Res) =>
            ctl
              (okR [RSh.one (Sh.sl 2)] r_1.fst &&
                okB [Sum.inl [Sh.sl 1, Sh.int IntKind.i64]] r_1.snd)
              (bnd
                (F 10
                  [AV.agg
                      [PV.int IntKind.i64
                          (nth PV.nilp
                              (nth (RV.p PV.nilp) r.fst 0).toCs 0).toInt,
                        PV.int IntKind.i64
                          (nth PV.nilp
                              (nth (RV.p PV.nilp) r.fst 0).toCs 1).toInt,
                        PV.sl 6
                          (nth PV.nilp
                              (nth (RV.p PV.nilp) r.fst 0).toCs 2).toEs],
                    AV.sl 1 (nth (RV.p PV.nilp) r.fst 1).toPV.toEs,
                    AV.sl 2 (nth (RV.p PV.nilp) r_1.fst 0).toPV.toEs,
                    AV.agg
                      [PV.int IntKind.i64
                          (nth PV.nilp
                              (nth (RV.p PV.nilp) r.fst 3).toCs 0).toInt,
                        PV.int IntKind.i64
                          (nth PV.nilp
                              (nth (RV.p PV.nilp) r.fst 3).toCs 1).toInt,
                        PV.int IntKind.i64
                          (nth PV.nilp
                              (nth (RV.p PV.nilp) r.fst 3).toCs 2).toInt]]
                  [])
                fun (r_2 : Res) =>
                ctl
                  (okR
                      [RSh.agg
                          [Sh.sl 2, Sh.int IntKind.i64, Sh.int IntKind.i64,
                            Sh.int IntKind.i64, Sh.int IntKind.i64, Sh.int IntKind.i64,
                            Sh.int IntKind.i64],
                        RSh.one (Sh.int IntKind.i64)]
                      r_2.fst &&
                    okB [] r_2.snd)
                  (bnd
                    (ctl (!(nth (RV.p PV.nilp) r_2.fst 1).toPV.toInt != 0)
                      (Option.some
                        ((↑(nth PV.nilp
                                    (nth (RV.p PV.nilp) r_2.fst 0).toCs 0).toEs.length :
                            Int) !=
                          (↑(nth PV.nilp
                                    (nth (RV.p PV.nilp) r.fst 0).toCs 2).toEs.length :
                            Int)))
                      (Option.some Bool.true))
                    fun (v : Bool) =>
                    ctl v (Option.some ([RV.p (PV.bool Bool.false)], []))
                      (bnd
                        (lp E F 5 0 [] 0
                          {
                            vals :=
                              [AV.sl 1 (nth (RV.p PV.nilp) r.fst 1).toPV.toEs,
                                AV.sl 2 (nth (RV.p PV.nilp) r_1.fst 0).toPV.toEs,
                                AV.sl 2
                                  (nth PV.nilp
                                      (nth (RV.p PV.nilp) r_2.fst 0).toCs 0).toEs,
                                AV.int IntKind.i64
                                  (↑(nth PV.nilp
                                            (nth (RV.p PV.nilp) r_2.fst 0).toCs 0).toEs.length :
                                    Int),
                                AV.int IntKind.i64 0],
                            blks :=
                              [Blk.box
                                  [AV.int IntKind.i64
                                      (nth PV.nilp
                                          (nth (RV.p PV.nilp) r.fst 0).toCs 0).toInt,
                                    AV.int IntKind.i64
                                      (nth PV.nilp
                                          (nth (RV.p PV.nilp) r.fst 0).toCs 1).toInt,
                                    AV.sl 6
                                      (nth PV.nilp
                                          (nth (RV.p PV.nilp) r.fst 0).toCs 2).toEs],
                                Blk.box
                                  [AV.int IntKind.i64
                                      (nth PV.nilp
                                          (nth (RV.p PV.nilp) r.fst 3).toCs 0).toInt,
                                    AV.int IntKind.i64
                                      (nth PV.nilp
                                          (nth (RV.p PV.nilp) r.fst 3).toCs 1).toInt,
                                    AV.int IntKind.i64
                                      (nth PV.nilp
                                          (nth (RV.p PV.nilp) r.fst 3).toCs 2).toInt]] })
                        fun (p : Ex × Pack) =>
                        ctl (p.fst.eqb (Ex.exit 0))
                          (ctl
                            (okPack
                              {
                                slots :=
                                  [(4, Sum.inr (Sum.inr (AV.t (TV.ptr 0 0)))), (5, Sum.inl (Sh.sl 1)),
                                    (7, Sum.inr (Sum.inr (AV.t (TV.ptr 1 0)))), (8, Sum.inl (Sh.sl 2))],
                                blks :=
                                  [Sum.inl [Sum.inl (Sh.int IntKind.i64), Sum.inl (Sh.int IntKind.i64), Sum.inl (Sh.sl 6)],
                                    Sum.inl
                                      [Sum.inl (Sh.int IntKind.i64), Sum.inl (Sh.int IntKind.i64),
                                        Sum.inl (Sh.int IntKind.i64)]] }
                              p.snd)
                            (ctl
                              (leN
                                ((nth AV.undef (nth (Blk.box []) p.snd.blks 0).toCs
                                          2).toPV.toEs.length *
                                  64)
                                140737488355328)
                              (bnd
                                (lp E F 5 0 [] 2
                                  {
                                    vals :=
                                      [AV.sl 1 (nth AV.undef p.snd.vals 0).toPV.toEs,
                                        AV.sl 2 (nth AV.undef p.snd.vals 1).toPV.toEs,
                                        AV.int IntKind.i64
                                          (↑(nth AV.undef (nth (Blk.box []) p.snd.blks 0).toCs
                                                      2).toPV.toEs.length :
                                            Int),
                                        AV.int IntKind.i64 0],
                                    blks :=
                                      [Blk.box
                                          [AV.int IntKind.i64
                                              (nth AV.undef (nth (Blk.box []) p.snd.blks 0).toCs
                                                    0).toPV.toInt,
                                            AV.int IntKind.i64
                                              (nth AV.undef (nth (Blk.box []) p.snd.blks 0).toCs
                                                    1).toPV.toInt,
                                            AV.sl 6
                                              (nth AV.undef (nth (Blk.box []) p.snd.blks 0).toCs
                                                    2).toPV.toEs],
                                        Blk.box
                                          [AV.int IntKind.i64
                                              (nth AV.undef (nth (Blk.box []) p.snd.blks 1).toCs
                                                    0).toPV.toInt,
                                            AV.int IntKind.i64
                                              (nth AV.undef (nth (Blk.box []) p.snd.blks 1).toCs
                                                    1).toPV.toInt,
                                            AV.int IntKind.i64
                                              (nth AV.undef (nth (Blk.box []) p.snd.blks 1).toCs
                                                    2).toPV.toInt],
                                        Blk.box
                                          [AV.int IntKind.i64
                                              (nth AV.undef (nth (Blk.box []) p.snd.blks 0).toCs
                                                    0).toPV.toInt,
                                            AV.int IntKind.i64
                                              (nth AV.undef (nth (Blk.box []) p.snd.blks 0).toCs
                                                    1).toPV.toInt,
                                            AV.t (TV.hsl 3)],
                                        Blk.arr 6
                                          (nth AV.undef (nth (Blk.box []) p.snd.blks 0).toCs
                                                2).toPV.toEs] })
                                fun (p : Ex × Pack) =>
                                ctl (p.fst.eqb (Ex.exit 2))
                                  (ctl
                                    (okPack
                                      {
                                        slots :=
                                          [(4, Sum.inr (Sum.inr (AV.t (TV.ptr 0 0)))), (5, Sum.inl (Sh.sl 1)),
                                            (7, Sum.inr (Sum.inr (AV.t (TV.ptr 1 0)))), (8, Sum.inl (Sh.sl 2)),
                                            (16, Sum.inr (Sum.inr (AV.t (TV.ptr 2 0))))],
                                        blks :=
                                          [Sum.inl
                                              [Sum.inl (Sh.int IntKind.i64), Sum.inl (Sh.int IntKind.i64),
                                                Sum.inl (Sh.sl 6)],
                                            Sum.inl
                                              [Sum.inl (Sh.int IntKind.i64), Sum.inl (Sh.int IntKind.i64),
                                                Sum.inl (Sh.int IntKind.i64)],
                                            Sum.inl
                                              [Sum.inl (Sh.int IntKind.i64), Sum.inl (Sh.int IntKind.i64),
                                                Sum.inr (AV.t (TV.hsl 3))],
                                            Sum.inr 6] }
                                      p.snd)
                                    (bnd
                                      (F 10
                                        [AV.agg
                                            [PV.int IntKind.i64
                                                (nth AV.undef (nth (Blk.box []) p.snd.blks 0).toCs
                                                      0).toPV.toInt,
                                              PV.int IntKind.i64
                                                (nth AV.undef (nth (Blk.box []) p.snd.blks 0).toCs
                                                      1).toPV.toInt,
                                              PV.sl 6
                                                (nth AV.undef (nth (Blk.box []) p.snd.blks 0).toCs
                                                      2).toPV.toEs],
                                          AV.sl 1 (nth AV.undef p.snd.vals 0).toPV.toEs,
                                          AV.sl 2 [],
                                          AV.agg
                                            [PV.int IntKind.i64
                                                (nth AV.undef (nth (Blk.box []) p.snd.blks 1).toCs
                                                      0).toPV.toInt,
                                              PV.int IntKind.i64
                                                (nth AV.undef (nth (Blk.box []) p.snd.blks 1).toCs
                                                      1).toPV.toInt,
                                              PV.int IntKind.i64
                                                (nth AV.undef (nth (Blk.box []) p.snd.blks 1).toCs
                                                      2).toPV.toInt]]
                                        [])
                                      fun (r : Res) =>
                                      ctl
                                        (okR
                                            [RSh.agg
                                                [Sh.sl 2, Sh.int IntKind.i64, Sh.int IntKind.i64,
                                                  Sh.int IntKind.i64, Sh.int IntKind.i64, Sh.int IntKind.i64,
                                                  Sh.int IntKind.i64],
                                              RSh.one (Sh.int IntKind.i64)]
                                            r.fst &&
                                          okB [] r.snd)
                                        (bnd
                                          (F 10
                                            [AV.agg
                                                [PV.int IntKind.i64
                                                    (nth AV.undef
                                                          (nth (Blk.box []) p.snd.blks 2).toCs 0).toPV.toInt,
                                                  PV.int IntKind.i64
                                                    (nth AV.undef
                                                          (nth (Blk.box []) p.snd.blks 2).toCs 1).toPV.toInt,
                                                  PV.sl 6 (nth (Blk.box []) p.snd.blks 3).toEs],
                                              AV.sl 1 (nth AV.undef p.snd.vals 0).toPV.toEs,
                                              AV.sl 2 [],
                                              AV.agg
                                                [PV.int IntKind.i64
                                                    (nth AV.undef
                                                          (nth (Blk.box []) p.snd.blks 1).toCs 0).toPV.toInt,
                                                  PV.int IntKind.i64
                                                    (nth AV.undef
                                                          (nth (Blk.box []) p.snd.blks 1).toCs 1).toPV.toInt,
                                                  PV.int IntKind.i64
                                                    (nth AV.undef
                                                          (nth (Blk.box []) p.snd.blks 1).toCs 2).toPV.toInt]]
                                            [])
                                          fun (r_3 : Res) =>
                                          ctl
                                            (okR
                                                [RSh.agg
                                                    [Sh.sl 2, Sh.int IntKind.i64, Sh.int IntKind.i64,
                                                      Sh.int IntKind.i64, Sh.int IntKind.i64, Sh.int IntKind.i64,
                                                      Sh.int IntKind.i64],
                                                  RSh.one (Sh.int IntKind.i64)]
                                                r_3.fst &&
                                              okB [] r_3.snd)
                                            (bnd
                                              (F 10
                                                [AV.agg
                                                    [PV.int IntKind.i64
                                                        (nth AV.undef
                                                              (nth (Blk.box []) p.snd.blks 2).toCs 0).toPV.toInt,
                                                      PV.int IntKind.i64
                                                        (nth AV.undef
                                                              (nth (Blk.box []) p.snd.blks 2).toCs 1).toPV.toInt,
                                                      PV.sl 6 (nth (Blk.box []) p.snd.blks 3).toEs],
                                                  AV.sl 1 (nth AV.undef p.snd.vals 0).toPV.toEs,
                                                  AV.sl 2 (nth AV.undef p.snd.vals 1).toPV.toEs,
                                                  AV.agg
                                                    [PV.int IntKind.i64
                                                        (nth AV.undef
                                                              (nth (Blk.box []) p.snd.blks 1).toCs 0).toPV.toInt,
                                                      PV.int IntKind.i64
                                                        (nth AV.undef
                                                              (nth (Blk.box []) p.snd.blks 1).toCs 1).toPV.toInt,
                                                      PV.int IntKind.i64
                                                        (nth AV.undef
                                                              (nth (Blk.box []) p.snd.blks 1).toCs 2).toPV.toInt]]
                                                [])
                                              fun (r_4 : Res) =>
                                              ctl
                                                (okR
                                                    [RSh.agg
                                                        [Sh.sl 2, Sh.int IntKind.i64, Sh.int IntKind.i64,
                                                          Sh.int IntKind.i64, Sh.int IntKind.i64, Sh.int IntKind.i64,
                                                          Sh.int IntKind.i64],
                                                      RSh.one (Sh.int IntKind.i64)]
                                                    r_4.fst &&
                                                  okB [] r_4.snd)
                                                (bnd
                                                  (ctl
                                                    ((nth (RV.p PV.nilp) r.fst 1).toPV.toInt == 0)
                                                    (Option.some ((nth (RV.p PV.nilp) r_3.fst 1).toPV.toInt == 0))
                                                    (Option.some Bool.false))
                                                  fun (v : Bool) =>
                                                  bnd
                                                    (ctl v
                                                      (Option.some ((nth (RV.p PV.nilp) r_4.fst 1).toPV.toInt == 0))
                                                      (Option.some Bool.false))
                                                    fun (v : Bool) =>
                                                    bnd
                                                      (ctl v
                                                        (bnd
                                                          (F 18
                                                            [AV.agg
                                                                [PV.sl 2
                                                                    (nth PV.nilp
                                                                        (nth (RV.p PV.nilp) r.fst 0).toCs 0).toEs,
                                                                  PV.int IntKind.i64
                                                                    (nth PV.nilp
                                                                        (nth (RV.p PV.nilp) r.fst 0).toCs 1).toInt,
                                                                  PV.int IntKind.i64
                                                                    (nth PV.nilp
                                                                        (nth (RV.p PV.nilp) r.fst 0).toCs 2).toInt,
                                                                  PV.int IntKind.i64
                                                                    (nth PV.nilp
                                                                        (nth (RV.p PV.nilp) r.fst 0).toCs 3).toInt,
                                                                  PV.int IntKind.i64
                                                                    (nth PV.nilp
                                                                        (nth (RV.p PV.nilp) r.fst 0).toCs 4).toInt,
                                                                  PV.int IntKind.i64
                                                                    (nth PV.nilp
                                                                        (nth (RV.p PV.nilp) r.fst 0).toCs 5).toInt,
                                                                  PV.int IntKind.i64
                                                                    (nth PV.nilp
                                                                        (nth (RV.p PV.nilp) r.fst 0).toCs 6).toInt],
                                                              AV.agg
                                                                [PV.sl 2
                                                                    (nth PV.nilp
                                                                        (nth (RV.p PV.nilp) r_3.fst 0).toCs 0).toEs,
                                                                  PV.int IntKind.i64
                                                                    (nth PV.nilp
                                                                        (nth (RV.p PV.nilp) r_3.fst 0).toCs 1).toInt,
                                                                  PV.int IntKind.i64
                                                                    (nth PV.nilp
                                                                        (nth (RV.p PV.nilp) r_3.fst 0).toCs 2).toInt,
                                                                  PV.int IntKind.i64
                                                                    (nth PV.nilp
                                                                        (nth (RV.p PV.nilp) r_3.fst 0).toCs 3).toInt,
                                                                  PV.int IntKind.i64
                                                                    (nth PV.nilp
                                                                        (nth (RV.p PV.nilp) r_3.fst 0).toCs 4).toInt,
                                                                  PV.int IntKind.i64
                                                                    (nth PV.nilp
                                                                        (nth (RV.p PV.nilp) r_3.fst 0).toCs 5).toInt,
                                                                  PV.int IntKind.i64
                                                                    (nth PV.nilp
                                                                        (nth (RV.p PV.nilp) r_3.fst 0).toCs 6).toInt]]
                                                            [])
                                                          fun (r : Res) =>
                                                          ctl
                                                            (okR [RSh.one Sh.bool] r.fst &&
                                                              okB [] r.snd)
                                                            (Option.some (nth (RV.p PV.nilp) r.fst 0).toPV.toBool) Option.none)
                                                        (Option.some Bool.false))
                                                      fun (v : Bool) =>
                                                      bnd
                                                        (ctl v
                                                          (bnd
                                                            (F 18
                                                              [AV.agg
                                                                  [PV.sl 2
                                                                      (nth PV.nilp
                                                                          (nth (RV.p PV.nilp) r_3.fst 0).toCs 0).toEs,
                                                                    PV.int IntKind.i64
                                                                      (nth PV.nilp
                                                                          (nth (RV.p PV.nilp) r_3.fst 0).toCs 1).toInt,
                                                                    PV.int IntKind.i64
                                                                      (nth PV.nilp
                                                                          (nth (RV.p PV.nilp) r_3.fst 0).toCs 2).toInt,
                                                                    PV.int IntKind.i64
                                                                      (nth PV.nilp
                                                                          (nth (RV.p PV.nilp) r_3.fst 0).toCs 3).toInt,
                                                                    PV.int IntKind.i64
                                                                      (nth PV.nilp
                                                                          (nth (RV.p PV.nilp) r_3.fst 0).toCs 4).toInt,
                                                                    PV.int IntKind.i64
                                                                      (nth PV.nilp
                                                                          (nth (RV.p PV.nilp) r_3.fst 0).toCs 5).toInt,
                                                                    PV.int IntKind.i64
                                                                      (nth PV.nilp
                                                                          (nth (RV.p PV.nilp) r_3.fst 0).toCs 6).toInt],
                                                                AV.agg
                                                                  [PV.sl 2
                                                                      (nth PV.nilp
                                                                          (nth (RV.p PV.nilp) r_4.fst 0).toCs 0).toEs,
                                                                    PV.int IntKind.i64
                                                                      (nth PV.nilp
                                                                          (nth (RV.p PV.nilp) r_4.fst 0).toCs 1).toInt,
                                                                    PV.int IntKind.i64
                                                                      (nth PV.nilp
                                                                          (nth (RV.p PV.nilp) r_4.fst 0).toCs 2).toInt,
                                                                    PV.int IntKind.i64
                                                                      (nth PV.nilp
                                                                          (nth (RV.p PV.nilp) r_4.fst 0).toCs 3).toInt,
                                                                    PV.int IntKind.i64
                                                                      (nth PV.nilp
                                                                          (nth (RV.p PV.nilp) r_4.fst 0).toCs 4).toInt,
                                                                    PV.int IntKind.i64
                                                                      (nth PV.nilp
                                                                          (nth (RV.p PV.nilp) r_4.fst 0).toCs 5).toInt,
                                                                    PV.int IntKind.i64
                                                                      (nth PV.nilp
                                                                          (nth (RV.p PV.nilp) r_4.fst 0).toCs 6).toInt]]
                                                              [])
                                                            fun (r : Res) =>
                                                            ctl
                                                              (okR [RSh.one Sh.bool] r.fst &&
                                                                okB [] r.snd)
                                                              (Option.some (nth (RV.p PV.nilp) r.fst 0).toPV.toBool) Option.none)
                                                          (Option.some Bool.false))
                                                        fun (v : Bool) =>
                                                        bnd
                                                          (ctl v
                                                            (bnd (F 11 [] []) fun (r : Res) =>
                                                              ctl
                                                                (okR [RSh.one Sh.bool] r.fst &&
                                                                  okB [] r.snd)
                                                                (Option.some (nth (RV.p PV.nilp) r.fst 0).toPV.toBool)
                                                                Option.none)
                                                            (Option.some Bool.false))
                                                          fun (v : Bool) => Option.some ([RV.p (PV.bool v)], []))
                                                Option.none)
                                            Option.none)
                                        Option.none)
                                    Option.none)
                                  Option.none)
                              Option.none)
                            Option.none)
                          (ctl (p.fst.eqb Ex.ret)
                            (ctl (okPack { slots := [(2, Sum.inl Sh.bool)], blks := [] } p.snd)
                              (Option.some
                                ([RV.p (PV.bool (nth AV.undef p.snd.vals 0).toPV.toBool)], []))
                              Option.none)
                            Option.none)))
                  Option.none)
              Option.none)
          Option.none)
      Option.none := by kernel_rfl

end Go.Proofs.Ytcnjaffogkkpnaa.Vm
