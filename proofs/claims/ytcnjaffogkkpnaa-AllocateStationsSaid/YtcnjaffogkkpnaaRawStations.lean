/- The raw theorems, by program: what each function and each loop comes to. -/
import Derived.Test.YtcnjaffogkkpnaaEnv
import Derived.Test.YtcnjaffogkkpnaaVm34
import Derived.KernelRfl
namespace Go.Proofs.Ytcnjaffogkkpnaa.Vm
open Go
set_option maxRecDepth 100000
set_option linter.unusedVariables false

/-- dynpos/dynposlaw14.AllocateStations, the loop of block 0 -/
theorem r6_0 (F : Fun) (m5 : List (List PV)) (x91 : Int) (x92 : Int) (b0_0 : List (List PV)) (b0_1 : Int) (b1_0 : Int) (b1_1 : Int) (b1_2 : List (List PV)) (b2_0 : Int) (b2_1 : Int) (b2_2 : Int) (c3 : List (List PV)) : lp E F 6 0 [] 0
  { vals := [AV.sl 1 m5, AV.int IntKind.i64 x91, AV.int IntKind.i64 x92],
    blks :=
      [Blk.box [AV.sl 1 b0_0, AV.int IntKind.i64 b0_1],
        Blk.box [AV.int IntKind.i64 b1_0, AV.int IntKind.i64 b1_1, AV.sl 6 b1_2],
        Blk.box
          [AV.int IntKind.i64 b2_0, AV.int IntKind.i64 b2_1, AV.int IntKind.i64 b2_2],
        Blk.arr 1 c3] } =
  ctl (ltB x92 x91)
    (ctl (leB 0 x92 && ltB x92 (↑c3.length : Int))
      (ctl (okCs [Sh.int IntKind.i64] (List.take 1 (List.drop 0 (nth [] c3 x92.toNat))))
        (bnd
          (F 12 [AV.t (TV.ptr 0 0), AV.int IntKind.i64 10]
            [Blk.box [AV.sl 1 b0_0, AV.int IntKind.i64 b0_1]])
          fun (r : Res) =>
          ctl
            (okR [RSh.one (Sh.int IntKind.i64)] r.fst &&
              okB [Sum.inl [Sh.sl 1, Sh.int IntKind.i64]] r.snd)
            (ctl (leB 0 x92 && ltB x92 (↑c3.length : Int))
              (lp E F 6 0 [] 0
                { vals := [AV.sl 1 m5, AV.int IntKind.i64 x91, AV.int IntKind.i64 (IntKind.i64.wrap (x92 + 1))],
                  blks :=
                    [Blk.box
                        [AV.sl 1
                            (nth PV.nilp
                                (List.map AV.toPV (nth (Blk.box []) r.snd 0).toCs) 0).toEs,
                          AV.int IntKind.i64
                            (nth PV.nilp
                                (List.map AV.toPV (nth (Blk.box []) r.snd 0).toCs) 1).toInt],
                      Blk.box
                        [AV.int IntKind.i64 b1_0, AV.int IntKind.i64 b1_1, AV.sl 6 b1_2],
                      Blk.box
                        [AV.int IntKind.i64 b2_0, AV.int IntKind.i64 b2_1, AV.int IntKind.i64 b2_2],
                      Blk.arr 1
                        (setEs c3 x92.toNat 0
                          [PV.int IntKind.i64
                              (minI 5000
                                (IntKind.i64.wrap
                                  ((nth PV.nilp (nth [] c3 x92.toNat) 0).toInt +
                                    (nth (RV.p PV.nilp) r.fst 0).toPV.toInt)))])] })
              Option.none)
            Option.none)
        Option.none)
      Option.none)
    (Option.some
      (Ex.exit 0,
        { vals := [AV.sl 1 m5],
          blks :=
            [Blk.box [AV.int IntKind.i64 b1_0, AV.int IntKind.i64 b1_1, AV.sl 6 b1_2],
              Blk.box
                [AV.int IntKind.i64 b2_0, AV.int IntKind.i64 b2_1, AV.int IntKind.i64 b2_2],
              Blk.arr 1 c3] })) := (lp_unfold ..).trans (by kernel_rfl)

/-- dynpos/dynposlaw14.AllocateStations -/
theorem r6 (F : Fun) (t : List (List PV)) : funK E F 6 [AV.sl 1 t] [] =
  bnd (F 8 [AV.sl 1 t] []) fun (r : Res) =>
    ctl
      (okR [RSh.ownp [Sh.sl 1, Sh.int IntKind.i64]] r.fst &&
        okB [] r.snd)
      (bnd
        (F 9 [AV.t (TV.ptr 0 0)]
          [Blk.box
              [AV.sl 1
                  (nth PV.nilp (nth (RV.p PV.nilp) r.fst 0).toCs
                      0).toEs,
                AV.int IntKind.i64
                  (nth PV.nilp (nth (RV.p PV.nilp) r.fst 0).toCs
                      1).toInt]])
        fun (r : Res) =>
        ctl
          (okR
              [RSh.agg [Sh.int IntKind.i64, Sh.int IntKind.i64, Sh.sl 6],
                RSh.one (Sh.sl 1), RSh.one (Sh.sl 2),
                RSh.agg [Sh.int IntKind.i64, Sh.int IntKind.i64, Sh.int IntKind.i64]]
              r.fst &&
            okB [Sum.inl [Sh.sl 1, Sh.int IntKind.i64]] r.snd)
          (bnd
            (F 13 [AV.t (TV.ptr 0 0), AV.int IntKind.i64 (-40), AV.int IntKind.i64 40]
              [Blk.box
                  [AV.sl 1
                      (nth PV.nilp
                          (List.map AV.toPV (nth (Blk.box []) r.snd 0).toCs) 0).toEs,
                    AV.int IntKind.i64
                      (nth PV.nilp
                          (List.map AV.toPV (nth (Blk.box []) r.snd 0).toCs) 1).toInt]])
            fun (r_1 : Res) =>
            ctl
              (okR [RSh.one (Sh.int IntKind.i64)] r_1.fst &&
                okB [Sum.inl [Sh.sl 1, Sh.int IntKind.i64]] r_1.snd)
              (bnd
                (F 13 [AV.t (TV.ptr 0 0), AV.int IntKind.i64 (-80), AV.int IntKind.i64 80]
                  [Blk.box
                      [AV.sl 1
                          (nth PV.nilp
                              (List.map AV.toPV (nth (Blk.box []) r_1.snd 0).toCs) 0).toEs,
                        AV.int IntKind.i64
                          (nth PV.nilp
                              (List.map AV.toPV (nth (Blk.box []) r_1.snd 0).toCs) 1).toInt]])
                fun (r_2 : Res) =>
                ctl
                  (okR [RSh.one (Sh.int IntKind.i64)] r_2.fst &&
                    okB [Sum.inl [Sh.sl 1, Sh.int IntKind.i64]] r_2.snd)
                  (bnd
                    (F 13
                      [AV.t (TV.ptr 0 0), AV.int IntKind.i64 (-4000),
                        AV.int IntKind.i64 4000]
                      [Blk.box
                          [AV.sl 1
                              (nth PV.nilp
                                  (List.map AV.toPV (nth (Blk.box []) r_2.snd 0).toCs) 0).toEs,
                            AV.int IntKind.i64
                              (nth PV.nilp
                                  (List.map AV.toPV (nth (Blk.box []) r_2.snd 0).toCs) 1).toInt]])
                    fun (r_3 : Res) =>
                    ctl
                      (okR [RSh.one (Sh.int IntKind.i64)] r_3.fst &&
                        okB [Sum.inl [Sh.sl 1, Sh.int IntKind.i64]] r_3.snd)
                      (bnd
                        (F 19
                          [AV.agg
                              [PV.int IntKind.i64
                                  (nth PV.nilp
                                      (nth (RV.p PV.nilp) r.fst 0).toCs 0).toInt,
                                PV.int IntKind.i64
                                  (nth PV.nilp
                                      (nth (RV.p PV.nilp) r.fst 0).toCs 1).toInt,
                                PV.sl 6
                                  (nth PV.nilp
                                      (nth (RV.p PV.nilp) r.fst 0).toCs 2).toEs],
                            AV.agg
                              [PV.int IntKind.i64 (nth (RV.p PV.nilp) r_1.fst 0).toPV.toInt,
                                PV.int IntKind.i64 (nth (RV.p PV.nilp) r_2.fst 0).toPV.toInt,
                                PV.int IntKind.i64 (nth (RV.p PV.nilp) r_3.fst 0).toPV.toInt]]
                          [])
                        fun (r_4 : Res) =>
                        ctl
                          (okR
                              [RSh.agg
                                  [Sh.int IntKind.i64, Sh.int IntKind.i64, Sh.int IntKind.i64],
                                RSh.one (Sh.int IntKind.i64)]
                              r_4.fst &&
                            okB [] r_4.snd)
                          (bnd
                            (ctl (!(nth (RV.p PV.nilp) r_4.fst 1).toPV.toInt != 0)
                              (Option.some
                                (IntKind.i64.wrap
                                    ((nth PV.nilp
                                          (nth (RV.p PV.nilp) r_4.fst 0).toCs 1).toInt +
                                      (nth PV.nilp
                                          (nth (RV.p PV.nilp) r_4.fst 0).toCs 2).toInt) !=
                                  (nth (RV.p PV.nilp) r_2.fst 0).toPV.toInt))
                              (Option.some Bool.true))
                            fun (v : Bool) =>
                            bnd
                              (ctl (!v)
                                (Option.some
                                  ((nth PV.nilp
                                        (nth (RV.p PV.nilp) r_4.fst 0).toCs 0).toInt !=
                                    (nth (RV.p PV.nilp) r_1.fst 0).toPV.toInt))
                                (Option.some Bool.true))
                              fun (v : Bool) =>
                              ctl v (Option.some ([RV.p (PV.bool Bool.false)], []))
                                (bnd
                                  (ctl
                                    (!ltB
                                        (IntKind.i64.wrap
                                          ((nth PV.nilp
                                                (nth (RV.p PV.nilp) r.fst 0).toCs 0).toInt +
                                            (nth PV.nilp
                                                (nth (RV.p PV.nilp) r.fst 0).toCs 1).toInt))
                                        (IntKind.i64.wrap
                                          (2 *
                                            IntKind.i64.wrap
                                              (IntKind.i64.wrap
                                                  (IntKind.i64.wrap
                                                      ((nth PV.nilp
                                                            (nth (RV.p PV.nilp) r_4.fst 0).toCs 1).toInt *
                                                        (nth PV.nilp
                                                            (nth (RV.p PV.nilp) r.fst 0).toCs 0).toInt) -
                                                    IntKind.i64.wrap
                                                      ((nth PV.nilp
                                                            (nth (RV.p PV.nilp) r_4.fst 0).toCs 2).toInt *
                                                        (nth PV.nilp
                                                            (nth (RV.p PV.nilp) r.fst 0).toCs 1).toInt)) -
                                                (nth (RV.p PV.nilp) r_3.fst 0).toPV.toInt))))
                                    (Option.some
                                      (ltB
                                        (IntKind.i64.wrap
                                          ((nth PV.nilp
                                                (nth (RV.p PV.nilp) r.fst 0).toCs 0).toInt +
                                            (nth PV.nilp
                                                (nth (RV.p PV.nilp) r.fst 0).toCs 1).toInt))
                                        (IntKind.i64.wrap
                                          (0 -
                                            IntKind.i64.wrap
                                              (2 *
                                                IntKind.i64.wrap
                                                  (IntKind.i64.wrap
                                                      (IntKind.i64.wrap
                                                          ((nth PV.nilp
                                                                (nth (RV.p PV.nilp) r_4.fst 0).toCs 1).toInt *
                                                            (nth PV.nilp
                                                                (nth (RV.p PV.nilp) r.fst 0).toCs 0).toInt) -
                                                        IntKind.i64.wrap
                                                          ((nth PV.nilp
                                                                (nth (RV.p PV.nilp) r_4.fst 0).toCs 2).toInt *
                                                            (nth PV.nilp
                                                                (nth (RV.p PV.nilp) r.fst 0).toCs 1).toInt)) -
                                                    (nth (RV.p PV.nilp) r_3.fst 0).toPV.toInt))))))
                                    (Option.some Bool.true))
                                  fun (v : Bool) =>
                                  ctl v (Option.some ([RV.p (PV.bool Bool.false)], []))
                                    (ctl
                                      (leN ((nth (RV.p PV.nilp) r.fst 1).toPV.toEs.length * 8)
                                        140737488355328)
                                      (bnd
                                        (lp E F 6 0 [] 0
                                          {
                                            vals :=
                                              [AV.sl 1 (nth (RV.p PV.nilp) r.fst 1).toPV.toEs,
                                                AV.int IntKind.i64
                                                  (↑(nth (RV.p PV.nilp) r.fst 1).toPV.toEs.length : Int),
                                                AV.int IntKind.i64 0],
                                            blks :=
                                              [Blk.box
                                                  [AV.sl 1
                                                      (nth PV.nilp
                                                          (List.map AV.toPV (nth (Blk.box []) r_3.snd 0).toCs) 0).toEs,
                                                    AV.int IntKind.i64
                                                      (nth PV.nilp
                                                          (List.map AV.toPV (nth (Blk.box []) r_3.snd 0).toCs) 1).toInt],
                                                Blk.box
                                                  [AV.int IntKind.i64
                                                      (nth PV.nilp
                                                          (nth (RV.p PV.nilp) r.fst 0).toCs 0).toInt,
                                                    AV.int IntKind.i64
                                                      (nth PV.nilp
                                                          (nth (RV.p PV.nilp) r.fst 0).toCs 1).toInt,
                                                    AV.sl 6
                                                      (nth PV.nilp
                                                          (nth (RV.p PV.nilp) r.fst 0).toCs 2).toEs],
                                                Blk.box
                                                  [AV.int IntKind.i64 0,
                                                    AV.int IntKind.i64
                                                      (nth PV.nilp
                                                          (nth (RV.p PV.nilp) r_4.fst 0).toCs 1).toInt,
                                                    AV.int IntKind.i64
                                                      (nth PV.nilp
                                                          (nth (RV.p PV.nilp) r_4.fst 0).toCs 2).toInt],
                                                Blk.arr 1
                                                  (nth (RV.p PV.nilp) r.fst 1).toPV.toEs] })
                                        fun (p : Ex × Pack) =>
                                        ctl (p.fst.eqb (Ex.exit 0))
                                          (ctl
                                            (okPack
                                              {
                                                slots :=
                                                  [(4, Sum.inr (Sum.inr (AV.t (TV.ptr 0 0)))), (5, Sum.inl (Sh.sl 1)),
                                                    (9, Sum.inr (Sum.inr (AV.t (TV.ptr 1 0)))),
                                                    (12, Sum.inr (Sum.inr (AV.t (TV.hsl 2))))],
                                                blks :=
                                                  [Sum.inl
                                                      [Sum.inl (Sh.int IntKind.i64), Sum.inl (Sh.int IntKind.i64),
                                                        Sum.inl (Sh.sl 6)],
                                                    Sum.inl
                                                      [Sum.inl (Sh.int IntKind.i64), Sum.inl (Sh.int IntKind.i64),
                                                        Sum.inl (Sh.int IntKind.i64)],
                                                    Sum.inr 1] }
                                              p.snd)
                                            (bnd
                                              (F 20
                                                [AV.agg
                                                    [PV.int IntKind.i64
                                                        (nth AV.undef
                                                              (nth (Blk.box []) p.snd.blks 0).toCs 0).toPV.toInt,
                                                      PV.int IntKind.i64
                                                        (nth AV.undef
                                                              (nth (Blk.box []) p.snd.blks 0).toCs 1).toPV.toInt,
                                                      PV.sl 6
                                                        (nth AV.undef
                                                              (nth (Blk.box []) p.snd.blks 0).toCs 2).toPV.toEs],
                                                  AV.sl 1 (nth AV.undef p.snd.vals 0).toPV.toEs,
                                                  AV.agg
                                                    [PV.int IntKind.i64
                                                        (nth AV.undef
                                                              (nth (Blk.box []) p.snd.blks 1).toCs 0).toPV.toInt,
                                                      PV.int IntKind.i64
                                                        (nth AV.undef
                                                              (nth (Blk.box []) p.snd.blks 1).toCs 1).toPV.toInt,
                                                      PV.int IntKind.i64
                                                        (nth AV.undef
                                                              (nth (Blk.box []) p.snd.blks 1).toCs 2).toPV.toInt]]
                                                [])
                                              fun (r : Res) =>
                                              ctl
                                                (okR [RSh.one Sh.bool] r.fst && okB [] r.snd)
                                                (bnd
                                                  (ctl
                                                    (!!(nth (RV.p PV.nilp) r.fst 0).toPV.toBool)
                                                    (bnd
                                                      (F 20
                                                        [AV.agg
                                                            [PV.int IntKind.i64
                                                                (nth AV.undef
                                                                      (nth (Blk.box []) p.snd.blks 0).toCs 0).toPV.toInt,
                                                              PV.int IntKind.i64
                                                                (nth AV.undef
                                                                      (nth (Blk.box []) p.snd.blks 0).toCs 1).toPV.toInt,
                                                              PV.sl 6
                                                                (nth AV.undef
                                                                      (nth (Blk.box []) p.snd.blks 0).toCs 2).toPV.toEs],
                                                          AV.sl 1 (nth (Blk.box []) p.snd.blks 2).toEs,
                                                          AV.agg
                                                            [PV.int IntKind.i64
                                                                (nth AV.undef
                                                                      (nth (Blk.box []) p.snd.blks 1).toCs 0).toPV.toInt,
                                                              PV.int IntKind.i64
                                                                (nth AV.undef
                                                                      (nth (Blk.box []) p.snd.blks 1).toCs 1).toPV.toInt,
                                                              PV.int IntKind.i64
                                                                (nth AV.undef
                                                                      (nth (Blk.box []) p.snd.blks 1).toCs 2).toPV.toInt]]
                                                        [])
                                                      fun (r : Res) =>
                                                      ctl
                                                        (okR [RSh.one Sh.bool] r.fst &&
                                                            okB [] r.snd &&
                                                          (noslR r.fst && noslB r.snd))
                                                        (Option.some (nth (RV.p PV.nilp) r.fst 0).toPV.toBool) Option.none)
                                                    (Option.some Bool.true))
                                                  fun (v : Bool) =>
                                                  bnd
                                                    (ctl v
                                                      (bnd (F 11 [] []) fun (r : Res) =>
                                                        ctl
                                                          (okR [RSh.one Sh.bool] r.fst &&
                                                            okB [] r.snd)
                                                          (Option.some (nth (RV.p PV.nilp) r.fst 0).toPV.toBool) Option.none)
                                                      (Option.some Bool.false))
                                                    fun (v : Bool) => Option.some ([RV.p (PV.bool v)], []))
                                                Option.none)
                                            Option.none)
                                          Option.none)
                                      Option.none)))
                          Option.none)
                      Option.none)
                  Option.none)
              Option.none)
          Option.none)
      Option.none := by kernel_rfl

end Go.Proofs.Ytcnjaffogkkpnaa.Vm
