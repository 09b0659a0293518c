/- The raw theorems, by program: what each function and each loop comes to. -/
import Derived.Test.YtcnjaffogkkpnaaEnv
import Derived.Test.YtcnjaffogkkpnaaVm34
import Derived.KernelRfl
namespace Go.Proofs.Ytcnjaffogkkpnaa.Vm
open Go
set_option maxRecDepth 100000
set_option linter.unusedVariables false

/-- dynpos/dynposlaw14.AllocateMonotone, the loop of block 0 -/
theorem r4_0 (F : Fun) (x103 : List (List PV)) (x104 : Int) (x105 : Int) (b0_0 : List (List PV)) (b0_1 : Int) (b0_2 : Int) (b0_3 : Int) (b0_4 : Int) (b0_5 : Int) (b0_6 : Int) (b1_0 : List (List PV)) (b1_1 : Int) (b1_2 : Int) (b1_3 : Int) (b1_4 : Int) (b1_5 : Int) (b1_6 : Int) (b2_0 : List (List PV)) (b2_1 : Int) (b2_2 : Int) (b2_3 : Int) (b2_4 : Int) (b2_5 : Int) (b2_6 : Int) : lp E F 4 0 [] 0
  { vals := [AV.sl 6 x103, AV.int IntKind.i64 x104, AV.int IntKind.i64 x105],
    blks :=
      [Blk.box
          [AV.sl 2 b0_0, AV.int IntKind.i64 b0_1, AV.int IntKind.i64 b0_2,
            AV.int IntKind.i64 b0_3, AV.int IntKind.i64 b0_4, AV.int IntKind.i64 b0_5,
            AV.int IntKind.i64 b0_6],
        Blk.box
          [AV.sl 2 b1_0, AV.int IntKind.i64 b1_1, AV.int IntKind.i64 b1_2,
            AV.int IntKind.i64 b1_3, AV.int IntKind.i64 b1_4, AV.int IntKind.i64 b1_5,
            AV.int IntKind.i64 b1_6],
        Blk.box
          [AV.sl 2 b2_0, AV.int IntKind.i64 b2_1, AV.int IntKind.i64 b2_2,
            AV.int IntKind.i64 b2_3, AV.int IntKind.i64 b2_4, AV.int IntKind.i64 b2_5,
            AV.int IntKind.i64 b2_6]] } =
  ctl (ltB x105 x104)
    (getE x103 x105 fun (c : List PV) =>
      ctl
        (okCs
          [Sh.int IntKind.i64, Sh.int IntKind.i64, Sh.int IntKind.i64,
            Sh.int IntKind.i64, Sh.int IntKind.i64, Sh.sl 2]
          c)
        (getE b1_0 x105 fun (c_1 : List PV) =>
          ctl (okCs [Sh.int IntKind.i64, Sh.int IntKind.i64] c_1)
            (getE b0_0 x105 fun (c_2 : List PV) =>
              ctl (okCs [Sh.int IntKind.i64, Sh.int IntKind.i64] c_2)
                (bnd
                  (ctl
                    (!ltB (nth PV.nilp c_1 1).toInt
                        (nth PV.nilp c_2 1).toInt)
                    (ctl ((nth PV.nilp c 1).toInt == 0)
                      (getE b2_0 x105 fun (c : List PV) =>
                        ctl (okCs [Sh.int IntKind.i64, Sh.int IntKind.i64] c)
                          (getE b0_0 x105 fun (c_3 : List PV) =>
                            ctl (okCs [Sh.int IntKind.i64, Sh.int IntKind.i64] c_3)
                              (Option.some ((nth PV.nilp c 1).toInt != (nth PV.nilp c_3 1).toInt))
                              Option.none)
                          Option.none)
                      (Option.some Bool.false))
                    (Option.some Bool.true))
                  fun (v : Bool) =>
                  ctl v (Option.some (Ex.ret, { vals := [AV.bool Bool.false], blks := [] }))
                    (lp E F 4 0 [] 0
                      {
                        vals :=
                          [AV.sl 6 x103, AV.int IntKind.i64 x104, AV.int IntKind.i64 (IntKind.i64.wrap (x105 + 1))],
                        blks :=
                          [Blk.box
                              [AV.sl 2 b0_0, AV.int IntKind.i64 b0_1, AV.int IntKind.i64 b0_2,
                                AV.int IntKind.i64 b0_3, AV.int IntKind.i64 b0_4, AV.int IntKind.i64 b0_5,
                                AV.int IntKind.i64 b0_6],
                            Blk.box
                              [AV.sl 2 b1_0, AV.int IntKind.i64 b1_1, AV.int IntKind.i64 b1_2,
                                AV.int IntKind.i64 b1_3, AV.int IntKind.i64 b1_4, AV.int IntKind.i64 b1_5,
                                AV.int IntKind.i64 b1_6],
                            Blk.box
                              [AV.sl 2 b2_0, AV.int IntKind.i64 b2_1, AV.int IntKind.i64 b2_2,
                                AV.int IntKind.i64 b2_3, AV.int IntKind.i64 b2_4, AV.int IntKind.i64 b2_5,
                                AV.int IntKind.i64 b2_6]] }))
                Option.none)
            Option.none)
        Option.none)
    (Option.some (Ex.exit 0, { vals := [], blks := [] })) := (lp_unfold ..).trans (by kernel_rfl)

/-- dynpos/dynposlaw14.AllocateMonotone -/
theorem r4 (F : Fun) (t : List (List PV)) : funK E F 4 [AV.sl 1 t] [] =
  bnd (F 8 [AV.sl 1 t] []) fun (r : Res) =>
    ctl
      (okR [RSh.ownp [Sh.sl 1, Sh.int IntKind.i64]] r.fst &&
        okB [] r.snd)
      (bnd
        (F 9 [AV.t (TV.ptr 0 0)]
          [Blk.box
              [AV.sl 1
                  (nth PV.nilp (nth (RV.p PV.nilp) r.fst 0).toCs
                      0).toEs,
                AV.int IntKind.i64
                  (nth PV.nilp (nth (RV.p PV.nilp) r.fst 0).toCs
                      1).toInt]])
        fun (r : Res) =>
        ctl
          (okR
              [RSh.agg [Sh.int IntKind.i64, Sh.int IntKind.i64, Sh.sl 6],
                RSh.one (Sh.sl 1), RSh.one (Sh.sl 2),
                RSh.agg [Sh.int IntKind.i64, Sh.int IntKind.i64, Sh.int IntKind.i64]]
              r.fst &&
            okB [Sum.inl [Sh.sl 1, Sh.int IntKind.i64]] r.snd)
          (bnd
            (F 12 [AV.t (TV.ptr 0 0), AV.int IntKind.i64 9]
              [Blk.box
                  [AV.sl 1
                      (nth PV.nilp
                          (List.map AV.toPV (nth (Blk.box []) r.snd 0).toCs) 0).toEs,
                    AV.int IntKind.i64
                      (nth PV.nilp
                          (List.map AV.toPV (nth (Blk.box []) r.snd 0).toCs) 1).toInt]])
            fun (r_1 : Res) =>
            ctl
              (okR [RSh.one (Sh.int IntKind.i64)] r_1.fst &&
                okB [Sum.inl [Sh.sl 1, Sh.int IntKind.i64]] r_1.snd)
              (bnd
                (F 13 [AV.t (TV.ptr 0 0), AV.int IntKind.i64 (-9), AV.int IntKind.i64 9]
                  [Blk.box
                      [AV.sl 1
                          (nth PV.nilp
                              (List.map AV.toPV (nth (Blk.box []) r_1.snd 0).toCs) 0).toEs,
                        AV.int IntKind.i64
                          (nth PV.nilp
                              (List.map AV.toPV (nth (Blk.box []) r_1.snd 0).toCs) 1).toInt]])
                fun (r_2 : Res) =>
                ctl
                  (okR [RSh.one (Sh.int IntKind.i64)] r_2.fst &&
                    okB [Sum.inl [Sh.sl 1, Sh.int IntKind.i64]] r_2.snd)
                  (bnd
                    (F 10
                      [AV.agg
                          [PV.int IntKind.i64
                              (nth PV.nilp
                                  (nth (RV.p PV.nilp) r.fst 0).toCs 0).toInt,
                            PV.int IntKind.i64
                              (nth PV.nilp
                                  (nth (RV.p PV.nilp) r.fst 0).toCs 1).toInt,
                            PV.sl 6
                              (nth PV.nilp
                                  (nth (RV.p PV.nilp) r.fst 0).toCs 2).toEs],
                        AV.sl 1 (nth (RV.p PV.nilp) r.fst 1).toPV.toEs,
                        AV.sl 2 (nth (RV.p PV.nilp) r.fst 2).toPV.toEs,
                        AV.agg
                          [PV.int IntKind.i64
                              (nth PV.nilp
                                  (nth (RV.p PV.nilp) r.fst 3).toCs 0).toInt,
                            PV.int IntKind.i64
                              (nth PV.nilp
                                  (nth (RV.p PV.nilp) r.fst 3).toCs 1).toInt,
                            PV.int IntKind.i64
                              (nth PV.nilp
                                  (nth (RV.p PV.nilp) r.fst 3).toCs 2).toInt]]
                      [])
                    fun (r_3 : Res) =>
                    ctl
                      (okR
                          [RSh.agg
                              [Sh.sl 2, Sh.int IntKind.i64, Sh.int IntKind.i64,
                                Sh.int IntKind.i64, Sh.int IntKind.i64, Sh.int IntKind.i64,
                                Sh.int IntKind.i64],
                            RSh.one (Sh.int IntKind.i64)]
                          r_3.fst &&
                        okB [] r_3.snd)
                      (bnd
                        (F 10
                          [AV.agg
                              [PV.int IntKind.i64
                                  (nth PV.nilp
                                      (nth (RV.p PV.nilp) r.fst 0).toCs 0).toInt,
                                PV.int IntKind.i64
                                  (nth PV.nilp
                                      (nth (RV.p PV.nilp) r.fst 0).toCs 1).toInt,
                                PV.sl 6
                                  (nth PV.nilp
                                      (nth (RV.p PV.nilp) r.fst 0).toCs 2).toEs],
                            AV.sl 1 (nth (RV.p PV.nilp) r.fst 1).toPV.toEs,
                            AV.sl 2 (nth (RV.p PV.nilp) r.fst 2).toPV.toEs,
                            AV.agg
                              [PV.int IntKind.i64
                                  (nth PV.nilp
                                      (nth (RV.p PV.nilp) r.fst 3).toCs 0).toInt,
                                PV.int IntKind.i64
                                  (IntKind.i64.wrap
                                    ((nth PV.nilp
                                          (nth (RV.p PV.nilp) r.fst 3).toCs 1).toInt +
                                      (nth (RV.p PV.nilp) r_1.fst 0).toPV.toInt)),
                                PV.int IntKind.i64
                                  (nth PV.nilp
                                      (nth (RV.p PV.nilp) r.fst 3).toCs 2).toInt]]
                          [])
                        fun (r_4 : Res) =>
                        ctl
                          (okR
                              [RSh.agg
                                  [Sh.sl 2, Sh.int IntKind.i64, Sh.int IntKind.i64,
                                    Sh.int IntKind.i64, Sh.int IntKind.i64, Sh.int IntKind.i64,
                                    Sh.int IntKind.i64],
                                RSh.one (Sh.int IntKind.i64)]
                              r_4.fst &&
                            okB [] r_4.snd)
                          (bnd
                            (F 10
                              [AV.agg
                                  [PV.int IntKind.i64
                                      (nth PV.nilp
                                          (nth (RV.p PV.nilp) r.fst 0).toCs 0).toInt,
                                    PV.int IntKind.i64
                                      (nth PV.nilp
                                          (nth (RV.p PV.nilp) r.fst 0).toCs 1).toInt,
                                    PV.sl 6
                                      (nth PV.nilp
                                          (nth (RV.p PV.nilp) r.fst 0).toCs 2).toEs],
                                AV.sl 1 (nth (RV.p PV.nilp) r.fst 1).toPV.toEs,
                                AV.sl 2 (nth (RV.p PV.nilp) r.fst 2).toPV.toEs,
                                AV.agg
                                  [PV.int IntKind.i64
                                      (nth PV.nilp
                                          (nth (RV.p PV.nilp) r.fst 3).toCs 0).toInt,
                                    PV.int IntKind.i64
                                      (nth PV.nilp
                                          (nth (RV.p PV.nilp) r.fst 3).toCs 1).toInt,
                                    PV.int IntKind.i64
                                      (IntKind.i64.wrap
                                        ((nth PV.nilp
                                              (nth (RV.p PV.nilp) r.fst 3).toCs 2).toInt +
                                          (nth (RV.p PV.nilp) r_2.fst 0).toPV.toInt))]]
                              [])
                            fun (r_5 : Res) =>
                            ctl
                              (okR
                                  [RSh.agg
                                      [Sh.sl 2, Sh.int IntKind.i64, Sh.int IntKind.i64,
                                        Sh.int IntKind.i64, Sh.int IntKind.i64, Sh.int IntKind.i64,
                                        Sh.int IntKind.i64],
                                    RSh.one (Sh.int IntKind.i64)]
                                  r_5.fst &&
                                okB [] r_5.snd)
                              (bnd
                                (ctl (!(nth (RV.p PV.nilp) r_3.fst 1).toPV.toInt != 0)
                                  (Option.some ((nth (RV.p PV.nilp) r_4.fst 1).toPV.toInt != 0)) (Option.some Bool.true))
                                fun (v : Bool) =>
                                bnd
                                  (ctl (!v)
                                    (Option.some ((nth (RV.p PV.nilp) r_5.fst 1).toPV.toInt != 0)) (Option.some Bool.true))
                                  fun (v : Bool) =>
                                  bnd
                                    (ctl (!v)
                                      (Option.some
                                        ((↑(nth PV.nilp
                                                    (nth (RV.p PV.nilp) r_3.fst 0).toCs 0).toEs.length :
                                            Int) !=
                                          (↑(nth PV.nilp
                                                    (nth (RV.p PV.nilp) r.fst 0).toCs 2).toEs.length :
                                            Int)))
                                      (Option.some Bool.true))
                                    fun (v : Bool) =>
                                    bnd
                                      (ctl (!v)
                                        (Option.some
                                          ((↑(nth PV.nilp
                                                      (nth (RV.p PV.nilp) r_4.fst 0).toCs 0).toEs.length :
                                              Int) !=
                                            (↑(nth PV.nilp
                                                      (nth (RV.p PV.nilp) r_3.fst 0).toCs 0).toEs.length :
                                              Int)))
                                        (Option.some Bool.true))
                                      fun (v : Bool) =>
                                      bnd
                                        (ctl (!v)
                                          (Option.some
                                            ((↑(nth PV.nilp
                                                        (nth (RV.p PV.nilp) r_5.fst 0).toCs 0).toEs.length :
                                                Int) !=
                                              (↑(nth PV.nilp
                                                        (nth (RV.p PV.nilp) r_3.fst 0).toCs 0).toEs.length :
                                                Int)))
                                          (Option.some Bool.true))
                                        fun (v : Bool) =>
                                        ctl v (Option.some ([RV.p (PV.bool Bool.false)], []))
                                          (bnd
                                            (lp E F 4 0 [] 0
                                              {
                                                vals :=
                                                  [AV.sl 6
                                                      (nth PV.nilp
                                                          (nth (RV.p PV.nilp) r.fst 0).toCs 2).toEs,
                                                    AV.int IntKind.i64
                                                      (↑(nth PV.nilp
                                                                (nth (RV.p PV.nilp) r.fst 0).toCs 2).toEs.length :
                                                        Int),
                                                    AV.int IntKind.i64 0],
                                                blks :=
                                                  [Blk.box
                                                      [AV.sl 2
                                                          (nth PV.nilp
                                                              (nth (RV.p PV.nilp) r_3.fst 0).toCs 0).toEs,
                                                        AV.int IntKind.i64
                                                          (nth PV.nilp
                                                              (nth (RV.p PV.nilp) r_3.fst 0).toCs 1).toInt,
                                                        AV.int IntKind.i64
                                                          (nth PV.nilp
                                                              (nth (RV.p PV.nilp) r_3.fst 0).toCs 2).toInt,
                                                        AV.int IntKind.i64
                                                          (nth PV.nilp
                                                              (nth (RV.p PV.nilp) r_3.fst 0).toCs 3).toInt,
                                                        AV.int IntKind.i64
                                                          (nth PV.nilp
                                                              (nth (RV.p PV.nilp) r_3.fst 0).toCs 4).toInt,
                                                        AV.int IntKind.i64
                                                          (nth PV.nilp
                                                              (nth (RV.p PV.nilp) r_3.fst 0).toCs 5).toInt,
                                                        AV.int IntKind.i64
                                                          (nth PV.nilp
                                                              (nth (RV.p PV.nilp) r_3.fst 0).toCs 6).toInt],
                                                    Blk.box
                                                      [AV.sl 2
                                                          (nth PV.nilp
                                                              (nth (RV.p PV.nilp) r_4.fst 0).toCs 0).toEs,
                                                        AV.int IntKind.i64
                                                          (nth PV.nilp
                                                              (nth (RV.p PV.nilp) r_4.fst 0).toCs 1).toInt,
                                                        AV.int IntKind.i64
                                                          (nth PV.nilp
                                                              (nth (RV.p PV.nilp) r_4.fst 0).toCs 2).toInt,
                                                        AV.int IntKind.i64
                                                          (nth PV.nilp
                                                              (nth (RV.p PV.nilp) r_4.fst 0).toCs 3).toInt,
                                                        AV.int IntKind.i64
                                                          (nth PV.nilp
                                                              (nth (RV.p PV.nilp) r_4.fst 0).toCs 4).toInt,
                                                        AV.int IntKind.i64
                                                          (nth PV.nilp
                                                              (nth (RV.p PV.nilp) r_4.fst 0).toCs 5).toInt,
                                                        AV.int IntKind.i64
                                                          (nth PV.nilp
                                                              (nth (RV.p PV.nilp) r_4.fst 0).toCs 6).toInt],
                                                    Blk.box
                                                      [AV.sl 2
                                                          (nth PV.nilp
                                                              (nth (RV.p PV.nilp) r_5.fst 0).toCs 0).toEs,
                                                        AV.int IntKind.i64
                                                          (nth PV.nilp
                                                              (nth (RV.p PV.nilp) r_5.fst 0).toCs 1).toInt,
                                                        AV.int IntKind.i64
                                                          (nth PV.nilp
                                                              (nth (RV.p PV.nilp) r_5.fst 0).toCs 2).toInt,
                                                        AV.int IntKind.i64
                                                          (nth PV.nilp
                                                              (nth (RV.p PV.nilp) r_5.fst 0).toCs 3).toInt,
                                                        AV.int IntKind.i64
                                                          (nth PV.nilp
                                                              (nth (RV.p PV.nilp) r_5.fst 0).toCs 4).toInt,
                                                        AV.int IntKind.i64
                                                          (nth PV.nilp
                                                              (nth (RV.p PV.nilp) r_5.fst 0).toCs 5).toInt,
                                                        AV.int IntKind.i64
                                                          (nth PV.nilp
                                                              (nth (RV.p PV.nilp) r_5.fst 0).toCs 6).toInt]] })
                                            fun (p : Ex × Pack) =>
                                            ctl (p.fst.eqb (Ex.exit 0))
                                              (bnd (F 11 [] []) fun (r : Res) =>
                                                ctl
                                                  (okR [RSh.one Sh.bool] r.fst && okB [] r.snd)
                                                  (Option.some
                                                    ([RV.p
                                                          (PV.bool
                                                            (nth (RV.p PV.nilp) r.fst 0).toPV.toBool)],
                                                      []))
                                                  Option.none)
                                              (ctl (p.fst.eqb Ex.ret)
                                                (ctl (okPack { slots := [(2, Sum.inl Sh.bool)], blks := [] } p.snd)
                                                  (Option.some
                                                    ([RV.p
                                                          (PV.bool (nth AV.undef p.snd.vals 0).toPV.toBool)],
                                                      []))
                                                  Option.none)
                                                Option.none)))
                              Option.none)
                          Option.none)
                      Option.none)
                  Option.none)
              Option.none)
          Option.none)
      Option.none := by kernel_rfl

end Go.Proofs.Ytcnjaffogkkpnaa.Vm
