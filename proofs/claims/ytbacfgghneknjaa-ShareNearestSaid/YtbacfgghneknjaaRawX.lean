/- The raw theorems, by program: what each function and each loop comes to. -/
import Derived.Test.YtbacfgghneknjaaEnv
import Derived.Test.YtbacfgghneknjaaVm34
import Derived.KernelRfl
namespace Go.Proofs.Ytbacfgghneknjaa.Vm
open Go
set_option maxRecDepth 100000
set_option linter.unusedVariables false

/-- dynpos/dynposlaw13.ShareNearest, the loop of block 0 -/
theorem r3_0 (F : Fun) (l4 : List (List PV)) (x9 : List (List PV)) (m10 : Int) (y12 : List (List PV)) (x90 : Int) (x91 : Int) : lp E F 3 0 [] 0
  {
    vals :=
      [AV.sl 3 l4, AV.sl 1 x9, AV.int IntKind.i64 m10, AV.sl 1 y12,
        AV.int IntKind.i64 x90, AV.int IntKind.i64 x91],
    blks := [] } =
  ctl (ltB x91 x90)
    (getE x9 x91 fun (c : List PV) =>
      ctl (okCs [Sh.int IntKind.i64] c)
        (getE l4 x91 fun (c_1 : List PV) =>
          ctl
            (okCs [Sh.int IntKind.i64, Sh.int IntKind.i64, Sh.int IntKind.i64] c_1)
            (bnd
              (ctl
                (!ltB (nth PV.nilp c 0).toInt
                    (nth PV.nilp c_1 0).toInt)
                (getE x9 x91 fun (c : List PV) =>
                  ctl (okCs [Sh.int IntKind.i64] c)
                    (getE l4 x91 fun (c_2 : List PV) =>
                      ctl
                        (okCs
                          [Sh.int IntKind.i64, Sh.int IntKind.i64, Sh.int IntKind.i64] c_2)
                        (Option.some
                          (ltB (nth PV.nilp c_2 1).toInt
                            (nth PV.nilp c 0).toInt))
                        Option.none)
                    Option.none)
                (Option.some Bool.true))
              fun (v : Bool) =>
              bnd
                (ctl (!v)
                  (getE y12 x91 fun (c : List PV) =>
                    ctl (okCs [Sh.int IntKind.i64] c)
                      (getE x9 x91 fun (c_2 : List PV) =>
                        ctl (okCs [Sh.int IntKind.i64] c_2)
                          (Option.some
                            (ltB (nth PV.nilp c 0).toInt
                              (nth PV.nilp c_2 0).toInt))
                          Option.none)
                      Option.none)
                  (Option.some Bool.true))
                fun (v : Bool) =>
                bnd
                  (ctl (!v)
                    (ctl (ltB 0 m10)
                      (getE x9 x91 fun (c : List PV) =>
                        ctl (okCs [Sh.int IntKind.i64] c)
                          (getE l4 x91 fun (c_2 : List PV) =>
                            ctl
                              (okCs
                                [Sh.int IntKind.i64, Sh.int IntKind.i64, Sh.int IntKind.i64] c_2)
                              (Option.some ((nth PV.nilp c 0).toInt != (nth PV.nilp c_2 1).toInt))
                              Option.none)
                          Option.none)
                      (Option.some Bool.false))
                    (Option.some Bool.true))
                  fun (v : Bool) =>
                  bnd
                    (ctl (!v)
                      (ctl (ltB m10 0)
                        (getE x9 x91 fun (c : List PV) =>
                          ctl (okCs [Sh.int IntKind.i64] c)
                            (getE l4 x91 fun (c_2 : List PV) =>
                              ctl
                                (okCs
                                  [Sh.int IntKind.i64, Sh.int IntKind.i64, Sh.int IntKind.i64] c_2)
                                (Option.some
                                  ((nth PV.nilp c 0).toInt != (nth PV.nilp c_2 0).toInt))
                                Option.none)
                            Option.none)
                        (Option.some Bool.false))
                      (Option.some Bool.true))
                    fun (v : Bool) =>
                    ctl v (Option.some (Ex.ret, { vals := [AV.bool Bool.false], blks := [] }))
                      (lp E F 3 0 [] 0
                        {
                          vals :=
                            [AV.sl 3 l4, AV.sl 1 x9, AV.int IntKind.i64 m10, AV.sl 1 y12,
                              AV.int IntKind.i64 x90, AV.int IntKind.i64 (IntKind.i64.wrap (x91 + 1))],
                          blks := [] }))
            Option.none)
        Option.none)
    (Option.some (Ex.exit 0, { vals := [], blks := [] })) := (lp_unfold ..).trans (by kernel_rfl)

/-- dynpos/dynposlaw13.ShareNearest -/
theorem r3 (F : Fun) (t : List (List PV)) : funK E F 3 [AV.sl 1 t] [] =
  bnd (F 9 [AV.sl 1 t] []) fun (r : Res) =>
    ctl
      (okR [RSh.ownp [Sh.sl 1, Sh.int IntKind.i64]] r.fst &&
        okB [] r.snd)
      (bnd
        (F 10 [AV.t (TV.ptr 0 0), AV.int IntKind.i64 5]
          [Blk.box
              [AV.sl 1
                  (nth PV.nilp (nth (RV.p PV.nilp) r.fst 0).toCs
                      0).toEs,
                AV.int IntKind.i64
                  (nth PV.nilp (nth (RV.p PV.nilp) r.fst 0).toCs
                      1).toInt]])
        fun (r : Res) =>
        ctl
          (okR [RSh.one (Sh.sl 3)] r.fst &&
            okB [Sum.inl [Sh.sl 1, Sh.int IntKind.i64]] r.snd)
          (bnd
            (F 11 [AV.sl 3 (nth (RV.p PV.nilp) r.fst 0).toPV.toEs] [])
            fun (r_1 : Res) =>
            ctl
              (okR
                  [RSh.one (Sh.int IntKind.i64), RSh.one (Sh.int IntKind.i64),
                    RSh.one (Sh.int IntKind.i64)]
                  r_1.fst &&
                okB [] r_1.snd)
              (bnd
                (F 12
                  [AV.t (TV.ptr 0 0),
                    AV.int IntKind.i64
                      (IntKind.i64.wrap ((nth (RV.p PV.nilp) r_1.fst 0).toPV.toInt - 5)),
                    AV.int IntKind.i64
                      (IntKind.i64.wrap ((nth (RV.p PV.nilp) r_1.fst 1).toPV.toInt + 5))]
                  [Blk.box
                      [AV.sl 1
                          (nth PV.nilp
                              (List.map AV.toPV (nth (Blk.box []) r.snd 0).toCs) 0).toEs,
                        AV.int IntKind.i64
                          (nth PV.nilp
                              (List.map AV.toPV (nth (Blk.box []) r.snd 0).toCs) 1).toInt]])
                fun (r_2 : Res) =>
                ctl
                  (okR [RSh.one (Sh.int IntKind.i64)] r_2.fst &&
                    okB [Sum.inl [Sh.sl 1, Sh.int IntKind.i64]] r_2.snd)
                  (bnd
                    (F 13
                      [AV.sl 3 (nth (RV.p PV.nilp) r.fst 0).toPV.toEs,
                        AV.int IntKind.i64 (nth (RV.p PV.nilp) r_2.fst 0).toPV.toInt]
                      [])
                    fun (r_3 : Res) =>
                    ctl
                      (okR
                          [RSh.one (Sh.sl 1), RSh.one (Sh.int IntKind.i64),
                            RSh.one (Sh.int IntKind.i64)]
                          r_3.fst &&
                        okB [] r_3.snd)
                      (bnd
                        (F 13
                          [AV.sl 3 (nth (RV.p PV.nilp) r.fst 0).toPV.toEs,
                            AV.int IntKind.i64
                              (IntKind.i64.wrap ((nth (RV.p PV.nilp) r_2.fst 0).toPV.toInt + 1))]
                          [])
                        fun (r_4 : Res) =>
                        ctl
                          (okR
                              [RSh.one (Sh.sl 1), RSh.one (Sh.int IntKind.i64),
                                RSh.one (Sh.int IntKind.i64)]
                              r_4.fst &&
                            okB [] r_4.snd)
                          (bnd
                            (ctl (!(nth (RV.p PV.nilp) r_1.fst 2).toPV.toInt != 0)
                              (Option.some ((nth (RV.p PV.nilp) r_3.fst 2).toPV.toInt != 0)) (Option.some Bool.true))
                            fun (v : Bool) =>
                            bnd
                              (ctl (!v)
                                (Option.some ((nth (RV.p PV.nilp) r_4.fst 2).toPV.toInt != 0)) (Option.some Bool.true))
                              fun (v : Bool) =>
                              bnd
                                (ctl (!v)
                                  (Option.some
                                    ((↑(nth (RV.p PV.nilp) r_3.fst 0).toPV.toEs.length : Int) !=
                                      (↑(nth (RV.p PV.nilp) r.fst 0).toPV.toEs.length : Int)))
                                  (Option.some Bool.true))
                                fun (v : Bool) =>
                                bnd
                                  (ctl (!v)
                                    (Option.some
                                      ((↑(nth (RV.p PV.nilp) r_4.fst 0).toPV.toEs.length : Int) !=
                                        (↑(nth (RV.p PV.nilp) r.fst 0).toPV.toEs.length : Int)))
                                    (Option.some Bool.true))
                                  fun (v : Bool) =>
                                  bnd
                                    (ctl (!v)
                                      (ctl
                                        (leB (nth (RV.p PV.nilp) r_1.fst 0).toPV.toInt
                                          (nth (RV.p PV.nilp) r_2.fst 0).toPV.toInt)
                                        (Option.some
                                          !((nth (RV.p PV.nilp) r_3.fst 1).toPV.toInt == 0) ==
                                              leB (nth (RV.p PV.nilp) r_2.fst 0).toPV.toInt
                                                (nth (RV.p PV.nilp) r_1.fst 1).toPV.toInt)
                                        (Option.some !((nth (RV.p PV.nilp) r_3.fst 1).toPV.toInt == 0) == Bool.false))
                                      (Option.some Bool.true))
                                    fun (v : Bool) =>
                                    bnd
                                      (ctl (!v)
                                        (Option.some
                                          (ltB (nth (RV.p PV.nilp) r_4.fst 1).toPV.toInt
                                            (nth (RV.p PV.nilp) r_3.fst 1).toPV.toInt))
                                        (Option.some Bool.true))
                                      fun (v : Bool) =>
                                      ctl v (Option.some ([RV.p (PV.bool Bool.false)], []))
                                        (bnd
                                          (lp E F 3 0 [] 0
                                            {
                                              vals :=
                                                [AV.sl 3 (nth (RV.p PV.nilp) r.fst 0).toPV.toEs,
                                                  AV.sl 1
                                                    (nth (RV.p PV.nilp) r_3.fst 0).toPV.toEs,
                                                  AV.int IntKind.i64
                                                    (nth (RV.p PV.nilp) r_3.fst 1).toPV.toInt,
                                                  AV.sl 1
                                                    (nth (RV.p PV.nilp) r_4.fst 0).toPV.toEs,
                                                  AV.int IntKind.i64
                                                    (↑(nth (RV.p PV.nilp) r_3.fst 0).toPV.toEs.length : Int),
                                                  AV.int IntKind.i64 0],
                                              blks := [] })
                                          fun (p : Ex × Pack) =>
                                          ctl (p.fst.eqb (Ex.exit 0))
                                            (bnd (F 14 [] []) fun (r : Res) =>
                                              ctl
                                                (okR [RSh.one Sh.bool] r.fst && okB [] r.snd)
                                                (Option.some
                                                  ([RV.p
                                                        (PV.bool
                                                          (nth (RV.p PV.nilp) r.fst 0).toPV.toBool)],
                                                    []))
                                                Option.none)
                                            (ctl (p.fst.eqb Ex.ret)
                                              (ctl (okPack { slots := [(2, Sum.inl Sh.bool)], blks := [] } p.snd)
                                                (Option.some
                                                  ([RV.p
                                                        (PV.bool (nth AV.undef p.snd.vals 0).toPV.toBool)],
                                                    []))
                                                Option.none)
                                              Option.none)))
                          Option.none)
                      Option.none)
                  Option.none)
              Option.none)
          Option.none)
      Option.none := by kernel_rfl

end Go.Proofs.Ytbacfgghneknjaa.Vm
