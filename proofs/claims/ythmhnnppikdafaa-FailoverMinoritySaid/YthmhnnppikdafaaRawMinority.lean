/- The raw theorems, by program: what each function and each loop comes to. -/
import Derived.Test.YthmhnnppikdafaaEnv
import Derived.Test.YthmhnnppikdafaaVm34
import Derived.KernelRfl
namespace Go.Proofs.Ythmhnnppikdafaa.Vm
open Go
set_option maxRecDepth 100000
set_option linter.unusedVariables false

/-- dynpos/dynposlaw33.FailoverMinority, the loop of block 0 -/
theorem r7_0 (F : Fun) (l5 : List (List PV)) (r6 : List (List PV)) (n7 : List (List PV)) (x44 : List (List PV)) (x45 : Int) (x46 : Int) : lp E F 7 0 [] 0
  {
    vals :=
      [AV.sl 3 l5, AV.sl 1 r6, AV.sl 3 n7, AV.sl 3 x44,
        AV.int IntKind.i64 x45, AV.int IntKind.i64 x46],
    blks := [] } =
  ctl (ltB x46 x45)
    (getE x44 x46 fun (c : List PV) =>
      ctl
        (okCs [Sh.int IntKind.i64, Sh.int IntKind.i64, Sh.int IntKind.i64] c)
        (ctl ((nth PV.nilp c 0).toInt == 1)
          (bnd (F 22 [AV.sl 3 n7, AV.sl 1 r6, AV.int IntKind.i64 x46] [])
            fun (r : Res) =>
            ctl (okR [RSh.one (Sh.sl 1)] r.fst && okB [] r.snd)
              (ctl
                (!leB
                    (IntKind.i64.wrap (2 * (↑(nth (RV.p PV.nilp) r.fst 0).toPV.toEs.length : Int))) (↑n7.length : Int))
                (getE l5 x46 fun (c_1 : List PV) =>
                  ctl
                    (okCs [Sh.int IntKind.i64, Sh.int IntKind.i64, Sh.int IntKind.i64]
                      c_1)
                    (ctl
                      (!ltB (nth PV.nilp c 1).toInt
                          (nth PV.nilp c_1 1).toInt)
                      (getE l5 x46 fun (c_2 : List PV) =>
                        ctl
                          (okCs
                            [Sh.int IntKind.i64, Sh.int IntKind.i64, Sh.int IntKind.i64] c_2)
                          (ctl
                            (!((nth PV.nilp c 0).toInt == 2) == ((nth PV.nilp c_2 0).toInt == 2))
                            (Option.some (Ex.ret, { vals := [AV.bool Bool.false], blks := [] }))
                            (lp E F 7 0 [] 0
                              {
                                vals :=
                                  [AV.sl 3 l5, AV.sl 1 r6, AV.sl 3 n7, AV.sl 3 x44,
                                    AV.int IntKind.i64 x45, AV.int IntKind.i64 (IntKind.i64.wrap (x46 + 1))],
                                blks := [] }))
                          Option.none)
                      (Option.some (Ex.ret, { vals := [AV.bool Bool.false], blks := [] })))
                    Option.none)
                (Option.some (Ex.ret, { vals := [AV.bool Bool.false], blks := [] })))
              Option.none)
          (getE l5 x46 fun (c_1 : List PV) =>
            ctl
              (okCs [Sh.int IntKind.i64, Sh.int IntKind.i64, Sh.int IntKind.i64] c_1)
              (ctl
                (!ltB (nth PV.nilp c 1).toInt
                    (nth PV.nilp c_1 1).toInt)
                (getE l5 x46 fun (c_2 : List PV) =>
                  ctl
                    (okCs [Sh.int IntKind.i64, Sh.int IntKind.i64, Sh.int IntKind.i64]
                      c_2)
                    (ctl
                      (!((nth PV.nilp c 0).toInt == 2) == ((nth PV.nilp c_2 0).toInt == 2))
                      (Option.some (Ex.ret, { vals := [AV.bool Bool.false], blks := [] }))
                      (lp E F 7 0 [] 0
                        {
                          vals :=
                            [AV.sl 3 l5, AV.sl 1 r6, AV.sl 3 n7, AV.sl 3 x44,
                              AV.int IntKind.i64 x45, AV.int IntKind.i64 (IntKind.i64.wrap (x46 + 1))],
                          blks := [] }))
                    Option.none)
                (Option.some (Ex.ret, { vals := [AV.bool Bool.false], blks := [] })))
              Option.none))
        Option.none)
    (Option.some (Ex.exit 0, { vals := [], blks := [] })) := (lp_unfold ..).trans (by kernel_rfl)

/-- dynpos/dynposlaw33.FailoverMinority -/
theorem r7 (F : Fun) (t : List (List PV)) : funK E F 7 [AV.sl 1 t] [] =
  ctl (ltB 600 (↑t.length : Int))
    (bnd (F 8 [] []) fun (r : Res) =>
      ctl (okR [RSh.one Sh.bool] r.fst && okB [] r.snd)
        (Option.some
          ([RV.p
                (PV.bool (nth (RV.p PV.nilp) r.fst 0).toPV.toBool)],
            []))
        Option.none)
    (bnd (F 9 [AV.sl 1 t] []) fun (r : Res) =>
      ctl
        (okR [RSh.ownp [Sh.sl 1, Sh.int IntKind.i64]] r.fst &&
          okB [] r.snd)
        (bnd
          (F 16 [AV.t (TV.ptr 0 0), AV.int IntKind.i64 9]
            [Blk.box
                [AV.sl 1
                    (nth PV.nilp (nth (RV.p PV.nilp) r.fst 0).toCs
                        0).toEs,
                  AV.int IntKind.i64
                    (nth PV.nilp (nth (RV.p PV.nilp) r.fst 0).toCs
                        1).toInt]])
          fun (r : Res) =>
          ctl
            (okR [RSh.one (Sh.int IntKind.i64)] r.fst &&
              okB [Sum.inl [Sh.sl 1, Sh.int IntKind.i64]] r.snd)
            (bnd
              (F 23
                [AV.t (TV.ptr 0 0),
                  AV.int IntKind.i64 (nth (RV.p PV.nilp) r.fst 0).toPV.toInt]
                [Blk.box
                    [AV.sl 1
                        (nth PV.nilp
                            (List.map AV.toPV (nth (Blk.box []) r.snd 0).toCs) 0).toEs,
                      AV.int IntKind.i64
                        (nth PV.nilp
                            (List.map AV.toPV (nth (Blk.box []) r.snd 0).toCs) 1).toInt]])
              fun (r_1 : Res) =>
              ctl
                (okR [RSh.one (Sh.sl 3)] r_1.fst &&
                  okB [Sum.inl [Sh.sl 1, Sh.int IntKind.i64]] r_1.snd)
                (bnd
                  (F 14
                    [AV.t (TV.ptr 0 0),
                      AV.int IntKind.i64
                        (↑(nth (RV.p PV.nilp) r_1.fst 0).toPV.toEs.length : Int)]
                    [Blk.box
                        [AV.sl 1
                            (nth PV.nilp
                                (List.map AV.toPV (nth (Blk.box []) r_1.snd 0).toCs) 0).toEs,
                          AV.int IntKind.i64
                            (nth PV.nilp
                                (List.map AV.toPV (nth (Blk.box []) r_1.snd 0).toCs) 1).toInt]])
                  fun (r_2 : Res) =>
                  ctl
                    (okR [RSh.one (Sh.sl 1)] r_2.fst &&
                      okB [Sum.inl [Sh.sl 1, Sh.int IntKind.i64]] r_2.snd)
                    (bnd
                      (F 16 [AV.t (TV.ptr 0 0), AV.int IntKind.i64 4]
                        [Blk.box
                            [AV.sl 1
                                (nth PV.nilp
                                    (List.map AV.toPV (nth (Blk.box []) r_2.snd 0).toCs) 0).toEs,
                              AV.int IntKind.i64
                                (nth PV.nilp
                                    (List.map AV.toPV (nth (Blk.box []) r_2.snd 0).toCs) 1).toInt]])
                      fun (r_3 : Res) =>
                      ctl
                        (okR [RSh.one (Sh.int IntKind.i64)] r_3.fst &&
                          okB [Sum.inl [Sh.sl 1, Sh.int IntKind.i64]] r_3.snd)
                        (bnd
                          (F 13
                            [AV.sl 3 (nth (RV.p PV.nilp) r_1.fst 0).toPV.toEs,
                              AV.sl 1 (nth (RV.p PV.nilp) r_2.fst 0).toPV.toEs,
                              AV.int IntKind.i64 (nth (RV.p PV.nilp) r.fst 0).toPV.toInt,
                              AV.int IntKind.i64 (nth (RV.p PV.nilp) r_3.fst 0).toPV.toInt]
                            [])
                          fun (r : Res) =>
                          ctl
                            (okR
                                [RSh.one (Sh.sl 3), RSh.one (Sh.int IntKind.i64)] r.fst &&
                              okB [] r.snd)
                            (bnd
                              (ctl (!(nth (RV.p PV.nilp) r.fst 1).toPV.toInt != 0)
                                (Option.some
                                  ((↑(nth (RV.p PV.nilp) r.fst 0).toPV.toEs.length : Int) !=
                                    (↑(nth (RV.p PV.nilp) r_1.fst 0).toPV.toEs.length : Int)))
                                (Option.some Bool.true))
                              fun (v : Bool) =>
                              ctl v (Option.some ([RV.p (PV.bool Bool.false)], []))
                                (bnd
                                  (lp E F 7 0 [] 0
                                    {
                                      vals :=
                                        [AV.sl 3 (nth (RV.p PV.nilp) r_1.fst 0).toPV.toEs,
                                          AV.sl 1 (nth (RV.p PV.nilp) r_2.fst 0).toPV.toEs,
                                          AV.sl 3 (nth (RV.p PV.nilp) r.fst 0).toPV.toEs,
                                          AV.sl 3 (nth (RV.p PV.nilp) r.fst 0).toPV.toEs,
                                          AV.int IntKind.i64
                                            (↑(nth (RV.p PV.nilp) r.fst 0).toPV.toEs.length : Int),
                                          AV.int IntKind.i64 0],
                                      blks := [] })
                                  fun (p : Ex × Pack) =>
                                  ctl (p.fst.eqb (Ex.exit 0))
                                    (bnd (F 8 [] []) fun (r : Res) =>
                                      ctl
                                        (okR [RSh.one Sh.bool] r.fst && okB [] r.snd)
                                        (Option.some
                                          ([RV.p
                                                (PV.bool
                                                  (nth (RV.p PV.nilp) r.fst 0).toPV.toBool)],
                                            []))
                                        Option.none)
                                    (ctl (p.fst.eqb Ex.ret)
                                      (ctl (okPack { slots := [(2, Sum.inl Sh.bool)], blks := [] } p.snd)
                                        (Option.some
                                          ([RV.p
                                                (PV.bool (nth AV.undef p.snd.vals 0).toPV.toBool)],
                                            []))
                                        Option.none)
                                      Option.none)))
                            Option.none)
                        Option.none)
                    Option.none)
                Option.none)
            Option.none)
        Option.none) := by kernel_rfl

end Go.Proofs.Ythmhnnppikdafaa.Vm
