/- The raw theorems, by program: what each function and each loop comes to. -/
import Derived.Test.YtmlhemkadoadaaaDoorEnv
import Derived.Test.YtmlhemkadoadaaaDoorVm34
import Derived.KernelRfl
namespace Go.Proofs.YtmlhemkadoadaaaDoor.Vm
open Go
set_option maxRecDepth 100000
set_option linter.unusedVariables false

/-- dynpos/dynposlaw05.StreamLimits, the loop of block 0 -/
theorem r3_0 (F : Fun) (n0 : Int) (i4 : Int) (c0 : List (List PV)) : lp E F 3 0 [] 0
  { vals := [AV.int IntKind.u8 n0, AV.int IntKind.i64 i4], blks := [Blk.arr 1 c0] } =
  ctl (ltB i4 (IntKind.i64.wrap n0))
    (ctl (leN ((c0.length + 1) * 1) 140737488355328)
      (lp E F 3 0 [] 0
        { vals := [AV.int IntKind.u8 n0, AV.int IntKind.i64 (IntKind.i64.wrap (i4 + 1))],
          blks := [Blk.arr 1 (c0 ++ [[PV.int IntKind.u8 120]])] })
      Option.none)
    (Option.some (Ex.exit 0, { vals := [], blks := [Blk.arr 1 c0] })) := (lp_unfold ..).trans (by kernel_rfl)

/-- dynpos/dynposlaw05.StreamLimits -/
theorem r3 (F : Fun) (n : Int) : funK E F 3 [AV.int IntKind.u8 n] [] =
  bnd
    (lp E F 3 0 [] 0
      { vals := [AV.int IntKind.u8 n, AV.int IntKind.i64 0],
        blks := [Blk.arr 1 [[PV.int IntKind.u8 36]]] })
    fun (p : Ex × Pack) =>
    ctl (p.fst.eqb (Ex.exit 0))
      (ctl
        (okPack { slots := [(3, Sum.inr (Sum.inr (AV.t (TV.hsl 0))))], blks := [Sum.inr 1] } p.snd)
        (bnd
          (F 8
            [AV.agg [PV.sl 1 []],
              AV.sl 1 (nth (Blk.box []) p.snd.blks 0).toEs]
            [])
          fun (r : Res) =>
          ctl
            (okR
                [RSh.agg [Sh.sl 1], RSh.one (Sh.sl 1),
                  RSh.one (Sh.int IntKind.i64)]
                r.fst &&
              okB [] r.snd)
            (bnd
              (ctl (!(↑(nth (RV.p PV.nilp) r.fst 1).toPV.toEs.length : Int) != 0)
                (Option.some
                  (leB 200
                    (↑(nth PV.nilp
                              (nth (RV.p PV.nilp) r.fst 0).toCs 0).toEs.length :
                      Int)))
                (Option.some Bool.true))
              fun (v : Bool) =>
              bnd
                (ctl (!v)
                  (Option.some
                    !ltB (↑(nth (Blk.box []) p.snd.blks 0).toEs.length : Int) 200 ==
                        ((↑(nth PV.nilp
                                    (nth (RV.p PV.nilp) r.fst 0).toCs 0).toEs.length :
                            Int) ==
                          (↑(nth (Blk.box []) p.snd.blks 0).toEs.length : Int)))
                  (Option.some Bool.true))
                fun (v : Bool) =>
                bnd
                  (ctl (!v)
                    (ctl
                      (leB 200 (↑(nth (Blk.box []) p.snd.blks 0).toEs.length : Int))
                      (ctl
                        (!(↑(nth PV.nilp
                                      (nth (RV.p PV.nilp) r.fst 0).toCs 0).toEs.length :
                              Int) !=
                            0)
                        (Option.some
                          ((nth (RV.p PV.nilp) r.fst 2).toPV.toInt !=
                            (↑(nth (Blk.box []) p.snd.blks 0).toEs.length : Int)))
                        (Option.some Bool.true))
                      (Option.some Bool.false))
                    (Option.some Bool.true))
                  fun (v : Bool) =>
                  ctl v (Option.some ([RV.p (PV.bool Bool.false)], []))
                    (bnd
                      (F 9
                        [AV.agg
                            [PV.sl 1
                                (nth PV.nilp
                                    (nth (RV.p PV.nilp) r.fst 0).toCs 0).toEs]]
                        [])
                      fun (r_1 : Res) =>
                      ctl
                        (okR [RSh.one Sh.bool] r_1.fst && okB [] r_1.snd)
                        (bnd
                          (ctl
                            ((nth (RV.p PV.nilp) r_1.fst 0).toPV.toBool ==
                              ((↑(nth PV.nilp
                                          (nth (RV.p PV.nilp) r.fst 0).toCs 0).toEs.length :
                                  Int) ==
                                0))
                            (bnd (F 10 [] []) fun (r : Res) =>
                              ctl
                                (okR [RSh.one Sh.bool] r.fst && okB [] r.snd)
                                (Option.some (nth (RV.p PV.nilp) r.fst 0).toPV.toBool) Option.none)
                            (Option.some Bool.false))
                          fun (v : Bool) => Option.some ([RV.p (PV.bool v)], []))
                        Option.none))
            Option.none)
        Option.none)
      Option.none := by kernel_rfl

end Go.Proofs.YtmlhemkadoadaaaDoor.Vm
