/- The raw theorems, by program: what each function and each loop comes to. -/
import Derived.Test.YtclnapbghehlaaaDoorEnv
import Derived.Test.YtclnapbghehlaaaDoorVm34
import Derived.KernelRfl
namespace Go.Proofs.YtclnapbghehlaaaDoor.Vm
open Go
set_option maxRecDepth 100000
set_option linter.unusedVariables false

/-- dynpos/dynposlaw04.SentenceFields, the loop of block 0 -/
theorem r3_0 (F : Fun) (a1 : List (List PV)) (b2 : List (List PV)) (l8 : List (List PV)) (body9 : List UInt8) (x26 : List (List PV)) (x27 : Int) (x28 : Int) : lp E F 3 0 [] 0
  {
    vals :=
      [AV.sl 1 a1, AV.sl 1 b2, AV.sl 1 l8, AV.str body9,
        AV.sl 1 x26, AV.int IntKind.i64 x27, AV.int IntKind.i64 x28],
    blks := [] } =
  ctl (ltB x28 x27)
    (getE x26 x28 fun (c : List PV) =>
      ctl (okCs [Sh.str] c)
        (ctl (ltB 0 x28)
          (ctl (leN (body9.length + 1) 9223372036854775807)
            (ctl
              (leN ((body9 ++ [44]).length + (nth PV.nilp c 0).toStr.length) 9223372036854775807)
              (lp E F 3 0 [] 0
                {
                  vals :=
                    [AV.sl 1 a1, AV.sl 1 b2, AV.sl 1 l8,
                      AV.str (body9 ++ [44] ++ (nth PV.nilp c 0).toStr),
                      AV.sl 1 x26, AV.int IntKind.i64 x27, AV.int IntKind.i64 (IntKind.i64.wrap (x28 + 1))],
                  blks := [] })
              Option.none)
            Option.none)
          (ctl
            (leN (body9.length + (nth PV.nilp c 0).toStr.length) 9223372036854775807)
            (lp E F 3 0 [] 0
              {
                vals :=
                  [AV.sl 1 a1, AV.sl 1 b2, AV.sl 1 l8,
                    AV.str (body9 ++ (nth PV.nilp c 0).toStr), AV.sl 1 x26,
                    AV.int IntKind.i64 x27, AV.int IntKind.i64 (IntKind.i64.wrap (x28 + 1))],
                blks := [] })
            Option.none))
        Option.none)
    (Option.some
      (Ex.exit 0,
        { vals := [AV.sl 1 a1, AV.sl 1 b2, AV.sl 1 l8, AV.str body9],
          blks := [] })) := (lp_unfold ..).trans (by kernel_rfl)

/-- dynpos/dynposlaw04.SentenceFields -/
theorem r3 (F : Fun) (t : List (List PV)) (a : List (List PV)) (b : List (List PV)) : funK E F 3 [AV.sl 1 t, AV.sl 1 a, AV.sl 1 b] [] =
  bnd
    (ctl (!ltB 200 (↑a.length : Int)) (Option.some (ltB 200 (↑b.length : Int))) (Option.some Bool.true))
    fun (v : Bool) =>
    ctl v
      (bnd (F 8 [] []) fun (r : Res) =>
        ctl
          (okR [RSh.one Sh.bool] r.fst && okB [] r.snd)
          (Option.some
            ([RV.p
                  (PV.bool (nth (RV.p PV.nilp) r.fst 0).toPV.toBool)],
              []))
          Option.none)
      (bnd (F 9 [AV.sl 1 t] []) fun (r : Res) =>
        ctl
          (okR [RSh.ownp [Sh.sl 1, Sh.int IntKind.i64]] r.fst &&
            okB [] r.snd)
          (bnd
            (F 10 [AV.t (TV.ptr 0 0)]
              [Blk.box
                  [AV.sl 1
                      (nth PV.nilp
                          (nth (RV.p PV.nilp) r.fst 0).toCs 0).toEs,
                    AV.int IntKind.i64
                      (nth PV.nilp
                          (nth (RV.p PV.nilp) r.fst 0).toCs 1).toInt]])
            fun (r : Res) =>
            ctl
              (okR [RSh.own 1] r.fst &&
                okB [Sum.inl [Sh.sl 1, Sh.int IntKind.i64]] r.snd)
              (bnd
                (lp E F 3 0 [] 0
                  {
                    vals :=
                      [AV.sl 1 a, AV.sl 1 b,
                        AV.sl 1 (nth (RV.p PV.nilp) r.fst 0).toEs,
                        AV.str [],
                        AV.sl 1 (nth (RV.p PV.nilp) r.fst 0).toEs,
                        AV.int IntKind.i64
                          (↑(nth (RV.p PV.nilp) r.fst 0).toEs.length : Int),
                        AV.int IntKind.i64 0],
                    blks := [] })
                fun (p : Ex × Pack) =>
                ctl (p.fst.eqb (Ex.exit 0))
                  (ctl
                    (okPack
                      {
                        slots :=
                          [(1, Sum.inl (Sh.sl 1)), (2, Sum.inl (Sh.sl 1)), (8, Sum.inl (Sh.sl 1)),
                            (9, Sum.inl Sh.str)],
                        blks := [] }
                      p.snd)
                    (ctl
                      (leN ((nth AV.undef p.snd.vals 0).toPV.toEs.length * 1) 140737488355328)
                      (ctl
                        (leN
                          (((nth AV.undef p.snd.vals 0).toPV.toEs.length +
                              (nth AV.undef p.snd.vals 1).toPV.toEs.length) *
                            1)
                          140737488355328)
                        (bnd
                          (F 12 [AV.str (nth AV.undef p.snd.vals 3).toPV.toStr] [])
                          fun (r : Res) =>
                          ctl
                            (okR [RSh.one (Sh.sl 1)] r.fst && okB [] r.snd)
                            (bnd
                              (F 11
                                [AV.sl 1 (nth (RV.p PV.nilp) r.fst 0).toPV.toEs,
                                  AV.sl 1 (nth AV.undef p.snd.vals 2).toPV.toEs]
                                [])
                              fun (r : Res) =>
                              ctl
                                (okR [RSh.one Sh.bool] r.fst && okB [] r.snd)
                                (bnd
                                  (ctl (nth (RV.p PV.nilp) r.fst 0).toPV.toBool
                                    (bnd
                                      (F 13
                                        [AV.sl 1
                                            ((nth AV.undef p.snd.vals 0).toPV.toEs ++
                                              (nth AV.undef p.snd.vals 1).toPV.toEs)]
                                        [])
                                      fun (r : Res) =>
                                      ctl
                                        (okR [RSh.one (Sh.int IntKind.u8)] r.fst &&
                                            okB [] r.snd &&
                                          (noslR r.fst && noslB r.snd))
                                        (bnd
                                          (F 13 [AV.sl 1 (nth AV.undef p.snd.vals 0).toPV.toEs] [])
                                          fun (r_1 : Res) =>
                                          ctl
                                            (okR [RSh.one (Sh.int IntKind.u8)] r_1.fst &&
                                              okB [] r_1.snd)
                                            (bnd
                                              (F 13 [AV.sl 1 (nth AV.undef p.snd.vals 1).toPV.toEs] [])
                                              fun (r_2 : Res) =>
                                              ctl
                                                (okR [RSh.one (Sh.int IntKind.u8)] r_2.fst &&
                                                  okB [] r_2.snd)
                                                (Option.some
                                                  ((nth (RV.p PV.nilp) r.fst 0).toPV.toInt ==
                                                    IntKind.u8.wrap
                                                      (↑(BitVec.ofInt 8 (nth (RV.p PV.nilp) r_1.fst 0).toPV.toInt ^^^
                                                              BitVec.ofInt 8
                                                                (nth (RV.p PV.nilp) r_2.fst 0).toPV.toInt).toNat :
                                                        Int)))
                                                Option.none)
                                            Option.none)
                                        Option.none)
                                    (Option.some Bool.false))
                                  fun (v : Bool) =>
                                  ctl v
                                    (ctl
                                      (leN
                                        ((((nth AV.undef p.snd.vals 0).toPV.toEs ++
                                                (nth AV.undef p.snd.vals 1).toPV.toEs).length +
                                            ((nth AV.undef p.snd.vals 0).toPV.toEs ++
                                                (nth AV.undef p.snd.vals 1).toPV.toEs).length) *
                                          1)
                                        140737488355328)
                                      (bnd
                                        (bnd
                                          (F 13
                                            [AV.sl 1
                                                ((nth AV.undef p.snd.vals 0).toPV.toEs ++
                                                    (nth AV.undef p.snd.vals 1).toPV.toEs ++
                                                  ((nth AV.undef p.snd.vals 0).toPV.toEs ++
                                                    (nth AV.undef p.snd.vals 1).toPV.toEs))]
                                            [])
                                          fun (r : Res) =>
                                          ctl
                                            (okR [RSh.one (Sh.int IntKind.u8)] r.fst &&
                                                okB [] r.snd &&
                                              (noslR r.fst && noslB r.snd))
                                            (Option.some ((nth (RV.p PV.nilp) r.fst 0).toPV.toInt == 0)) Option.none)
                                        fun (v : Bool) =>
                                        bnd
                                          (ctl v
                                            (bnd (F 8 [] []) fun (r : Res) =>
                                              ctl
                                                (okR [RSh.one Sh.bool] r.fst &&
                                                  okB [] r.snd)
                                                (Option.some (nth (RV.p PV.nilp) r.fst 0).toPV.toBool) Option.none)
                                            (Option.some Bool.false))
                                          fun (v : Bool) => Option.some ([RV.p (PV.bool v)], []))
                                      Option.none)
                                    (Option.some ([RV.p (PV.bool Bool.false)], [])))
                                Option.none)
                            Option.none)
                        Option.none)
                      Option.none)
                    Option.none)
                  Option.none)
              Option.none)
          Option.none) := by kernel_rfl

end Go.Proofs.YtclnapbghehlaaaDoor.Vm
