/- The raw theorems, by program: what each function and each loop comes to. -/
import Derived.Test.YthmhnnppikdafaaEnv
import Derived.Test.YthmhnnppikdafaaVm34
import Derived.KernelRfl
namespace Go.Proofs.Ythmhnnppikdafaa.Vm
open Go
set_option maxRecDepth 100000
set_option linter.unusedVariables false

/-- dynpos/dynposlaw33.FailoverLives, the loop of block 0 -/
theorem r4_0 (F : Fun) (d1 : Int) (l6 : List (List PV)) (at7 : Int) (up8 : Int) (x31 : List (List PV)) (x32 : Int) (x33 : Int) : lp E F 4 0 [] 0
  {
    vals :=
      [AV.int IntKind.u8 d1, AV.sl 3 l6, AV.int IntKind.i64 at7,
        AV.int IntKind.i64 up8, AV.sl 3 x31, AV.int IntKind.i64 x32,
        AV.int IntKind.i64 x33],
    blks := [] } =
  ctl (ltB x33 x32)
    (getE x31 x33 fun (c : List PV) =>
      ctl
        (okCs [Sh.int IntKind.i64, Sh.int IntKind.i64, Sh.int IntKind.i64] c)
        (ctl ((nth PV.nilp c 0).toInt != 2)
          (lp E F 4 0 [] 0
            {
              vals :=
                [AV.int IntKind.u8 d1, AV.sl 3 l6, AV.int IntKind.i64 at7,
                  AV.int IntKind.i64 (IntKind.i64.wrap (up8 + 1)), AV.sl 3 x31, AV.int IntKind.i64 x32,
                  AV.int IntKind.i64 (IntKind.i64.wrap (x33 + 1))],
              blks := [] })
          (lp E F 4 0 [] 0
            {
              vals :=
                [AV.int IntKind.u8 d1, AV.sl 3 l6, AV.int IntKind.i64 at7,
                  AV.int IntKind.i64 up8, AV.sl 3 x31, AV.int IntKind.i64 x32,
                  AV.int IntKind.i64 (IntKind.i64.wrap (x33 + 1))],
              blks := [] }))
        Option.none)
    (Option.some
      (Ex.exit 0,
        {
          vals :=
            [AV.int IntKind.u8 d1, AV.sl 3 l6, AV.int IntKind.i64 at7,
              AV.int IntKind.i64 up8],
          blks := [] })) := (lp_unfold ..).trans (by kernel_rfl)

/-- dynpos/dynposlaw33.FailoverLives, the loop of block 2 -/
theorem r4_2 (F : Fun) (l6 : List (List PV)) (at7 : Int) (up8 : Int) (timeout11 : Int) (r12 : List (List PV)) (time13 : Int) : lp E F 4 0 [] 2
  {
    vals :=
      [AV.sl 3 l6, AV.int IntKind.i64 at7, AV.int IntKind.i64 up8,
        AV.int IntKind.i64 timeout11, AV.sl 1 r12, AV.int IntKind.i64 time13],
    blks := [] } =
  ctl (leB time13 (IntKind.i64.wrap (IntKind.i64.wrap (at7 + timeout11) + 1)))
    (bnd
      (F 13
        [AV.sl 3 l6, AV.sl 1 r12, AV.int IntKind.i64 time13, AV.int IntKind.i64 timeout11]
        [])
      fun (r : Res) =>
      ctl
        (okR [RSh.one (Sh.sl 3), RSh.one (Sh.int IntKind.i64)]
            r.fst &&
          okB [] r.snd)
        (ctl ((nth (RV.p PV.nilp) r.fst 1).toPV.toInt != 0)
          (Option.some (Ex.ret, { vals := [AV.bool Bool.false], blks := [] }))
          (lp E F 4 0 [] 2
            {
              vals :=
                [AV.sl 3 (nth (RV.p PV.nilp) r.fst 0).toPV.toEs,
                  AV.int IntKind.i64 at7, AV.int IntKind.i64 up8, AV.int IntKind.i64 timeout11,
                  AV.sl 1 r12, AV.int IntKind.i64 (IntKind.i64.wrap (time13 + 1))],
              blks := [] }))
        Option.none)
    (Option.some
      (Ex.exit 2,
        {
          vals :=
            [AV.sl 3 l6, AV.int IntKind.i64 up8, AV.int IntKind.i64 timeout11, AV.sl 1 r12,
              AV.int IntKind.i64 time13],
          blks := [] })) := (lp_unfold ..).trans (by kernel_rfl)

/-- dynpos/dynposlaw33.FailoverLives -/
theorem r4 (F : Fun) (t : List (List PV)) (d : Int) : funK E F 4 [AV.sl 1 t, AV.int IntKind.u8 d] [] =
  ctl (ltB 600 (↑t.length : Int))
    (bnd (F 8 [] []) fun (r : Res) =>
      ctl (okR [RSh.one Sh.bool] r.fst && okB [] r.snd)
        (Option.some
          ([RV.p
                (PV.bool (nth (RV.p PV.nilp) r.fst 0).toPV.toBool)],
            []))
        Option.none)
    (bnd (F 9 [AV.sl 1 t] []) fun (r : Res) =>
      ctl
        (okR [RSh.ownp [Sh.sl 1, Sh.int IntKind.i64]] r.fst &&
          okB [] r.snd)
        (bnd
          (F 16 [AV.t (TV.ptr 0 0), AV.int IntKind.i64 8]
            [Blk.box
                [AV.sl 1
                    (nth PV.nilp (nth (RV.p PV.nilp) r.fst 0).toCs
                        0).toEs,
                  AV.int IntKind.i64
                    (nth PV.nilp (nth (RV.p PV.nilp) r.fst 0).toCs
                        1).toInt]])
          fun (r : Res) =>
          ctl
            (okR [RSh.one (Sh.int IntKind.i64)] r.fst &&
              okB [Sum.inl [Sh.sl 1, Sh.int IntKind.i64]] r.snd)
            (bnd
              (F 15
                [AV.t (TV.ptr 0 0),
                  AV.int IntKind.i64 (nth (RV.p PV.nilp) r.fst 0).toPV.toInt]
                [Blk.box
                    [AV.sl 1
                        (nth PV.nilp
                            (List.map AV.toPV (nth (Blk.box []) r.snd 0).toCs) 0).toEs,
                      AV.int IntKind.i64
                        (nth PV.nilp
                            (List.map AV.toPV (nth (Blk.box []) r.snd 0).toCs) 1).toInt]])
              fun (r : Res) =>
              ctl
                (okR
                    [RSh.one (Sh.sl 3), RSh.one (Sh.int IntKind.i64)] r.fst &&
                  okB [Sum.inl [Sh.sl 1, Sh.int IntKind.i64]] r.snd)
                (bnd
                  (lp E F 4 0 [] 0
                    {
                      vals :=
                        [AV.int IntKind.u8 d,
                          AV.sl 3 (nth (RV.p PV.nilp) r.fst 0).toPV.toEs,
                          AV.int IntKind.i64 (nth (RV.p PV.nilp) r.fst 1).toPV.toInt,
                          AV.int IntKind.i64 0,
                          AV.sl 3 (nth (RV.p PV.nilp) r.fst 0).toPV.toEs,
                          AV.int IntKind.i64
                            (↑(nth (RV.p PV.nilp) r.fst 0).toPV.toEs.length : Int),
                          AV.int IntKind.i64 0],
                      blks := [] })
                  fun (p : Ex × Pack) =>
                  ctl (p.fst.eqb (Ex.exit 0))
                    (ctl
                      (okPack
                        {
                          slots :=
                            [(1, Sum.inl (Sh.int IntKind.u8)), (6, Sum.inl (Sh.sl 3)), (7, Sum.inl (Sh.int IntKind.i64)),
                              (8, Sum.inl (Sh.int IntKind.i64))],
                          blks := [] }
                        p.snd)
                      (bnd
                        (F 17 [AV.int IntKind.i64 (↑(nth AV.undef p.snd.vals 1).toPV.toEs.length : Int)] [])
                        fun (r : Res) =>
                        ctl
                          (okR [RSh.one (Sh.sl 1)] r.fst && okB [] r.snd)
                          (bnd
                            (lp E F 4 0 [] 2
                              {
                                vals :=
                                  [AV.sl 3 (nth AV.undef p.snd.vals 1).toPV.toEs,
                                    AV.int IntKind.i64 (nth AV.undef p.snd.vals 2).toPV.toInt,
                                    AV.int IntKind.i64 (nth AV.undef p.snd.vals 3).toPV.toInt,
                                    AV.int IntKind.i64 ((IntKind.i64.wrap (nth AV.undef p.snd.vals 0).toPV.toInt).tmod 5),
                                    AV.sl 1 (nth (RV.p PV.nilp) r.fst 0).toPV.toEs,
                                    AV.int IntKind.i64 (nth AV.undef p.snd.vals 2).toPV.toInt],
                                blks := [] })
                            fun (p : Ex × Pack) =>
                            ctl (p.fst.eqb (Ex.exit 2))
                              (ctl
                                (okPack
                                  {
                                    slots :=
                                      [(6, Sum.inl (Sh.sl 3)), (8, Sum.inl (Sh.int IntKind.i64)),
                                        (11, Sum.inl (Sh.int IntKind.i64)), (12, Sum.inl (Sh.sl 1)),
                                        (13, Sum.inl (Sh.int IntKind.i64))],
                                    blks := [] }
                                  p.snd)
                                (bnd
                                  (F 13
                                    [AV.sl 3 (nth AV.undef p.snd.vals 0).toPV.toEs,
                                      AV.sl 1 (nth AV.undef p.snd.vals 3).toPV.toEs,
                                      AV.int IntKind.i64 (nth AV.undef p.snd.vals 4).toPV.toInt,
                                      AV.int IntKind.i64 (nth AV.undef p.snd.vals 2).toPV.toInt]
                                    [])
                                  fun (r : Res) =>
                                  ctl
                                    (okR
                                        [RSh.one (Sh.sl 3), RSh.one (Sh.int IntKind.i64)]
                                        r.fst &&
                                      okB [] r.snd)
                                    (bnd
                                      (ctl ((nth (RV.p PV.nilp) r.fst 1).toPV.toInt == 0)
                                        (bnd
                                          (F 18 [AV.sl 3 (nth AV.undef p.snd.vals 0).toPV.toEs] [])
                                          fun (r : Res) =>
                                          ctl
                                            (okR [RSh.one Sh.bool] r.fst && okB [] r.snd)
                                            (Option.some
                                              ((nth (RV.p PV.nilp) r.fst 0).toPV.toBool ==
                                                ltB (↑(nth AV.undef p.snd.vals 0).toPV.toEs.length : Int)
                                                  (IntKind.i64.wrap (2 * (nth AV.undef p.snd.vals 1).toPV.toInt))))
                                            Option.none)
                                        (Option.some Bool.false))
                                      fun (v : Bool) =>
                                      bnd
                                        (ctl v
                                          (bnd
                                            (F 18 [AV.sl 3 (nth AV.undef p.snd.vals 0).toPV.toEs] [])
                                            fun (r_1 : Res) =>
                                            ctl
                                              (okR [RSh.one Sh.bool] r_1.fst && okB [] r_1.snd)
                                              (ctl (!!(nth (RV.p PV.nilp) r_1.fst 0).toPV.toBool)
                                                (bnd
                                                  (F 19 [AV.sl 3 (nth AV.undef p.snd.vals 0).toPV.toEs] [])
                                                  fun (r_2 : Res) =>
                                                  ctl
                                                    (okR [RSh.one (Sh.int IntKind.i64)] r_2.fst &&
                                                      okB [] r_2.snd)
                                                    (bnd
                                                      (F 19
                                                        [AV.sl 3
                                                            (nth (RV.p PV.nilp) r.fst 0).toPV.toEs]
                                                        [])
                                                      fun (r : Res) =>
                                                      ctl
                                                        (okR [RSh.one (Sh.int IntKind.i64)] r.fst &&
                                                          okB [] r.snd)
                                                        (Option.some
                                                          ((nth (RV.p PV.nilp) r_2.fst 0).toPV.toInt ==
                                                            (nth (RV.p PV.nilp) r.fst 0).toPV.toInt))
                                                        Option.none)
                                                    Option.none)
                                                (Option.some Bool.true))
                                              Option.none)
                                          (Option.some Bool.false))
                                        fun (v : Bool) =>
                                        bnd
                                          (ctl v
                                            (bnd (F 8 [] []) fun (r : Res) =>
                                              ctl
                                                (okR [RSh.one Sh.bool] r.fst && okB [] r.snd)
                                                (Option.some (nth (RV.p PV.nilp) r.fst 0).toPV.toBool) Option.none)
                                            (Option.some Bool.false))
                                          fun (v : Bool) => Option.some ([RV.p (PV.bool v)], []))
                                    Option.none)
                                Option.none)
                              (ctl (p.fst.eqb Ex.ret)
                                (ctl (okPack { slots := [(4, Sum.inl Sh.bool)], blks := [] } p.snd)
                                  (Option.some
                                    ([RV.p (PV.bool (nth AV.undef p.snd.vals 0).toPV.toBool)],
                                      []))
                                  Option.none)
                                Option.none))
                          Option.none)
                      Option.none)
                    Option.none)
                Option.none)
            Option.none)
        Option.none) := by kernel_rfl

end Go.Proofs.Ythmhnnppikdafaa.Vm
