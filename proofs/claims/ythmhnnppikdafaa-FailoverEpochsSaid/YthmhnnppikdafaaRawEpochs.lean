/- The raw theorems, by program: what each function and each loop comes to. -/
import Derived.Test.YthmhnnppikdafaaEnv
import Derived.Test.YthmhnnppikdafaaVm34
import Derived.KernelRfl
namespace Go.Proofs.Ythmhnnppikdafaa.Vm
open Go
set_option maxRecDepth 100000
set_option linter.unusedVariables false

/-- dynpos/dynposlaw33.FailoverEpochs, the loop of block 0 -/
theorem r3_0 (F : Fun) (timeout6 : Int) (l7 : List (List PV)) (e8 : Int) (most9 : Int) (time10 : Int) (b0_0 : List (List PV)) (b0_1 : Int) : lp E F 3 0 [] 0
  {
    vals :=
      [AV.int IntKind.i64 timeout6, AV.sl 3 l7, AV.int IntKind.i64 e8,
        AV.int IntKind.i64 most9, AV.int IntKind.i64 time10],
    blks := [Blk.box [AV.sl 1 b0_0, AV.int IntKind.i64 b0_1]] } =
  bnd (ctl (ltB time10 14) (Option.some (e8 == 0)) (Option.some Bool.false)) fun (v : Bool) =>
    ctl v
      (bnd
        (F 12 [AV.t (TV.ptr 0 0), AV.sl 3 l7, AV.int IntKind.i64 time10]
          [Blk.box [AV.sl 1 b0_0, AV.int IntKind.i64 b0_1]])
        fun (r : Res) =>
        ctl
          (okR [RSh.one (Sh.sl 3)] r.fst &&
            okB [Sum.inl [Sh.sl 1, Sh.int IntKind.i64]] r.snd)
          (bnd
            (F 14
              [AV.t (TV.ptr 0 0),
                AV.int IntKind.i64 (↑(nth (RV.p PV.nilp) r.fst 0).toPV.toEs.length : Int)]
              [Blk.box
                  [AV.sl 1
                      (nth PV.nilp
                          (List.map AV.toPV (nth (Blk.box []) r.snd 0).toCs) 0).toEs,
                    AV.int IntKind.i64
                      (nth PV.nilp
                          (List.map AV.toPV (nth (Blk.box []) r.snd 0).toCs) 1).toInt]])
            fun (r_1 : Res) =>
            ctl
              (okR [RSh.one (Sh.sl 1)] r_1.fst &&
                okB [Sum.inl [Sh.sl 1, Sh.int IntKind.i64]] r_1.snd)
              (bnd
                (F 13
                  [AV.sl 3 (nth (RV.p PV.nilp) r.fst 0).toPV.toEs,
                    AV.sl 1 (nth (RV.p PV.nilp) r_1.fst 0).toPV.toEs,
                    AV.int IntKind.i64 time10, AV.int IntKind.i64 timeout6]
                  [])
                fun (r_2 : Res) =>
                ctl
                  (okR
                      [RSh.one (Sh.sl 3), RSh.one (Sh.int IntKind.i64)] r_2.fst &&
                    okB [] r_2.snd)
                  (bnd
                    (ctl (!(nth (RV.p PV.nilp) r_2.fst 1).toPV.toInt != 0)
                      (Option.some
                        ((↑(nth (RV.p PV.nilp) r_2.fst 0).toPV.toEs.length : Int) !=
                          (↑(nth (RV.p PV.nilp) r.fst 0).toPV.toEs.length : Int)))
                      (Option.some Bool.true))
                    fun (v : Bool) =>
                    ctl v (Option.some (Ex.ret, { vals := [AV.bool Bool.false], blks := [] }))
                      (bnd
                        (lp E F 3 0 [] 2
                          {
                            vals :=
                              [AV.int IntKind.i64 timeout6,
                                AV.sl 3 (nth (RV.p PV.nilp) r.fst 0).toPV.toEs,
                                AV.int IntKind.i64 e8, AV.int IntKind.i64 most9, AV.int IntKind.i64 time10,
                                AV.sl 3 (nth (RV.p PV.nilp) r_2.fst 0).toPV.toEs,
                                AV.int IntKind.i64 most9,
                                AV.sl 3 (nth (RV.p PV.nilp) r_2.fst 0).toPV.toEs,
                                AV.int IntKind.i64
                                  (↑(nth (RV.p PV.nilp) r_2.fst 0).toPV.toEs.length : Int),
                                AV.int IntKind.i64 0],
                            blks :=
                              [Blk.box
                                  [AV.sl 1
                                      (nth PV.nilp
                                          (List.map AV.toPV (nth (Blk.box []) r_1.snd 0).toCs) 0).toEs,
                                    AV.int IntKind.i64
                                      (nth PV.nilp
                                          (List.map AV.toPV (nth (Blk.box []) r_1.snd 0).toCs) 1).toInt],
                                Blk.tab Bool.true 0 []] })
                        fun (p : Ex × Pack) =>
                        ctl (p.fst.eqb (Ex.exit 2))
                          (ctl
                            (okPack
                              {
                                slots :=
                                  [(5, Sum.inr (Sum.inr (AV.t (TV.ptr 0 0)))), (6, Sum.inl (Sh.int IntKind.i64)),
                                    (8, Sum.inl (Sh.int IntKind.i64)), (9, Sum.inl (Sh.int IntKind.i64)),
                                    (10, Sum.inl (Sh.int IntKind.i64)), (11, Sum.inl (Sh.sl 3))],
                                blks := [Sum.inl [Sum.inl (Sh.sl 1), Sum.inl (Sh.int IntKind.i64)]] }
                              p.snd)
                            (lp E F 3 0 [] 0
                              {
                                vals :=
                                  [AV.int IntKind.i64 (nth AV.undef p.snd.vals 0).toPV.toInt,
                                    AV.sl 3 (nth AV.undef p.snd.vals 4).toPV.toEs,
                                    AV.int IntKind.i64 (nth AV.undef p.snd.vals 1).toPV.toInt,
                                    AV.int IntKind.i64 (nth AV.undef p.snd.vals 2).toPV.toInt,
                                    AV.int IntKind.i64 (IntKind.i64.wrap ((nth AV.undef p.snd.vals 3).toPV.toInt + 1))],
                                blks :=
                                  [Blk.box
                                      [AV.sl 1
                                          (nth AV.undef (nth (Blk.box []) p.snd.blks 0).toCs
                                                0).toPV.toEs,
                                        AV.int IntKind.i64
                                          (nth AV.undef (nth (Blk.box []) p.snd.blks 0).toCs
                                                1).toPV.toInt]] })
                            Option.none)
                          (ctl (p.fst.eqb Ex.ret)
                            (ctl (okPack { slots := [(4, Sum.inl Sh.bool)], blks := [] } p.snd)
                              (Option.some
                                (Ex.ret,
                                  { vals := [AV.bool (nth AV.undef p.snd.vals 0).toPV.toBool], blks := [] }))
                              Option.none)
                            Option.none)))
                  Option.none)
              Option.none)
          Option.none)
      (Option.some (Ex.exit 0, { vals := [AV.int IntKind.i64 e8], blks := [] })) := (lp_unfold ..).trans (by kernel_rfl)

/-- dynpos/dynposlaw33.FailoverEpochs, the loop of block 2 -/
theorem r3_2 (F : Fun) (timeout6 : Int) (l7 : List (List PV)) (e8 : Int) (most9 : Int) (time10 : Int) (n11 : List (List PV)) (was13 : Int) (x66 : List (List PV)) (x67 : Int) (x68 : Int) (b0_0 : List (List PV)) (b0_1 : Int) (c1 : List (Int × MV)) : lp E F 3 0 [] 2
  {
    vals :=
      [AV.int IntKind.i64 timeout6, AV.sl 3 l7, AV.int IntKind.i64 e8,
        AV.int IntKind.i64 most9, AV.int IntKind.i64 time10, AV.sl 3 n11,
        AV.int IntKind.i64 was13, AV.sl 3 x66, AV.int IntKind.i64 x67,
        AV.int IntKind.i64 x68],
    blks := [Blk.box [AV.sl 1 b0_0, AV.int IntKind.i64 b0_1], Blk.tab Bool.true 0 c1] } =
  ctl (ltB x68 x67)
    (getE x66 x68 fun (c : List PV) =>
      ctl
        (okCs [Sh.int IntKind.i64, Sh.int IntKind.i64, Sh.int IntKind.i64] c)
        (ctl ((nth PV.nilp c 0).toInt != 1)
          (lp E F 3 0 [] 2
            {
              vals :=
                [AV.int IntKind.i64 timeout6, AV.sl 3 l7, AV.int IntKind.i64 e8,
                  AV.int IntKind.i64 most9, AV.int IntKind.i64 time10, AV.sl 3 n11,
                  AV.int IntKind.i64 was13, AV.sl 3 x66, AV.int IntKind.i64 x67,
                  AV.int IntKind.i64 (IntKind.i64.wrap (x68 + 1))],
              blks :=
                [Blk.box [AV.sl 1 b0_0, AV.int IntKind.i64 b0_1], Blk.tab Bool.true 0 c1] })
          (ctl
            (MV.pvOk Sh.bool
              (kvGet (MV.pv (PV.bool Bool.false))
                (nth PV.nilp c 1).toInt c1))
            (ctl
              (kvGet (MV.pv (PV.bool Bool.false))
                    (nth PV.nilp c 1).toInt c1).toPV.toBool
              (Option.some (Ex.ret, { vals := [AV.bool Bool.false], blks := [] }))
              (getE l7 x68 fun (c_1 : List PV) =>
                ctl
                  (okCs [Sh.int IntKind.i64, Sh.int IntKind.i64, Sh.int IntKind.i64] c_1)
                  (ctl ((nth PV.nilp c_1 0).toInt != 1)
                    (ctl (leB (nth PV.nilp c 1).toInt was13)
                      (Option.some (Ex.ret, { vals := [AV.bool Bool.false], blks := [] }))
                      (lp E F 3 0 [] 2
                        {
                          vals :=
                            [AV.int IntKind.i64 timeout6, AV.sl 3 l7, AV.int IntKind.i64 e8,
                              AV.int IntKind.i64 (maxI (nth PV.nilp c 1).toInt most9),
                              AV.int IntKind.i64 time10, AV.sl 3 n11, AV.int IntKind.i64 was13,
                              AV.sl 3 x66, AV.int IntKind.i64 x67, AV.int IntKind.i64 (IntKind.i64.wrap (x68 + 1))],
                          blks :=
                            [Blk.box [AV.sl 1 b0_0, AV.int IntKind.i64 b0_1],
                              Blk.tab Bool.true 0
                                (kvPut (nth PV.nilp c 1).toInt
                                  (MV.pv (PV.bool Bool.true)) c1)] }))
                    (lp E F 3 0 [] 2
                      {
                        vals :=
                          [AV.int IntKind.i64 timeout6, AV.sl 3 l7, AV.int IntKind.i64 e8,
                            AV.int IntKind.i64 most9, AV.int IntKind.i64 time10, AV.sl 3 n11,
                            AV.int IntKind.i64 was13, AV.sl 3 x66, AV.int IntKind.i64 x67,
                            AV.int IntKind.i64 (IntKind.i64.wrap (x68 + 1))],
                        blks :=
                          [Blk.box [AV.sl 1 b0_0, AV.int IntKind.i64 b0_1],
                            Blk.tab Bool.true 0
                              (kvPut (nth PV.nilp c 1).toInt
                                (MV.pv (PV.bool Bool.true)) c1)] }))
                  Option.none))
            Option.none))
        Option.none)
    (Option.some
      (Ex.exit 2,
        {
          vals :=
            [AV.int IntKind.i64 timeout6, AV.int IntKind.i64 e8, AV.int IntKind.i64 most9,
              AV.int IntKind.i64 time10, AV.sl 3 n11],
          blks := [Blk.box [AV.sl 1 b0_0, AV.int IntKind.i64 b0_1]] })) := (lp_unfold ..).trans (by kernel_rfl)

/-- dynpos/dynposlaw33.FailoverEpochs -/
theorem r3 (F : Fun) (t : List (List PV)) (d : Int) : funK E F 3 [AV.sl 1 t, AV.int IntKind.u8 d] [] =
  ctl (ltB 600 (↑t.length : Int))
    (bnd (F 8 [] []) fun (r : Res) =>
      ctl (okR [RSh.one Sh.bool] r.fst && okB [] r.snd)
        (Option.some
          ([RV.p
                (PV.bool (nth (RV.p PV.nilp) r.fst 0).toPV.toBool)],
            []))
        Option.none)
    (bnd (F 9 [AV.sl 1 t] []) fun (r : Res) =>
      ctl
        (okR [RSh.ownp [Sh.sl 1, Sh.int IntKind.i64]] r.fst &&
          okB [] r.snd)
        (bnd
          (F 11 [AV.t (TV.ptr 0 0), AV.int IntKind.i64 1, AV.int IntKind.i64 5]
            [Blk.box
                [AV.sl 1
                    (nth PV.nilp (nth (RV.p PV.nilp) r.fst 0).toCs
                        0).toEs,
                  AV.int IntKind.i64
                    (nth PV.nilp (nth (RV.p PV.nilp) r.fst 0).toCs
                        1).toInt]])
          fun (r : Res) =>
          ctl
            (okR [RSh.one (Sh.int IntKind.i64)] r.fst &&
              okB [Sum.inl [Sh.sl 1, Sh.int IntKind.i64]] r.snd)
            (bnd
              (F 10 [AV.int IntKind.i64 (nth (RV.p PV.nilp) r.fst 0).toPV.toInt] [])
              fun (r_1 : Res) =>
              ctl
                (okR
                    [RSh.one (Sh.sl 3), RSh.one (Sh.int IntKind.i64)] r_1.fst &&
                  okB [] r_1.snd)
                (bnd
                  (lp E F 3 0 [] 0
                    {
                      vals :=
                        [AV.int IntKind.i64 ((IntKind.i64.wrap d).tmod 4),
                          AV.sl 3 (nth (RV.p PV.nilp) r_1.fst 0).toPV.toEs,
                          AV.int IntKind.i64 (nth (RV.p PV.nilp) r_1.fst 1).toPV.toInt,
                          AV.int IntKind.i64 0, AV.int IntKind.i64 0],
                      blks :=
                        [Blk.box
                            [AV.sl 1
                                (nth PV.nilp
                                    (List.map AV.toPV (nth (Blk.box []) r.snd 0).toCs) 0).toEs,
                              AV.int IntKind.i64
                                (nth PV.nilp
                                    (List.map AV.toPV (nth (Blk.box []) r.snd 0).toCs) 1).toInt]] })
                  fun (p : Ex × Pack) =>
                  ctl (p.fst.eqb (Ex.exit 0))
                    (ctl (okPack { slots := [(8, Sum.inl (Sh.int IntKind.i64))], blks := [] } p.snd)
                      (bnd
                        (ctl ((nth AV.undef p.snd.vals 0).toPV.toInt == 0)
                          (bnd (F 8 [] []) fun (r : Res) =>
                            ctl
                              (okR [RSh.one Sh.bool] r.fst && okB [] r.snd)
                              (Option.some (nth (RV.p PV.nilp) r.fst 0).toPV.toBool) Option.none)
                          (Option.some Bool.false))
                        fun (v : Bool) => Option.some ([RV.p (PV.bool v)], []))
                      Option.none)
                    (ctl (p.fst.eqb Ex.ret)
                      (ctl (okPack { slots := [(4, Sum.inl Sh.bool)], blks := [] } p.snd)
                        (Option.some
                          ([RV.p (PV.bool (nth AV.undef p.snd.vals 0).toPV.toBool)], []))
                        Option.none)
                      Option.none))
                Option.none)
            Option.none)
        Option.none) := by kernel_rfl

end Go.Proofs.Ythmhnnppikdafaa.Vm
