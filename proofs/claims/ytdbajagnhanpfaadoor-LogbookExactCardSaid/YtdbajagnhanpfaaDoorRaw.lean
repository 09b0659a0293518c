/- The raw theorems, by program: what each function and each loop comes to. -/
import Derived.Test.YtdbajagnhanpfaaDoorEnv
import Derived.Test.YtdbajagnhanpfaaDoorVm34
import Derived.KernelRfl
namespace Go.Proofs.YtdbajagnhanpfaaDoor.Vm
open Go
set_option maxRecDepth 100000
set_option linter.unusedVariables false

/-- dynpos/logbook.words -/
theorem r47 (F : Fun) (kind : Int) : funK E F 47 [AV.int IntKind.i64 kind] [] =
  ctl (kind == 1)
    (ctl (kind == 1) (Option.some ([RV.p (PV.int IntKind.i64 1)], []))
      (ctl (kind == 4)
        (ctl (kind == 4) (Option.some ([RV.p (PV.int IntKind.i64 2)], []))
          (ctl (kind == 6) (Option.some ([RV.p (PV.int IntKind.i64 4)], []))
            (ctl (kind == 8) (Option.some ([RV.p (PV.int IntKind.i64 3)], []))
              (Option.some ([RV.p (PV.int IntKind.i64 (-1))], [])))))
        (ctl (kind == 5)
          (ctl (kind == 5) (Option.some ([RV.p (PV.int IntKind.i64 2)], []))
            (ctl (kind == 6) (Option.some ([RV.p (PV.int IntKind.i64 4)], []))
              (ctl (kind == 8) (Option.some ([RV.p (PV.int IntKind.i64 3)], []))
                (Option.some ([RV.p (PV.int IntKind.i64 (-1))], [])))))
          (ctl (kind == 7) (Option.some ([RV.p (PV.int IntKind.i64 2)], []))
            (ctl (kind == 6) (Option.some ([RV.p (PV.int IntKind.i64 4)], []))
              (ctl (kind == 8) (Option.some ([RV.p (PV.int IntKind.i64 3)], []))
                (Option.some ([RV.p (PV.int IntKind.i64 (-1))], []))))))))
    (ctl (kind == 2)
      (ctl (kind == 2) (Option.some ([RV.p (PV.int IntKind.i64 1)], []))
        (ctl (kind == 4)
          (ctl (kind == 4) (Option.some ([RV.p (PV.int IntKind.i64 2)], []))
            (ctl (kind == 6) (Option.some ([RV.p (PV.int IntKind.i64 4)], []))
              (ctl (kind == 8) (Option.some ([RV.p (PV.int IntKind.i64 3)], []))
                (Option.some ([RV.p (PV.int IntKind.i64 (-1))], [])))))
          (ctl (kind == 5)
            (ctl (kind == 5) (Option.some ([RV.p (PV.int IntKind.i64 2)], []))
              (ctl (kind == 6) (Option.some ([RV.p (PV.int IntKind.i64 4)], []))
                (ctl (kind == 8) (Option.some ([RV.p (PV.int IntKind.i64 3)], []))
                  (Option.some ([RV.p (PV.int IntKind.i64 (-1))], [])))))
            (ctl (kind == 7) (Option.some ([RV.p (PV.int IntKind.i64 2)], []))
              (ctl (kind == 6) (Option.some ([RV.p (PV.int IntKind.i64 4)], []))
                (ctl (kind == 8) (Option.some ([RV.p (PV.int IntKind.i64 3)], []))
                  (Option.some ([RV.p (PV.int IntKind.i64 (-1))], []))))))))
      (ctl (kind == 3) (Option.some ([RV.p (PV.int IntKind.i64 1)], []))
        (ctl (kind == 4)
          (ctl (kind == 4) (Option.some ([RV.p (PV.int IntKind.i64 2)], []))
            (ctl (kind == 6) (Option.some ([RV.p (PV.int IntKind.i64 4)], []))
              (ctl (kind == 8) (Option.some ([RV.p (PV.int IntKind.i64 3)], []))
                (Option.some ([RV.p (PV.int IntKind.i64 (-1))], [])))))
          (ctl (kind == 5)
            (ctl (kind == 5) (Option.some ([RV.p (PV.int IntKind.i64 2)], []))
              (ctl (kind == 6) (Option.some ([RV.p (PV.int IntKind.i64 4)], []))
                (ctl (kind == 8) (Option.some ([RV.p (PV.int IntKind.i64 3)], []))
                  (Option.some ([RV.p (PV.int IntKind.i64 (-1))], [])))))
            (ctl (kind == 7) (Option.some ([RV.p (PV.int IntKind.i64 2)], []))
              (ctl (kind == 6) (Option.some ([RV.p (PV.int IntKind.i64 4)], []))
                (ctl (kind == 8) (Option.some ([RV.p (PV.int IntKind.i64 3)], []))
                  (Option.some ([RV.p (PV.int IntKind.i64 (-1))], []))))))))) := by kernel_rfl

/-- dynpos/dynposref36.words -/
theorem r49 (F : Fun) (kind : Int) : funK E F 49 [AV.int IntKind.i64 kind] [] =
  bnd (ctl (!ltB kind 1) (Option.some (ltB 8 kind)) (Option.some Bool.true))
    fun (v : Bool) =>
    ctl v (Option.some ([RV.p (PV.int IntKind.i64 (-1))], []))
      (getE
        [[PV.int IntKind.i64 (-1)], [PV.int IntKind.i64 1], [PV.int IntKind.i64 1],
          [PV.int IntKind.i64 1], [PV.int IntKind.i64 2], [PV.int IntKind.i64 2],
          [PV.int IntKind.i64 4], [PV.int IntKind.i64 2], [PV.int IntKind.i64 3]]
        kind fun (c : List PV) =>
        ctl (okCs [Sh.int IntKind.i64] c)
          (Option.some
            ([RV.p (PV.int IntKind.i64 (nth PV.nilp c 0).toInt)], []))
          Option.none) := by kernel_rfl

/-- dynpos/logbook.Valid -/
theorem r25 (F : Fun) (e0 : Int) (e1 : Int) (e2 : List (List PV)) : funK E F 25 [AV.agg [PV.int IntKind.i64 e0, PV.int IntKind.i64 e1, PV.sl 1 e2]] [] =
  bnd (ctl (leB 0 e0) (Option.some (leB e0 2147483648)) (Option.some Bool.false))
    fun (v : Bool) =>
    bnd
      (ctl v
        (bnd (F 47 [AV.int IntKind.i64 e1] []) fun (r : Res) =>
          ctl
            (okR [RSh.one (Sh.int IntKind.i64)] r.fst && okB [] r.snd)
            (Option.some ((↑e2.length : Int) == (nth (RV.p PV.nilp) r.fst 0).toPV.toInt)) Option.none)
        (Option.some Bool.false))
      fun (v : Bool) =>
      bnd
        (ctl v
          (bnd (F 48 [AV.int IntKind.i64 1000000000, AV.sl 1 e2] [])
            fun (r : Res) =>
            ctl
              (okR [RSh.one Sh.bool] r.fst && okB [] r.snd)
              (Option.some (nth (RV.p PV.nilp) r.fst 0).toPV.toBool) Option.none)
          (Option.some Bool.false))
        fun (v : Bool) => Option.some ([RV.p (PV.bool v)], []) := by kernel_rfl

/-- dynpos/dynposref36.Valid, the loop of block 0 -/
theorem r26_0 (F : Fun) (x29 : List (List PV)) (x30 : Int) (x31 : Int) : lp E F 26 0 [] 0
  { vals := [AV.sl 1 x29, AV.int IntKind.i64 x30, AV.int IntKind.i64 x31], blks := [] } =
  ctl (ltB x31 x30)
    (getE x29 x31 fun (c : List PV) =>
      ctl (okCs [Sh.int IntKind.i64] c)
        (bnd
          (ctl (!ltB (nth PV.nilp c 0).toInt (-1000000000))
            (Option.some (ltB 1000000000 (nth PV.nilp c 0).toInt)) (Option.some Bool.true))
          fun (v : Bool) =>
          ctl v (Option.some (Ex.ret, { vals := [AV.bool Bool.false], blks := [] }))
            (lp E F 26 0 [] 0
              {
                vals :=
                  [AV.sl 1 x29, AV.int IntKind.i64 x30, AV.int IntKind.i64 (IntKind.i64.wrap (x31 + 1))],
                blks := [] }))
        Option.none)
    (Option.some (Ex.exit 0, { vals := [], blks := [] })) := (lp_unfold ..).trans (by kernel_rfl)

/-- dynpos/dynposref36.Valid -/
theorem r26 (F : Fun) (e0 : Int) (e1 : Int) (e2 : List (List PV)) : funK E F 26 [AV.agg [PV.int IntKind.i64 e0, PV.int IntKind.i64 e1, PV.sl 1 e2]] [] =
  bnd (ctl (!ltB e0 0) (Option.some (ltB 2147483648 e0)) (Option.some Bool.true))
    fun (v : Bool) =>
    bnd
      (ctl (!v)
        (bnd (F 49 [AV.int IntKind.i64 e1] []) fun (r : Res) =>
          ctl
            (okR [RSh.one (Sh.int IntKind.i64)] r.fst && okB [] r.snd)
            (Option.some (ltB (nth (RV.p PV.nilp) r.fst 0).toPV.toInt 0))
            Option.none)
        (Option.some Bool.true))
      fun (v : Bool) =>
      bnd
        (ctl (!v)
          (bnd (F 49 [AV.int IntKind.i64 e1] []) fun (r : Res) =>
            ctl
              (okR [RSh.one (Sh.int IntKind.i64)] r.fst && okB [] r.snd)
              (Option.some ((↑e2.length : Int) != (nth (RV.p PV.nilp) r.fst 0).toPV.toInt)) Option.none)
          (Option.some Bool.true))
        fun (v : Bool) =>
        ctl v (Option.some ([RV.p (PV.bool Bool.false)], []))
          (bnd
            (lp E F 26 0 [] 0
              { vals := [AV.sl 1 e2, AV.int IntKind.i64 (↑e2.length : Int), AV.int IntKind.i64 0],
                blks := [] })
            fun (p : Ex × Pack) =>
            ctl (p.fst.eqb (Ex.exit 0))
              (Option.some ([RV.p (PV.bool Bool.true)], []))
              (ctl (p.fst.eqb Ex.ret)
                (ctl (okPack { slots := [(2, Sum.inl Sh.bool)], blks := [] } p.snd)
                  (Option.some
                    ([RV.p (PV.bool (nth AV.undef p.snd.vals 0).toPV.toBool)],
                      []))
                  Option.none)
                Option.none)) := by kernel_rfl

/-- dynpos/quotient.Within, the loop of block 0 -/
theorem r48_0 (F : Fun) (most0 : Int) (x7 : List (List PV)) (x8 : Int) (x9 : Int) : lp E F 48 0 [] 0
  {
    vals :=
      [AV.int IntKind.i64 most0, AV.sl 1 x7, AV.int IntKind.i64 x8,
        AV.int IntKind.i64 x9],
    blks := [] } =
  ctl (ltB x9 x8)
    (getE x7 x9 fun (c : List PV) =>
      ctl (okCs [Sh.int IntKind.i64] c)
        (bnd
          (ctl (!ltB (nth PV.nilp c 0).toInt (IntKind.i64.wrap (0 - most0)))
            (Option.some (ltB most0 (nth PV.nilp c 0).toInt)) (Option.some Bool.true))
          fun (v : Bool) =>
          ctl v (Option.some (Ex.ret, { vals := [AV.bool Bool.false], blks := [] }))
            (lp E F 48 0 [] 0
              {
                vals :=
                  [AV.int IntKind.i64 most0, AV.sl 1 x7, AV.int IntKind.i64 x8,
                    AV.int IntKind.i64 (IntKind.i64.wrap (x9 + 1))],
                blks := [] }))
        Option.none)
    (Option.some (Ex.exit 0, { vals := [], blks := [] })) := (lp_unfold ..).trans (by kernel_rfl)

/-- dynpos/quotient.Within -/
theorem r48 (F : Fun) (most : Int) (l : List (List PV)) : funK E F 48 [AV.int IntKind.i64 most, AV.sl 1 l] [] =
  bnd
    (lp E F 48 0 [] 0
      {
        vals :=
          [AV.int IntKind.i64 most, AV.sl 1 l, AV.int IntKind.i64 (↑l.length : Int),
            AV.int IntKind.i64 0],
        blks := [] })
    fun (p : Ex × Pack) =>
    ctl (p.fst.eqb (Ex.exit 0)) (Option.some ([RV.p (PV.bool Bool.true)], []))
      (ctl (p.fst.eqb Ex.ret)
        (ctl (okPack { slots := [(4, Sum.inl Sh.bool)], blks := [] } p.snd)
          (Option.some
            ([RV.p (PV.bool (nth AV.undef p.snd.vals 0).toPV.toBool)], []))
          Option.none)
        Option.none) := by kernel_rfl

/-- dynpos/logbook.line, the loop of block 0 -/
theorem r40_0 (F : Fun) (x14 : List (List PV)) (x15 : Int) (x16 : Int) (c0 : List (List PV)) : lp E F 40 0 [] 0
  { vals := [AV.sl 1 x14, AV.int IntKind.i64 x15, AV.int IntKind.i64 x16],
    blks := [Blk.arr 1 c0] } =
  ctl (ltB x16 x15)
    (getE x14 x16 fun (c : List PV) =>
      ctl (okCs [Sh.int IntKind.i64] c)
        (bnd (F 59 [AV.int IntKind.i64 (nth PV.nilp c 0).toInt] [])
          fun (r : Res) =>
          ctl
            (okR [RSh.one Sh.str] r.fst && okB [] r.snd)
            (ctl (leN ((c0.length + 1) * 16) 140737488355328)
              (lp E F 40 0 [] 0
                {
                  vals :=
                    [AV.sl 1 x14, AV.int IntKind.i64 x15, AV.int IntKind.i64 (IntKind.i64.wrap (x16 + 1))],
                  blks :=
                    [Blk.arr 1
                        (c0 ++
                          [[PV.str (nth (RV.p PV.nilp) r.fst 0).toPV.toStr]])] })
              Option.none)
            Option.none)
        Option.none)
    (Option.some (Ex.exit 0, { vals := [], blks := [Blk.arr 1 c0] })) := (lp_unfold ..).trans (by kernel_rfl)

/-- dynpos/logbook.line -/
theorem r40 (F : Fun) (e0 : Int) (e1 : Int) (e2 : List (List PV)) : funK E F 40 [AV.agg [PV.int IntKind.i64 e0, PV.int IntKind.i64 e1, PV.sl 1 e2]] [] =
  bnd (F 59 [AV.int IntKind.i64 e0] []) fun (r : Res) =>
    ctl
      (okR [RSh.one Sh.str] r.fst && okB [] r.snd)
      (bnd (F 59 [AV.int IntKind.i64 e1] []) fun (r_1 : Res) =>
        ctl
          (okR [RSh.one Sh.str] r_1.fst && okB [] r_1.snd)
          (bnd
            (lp E F 40 0 [] 0
              { vals := [AV.sl 1 e2, AV.int IntKind.i64 (↑e2.length : Int), AV.int IntKind.i64 0],
                blks :=
                  [Blk.arr 1
                      [[PV.str (nth (RV.p PV.nilp) r.fst 0).toPV.toStr],
                        [PV.str (nth (RV.p PV.nilp) r_1.fst 0).toPV.toStr]]] })
            fun (p : Ex × Pack) =>
            ctl (p.fst.eqb (Ex.exit 0))
              (ctl
                (okPack { slots := [(3, Sum.inr (Sum.inr (AV.t (TV.hsl 0))))], blks := [Sum.inr 1] } p.snd)
                (bnd
                  (F 61
                    [AV.sl 1 (nth (Blk.box []) p.snd.blks 0).toEs, AV.str [32]]
                    [])
                  fun (r : Res) =>
                  ctl
                    (okR [RSh.one Sh.str] r.fst && okB [] r.snd &&
                      (noslR r.fst && noslB r.snd))
                    (ctl
                      (leN ((nth (RV.p PV.nilp) r.fst 0).toPV.toStr.length + 1)
                        9223372036854775807)
                      (Option.some
                        ([RV.p
                              (PV.str
                                ((nth (RV.p PV.nilp) r.fst 0).toPV.toStr ++ [10]))],
                          []))
                      Option.none)
                    Option.none)
                Option.none)
              Option.none)
          Option.none)
      Option.none := by kernel_rfl

/-- dynpos/dynposref36.line, the loop of block 0 -/
theorem r35_0 (F : Fun) (s3 : List UInt8) (x15 : List (List PV)) (x16 : Int) (x17 : Int) : lp E F 35 0 [] 0
  {
    vals :=
      [AV.str s3, AV.sl 1 x15, AV.int IntKind.i64 x16,
        AV.int IntKind.i64 x17],
    blks := [] } =
  ctl (ltB x17 x16)
    (getE x15 x17 fun (c : List PV) =>
      ctl (okCs [Sh.int IntKind.i64] c)
        (bnd (F 59 [AV.int IntKind.i64 (nth PV.nilp c 0).toInt] [])
          fun (r : Res) =>
          ctl
            (okR [RSh.one Sh.str] r.fst && okB [] r.snd)
            (ctl
              (leN (1 + (nth (RV.p PV.nilp) r.fst 0).toPV.toStr.length)
                9223372036854775807)
              (ctl
                (leN
                  (s3.length + ([32] ++ (nth (RV.p PV.nilp) r.fst 0).toPV.toStr).length) 9223372036854775807)
                (lp E F 35 0 [] 0
                  {
                    vals :=
                      [AV.str
                          (s3 ++ ([32] ++ (nth (RV.p PV.nilp) r.fst 0).toPV.toStr)),
                        AV.sl 1 x15, AV.int IntKind.i64 x16,
                        AV.int IntKind.i64 (IntKind.i64.wrap (x17 + 1))],
                    blks := [] })
                Option.none)
              Option.none)
            Option.none)
        Option.none)
    (Option.some (Ex.exit 0, { vals := [AV.str s3], blks := [] })) := (lp_unfold ..).trans (by kernel_rfl)

/-- dynpos/dynposref36.line -/
theorem r35 (F : Fun) (e0 : Int) (e1 : Int) (e2 : List (List PV)) : funK E F 35 [AV.agg [PV.int IntKind.i64 e0, PV.int IntKind.i64 e1, PV.sl 1 e2]] [] =
  bnd (F 59 [AV.int IntKind.i64 e0] []) fun (r : Res) =>
    ctl
      (okR [RSh.one Sh.str] r.fst && okB [] r.snd)
      (ctl
        (leN ((nth (RV.p PV.nilp) r.fst 0).toPV.toStr.length + 1)
          9223372036854775807)
        (bnd (F 59 [AV.int IntKind.i64 e1] []) fun (r_1 : Res) =>
          ctl
            (okR [RSh.one Sh.str] r_1.fst && okB [] r_1.snd)
            (ctl
              (leN
                (((nth (RV.p PV.nilp) r.fst 0).toPV.toStr ++ [32]).length +
                  (nth (RV.p PV.nilp) r_1.fst 0).toPV.toStr.length)
                9223372036854775807)
              (bnd
                (lp E F 35 0 [] 0
                  {
                    vals :=
                      [AV.str
                          ((nth (RV.p PV.nilp) r.fst 0).toPV.toStr ++ [32] ++
                            (nth (RV.p PV.nilp) r_1.fst 0).toPV.toStr),
                        AV.sl 1 e2, AV.int IntKind.i64 (↑e2.length : Int), AV.int IntKind.i64 0],
                    blks := [] })
                fun (p : Ex × Pack) =>
                ctl (p.fst.eqb (Ex.exit 0))
                  (ctl (okPack { slots := [(3, Sum.inl Sh.str)], blks := [] } p.snd)
                    (ctl
                      (leN ((nth AV.undef p.snd.vals 0).toPV.toStr.length + 1) 9223372036854775807)
                      (Option.some
                        ([RV.p
                              (PV.str ((nth AV.undef p.snd.vals 0).toPV.toStr ++ [10]))],
                          []))
                      Option.none)
                    Option.none)
                  Option.none)
              Option.none)
            Option.none)
        Option.none)
      Option.none := by kernel_rfl

/-- dynpos/dynposref36.Line -/
theorem r8 (F : Fun) (e0 : Int) (e1 : Int) (e2 : List (List PV)) : funK E F 8 [AV.agg [PV.int IntKind.i64 e0, PV.int IntKind.i64 e1, PV.sl 1 e2]] [] =
  bnd
    (F 26
      [AV.agg [PV.int IntKind.i64 e0, PV.int IntKind.i64 e1, PV.sl 1 e2]]
      [])
    fun (r : Res) =>
    ctl
      (okR [RSh.one Sh.bool] r.fst && okB [] r.snd)
      (ctl (!(nth (RV.p PV.nilp) r.fst 0).toPV.toBool)
        (Option.some ([RV.p (PV.str []), RV.p (PV.int IntKind.i64 72)], []))
        (bnd
          (F 35
            [AV.agg
                [PV.int IntKind.i64 e0, PV.int IntKind.i64 e1, PV.sl 1 e2]]
            [])
          fun (r : Res) =>
          ctl
            (okR [RSh.one Sh.str] r.fst && okB [] r.snd)
            (Option.some
              ([RV.p
                    (PV.str (nth (RV.p PV.nilp) r.fst 0).toPV.toStr),
                  RV.p (PV.int IntKind.i64 0)],
                []))
            Option.none))
      Option.none := by kernel_rfl

/-- dynpos/logbook.Line -/
theorem r23 (F : Fun) (e0 : Int) (e1 : Int) (e2 : List (List PV)) : funK E F 23 [AV.agg [PV.int IntKind.i64 e0, PV.int IntKind.i64 e1, PV.sl 1 e2]] [] =
  bnd
    (F 25
      [AV.agg [PV.int IntKind.i64 e0, PV.int IntKind.i64 e1, PV.sl 1 e2]]
      [])
    fun (r : Res) =>
    ctl
      (okR [RSh.one Sh.bool] r.fst && okB [] r.snd)
      (ctl (!(nth (RV.p PV.nilp) r.fst 0).toPV.toBool)
        (Option.some ([RV.p (PV.str []), RV.p (PV.int IntKind.i64 72)], []))
        (bnd
          (F 40
            [AV.agg
                [PV.int IntKind.i64 e0, PV.int IntKind.i64 e1, PV.sl 1 e2]]
            [])
          fun (r : Res) =>
          ctl
            (okR [RSh.one Sh.str] r.fst && okB [] r.snd)
            (Option.some
              ([RV.p
                    (PV.str (nth (RV.p PV.nilp) r.fst 0).toPV.toStr),
                  RV.p (PV.int IntKind.i64 0)],
                []))
            Option.none))
      Option.none := by kernel_rfl

/-- dynpos/logbook.late -/
theorem r36 (F : Fun) (b0 : List (List PV)) (b1 : Int) (e0 : Int) (e1 : Int) (e2 : List (List PV)) : funK E F 36 [AV.agg [PV.sl 3 b0, PV.int IntKind.u64 b1],
  AV.agg [PV.int IntKind.i64 e0, PV.int IntKind.i64 e1, PV.sl 1 e2]] [] =
  bnd
    (ctl (!(↑b0.length : Int) == 0)
      (getE b0 (IntKind.i64.wrap ((↑b0.length : Int) - 1)) fun (c : List PV) =>
        ctl
          (okCs [Sh.int IntKind.i64, Sh.int IntKind.i64, Sh.sl 1] c)
          (Option.some (leB (nth PV.nilp c 0).toInt e0)) Option.none)
      (Option.some Bool.true))
    fun (v : Bool) => Option.some ([RV.p (PV.bool v)], []) := by kernel_rfl

/-- dynpos/logbook.Check, the loop of block 0 -/
theorem r19_0 (F : Fun) (sum3 : Int) (x12 : List (List PV)) (x13 : Int) (x14 : Int) (b0_0 : List (List PV)) (b0_1 : Int) : lp E F 19 0 [] 0
  {
    vals :=
      [AV.int IntKind.u64 sum3, AV.sl 3 x12, AV.int IntKind.i64 x13,
        AV.int IntKind.i64 x14],
    blks := [Blk.box [AV.sl 3 b0_0, AV.int IntKind.u64 b0_1]] } =
  ctl (ltB x14 x13)
    (getE x12 x14 fun (c : List PV) =>
      ctl
        (okCs [Sh.int IntKind.i64, Sh.int IntKind.i64, Sh.sl 1] c)
        (bnd
          (F 25
            [AV.agg
                [PV.int IntKind.i64 (nth PV.nilp c 0).toInt,
                  PV.int IntKind.i64 (nth PV.nilp c 1).toInt,
                  PV.sl 1 (nth PV.nilp c 2).toEs]]
            [])
          fun (r : Res) =>
          ctl
            (okR [RSh.one Sh.bool] r.fst && okB [] r.snd)
            (bnd
              (ctl (!!(nth (RV.p PV.nilp) r.fst 0).toPV.toBool)
                (ctl (ltB 0 x14)
                  (getE b0_0 (IntKind.i64.wrap (x14 - 1)) fun (c_1 : List PV) =>
                    ctl
                      (okCs
                        [Sh.int IntKind.i64, Sh.int IntKind.i64, Sh.sl 1] c_1)
                      (Option.some
                        (ltB (nth PV.nilp c 0).toInt
                          (nth PV.nilp c_1 0).toInt))
                      Option.none)
                  (Option.some Bool.false))
                (Option.some Bool.true))
              fun (v : Bool) =>
              ctl v (Option.some (Ex.ret, { vals := [AV.int IntKind.i64 72], blks := [] }))
                (bnd
                  (F 40
                    [AV.agg
                        [PV.int IntKind.i64 (nth PV.nilp c 0).toInt,
                          PV.int IntKind.i64 (nth PV.nilp c 1).toInt,
                          PV.sl 1 (nth PV.nilp c 2).toEs]]
                    [])
                  fun (r : Res) =>
                  ctl
                    (okR [RSh.one Sh.str] r.fst && okB [] r.snd)
                    (bnd
                      (F 39
                        [AV.int IntKind.u64 sum3,
                          AV.str (nth (RV.p PV.nilp) r.fst 0).toPV.toStr]
                        [])
                      fun (r : Res) =>
                      ctl
                        (okR [RSh.one (Sh.int IntKind.u64)] r.fst &&
                          okB [] r.snd)
                        (lp E F 19 0 [] 0
                          {
                            vals :=
                              [AV.int IntKind.u64
                                  (nth (RV.p PV.nilp) r.fst 0).toPV.toInt,
                                AV.sl 3 x12, AV.int IntKind.i64 x13,
                                AV.int IntKind.i64 (IntKind.i64.wrap (x14 + 1))],
                            blks := [Blk.box [AV.sl 3 b0_0, AV.int IntKind.u64 b0_1]] })
                        Option.none)
                    Option.none))
            Option.none)
        Option.none)
    (Option.some
      (Ex.exit 0,
        { vals := [AV.int IntKind.u64 sum3],
          blks := [Blk.box [AV.sl 3 b0_0, AV.int IntKind.u64 b0_1]] })) := (lp_unfold ..).trans (by kernel_rfl)

/-- dynpos/logbook.Check -/
theorem r19 (F : Fun) (b0 : List (List PV)) (b1 : Int) : funK E F 19 [AV.agg [PV.sl 3 b0, PV.int IntKind.u64 b1]] [] =
  ctl (ltB 200 (↑b0.length : Int))
    (Option.some ([RV.p (PV.int IntKind.i64 72)], []))
    (bnd (F 45 [] []) fun (r : Res) =>
      ctl
        (okR [RSh.one (Sh.int IntKind.u64)] r.fst && okB [] r.snd)
        (bnd
          (lp E F 19 0 [] 0
            {
              vals :=
                [AV.int IntKind.u64 (nth (RV.p PV.nilp) r.fst 0).toPV.toInt,
                  AV.sl 3 b0, AV.int IntKind.i64 (↑b0.length : Int), AV.int IntKind.i64 0],
              blks := [Blk.box [AV.sl 3 b0, AV.int IntKind.u64 b1]] })
          fun (p : Ex × Pack) =>
          ctl (p.fst.eqb (Ex.exit 0))
            (ctl
              (okPack
                { slots := [(1, Sum.inr (Sum.inr (AV.t (TV.ptr 0 0)))), (3, Sum.inl (Sh.int IntKind.u64))],
                  blks := [Sum.inl [Sum.inl (Sh.sl 3), Sum.inl (Sh.int IntKind.u64)]] }
                p.snd)
              (ctl
                ((nth AV.undef p.snd.vals 0).toPV.toInt !=
                  (nth AV.undef (nth (Blk.box []) p.snd.blks 0).toCs
                        1).toPV.toInt)
                (Option.some ([RV.p (PV.int IntKind.i64 72)], []))
                (Option.some ([RV.p (PV.int IntKind.i64 0)], [])))
              Option.none)
            (ctl (p.fst.eqb Ex.ret)
              (ctl (okPack { slots := [(2, Sum.inl (Sh.int IntKind.i64))], blks := [] } p.snd)
                (Option.some
                  ([RV.p
                        (PV.int IntKind.i64 (nth AV.undef p.snd.vals 0).toPV.toInt)],
                    []))
                Option.none)
              Option.none))
        Option.none) := by kernel_rfl

/-- dynpos/dynposref36.Check, the loop of block 0 -/
theorem r21_0 (F : Fun) (sum3 : Int) (x11 : List (List PV)) (x12 : Int) (x13 : Int) (b0_0 : List (List PV)) (b0_1 : Int) : lp E F 21 0 [] 0
  {
    vals :=
      [AV.int IntKind.u64 sum3, AV.sl 3 x11, AV.int IntKind.i64 x12,
        AV.int IntKind.i64 x13],
    blks := [Blk.box [AV.sl 3 b0_0, AV.int IntKind.u64 b0_1]] } =
  ctl (ltB x13 x12)
    (getE x11 x13 fun (c : List PV) =>
      ctl
        (okCs [Sh.int IntKind.i64, Sh.int IntKind.i64, Sh.sl 1] c)
        (bnd
          (F 26
            [AV.agg
                [PV.int IntKind.i64 (nth PV.nilp c 0).toInt,
                  PV.int IntKind.i64 (nth PV.nilp c 1).toInt,
                  PV.sl 1 (nth PV.nilp c 2).toEs]]
            [])
          fun (r : Res) =>
          ctl
            (okR [RSh.one Sh.bool] r.fst && okB [] r.snd)
            (bnd
              (ctl (!!(nth (RV.p PV.nilp) r.fst 0).toPV.toBool)
                (ctl (ltB 0 x13)
                  (getE b0_0 (IntKind.i64.wrap (x13 - 1)) fun (c_1 : List PV) =>
                    ctl
                      (okCs
                        [Sh.int IntKind.i64, Sh.int IntKind.i64, Sh.sl 1] c_1)
                      (Option.some
                        (ltB (nth PV.nilp c 0).toInt
                          (nth PV.nilp c_1 0).toInt))
                      Option.none)
                  (Option.some Bool.false))
                (Option.some Bool.true))
              fun (v : Bool) =>
              ctl v (Option.some (Ex.ret, { vals := [AV.int IntKind.i64 72], blks := [] }))
                (bnd
                  (F 35
                    [AV.agg
                        [PV.int IntKind.i64 (nth PV.nilp c 0).toInt,
                          PV.int IntKind.i64 (nth PV.nilp c 1).toInt,
                          PV.sl 1 (nth PV.nilp c 2).toEs]]
                    [])
                  fun (r : Res) =>
                  ctl
                    (okR [RSh.one Sh.str] r.fst && okB [] r.snd)
                    (bnd
                      (F 9
                        [AV.int IntKind.u64 sum3,
                          AV.str (nth (RV.p PV.nilp) r.fst 0).toPV.toStr]
                        [])
                      fun (r : Res) =>
                      ctl
                        (okR [RSh.one (Sh.int IntKind.u64)] r.fst &&
                          okB [] r.snd)
                        (lp E F 21 0 [] 0
                          {
                            vals :=
                              [AV.int IntKind.u64
                                  (nth (RV.p PV.nilp) r.fst 0).toPV.toInt,
                                AV.sl 3 x11, AV.int IntKind.i64 x12,
                                AV.int IntKind.i64 (IntKind.i64.wrap (x13 + 1))],
                            blks := [Blk.box [AV.sl 3 b0_0, AV.int IntKind.u64 b0_1]] })
                        Option.none)
                    Option.none))
            Option.none)
        Option.none)
    (Option.some
      (Ex.exit 0,
        { vals := [AV.int IntKind.u64 sum3],
          blks := [Blk.box [AV.sl 3 b0_0, AV.int IntKind.u64 b0_1]] })) := (lp_unfold ..).trans (by kernel_rfl)

/-- dynpos/dynposref36.Check -/
theorem r21 (F : Fun) (b0 : List (List PV)) (b1 : Int) : funK E F 21 [AV.agg [PV.sl 3 b0, PV.int IntKind.u64 b1]] [] =
  ctl (ltB 200 (↑b0.length : Int))
    (Option.some ([RV.p (PV.int IntKind.i64 72)], []))
    (bnd
      (lp E F 21 0 [] 0
        {
          vals :=
            [AV.int IntKind.u64 14695981039346656037, AV.sl 3 b0, AV.int IntKind.i64 (↑b0.length : Int),
              AV.int IntKind.i64 0],
          blks := [Blk.box [AV.sl 3 b0, AV.int IntKind.u64 b1]] })
      fun (p : Ex × Pack) =>
      ctl (p.fst.eqb (Ex.exit 0))
        (ctl
          (okPack
            { slots := [(1, Sum.inr (Sum.inr (AV.t (TV.ptr 0 0)))), (3, Sum.inl (Sh.int IntKind.u64))],
              blks := [Sum.inl [Sum.inl (Sh.sl 3), Sum.inl (Sh.int IntKind.u64)]] }
            p.snd)
          (ctl
            ((nth AV.undef p.snd.vals 0).toPV.toInt !=
              (nth AV.undef (nth (Blk.box []) p.snd.blks 0).toCs 1).toPV.toInt)
            (Option.some ([RV.p (PV.int IntKind.i64 72)], []))
            (Option.some ([RV.p (PV.int IntKind.i64 0)], [])))
          Option.none)
        (ctl (p.fst.eqb Ex.ret)
          (ctl (okPack { slots := [(2, Sum.inl (Sh.int IntKind.i64))], blks := [] } p.snd)
            (Option.some
              ([RV.p
                    (PV.int IntKind.i64 (nth AV.undef p.snd.vals 0).toPV.toInt)],
                []))
            Option.none)
          Option.none)) := by kernel_rfl

/-- dynpos/dynposref36.Append -/
theorem r22 (F : Fun) (b0 : List (List PV)) (b1 : Int) (e0 : Int) (e1 : Int) (e2 : List (List PV)) : funK E F 22 [AV.agg [PV.sl 3 b0, PV.int IntKind.u64 b1],
  AV.agg [PV.int IntKind.i64 e0, PV.int IntKind.i64 e1, PV.sl 1 e2]] [] =
  bnd (F 21 [AV.agg [PV.sl 3 b0, PV.int IntKind.u64 b1]] [])
    fun (r : Res) =>
    ctl
      (okR [RSh.one (Sh.int IntKind.i64)] r.fst && okB [] r.snd)
      (bnd
        (ctl (!(nth (RV.p PV.nilp) r.fst 0).toPV.toInt != 0)
          (bnd
            (F 26
              [AV.agg
                  [PV.int IntKind.i64 e0, PV.int IntKind.i64 e1, PV.sl 1 e2]]
              [])
            fun (r : Res) =>
            ctl
              (okR [RSh.one Sh.bool] r.fst && okB [] r.snd)
              (Option.some !(nth (RV.p PV.nilp) r.fst 0).toPV.toBool) Option.none)
          (Option.some Bool.true))
        fun (v : Bool) =>
        ctl v
          (Option.some
            ([RV.agg [PV.nils, PV.int IntKind.u64 0],
                RV.p (PV.int IntKind.i64 72)],
              []))
          (bnd
            (ctl (ltB 0 (↑b0.length : Int))
              (getE b0 (IntKind.i64.wrap ((↑b0.length : Int) - 1)) fun (c : List PV) =>
                ctl
                  (okCs [Sh.int IntKind.i64, Sh.int IntKind.i64, Sh.sl 1] c)
                  (Option.some (ltB e0 (nth PV.nilp c 0).toInt)) Option.none)
              (Option.some Bool.false))
            fun (v : Bool) =>
            ctl v
              (Option.some
                ([RV.agg [PV.nils, PV.int IntKind.u64 0],
                    RV.p (PV.int IntKind.i64 16)],
                  []))
              (ctl ((↑b0.length : Int) == 200)
                (Option.some
                  ([RV.agg [PV.nils, PV.int IntKind.u64 0],
                      RV.p (PV.int IntKind.i64 2)],
                    []))
                (ctl (leN (b0.length * 40) 140737488355328)
                  (ctl (leN ((b0.length + 1) * 40) 140737488355328)
                    (bnd
                      (F 35
                        [AV.agg
                            [PV.int IntKind.i64 e0, PV.int IntKind.i64 e1, PV.sl 1 e2]]
                        [])
                      fun (r : Res) =>
                      ctl
                        (okR [RSh.one Sh.str] r.fst && okB [] r.snd)
                        (bnd
                          (F 9
                            [AV.int IntKind.u64 b1,
                              AV.str (nth (RV.p PV.nilp) r.fst 0).toPV.toStr]
                            [])
                          fun (r : Res) =>
                          ctl
                            (okR [RSh.one (Sh.int IntKind.u64)] r.fst &&
                              okB [] r.snd)
                            (Option.some
                              ([RV.agg
                                    [PV.sl 3
                                        (b0 ++ [[PV.int IntKind.i64 e0, PV.int IntKind.i64 e1, PV.sl 1 e2]]),
                                      PV.int IntKind.u64
                                        (nth (RV.p PV.nilp) r.fst 0).toPV.toInt],
                                  RV.p (PV.int IntKind.i64 0)],
                                []))
                            Option.none)
                        Option.none)
                    Option.none)
                  Option.none))))
      Option.none := by kernel_rfl

/-- dynpos/logbook.copyEntry -/
theorem r38 (F : Fun) (e0 : Int) (e1 : Int) (e2 : List (List PV)) : funK E F 38 [AV.agg [PV.int IntKind.i64 e0, PV.int IntKind.i64 e1, PV.sl 1 e2]] [] =
  bnd (F 60 [AV.sl 1 e2] []) fun (r : Res) =>
    ctl
      (okR [RSh.one (Sh.sl 1)] r.fst && okB [] r.snd)
      (Option.some
        ([RV.agg
              [PV.int IntKind.i64 e0, PV.int IntKind.i64 e1,
                PV.sl 1 (nth (RV.p PV.nilp) r.fst 0).toPV.toEs]],
          []))
      Option.none := by kernel_rfl

/-- dynpos/logbook.New -/
theorem r34 (F : Fun) : funK E F 34 [] [] =
  Option.some ([RV.agg [PV.nils, PV.int IntKind.u64 14695981039346656037]], []) := by kernel_rfl

/-- dynpos/dynposref36.New -/
theorem r7 (F : Fun) : funK E F 7 [] [] =
  Option.some ([RV.agg [PV.nils, PV.int IntKind.u64 14695981039346656037]], []) := by kernel_rfl

/-- dynpos/logbook.last -/
theorem r52 (F : Fun) (b0 : List (List PV)) (b1 : Int) : funK E F 52 [AV.agg [PV.sl 3 b0, PV.int IntKind.u64 b1]] [] =
  bnd (F 65 [AV.int IntKind.u64 b1, AV.int IntKind.i64 10] [])
    fun (r : Res) =>
    ctl
      (okR [RSh.one Sh.str] r.fst && okB [] r.snd)
      (ctl
        (leN (2 + (nth (RV.p PV.nilp) r.fst 0).toPV.toStr.length)
          9223372036854775807)
        (ctl
          (leN (([61, 32] ++ (nth (RV.p PV.nilp) r.fst 0).toPV.toStr).length + 1)
            9223372036854775807)
          (Option.some
            ([RV.p
                  (PV.str
                    ([61, 32] ++ (nth (RV.p PV.nilp) r.fst 0).toPV.toStr ++ [10]))],
              []))
          Option.none)
        Option.none)
      Option.none := by kernel_rfl

/-- dynpos/dynposref36.last -/
theorem r53 (F : Fun) (b0 : List (List PV)) (b1 : Int) : funK E F 53 [AV.agg [PV.sl 3 b0, PV.int IntKind.u64 b1]] [] =
  bnd (F 65 [AV.int IntKind.u64 b1, AV.int IntKind.i64 10] [])
    fun (r : Res) =>
    ctl
      (okR [RSh.one Sh.str] r.fst && okB [] r.snd)
      (ctl
        (leN (2 + (nth (RV.p PV.nilp) r.fst 0).toPV.toStr.length)
          9223372036854775807)
        (ctl
          (leN (([61, 32] ++ (nth (RV.p PV.nilp) r.fst 0).toPV.toStr).length + 1)
            9223372036854775807)
          (Option.some
            ([RV.p
                  (PV.str
                    ([61, 32] ++ (nth (RV.p PV.nilp) r.fst 0).toPV.toStr ++ [10]))],
              []))
          Option.none)
        Option.none)
      Option.none := by kernel_rfl

/-- dynpos/logbook.Begin -/
theorem r45 (F : Fun) : funK E F 45 [] [] =
  Option.some ([RV.p (PV.int IntKind.u64 14695981039346656037)], []) := by kernel_rfl

/-- slices.Clone[[]int,int] -/
theorem r60c (F : Fun) (e : List PV) (l : List (List PV)) : funK E F 60 [AV.sl 1 (e :: l)] [] =
  ctl (leN ((0 + (e :: l).length) * 8) 140737488355328)
    (Option.some ([RV.p (PV.sl 1 ([] ++ e :: l))], [])) Option.none := by kernel_rfl

/-- dynpos/logbook.state -/
theorem r41 (F : Fun) (kind : Int) : funK E F 41 [AV.int IntKind.i64 kind] [] =
  bnd (F 47 [AV.int IntKind.i64 kind] []) fun (r : Res) =>
    ctl
      (okR [RSh.one (Sh.int IntKind.i64)] r.fst && okB [] r.snd)
      (Option.some
        ([RV.p
              (PV.bool ((nth (RV.p PV.nilp) r.fst 0).toPV.toInt == 1))],
          []))
      Option.none := by kernel_rfl

/-- dynpos/dynposref36.timed -/
theorem r54 (F : Fun) (kind : Int) : funK E F 54 [AV.int IntKind.i64 kind] [] =
  bnd (ctl (!kind == 1) (Option.some (kind == 2)) (Option.some Bool.true)) fun (v : Bool) =>
    bnd (ctl (!v) (Option.some (kind == 3)) (Option.some Bool.true)) fun (v : Bool) =>
      Option.some ([RV.p (PV.bool v)], []) := by kernel_rfl

/-- dynpos/logbook.At -/
theorem r16 (F : Fun) (b0 : List (List PV)) (b1 : Int) (kind : Int) (time : Int) : funK E F 16 [AV.agg [PV.sl 3 b0, PV.int IntKind.u64 b1], AV.int IntKind.i64 kind,
  AV.int IntKind.i64 time] [] =
  bnd (F 41 [AV.int IntKind.i64 kind] []) fun (r : Res) =>
    ctl
      (okR [RSh.one Sh.bool] r.fst && okB [] r.snd)
      (bnd
        (ctl (!!(nth (RV.p PV.nilp) r.fst 0).toPV.toBool)
          (bnd (F 19 [AV.agg [PV.sl 3 b0, PV.int IntKind.u64 b1]] [])
            fun (r : Res) =>
            ctl
              (okR [RSh.one (Sh.int IntKind.i64)] r.fst && okB [] r.snd)
              (Option.some ((nth (RV.p PV.nilp) r.fst 0).toPV.toInt != 0)) Option.none)
          (Option.some Bool.true))
        fun (v : Bool) =>
        ctl v
          (Option.some
            ([RV.p (PV.int IntKind.i64 0), RV.p (PV.bool Bool.false)], []))
          (bnd
            (F 42
              [AV.agg [PV.sl 3 b0, PV.int IntKind.u64 b1],
                AV.int IntKind.i64 kind, AV.int IntKind.i64 time]
              [])
            fun (r : Res) =>
            ctl
              (okR
                  [RSh.one (Sh.int IntKind.i64), RSh.one Sh.bool] r.fst &&
                okB [] r.snd)
              (Option.some
                ([RV.p
                      (PV.int IntKind.i64
                        (nth (RV.p PV.nilp) r.fst 0).toPV.toInt),
                    RV.p
                      (PV.bool (nth (RV.p PV.nilp) r.fst 1).toPV.toBool)],
                  []))
              Option.none))
      Option.none := by kernel_rfl

/-- dynpos/dynposref36.At -/
theorem r29 (F : Fun) (b0 : List (List PV)) (b1 : Int) (kind : Int) (time : Int) : funK E F 29 [AV.agg [PV.sl 3 b0, PV.int IntKind.u64 b1], AV.int IntKind.i64 kind,
  AV.int IntKind.i64 time] [] =
  bnd (F 54 [AV.int IntKind.i64 kind] []) fun (r : Res) =>
    ctl
      (okR [RSh.one Sh.bool] r.fst && okB [] r.snd)
      (bnd
        (ctl (!!(nth (RV.p PV.nilp) r.fst 0).toPV.toBool)
          (bnd (F 21 [AV.agg [PV.sl 3 b0, PV.int IntKind.u64 b1]] [])
            fun (r : Res) =>
            ctl
              (okR [RSh.one (Sh.int IntKind.i64)] r.fst && okB [] r.snd)
              (Option.some ((nth (RV.p PV.nilp) r.fst 0).toPV.toInt != 0)) Option.none)
          (Option.some Bool.true))
        fun (v : Bool) =>
        ctl v
          (Option.some
            ([RV.p (PV.int IntKind.i64 0), RV.p (PV.bool Bool.false)], []))
          (bnd
            (F 55
              [AV.agg [PV.sl 3 b0, PV.int IntKind.u64 b1],
                AV.int IntKind.i64 kind, AV.int IntKind.i64 time]
              [])
            fun (r : Res) =>
            ctl
              (okR
                  [RSh.one (Sh.int IntKind.i64), RSh.one Sh.bool] r.fst &&
                okB [] r.snd)
              (Option.some
                ([RV.p
                      (PV.int IntKind.i64
                        (nth (RV.p PV.nilp) r.fst 0).toPV.toInt),
                    RV.p
                      (PV.bool (nth (RV.p PV.nilp) r.fst 1).toPV.toBool)],
                  []))
              Option.none))
      Option.none := by kernel_rfl

/-- dynpos/dynposref36.at, the loop of block 0 -/
theorem r55_0 (F : Fun) (kind1 : Int) (time2 : Int) (v8 : Int) (ok9 : Bool) (x13 : List (List PV)) (x14 : Int) (x15 : Int) : lp E F 55 0 [] 0
  {
    vals :=
      [AV.int IntKind.i64 kind1, AV.int IntKind.i64 time2, AV.int IntKind.i64 v8,
        AV.bool ok9, AV.sl 3 x13, AV.int IntKind.i64 x14,
        AV.int IntKind.i64 x15],
    blks := [] } =
  ctl (ltB x15 x14)
    (getE x13 x15 fun (c : List PV) =>
      ctl
        (okCs [Sh.int IntKind.i64, Sh.int IntKind.i64, Sh.sl 1] c)
        (bnd
          (ctl ((nth PV.nilp c 1).toInt == kind1)
            (Option.some (leB (nth PV.nilp c 0).toInt time2)) (Option.some Bool.false))
          fun (v : Bool) =>
          ctl v
            (getE (nth PV.nilp c 2).toEs 0 fun (c : List PV) =>
              ctl (okCs [Sh.int IntKind.i64] c)
                (lp E F 55 0 [] 0
                  {
                    vals :=
                      [AV.int IntKind.i64 kind1, AV.int IntKind.i64 time2,
                        AV.int IntKind.i64 (nth PV.nilp c 0).toInt,
                        AV.bool Bool.true, AV.sl 3 x13, AV.int IntKind.i64 x14,
                        AV.int IntKind.i64 (IntKind.i64.wrap (x15 + 1))],
                    blks := [] })
                Option.none)
            (lp E F 55 0 [] 0
              {
                vals :=
                  [AV.int IntKind.i64 kind1, AV.int IntKind.i64 time2, AV.int IntKind.i64 v8,
                    AV.bool ok9, AV.sl 3 x13, AV.int IntKind.i64 x14,
                    AV.int IntKind.i64 (IntKind.i64.wrap (x15 + 1))],
                blks := [] }))
        Option.none)
    (Option.some (Ex.exit 0, { vals := [AV.int IntKind.i64 v8, AV.bool ok9], blks := [] })) := (lp_unfold ..).trans (by kernel_rfl)

/-- dynpos/dynposref36.at -/
theorem r55 (F : Fun) (b0 : List (List PV)) (b1 : Int) (kind : Int) (time : Int) : funK E F 55 [AV.agg [PV.sl 3 b0, PV.int IntKind.u64 b1], AV.int IntKind.i64 kind,
  AV.int IntKind.i64 time] [] =
  bnd
    (lp E F 55 0 [] 0
      {
        vals :=
          [AV.int IntKind.i64 kind, AV.int IntKind.i64 time, AV.int IntKind.i64 0,
            AV.bool Bool.false, AV.sl 3 b0, AV.int IntKind.i64 (↑b0.length : Int),
            AV.int IntKind.i64 0],
        blks := [] })
    fun (p : Ex × Pack) =>
    ctl (p.fst.eqb (Ex.exit 0))
      (ctl
        (okPack { slots := [(8, Sum.inl (Sh.int IntKind.i64)), (9, Sum.inl Sh.bool)], blks := [] } p.snd)
        (Option.some
          ([RV.p (PV.int IntKind.i64 (nth AV.undef p.snd.vals 0).toPV.toInt),
              RV.p (PV.bool (nth AV.undef p.snd.vals 1).toPV.toBool)],
            []))
        Option.none)
      Option.none := by kernel_rfl

/-- dynpos/logbook.Spans, the loop of block 0 -/
theorem r15_0 (F : Fun) (kind1 : Int) (from2 : Int) (to3 : Int) (x56 : List (List PV)) (x57 : Int) (x58 : Int) (b0_0 : List (List PV)) (b0_1 : Int) (c1 : List (List PV)) : lp E F 15 0 [] 0
  {
    vals :=
      [AV.int IntKind.i64 kind1, AV.int IntKind.i64 from2, AV.int IntKind.i64 to3,
        AV.sl 3 x56, AV.int IntKind.i64 x57, AV.int IntKind.i64 x58],
    blks := [Blk.box [AV.sl 3 b0_0, AV.int IntKind.u64 b0_1], Blk.arr 3 c1] } =
  ctl (ltB x58 x57)
    (getE x56 x58 fun (c : List PV) =>
      ctl
        (okCs [Sh.int IntKind.i64, Sh.int IntKind.i64, Sh.sl 1] c)
        (bnd
          (ctl (!(nth PV.nilp c 1).toInt != kind1)
            (Option.some (leB (nth PV.nilp c 0).toInt from2)) (Option.some Bool.true))
          fun (v : Bool) =>
          bnd
            (ctl (!v) (Option.some (leB to3 (nth PV.nilp c 0).toInt))
              (Option.some Bool.true))
            fun (v : Bool) =>
            ctl v
              (lp E F 15 0 [] 0
                {
                  vals :=
                    [AV.int IntKind.i64 kind1, AV.int IntKind.i64 from2, AV.int IntKind.i64 to3,
                      AV.sl 3 x56, AV.int IntKind.i64 x57, AV.int IntKind.i64 (IntKind.i64.wrap (x58 + 1))],
                  blks :=
                    [Blk.box [AV.sl 3 b0_0, AV.int IntKind.u64 b0_1],
                      Blk.arr 3 c1] })
              (ctl
                (leB 0 (IntKind.i64.wrap ((↑c1.length : Int) - 1)) && ltB (IntKind.i64.wrap ((↑c1.length : Int) - 1)) (↑c1.length : Int))
                (bnd
                  (F 42
                    [AV.agg [PV.sl 3 b0_0, PV.int IntKind.u64 b0_1],
                      AV.int IntKind.i64 kind1,
                      AV.int IntKind.i64 (nth PV.nilp c 0).toInt]
                    [])
                  fun (r : Res) =>
                  ctl
                    (okR
                        [RSh.one (Sh.int IntKind.i64), RSh.one Sh.bool]
                        r.fst &&
                      okB [] r.snd)
                    (ctl
                      (okCs [Sh.int IntKind.i64]
                        (List.take 1 (List.drop 2 (nth [] c1 (IntKind.i64.wrap ((↑c1.length : Int) - 1)).toNat))))
                      (ctl
                        ((nth (RV.p PV.nilp) r.fst 0).toPV.toInt !=
                          (nth PV.nilp (nth [] c1 (IntKind.i64.wrap ((↑c1.length : Int) - 1)).toNat) 2).toInt)
                        (ctl
                          (leN
                            (((setEs c1 (IntKind.i64.wrap ((↑c1.length : Int) - 1)).toNat 1
                                    [PV.int IntKind.i64 (nth PV.nilp c 0).toInt]).length +
                                1) *
                              24)
                            140737488355328)
                          (lp E F 15 0 [] 0
                            {
                              vals :=
                                [AV.int IntKind.i64 kind1, AV.int IntKind.i64 from2, AV.int IntKind.i64 to3,
                                  AV.sl 3 x56, AV.int IntKind.i64 x57,
                                  AV.int IntKind.i64 (IntKind.i64.wrap (x58 + 1))],
                              blks :=
                                [Blk.box [AV.sl 3 b0_0, AV.int IntKind.u64 b0_1],
                                  Blk.arr 3
                                    (setEs c1 (IntKind.i64.wrap ((↑c1.length : Int) - 1)).toNat 1
                                        [PV.int IntKind.i64 (nth PV.nilp c 0).toInt] ++
                                      [[PV.int IntKind.i64 (nth PV.nilp c 0).toInt,
                                          PV.int IntKind.i64 to3,
                                          PV.int IntKind.i64
                                            (nth (RV.p PV.nilp) r.fst 0).toPV.toInt]])] })
                          Option.none)
                        (lp E F 15 0 [] 0
                          {
                            vals :=
                              [AV.int IntKind.i64 kind1, AV.int IntKind.i64 from2, AV.int IntKind.i64 to3,
                                AV.sl 3 x56, AV.int IntKind.i64 x57,
                                AV.int IntKind.i64 (IntKind.i64.wrap (x58 + 1))],
                            blks :=
                              [Blk.box [AV.sl 3 b0_0, AV.int IntKind.u64 b0_1],
                                Blk.arr 3 c1] }))
                      Option.none)
                    Option.none)
                Option.none))
        Option.none)
    (Option.some (Ex.exit 0, { vals := [], blks := [Blk.arr 3 c1] })) := (lp_unfold ..).trans (by kernel_rfl)

/-- dynpos/logbook.Spans -/
theorem r15 (F : Fun) (b0 : List (List PV)) (b1 : Int) (kind : Int) (zfrom : Int) (to : Int) : funK E F 15 [AV.agg [PV.sl 3 b0, PV.int IntKind.u64 b1], AV.int IntKind.i64 kind,
  AV.int IntKind.i64 zfrom, AV.int IntKind.i64 to] [] =
  bnd (F 19 [AV.agg [PV.sl 3 b0, PV.int IntKind.u64 b1]] [])
    fun (r : Res) =>
    ctl
      (okR [RSh.one (Sh.int IntKind.i64)] r.fst && okB [] r.snd)
      (ctl ((nth (RV.p PV.nilp) r.fst 0).toPV.toInt != 0)
        (Option.some
          ([RV.own 3 [],
              RV.p
                (PV.int IntKind.i64 (nth (RV.p PV.nilp) r.fst 0).toPV.toInt)],
            []))
        (bnd (F 41 [AV.int IntKind.i64 kind] []) fun (r : Res) =>
          ctl
            (okR [RSh.one Sh.bool] r.fst && okB [] r.snd)
            (bnd
              (ctl (!!(nth (RV.p PV.nilp) r.fst 0).toPV.toBool)
                (Option.some (ltB zfrom 0)) (Option.some Bool.true))
              fun (v : Bool) =>
              bnd (ctl (!v) (Option.some (ltB to zfrom)) (Option.some Bool.true)) fun (v : Bool) =>
                bnd (ctl (!v) (Option.some (ltB 2147483648 to)) (Option.some Bool.true)) fun (v : Bool) =>
                  ctl v
                    (Option.some ([RV.own 3 [], RV.p (PV.int IntKind.i64 1)], []))
                    (ctl (zfrom == to)
                      (Option.some ([RV.own 3 [], RV.p (PV.int IntKind.i64 0)], []))
                      (bnd
                        (F 42
                          [AV.agg [PV.sl 3 b0, PV.int IntKind.u64 b1],
                            AV.int IntKind.i64 kind, AV.int IntKind.i64 zfrom]
                          [])
                        fun (r : Res) =>
                        ctl
                          (okR
                              [RSh.one (Sh.int IntKind.i64), RSh.one Sh.bool]
                              r.fst &&
                            okB [] r.snd)
                          (bnd
                            (lp E F 15 0 [] 0
                              {
                                vals :=
                                  [AV.int IntKind.i64 kind, AV.int IntKind.i64 zfrom,
                                    AV.int IntKind.i64 to, AV.sl 3 b0, AV.int IntKind.i64 (↑b0.length : Int),
                                    AV.int IntKind.i64 0],
                                blks :=
                                  [Blk.box [AV.sl 3 b0, AV.int IntKind.u64 b1],
                                    Blk.arr 3
                                      [[PV.int IntKind.i64 zfrom, PV.int IntKind.i64 to,
                                          PV.int IntKind.i64
                                            (nth (RV.p PV.nilp) r.fst 0).toPV.toInt]]] })
                            fun (p : Ex × Pack) =>
                            ctl (p.fst.eqb (Ex.exit 0))
                              (ctl
                                (okPack { slots := [(13, Sum.inr (Sum.inr (AV.t (TV.hsl 0))))], blks := [Sum.inr 3] }
                                  p.snd)
                                (Option.some
                                  ([RV.own 3 (nth (Blk.box []) p.snd.blks 0).toEs,
                                      RV.p (PV.int IntKind.i64 0)],
                                    []))
                                Option.none)
                              Option.none)
                          Option.none)))
            Option.none))
      Option.none := by kernel_rfl

/-- dynpos/dynposref36.Spans, the loop of block 0 -/
theorem r30_0 (F : Fun) (kind1 : Int) (from2 : Int) (to3 : Int) (x45 : List (List PV)) (x46 : Int) (x47 : Int) (b0_0 : List (List PV)) (b0_1 : Int) (c1 : List (List PV)) : lp E F 30 0 [] 0
  {
    vals :=
      [AV.int IntKind.i64 kind1, AV.int IntKind.i64 from2, AV.int IntKind.i64 to3,
        AV.sl 3 x45, AV.int IntKind.i64 x46, AV.int IntKind.i64 x47],
    blks := [Blk.box [AV.sl 3 b0_0, AV.int IntKind.u64 b0_1], Blk.arr 1 c1] } =
  ctl (ltB x47 x46)
    (getE x45 x47 fun (c : List PV) =>
      ctl
        (okCs [Sh.int IntKind.i64, Sh.int IntKind.i64, Sh.sl 1] c)
        (bnd
          (ctl (ltB from2 (nth PV.nilp c 0).toInt)
            (Option.some (ltB (nth PV.nilp c 0).toInt to3)) (Option.some Bool.false))
          fun (v : Bool) =>
          bnd
            (ctl v
              (bnd
                (F 56 [AV.sl 1 c1, AV.int IntKind.i64 (nth PV.nilp c 0).toInt]
                  [])
                fun (r : Res) =>
                ctl
                  (okR [RSh.one Sh.bool] r.fst && okB [] r.snd &&
                    (noslR r.fst && noslB r.snd))
                  (Option.some !(nth (RV.p PV.nilp) r.fst 0).toPV.toBool) Option.none)
              (Option.some Bool.false))
            fun (v : Bool) =>
            ctl v
              (ctl (leN ((c1.length + 1) * 8) 140737488355328)
                (lp E F 30 0 [] 0
                  {
                    vals :=
                      [AV.int IntKind.i64 kind1, AV.int IntKind.i64 from2, AV.int IntKind.i64 to3,
                        AV.sl 3 x45, AV.int IntKind.i64 x46,
                        AV.int IntKind.i64 (IntKind.i64.wrap (x47 + 1))],
                    blks :=
                      [Blk.box [AV.sl 3 b0_0, AV.int IntKind.u64 b0_1],
                        Blk.arr 1
                          (c1 ++ [[PV.int IntKind.i64 (nth PV.nilp c 0).toInt]])] })
                Option.none)
              (lp E F 30 0 [] 0
                {
                  vals :=
                    [AV.int IntKind.i64 kind1, AV.int IntKind.i64 from2, AV.int IntKind.i64 to3,
                      AV.sl 3 x45, AV.int IntKind.i64 x46, AV.int IntKind.i64 (IntKind.i64.wrap (x47 + 1))],
                  blks :=
                    [Blk.box [AV.sl 3 b0_0, AV.int IntKind.u64 b0_1],
                      Blk.arr 1 c1] }))
        Option.none)
    (Option.some
      (Ex.exit 0,
        { vals := [AV.int IntKind.i64 kind1, AV.int IntKind.i64 to3, AV.sl 1 c1],
          blks := [Blk.box [AV.sl 3 b0_0, AV.int IntKind.u64 b0_1]] })) := (lp_unfold ..).trans (by kernel_rfl)

/-- dynpos/dynposref36.Spans, the loop of block 2 -/
theorem r30_2 (F : Fun) (kind1 : Int) (to3 : Int) (marks11 : List (List PV)) (x74 : List (List PV)) (x75 : Int) (x76 : Int) (b0_0 : List (List PV)) (b0_1 : Int) (c1 : List (List PV)) : lp E F 30 0 [] 2
  {
    vals :=
      [AV.int IntKind.i64 kind1, AV.int IntKind.i64 to3, AV.sl 1 marks11,
        AV.sl 1 x74, AV.int IntKind.i64 x75, AV.int IntKind.i64 x76],
    blks := [Blk.box [AV.sl 3 b0_0, AV.int IntKind.u64 b0_1], Blk.arr 3 c1] } =
  ctl (ltB x76 x75)
    (getE x74 x76 fun (c : List PV) =>
      ctl (okCs [Sh.int IntKind.i64] c)
        (ctl (ltB (IntKind.i64.wrap (x76 + 1)) (↑marks11.length : Int))
          (getE marks11 (IntKind.i64.wrap (x76 + 1)) fun (c_1 : List PV) =>
            ctl (okCs [Sh.int IntKind.i64] c_1)
              (bnd
                (F 55
                  [AV.agg [PV.sl 3 b0_0, PV.int IntKind.u64 b0_1],
                    AV.int IntKind.i64 kind1,
                    AV.int IntKind.i64 (nth PV.nilp c 0).toInt]
                  [])
                fun (r : Res) =>
                ctl
                  (okR
                      [RSh.one (Sh.int IntKind.i64), RSh.one Sh.bool] r.fst &&
                    okB [] r.snd)
                  (bnd
                    (ctl (ltB 0 (↑c1.length : Int))
                      (ctl
                        (leB 0 (IntKind.i64.wrap ((↑c1.length : Int) - 1)) && ltB (IntKind.i64.wrap ((↑c1.length : Int) - 1)) (↑c1.length : Int))
                        (ctl
                          (okCs [Sh.int IntKind.i64]
                            (List.take 1 (List.drop 2 (nth [] c1 (IntKind.i64.wrap ((↑c1.length : Int) - 1)).toNat))))
                          (Option.some
                            ((nth PV.nilp (nth [] c1 (IntKind.i64.wrap ((↑c1.length : Int) - 1)).toNat)
                                  2).toInt ==
                              (nth (RV.p PV.nilp) r.fst 0).toPV.toInt))
                          Option.none)
                        Option.none)
                      (Option.some Bool.false))
                    fun (v : Bool) =>
                    ctl v
                      (ctl
                        (leB 0 (IntKind.i64.wrap ((↑c1.length : Int) - 1)) && ltB (IntKind.i64.wrap ((↑c1.length : Int) - 1)) (↑c1.length : Int))
                        (lp E F 30 0 [] 2
                          {
                            vals :=
                              [AV.int IntKind.i64 kind1, AV.int IntKind.i64 to3, AV.sl 1 marks11,
                                AV.sl 1 x74, AV.int IntKind.i64 x75,
                                AV.int IntKind.i64 (IntKind.i64.wrap (x76 + 1))],
                            blks :=
                              [Blk.box [AV.sl 3 b0_0, AV.int IntKind.u64 b0_1],
                                Blk.arr 3
                                  (setEs c1 (IntKind.i64.wrap ((↑c1.length : Int) - 1)).toNat 1
                                    [PV.int IntKind.i64 (nth PV.nilp c_1 0).toInt])] })
                        Option.none)
                      (ctl
                        (ltB (nth PV.nilp c 0).toInt
                          (nth PV.nilp c_1 0).toInt)
                        (ctl (leN ((c1.length + 1) * 24) 140737488355328)
                          (lp E F 30 0 [] 2
                            {
                              vals :=
                                [AV.int IntKind.i64 kind1, AV.int IntKind.i64 to3, AV.sl 1 marks11,
                                  AV.sl 1 x74, AV.int IntKind.i64 x75,
                                  AV.int IntKind.i64 (IntKind.i64.wrap (x76 + 1))],
                              blks :=
                                [Blk.box [AV.sl 3 b0_0, AV.int IntKind.u64 b0_1],
                                  Blk.arr 3
                                    (c1 ++
                                      [[PV.int IntKind.i64 (nth PV.nilp c 0).toInt,
                                          PV.int IntKind.i64 (nth PV.nilp c_1 0).toInt,
                                          PV.int IntKind.i64
                                            (nth (RV.p PV.nilp) r.fst 0).toPV.toInt]])] })
                          Option.none)
                        (lp E F 30 0 [] 2
                          {
                            vals :=
                              [AV.int IntKind.i64 kind1, AV.int IntKind.i64 to3, AV.sl 1 marks11,
                                AV.sl 1 x74, AV.int IntKind.i64 x75,
                                AV.int IntKind.i64 (IntKind.i64.wrap (x76 + 1))],
                            blks :=
                              [Blk.box [AV.sl 3 b0_0, AV.int IntKind.u64 b0_1],
                                Blk.arr 3 c1] })))
                  Option.none)
              Option.none)
          (bnd
            (F 55
              [AV.agg [PV.sl 3 b0_0, PV.int IntKind.u64 b0_1],
                AV.int IntKind.i64 kind1,
                AV.int IntKind.i64 (nth PV.nilp c 0).toInt]
              [])
            fun (r : Res) =>
            ctl
              (okR
                  [RSh.one (Sh.int IntKind.i64), RSh.one Sh.bool] r.fst &&
                okB [] r.snd)
              (bnd
                (ctl (ltB 0 (↑c1.length : Int))
                  (ctl
                    (leB 0 (IntKind.i64.wrap ((↑c1.length : Int) - 1)) && ltB (IntKind.i64.wrap ((↑c1.length : Int) - 1)) (↑c1.length : Int))
                    (ctl
                      (okCs [Sh.int IntKind.i64]
                        (List.take 1 (List.drop 2 (nth [] c1 (IntKind.i64.wrap ((↑c1.length : Int) - 1)).toNat))))
                      (Option.some
                        ((nth PV.nilp (nth [] c1 (IntKind.i64.wrap ((↑c1.length : Int) - 1)).toNat) 2).toInt ==
                          (nth (RV.p PV.nilp) r.fst 0).toPV.toInt))
                      Option.none)
                    Option.none)
                  (Option.some Bool.false))
                fun (v : Bool) =>
                ctl v
                  (ctl
                    (leB 0 (IntKind.i64.wrap ((↑c1.length : Int) - 1)) && ltB (IntKind.i64.wrap ((↑c1.length : Int) - 1)) (↑c1.length : Int))
                    (lp E F 30 0 [] 2
                      {
                        vals :=
                          [AV.int IntKind.i64 kind1, AV.int IntKind.i64 to3, AV.sl 1 marks11,
                            AV.sl 1 x74, AV.int IntKind.i64 x75,
                            AV.int IntKind.i64 (IntKind.i64.wrap (x76 + 1))],
                        blks :=
                          [Blk.box [AV.sl 3 b0_0, AV.int IntKind.u64 b0_1],
                            Blk.arr 3
                              (setEs c1 (IntKind.i64.wrap ((↑c1.length : Int) - 1)).toNat 1 [PV.int IntKind.i64 to3])] })
                    Option.none)
                  (ctl (ltB (nth PV.nilp c 0).toInt to3)
                    (ctl (leN ((c1.length + 1) * 24) 140737488355328)
                      (lp E F 30 0 [] 2
                        {
                          vals :=
                            [AV.int IntKind.i64 kind1, AV.int IntKind.i64 to3, AV.sl 1 marks11,
                              AV.sl 1 x74, AV.int IntKind.i64 x75,
                              AV.int IntKind.i64 (IntKind.i64.wrap (x76 + 1))],
                          blks :=
                            [Blk.box [AV.sl 3 b0_0, AV.int IntKind.u64 b0_1],
                              Blk.arr 3
                                (c1 ++
                                  [[PV.int IntKind.i64 (nth PV.nilp c 0).toInt,
                                      PV.int IntKind.i64 to3,
                                      PV.int IntKind.i64
                                        (nth (RV.p PV.nilp) r.fst 0).toPV.toInt]])] })
                      Option.none)
                    (lp E F 30 0 [] 2
                      {
                        vals :=
                          [AV.int IntKind.i64 kind1, AV.int IntKind.i64 to3, AV.sl 1 marks11,
                            AV.sl 1 x74, AV.int IntKind.i64 x75,
                            AV.int IntKind.i64 (IntKind.i64.wrap (x76 + 1))],
                        blks :=
                          [Blk.box [AV.sl 3 b0_0, AV.int IntKind.u64 b0_1],
                            Blk.arr 3 c1] })))
              Option.none))
        Option.none)
    (Option.some (Ex.exit 2, { vals := [], blks := [Blk.arr 3 c1] })) := (lp_unfold ..).trans (by kernel_rfl)

/-- dynpos/dynposref36.Spans -/
theorem r30 (F : Fun) (b0 : List (List PV)) (b1 : Int) (kind : Int) (zfrom : Int) (to : Int) : funK E F 30 [AV.agg [PV.sl 3 b0, PV.int IntKind.u64 b1], AV.int IntKind.i64 kind,
  AV.int IntKind.i64 zfrom, AV.int IntKind.i64 to] [] =
  bnd (F 21 [AV.agg [PV.sl 3 b0, PV.int IntKind.u64 b1]] [])
    fun (r : Res) =>
    ctl
      (okR [RSh.one (Sh.int IntKind.i64)] r.fst && okB [] r.snd)
      (ctl ((nth (RV.p PV.nilp) r.fst 0).toPV.toInt != 0)
        (Option.some
          ([RV.p (PV.sl 3 []),
              RV.p
                (PV.int IntKind.i64 (nth (RV.p PV.nilp) r.fst 0).toPV.toInt)],
            []))
        (bnd (F 54 [AV.int IntKind.i64 kind] []) fun (r : Res) =>
          ctl
            (okR [RSh.one Sh.bool] r.fst && okB [] r.snd)
            (bnd
              (ctl (!!(nth (RV.p PV.nilp) r.fst 0).toPV.toBool)
                (Option.some (ltB zfrom 0)) (Option.some Bool.true))
              fun (v : Bool) =>
              bnd (ctl (!v) (Option.some (ltB to zfrom)) (Option.some Bool.true)) fun (v : Bool) =>
                bnd (ctl (!v) (Option.some (ltB 2147483648 to)) (Option.some Bool.true)) fun (v : Bool) =>
                  ctl v
                    (Option.some
                      ([RV.p (PV.sl 3 []), RV.p (PV.int IntKind.i64 1)], []))
                    (bnd
                      (lp E F 30 0 [] 0
                        {
                          vals :=
                            [AV.int IntKind.i64 kind, AV.int IntKind.i64 zfrom, AV.int IntKind.i64 to,
                              AV.sl 3 b0, AV.int IntKind.i64 (↑b0.length : Int), AV.int IntKind.i64 0],
                          blks :=
                            [Blk.box [AV.sl 3 b0, AV.int IntKind.u64 b1],
                              Blk.arr 1 [[PV.int IntKind.i64 zfrom]]] })
                      fun (p : Ex × Pack) =>
                      ctl (p.fst.eqb (Ex.exit 0))
                        (ctl
                          (okPack
                            {
                              slots :=
                                [(1, Sum.inl (Sh.int IntKind.i64)), (3, Sum.inl (Sh.int IntKind.i64)),
                                  (4, Sum.inr (Sum.inr (AV.t (TV.ptr 0 0)))), (11, Sum.inl (Sh.sl 1))],
                              blks := [Sum.inl [Sum.inl (Sh.sl 3), Sum.inl (Sh.int IntKind.u64)]] }
                            p.snd)
                          (bnd
                            (lp E F 30 0 [] 2
                              {
                                vals :=
                                  [AV.int IntKind.i64 (nth AV.undef p.snd.vals 0).toPV.toInt,
                                    AV.int IntKind.i64 (nth AV.undef p.snd.vals 1).toPV.toInt,
                                    AV.sl 1 (nth AV.undef p.snd.vals 2).toPV.toEs,
                                    AV.sl 1 (nth AV.undef p.snd.vals 2).toPV.toEs,
                                    AV.int IntKind.i64 (↑(nth AV.undef p.snd.vals 2).toPV.toEs.length : Int),
                                    AV.int IntKind.i64 0],
                                blks :=
                                  [Blk.box
                                      [AV.sl 3
                                          (nth AV.undef
                                                (nth (Blk.box []) p.snd.blks 0).toCs 0).toPV.toEs,
                                        AV.int IntKind.u64
                                          (nth AV.undef
                                                (nth (Blk.box []) p.snd.blks 0).toCs 1).toPV.toInt],
                                    Blk.arr 3 []] })
                            fun (p : Ex × Pack) =>
                            ctl (p.fst.eqb (Ex.exit 2))
                              (ctl
                                (okPack { slots := [(14, Sum.inr (Sum.inr (AV.t (TV.hsl 0))))], blks := [Sum.inr 3] }
                                  p.snd)
                                (Option.some
                                  ([RV.p
                                        (PV.sl 3 (nth (Blk.box []) p.snd.blks 0).toEs),
                                      RV.p (PV.int IntKind.i64 0)],
                                    []))
                                Option.none)
                              Option.none)
                          Option.none)
                        Option.none))
            Option.none))
      Option.none := by kernel_rfl

/-- dynpos/dynposref01.Has, the loop of block 0 -/
theorem r56_0 (F : Fun) (x1 : Int) (x7 : List (List PV)) (x8 : Int) (x9 : Int) : lp E F 56 0 [] 0
  {
    vals :=
      [AV.int IntKind.i64 x1, AV.sl 1 x7, AV.int IntKind.i64 x8,
        AV.int IntKind.i64 x9],
    blks := [] } =
  ctl (ltB x9 x8)
    (getE x7 x9 fun (c : List PV) =>
      ctl (okCs [Sh.int IntKind.i64] c)
        (ctl ((nth PV.nilp c 0).toInt == x1)
          (Option.some (Ex.ret, { vals := [AV.bool Bool.true], blks := [] }))
          (lp E F 56 0 [] 0
            {
              vals :=
                [AV.int IntKind.i64 x1, AV.sl 1 x7, AV.int IntKind.i64 x8,
                  AV.int IntKind.i64 (IntKind.i64.wrap (x9 + 1))],
              blks := [] }))
        Option.none)
    (Option.some (Ex.exit 0, { vals := [], blks := [] })) := (lp_unfold ..).trans (by kernel_rfl)

/-- dynpos/dynposref01.Has -/
theorem r56 (F : Fun) (l : List (List PV)) (x : Int) : funK E F 56 [AV.sl 1 l, AV.int IntKind.i64 x] [] =
  bnd
    (lp E F 56 0 [] 0
      {
        vals :=
          [AV.int IntKind.i64 x, AV.sl 1 l, AV.int IntKind.i64 (↑l.length : Int),
            AV.int IntKind.i64 0],
        blks := [] })
    fun (p : Ex × Pack) =>
    ctl (p.fst.eqb (Ex.exit 0)) (Option.some ([RV.p (PV.bool Bool.false)], []))
      (ctl (p.fst.eqb Ex.ret)
        (ctl (okPack { slots := [(4, Sum.inl Sh.bool)], blks := [] } p.snd)
          (Option.some
            ([RV.p (PV.bool (nth AV.undef p.snd.vals 0).toPV.toBool)], []))
          Option.none)
        Option.none) := by kernel_rfl

/-- dynpos/dynposref01.Ints, the loop of block 0 -/
theorem r63_0 (F : Fun) (a0 : List (List PV)) (b1 : List (List PV)) (x12 : Int) (x13 : Int) : lp E F 63 0 [] 0
  {
    vals :=
      [AV.sl 1 a0, AV.sl 1 b1, AV.int IntKind.i64 x12,
        AV.int IntKind.i64 x13],
    blks := [] } =
  ctl (ltB x13 x12)
    (getE a0 x13 fun (c : List PV) =>
      ctl (okCs [Sh.int IntKind.i64] c)
        (getE b1 x13 fun (c_1 : List PV) =>
          ctl (okCs [Sh.int IntKind.i64] c_1)
            (ctl
              ((nth PV.nilp c 0).toInt != (nth PV.nilp c_1 0).toInt)
              (Option.some (Ex.ret, { vals := [AV.bool Bool.false], blks := [] }))
              (lp E F 63 0 [] 0
                {
                  vals :=
                    [AV.sl 1 a0, AV.sl 1 b1, AV.int IntKind.i64 x12,
                      AV.int IntKind.i64 (IntKind.i64.wrap (x13 + 1))],
                  blks := [] }))
            Option.none)
        Option.none)
    (Option.some (Ex.exit 0, { vals := [], blks := [] })) := (lp_unfold ..).trans (by kernel_rfl)

/-- dynpos/dynposref01.Ints -/
theorem r63 (F : Fun) (a : List (List PV)) (b : List (List PV)) : funK E F 63 [AV.sl 1 a, AV.sl 1 b] [] =
  ctl ((↑a.length : Int) != (↑b.length : Int)) (Option.some ([RV.p (PV.bool Bool.false)], []))
    (bnd
      (lp E F 63 0 [] 0
        {
          vals :=
            [AV.sl 1 a, AV.sl 1 b, AV.int IntKind.i64 (↑a.length : Int),
              AV.int IntKind.i64 0],
          blks := [] })
      fun (p : Ex × Pack) =>
      ctl (p.fst.eqb (Ex.exit 0)) (Option.some ([RV.p (PV.bool Bool.true)], []))
        (ctl (p.fst.eqb Ex.ret)
          (ctl (okPack { slots := [(4, Sum.inl Sh.bool)], blks := [] } p.snd)
            (Option.some
              ([RV.p (PV.bool (nth AV.undef p.snd.vals 0).toPV.toBool)], []))
            Option.none)
          Option.none)) := by kernel_rfl

/-- dynpos/dynposref36.Entries, the loop of block 0 -/
theorem r46_0 (F : Fun) (a0 : List (List PV)) (b1 : List (List PV)) (x12 : Int) (x13 : Int) : lp E F 46 0 [] 0
  {
    vals :=
      [AV.sl 3 a0, AV.sl 3 b1, AV.int IntKind.i64 x12,
        AV.int IntKind.i64 x13],
    blks := [] } =
  ctl (ltB x13 x12)
    (getE a0 x13 fun (c : List PV) =>
      ctl
        (okCs [Sh.int IntKind.i64, Sh.int IntKind.i64, Sh.sl 1] c)
        (getE b1 x13 fun (c_1 : List PV) =>
          ctl
            (okCs [Sh.int IntKind.i64, Sh.int IntKind.i64, Sh.sl 1] c_1)
            (bnd
              (ctl
                (!(nth PV.nilp c 0).toInt != (nth PV.nilp c_1 0).toInt)
                (getE a0 x13 fun (c : List PV) =>
                  ctl
                    (okCs [Sh.int IntKind.i64, Sh.int IntKind.i64, Sh.sl 1]
                      c)
                    (getE b1 x13 fun (c_2 : List PV) =>
                      ctl
                        (okCs
                          [Sh.int IntKind.i64, Sh.int IntKind.i64, Sh.sl 1] c_2)
                        (Option.some
                          ((nth PV.nilp c 1).toInt != (nth PV.nilp c_2 1).toInt))
                        Option.none)
                    Option.none)
                (Option.some Bool.true))
              fun (v : Bool) =>
              bnd
                (ctl (!v)
                  (getE a0 x13 fun (c : List PV) =>
                    ctl
                      (okCs
                        [Sh.int IntKind.i64, Sh.int IntKind.i64, Sh.sl 1] c)
                      (getE b1 x13 fun (c_2 : List PV) =>
                        ctl
                          (okCs
                            [Sh.int IntKind.i64, Sh.int IntKind.i64, Sh.sl 1] c_2)
                          (bnd
                            (F 63
                              [AV.sl 1 (nth PV.nilp c 2).toEs,
                                AV.sl 1 (nth PV.nilp c_2 2).toEs]
                              [])
                            fun (r : Res) =>
                            ctl
                              (okR [RSh.one Sh.bool] r.fst && okB [] r.snd)
                              (Option.some !(nth (RV.p PV.nilp) r.fst 0).toPV.toBool) Option.none)
                          Option.none)
                      Option.none)
                  (Option.some Bool.true))
                fun (v : Bool) =>
                ctl v (Option.some (Ex.ret, { vals := [AV.bool Bool.false], blks := [] }))
                  (lp E F 46 0 [] 0
                    {
                      vals :=
                        [AV.sl 3 a0, AV.sl 3 b1, AV.int IntKind.i64 x12,
                          AV.int IntKind.i64 (IntKind.i64.wrap (x13 + 1))],
                      blks := [] }))
            Option.none)
        Option.none)
    (Option.some (Ex.exit 0, { vals := [], blks := [] })) := (lp_unfold ..).trans (by kernel_rfl)

/-- dynpos/dynposref36.Entries -/
theorem r46 (F : Fun) (a : List (List PV)) (b : List (List PV)) : funK E F 46 [AV.sl 3 a, AV.sl 3 b] [] =
  ctl ((↑a.length : Int) != (↑b.length : Int)) (Option.some ([RV.p (PV.bool Bool.false)], []))
    (bnd
      (lp E F 46 0 [] 0
        {
          vals :=
            [AV.sl 3 a, AV.sl 3 b, AV.int IntKind.i64 (↑a.length : Int),
              AV.int IntKind.i64 0],
          blks := [] })
      fun (p : Ex × Pack) =>
      ctl (p.fst.eqb (Ex.exit 0)) (Option.some ([RV.p (PV.bool Bool.true)], []))
        (ctl (p.fst.eqb Ex.ret)
          (ctl (okPack { slots := [(4, Sum.inl Sh.bool)], blks := [] } p.snd)
            (Option.some
              ([RV.p (PV.bool (nth AV.undef p.snd.vals 0).toPV.toBool)], []))
            Option.none)
          Option.none)) := by kernel_rfl

/-- dynpos/dynposref36.Same -/
theorem r24 (F : Fun) (a0 : List (List PV)) (a1 : Int) (b0 : List (List PV)) (b1 : Int) : funK E F 24 [AV.agg [PV.sl 3 a0, PV.int IntKind.u64 a1],
  AV.agg [PV.sl 3 b0, PV.int IntKind.u64 b1]] [] =
  bnd
    (ctl (a1 == b1)
      (bnd (F 46 [AV.sl 3 a0, AV.sl 3 b0] []) fun (r : Res) =>
        ctl
          (okR [RSh.one Sh.bool] r.fst && okB [] r.snd)
          (Option.some (nth (RV.p PV.nilp) r.fst 0).toPV.toBool) Option.none)
      (Option.some Bool.false))
    fun (v : Bool) => Option.some ([RV.p (PV.bool v)], []) := by kernel_rfl

/-- dynpos/dynposref36.All, the loop of block 0 -/
theorem r33_0 (F : Fun) (a0 : List (List PV)) (b1 : List (List PV)) (x12 : Int) (x13 : Int) : lp E F 33 0 [] 0
  {
    vals :=
      [AV.sl 3 a0, AV.sl 3 b1, AV.int IntKind.i64 x12,
        AV.int IntKind.i64 x13],
    blks := [] } =
  ctl (ltB x13 x12)
    (getE a0 x13 fun (c : List PV) =>
      ctl
        (okCs
          [Sh.int IntKind.i64, Sh.int IntKind.i64, Sh.int IntKind.i64] c)
        (getE b1 x13 fun (c_1 : List PV) =>
          ctl
            (okCs
              [Sh.int IntKind.i64, Sh.int IntKind.i64, Sh.int IntKind.i64] c_1)
            (ctl
              (!((nth PV.nilp c 0).toInt == (nth PV.nilp c_1 0).toInt &&
                  ((nth PV.nilp c 1).toInt == (nth PV.nilp c_1 1).toInt &&
                    ((nth PV.nilp c 2).toInt == (nth PV.nilp c_1 2).toInt &&
                      Bool.true))))
              (Option.some (Ex.ret, { vals := [AV.bool Bool.false], blks := [] }))
              (lp E F 33 0 [] 0
                {
                  vals :=
                    [AV.sl 3 a0, AV.sl 3 b1, AV.int IntKind.i64 x12,
                      AV.int IntKind.i64 (IntKind.i64.wrap (x13 + 1))],
                  blks := [] }))
            Option.none)
        Option.none)
    (Option.some (Ex.exit 0, { vals := [], blks := [] })) := (lp_unfold ..).trans (by kernel_rfl)

/-- dynpos/dynposref36.All -/
theorem r33 (F : Fun) (a : List (List PV)) (b : List (List PV)) : funK E F 33 [AV.sl 3 a, AV.sl 3 b] [] =
  ctl ((↑a.length : Int) != (↑b.length : Int)) (Option.some ([RV.p (PV.bool Bool.false)], []))
    (bnd
      (lp E F 33 0 [] 0
        {
          vals :=
            [AV.sl 3 a, AV.sl 3 b, AV.int IntKind.i64 (↑a.length : Int),
              AV.int IntKind.i64 0],
          blks := [] })
      fun (p : Ex × Pack) =>
      ctl (p.fst.eqb (Ex.exit 0)) (Option.some ([RV.p (PV.bool Bool.true)], []))
        (ctl (p.fst.eqb Ex.ret)
          (ctl (okPack { slots := [(4, Sum.inl Sh.bool)], blks := [] } p.snd)
            (Option.some
              ([RV.p (PV.bool (nth AV.undef p.snd.vals 0).toPV.toBool)], []))
            Option.none)
          Option.none)) := by kernel_rfl

/-- dynpos/dynposref36.Degraded, the loop of block 0 -/
theorem r32_0 (F : Fun) (x23 : List (List PV)) (x24 : Int) (x25 : Int) (c0 : List (List PV)) : lp E F 32 0 [] 0
  { vals := [AV.sl 3 x23, AV.int IntKind.i64 x24, AV.int IntKind.i64 x25],
    blks := [Blk.arr 3 c0] } =
  ctl (ltB x25 x24)
    (getE x23 x25 fun (c : List PV) =>
      ctl
        (okCs
          [Sh.int IntKind.i64, Sh.int IntKind.i64, Sh.int IntKind.i64] c)
        (ctl (ltB (nth PV.nilp c 2).toInt 3)
          (ctl (leN ((c0.length + 1) * 24) 140737488355328)
            (lp E F 32 0 [] 0
              {
                vals :=
                  [AV.sl 3 x23, AV.int IntKind.i64 x24, AV.int IntKind.i64 (IntKind.i64.wrap (x25 + 1))],
                blks :=
                  [Blk.arr 3
                      (c0 ++
                        [[PV.int IntKind.i64 (nth PV.nilp c 0).toInt,
                            PV.int IntKind.i64 (nth PV.nilp c 1).toInt,
                            PV.int IntKind.i64 (nth PV.nilp c 2).toInt]])] })
            Option.none)
          (lp E F 32 0 [] 0
            {
              vals :=
                [AV.sl 3 x23, AV.int IntKind.i64 x24, AV.int IntKind.i64 (IntKind.i64.wrap (x25 + 1))],
              blks := [Blk.arr 3 c0] }))
        Option.none)
    (Option.some (Ex.exit 0, { vals := [], blks := [Blk.arr 3 c0] })) := (lp_unfold ..).trans (by kernel_rfl)

/-- dynpos/dynposref36.Degraded -/
theorem r32 (F : Fun) (b0 : List (List PV)) (b1 : Int) (zfrom : Int) (to : Int) : funK E F 32 [AV.agg [PV.sl 3 b0, PV.int IntKind.u64 b1], AV.int IntKind.i64 zfrom,
  AV.int IntKind.i64 to] [] =
  bnd
    (F 30
      [AV.agg [PV.sl 3 b0, PV.int IntKind.u64 b1], AV.int IntKind.i64 1,
        AV.int IntKind.i64 zfrom, AV.int IntKind.i64 to]
      [])
    fun (r : Res) =>
    ctl
      (okR
          [RSh.one (Sh.sl 3), RSh.one (Sh.int IntKind.i64)] r.fst &&
        okB [] r.snd)
      (ctl ((nth (RV.p PV.nilp) r.fst 1).toPV.toInt != 0)
        (Option.some
          ([RV.p (PV.sl 3 []),
              RV.p
                (PV.int IntKind.i64 (nth (RV.p PV.nilp) r.fst 1).toPV.toInt)],
            []))
        (bnd
          (lp E F 32 0 [] 0
            {
              vals :=
                [AV.sl 3 (nth (RV.p PV.nilp) r.fst 0).toPV.toEs,
                  AV.int IntKind.i64
                    (↑(nth (RV.p PV.nilp) r.fst 0).toPV.toEs.length : Int),
                  AV.int IntKind.i64 0],
              blks := [Blk.arr 3 []] })
          fun (p : Ex × Pack) =>
          ctl (p.fst.eqb (Ex.exit 0))
            (ctl
              (okPack { slots := [(10, Sum.inr (Sum.inr (AV.t (TV.hsl 0))))], blks := [Sum.inr 3] } p.snd)
              (Option.some
                ([RV.p (PV.sl 3 (nth (Blk.box []) p.snd.blks 0).toEs),
                    RV.p (PV.int IntKind.i64 0)],
                  []))
              Option.none)
            Option.none))
      Option.none := by kernel_rfl

/-- dynpos/dynposref36.Text, the loop of block 0 -/
theorem r28_0 (F : Fun) (s5 : List UInt8) (x14 : List (List PV)) (x15 : Int) (x16 : Int) (b0_0 : List (List PV)) (b0_1 : Int) : lp E F 28 0 [] 0
  {
    vals :=
      [AV.str s5, AV.sl 3 x14, AV.int IntKind.i64 x15,
        AV.int IntKind.i64 x16],
    blks := [Blk.box [AV.sl 3 b0_0, AV.int IntKind.u64 b0_1]] } =
  ctl (ltB x16 x15)
    (getE x14 x16 fun (c : List PV) =>
      ctl
        (okCs [Sh.int IntKind.i64, Sh.int IntKind.i64, Sh.sl 1] c)
        (bnd
          (F 35
            [AV.agg
                [PV.int IntKind.i64 (nth PV.nilp c 0).toInt,
                  PV.int IntKind.i64 (nth PV.nilp c 1).toInt,
                  PV.sl 1 (nth PV.nilp c 2).toEs]]
            [])
          fun (r : Res) =>
          ctl
            (okR [RSh.one Sh.str] r.fst && okB [] r.snd)
            (ctl
              (leN (s5.length + (nth (RV.p PV.nilp) r.fst 0).toPV.toStr.length)
                9223372036854775807)
              (lp E F 28 0 [] 0
                {
                  vals :=
                    [AV.str (s5 ++ (nth (RV.p PV.nilp) r.fst 0).toPV.toStr),
                      AV.sl 3 x14, AV.int IntKind.i64 x15, AV.int IntKind.i64 (IntKind.i64.wrap (x16 + 1))],
                  blks := [Blk.box [AV.sl 3 b0_0, AV.int IntKind.u64 b0_1]] })
              Option.none)
            Option.none)
        Option.none)
    (Option.some
      (Ex.exit 0,
        { vals := [AV.str s5],
          blks := [Blk.box [AV.sl 3 b0_0, AV.int IntKind.u64 b0_1]] })) := (lp_unfold ..).trans (by kernel_rfl)

/-- dynpos/dynposref36.Text -/
theorem r28 (F : Fun) (b0 : List (List PV)) (b1 : Int) : funK E F 28 [AV.agg [PV.sl 3 b0, PV.int IntKind.u64 b1]] [] =
  bnd (F 21 [AV.agg [PV.sl 3 b0, PV.int IntKind.u64 b1]] [])
    fun (r : Res) =>
    ctl
      (okR [RSh.one (Sh.int IntKind.i64)] r.fst && okB [] r.snd)
      (ctl ((nth (RV.p PV.nilp) r.fst 0).toPV.toInt != 0)
        (Option.some
          ([RV.p (PV.str []),
              RV.p
                (PV.int IntKind.i64 (nth (RV.p PV.nilp) r.fst 0).toPV.toInt)],
            []))
        (bnd
          (lp E F 28 0 [] 0
            {
              vals :=
                [AV.str [], AV.sl 3 b0, AV.int IntKind.i64 (↑b0.length : Int),
                  AV.int IntKind.i64 0],
              blks := [Blk.box [AV.sl 3 b0, AV.int IntKind.u64 b1]] })
          fun (p : Ex × Pack) =>
          ctl (p.fst.eqb (Ex.exit 0))
            (ctl
              (okPack
                { slots := [(1, Sum.inr (Sum.inr (AV.t (TV.ptr 0 0)))), (5, Sum.inl Sh.str)],
                  blks := [Sum.inl [Sum.inl (Sh.sl 3), Sum.inl (Sh.int IntKind.u64)]] }
                p.snd)
              (bnd
                (F 53
                  [AV.agg
                      [PV.sl 3
                          (nth AV.undef (nth (Blk.box []) p.snd.blks 0).toCs
                                0).toPV.toEs,
                        PV.int IntKind.u64
                          (nth AV.undef (nth (Blk.box []) p.snd.blks 0).toCs
                                1).toPV.toInt]]
                  [])
                fun (r : Res) =>
                ctl
                  (okR [RSh.one Sh.str] r.fst && okB [] r.snd)
                  (ctl
                    (leN
                      ((nth AV.undef p.snd.vals 0).toPV.toStr.length +
                        (nth (RV.p PV.nilp) r.fst 0).toPV.toStr.length)
                      9223372036854775807)
                    (Option.some
                      ([RV.p
                            (PV.str
                              ((nth AV.undef p.snd.vals 0).toPV.toStr ++
                                (nth (RV.p PV.nilp) r.fst 0).toPV.toStr)),
                          RV.p (PV.int IntKind.i64 0)],
                        []))
                    Option.none)
                  Option.none)
              Option.none)
            Option.none))
      Option.none := by kernel_rfl

/-- dynpos/dynposmake.New -/
theorem r12 (F : Fun) (l : List (List PV)) : funK E F 12 [AV.sl 1 l] [] =
  ctl
    (Bool.true &&
      (leB 0 (minI 600 (↑l.length : Int)) &&
        leB (minI 600 (↑l.length : Int)) (↑l.length : Int)))
    (Option.some
      ([RV.ownp
            [PV.sl 1 (cutI l 0 (minI 600 (↑l.length : Int))),
              PV.int IntKind.i64 0]],
        []))
    Option.none := by kernel_rfl

/-- (*dynpos/dynposmake.Src).Range -/
theorem r14 (F : Fun) (s0 : List (List PV)) (s1 : Int) (lo : Int) (hi : Int) : funK E F 14 [AV.t (TV.ptr 0 0), AV.int IntKind.i64 lo, AV.int IntKind.i64 hi] [Blk.box [AV.sl 1 s0, AV.int IntKind.i64 s1]] =
  bnd
    (F 18 [AV.t (TV.ptr 0 0), AV.int IntKind.i64 (IntKind.i64.wrap (IntKind.i64.wrap (hi - lo) + 1))]
      [Blk.box [AV.sl 1 s0, AV.int IntKind.i64 s1]])
    fun (r : Res) =>
    ctl
      (okR [RSh.one (Sh.int IntKind.i64)] r.fst &&
        okB [Sum.inl [Sh.sl 1, Sh.int IntKind.i64]] r.snd)
      (Option.some
        ([RV.p
              (PV.int IntKind.i64
                (IntKind.i64.wrap (lo + (nth (RV.p PV.nilp) r.fst 0).toPV.toInt)))],
          [Blk.box
              [AV.sl 1
                  (nth PV.nilp
                      (List.map AV.toPV (nth (Blk.box []) r.snd 0).toCs) 0).toEs,
                AV.int IntKind.i64
                  (nth PV.nilp
                      (List.map AV.toPV (nth (Blk.box []) r.snd 0).toCs) 1).toInt]]))
      Option.none := by kernel_rfl

/-- (*dynpos/dynposmake.Src).N -/
theorem r18 (F : Fun) (s0 : List (List PV)) (s1 : Int) (n : Int) : funK E F 18 [AV.t (TV.ptr 0 0), AV.int IntKind.i64 n] [Blk.box [AV.sl 1 s0, AV.int IntKind.i64 s1]] =
  ctl (leB (↑s0.length : Int) s1)
    (Option.some
      ([RV.p (PV.int IntKind.i64 0)],
        [Blk.box [AV.sl 1 s0, AV.int IntKind.i64 s1]]))
    (getE s0 (IntKind.i64.wrap (IntKind.i64.wrap (s1 + 1) - 1)) fun (c : List PV) =>
      ctl (okCs [Sh.int IntKind.i64] c)
        (bnd
          (F 44
            [AV.int IntKind.i64 (nth PV.nilp c 0).toInt,
              AV.int IntKind.i64 n]
            [])
          fun (r : Res) =>
          ctl
            (okR [RSh.one (Sh.int IntKind.i64)] r.fst && okB [] r.snd)
            (Option.some
              ([RV.p
                    (PV.int IntKind.i64
                      (nth (RV.p PV.nilp) r.fst 0).toPV.toInt)],
                [Blk.box [AV.sl 1 s0, AV.int IntKind.i64 (IntKind.i64.wrap (s1 + 1))]]))
            Option.none)
        Option.none) := by kernel_rfl

/-- (*dynpos/dynposmake.Src).Pick -/
theorem r43 (F : Fun) (s0 : List (List PV)) (s1 : Int) (l : List (List PV)) : funK E F 43 [AV.t (TV.ptr 0 0), AV.sl 1 l] [Blk.box [AV.sl 1 s0, AV.int IntKind.i64 s1]] =
  bnd
    (F 18 [AV.t (TV.ptr 0 0), AV.int IntKind.i64 (↑l.length : Int)]
      [Blk.box [AV.sl 1 s0, AV.int IntKind.i64 s1]])
    fun (r : Res) =>
    ctl
      (okR [RSh.one (Sh.int IntKind.i64)] r.fst &&
        okB [Sum.inl [Sh.sl 1, Sh.int IntKind.i64]] r.snd)
      (getE l (nth (RV.p PV.nilp) r.fst 0).toPV.toInt
        fun (c : List PV) =>
        ctl (okCs [Sh.int IntKind.i64] c)
          (Option.some
            ([RV.p (PV.int IntKind.i64 (nth PV.nilp c 0).toInt)],
              [Blk.box
                  [AV.sl 1
                      (nth PV.nilp
                          (List.map AV.toPV (nth (Blk.box []) r.snd 0).toCs) 0).toEs,
                    AV.int IntKind.i64
                      (nth PV.nilp
                          (List.map AV.toPV (nth (Blk.box []) r.snd 0).toCs) 1).toInt]]))
          Option.none)
      Option.none := by kernel_rfl

/-- dynpos/dynposmake.Mod -/
theorem r44 (F : Fun) (x : Int) (n : Int) : funK E F 44 [AV.int IntKind.i64 x, AV.int IntKind.i64 n] [] =
  ctl (ltB n 1) (Option.some ([RV.p (PV.int IntKind.i64 0)], []))
    (ctl (Bool.true && neB n 0)
      (ctl (Bool.true && neB n 0)
        (Option.some ([RV.p (PV.int IntKind.i64 ((IntKind.i64.wrap (x.tmod n + n)).tmod n))], [])) Option.none)
      Option.none) := by kernel_rfl

/-- (*dynpos/dynposmake.Src).Entry, the loop of block 0 -/
theorem r17_0 (F : Fun) (k6 : Int) (b0_0 : List (List PV)) (b0_1 : Int) (b1_0 : Int) (b1_1 : Int) (b1_2 : List (List PV)) (b2_0 : Int) (b2_1 : Int) (c3 : List (List PV)) : lp E F 17 1 [] 0
  { vals := [AV.int IntKind.i64 k6],
    blks :=
      [Blk.box [AV.sl 1 b0_0, AV.int IntKind.i64 b0_1],
        Blk.box
          [AV.int IntKind.i64 b1_0, AV.int IntKind.i64 b1_1, AV.sl 1 b1_2],
        Blk.box
          [AV.int IntKind.i64 b2_0, AV.int IntKind.i64 b2_1,
            AV.t (TV.hsl 3)],
        Blk.arr 1 c3] } =
  ctl (ltB 0 k6)
    (bnd
      (F 43
        [AV.t (TV.ptr 0 0),
          AV.sl 1
            [[PV.int IntKind.i64 0], [PV.int IntKind.i64 1], [PV.int IntKind.i64 2],
              [PV.int IntKind.i64 3], [PV.int IntKind.i64 (-5)], [PV.int IntKind.i64 1000000000],
              [PV.int IntKind.i64 (-1000000000)]]]
        [Blk.box [AV.sl 1 b0_0, AV.int IntKind.i64 b0_1]])
      fun (r : Res) =>
      ctl
        (okR [RSh.one (Sh.int IntKind.i64)] r.fst &&
          okB [Sum.inl [Sh.sl 1, Sh.int IntKind.i64]] r.snd)
        (ctl (leN ((c3.length + 1) * 8) 140737488355328)
          (lp E F 17 1 [] 0
            { vals := [AV.int IntKind.i64 (IntKind.i64.wrap (k6 - 1))],
              blks :=
                [Blk.box
                    [AV.sl 1
                        (nth PV.nilp
                            (List.map AV.toPV (nth (Blk.box []) r.snd 0).toCs) 0).toEs,
                      AV.int IntKind.i64
                        (nth PV.nilp
                            (List.map AV.toPV (nth (Blk.box []) r.snd 0).toCs) 1).toInt],
                  Blk.box
                    [AV.int IntKind.i64 b1_0, AV.int IntKind.i64 b1_1, AV.sl 1 b1_2],
                  Blk.box
                    [AV.int IntKind.i64 b2_0, AV.int IntKind.i64 b2_1,
                      AV.t (TV.hsl 3)],
                  Blk.arr 1
                    (c3 ++
                      [[PV.int IntKind.i64
                            (nth (RV.p PV.nilp) r.fst 0).toPV.toInt]])] })
          Option.none)
        Option.none)
    (Option.some
      (Ex.exit 0,
        { vals := [],
          blks :=
            [Blk.box [AV.sl 1 b0_0, AV.int IntKind.i64 b0_1],
              Blk.box
                [AV.int IntKind.i64 b1_0, AV.int IntKind.i64 b1_1, AV.sl 1 b1_2],
              Blk.box
                [AV.int IntKind.i64 b2_0, AV.int IntKind.i64 b2_1,
                  AV.t (TV.hsl 3)],
              Blk.arr 1 c3] })) := (lp_unfold ..).trans (by kernel_rfl)

/-- (*dynpos/dynposmake.Src).Entry -/
theorem r17 (F : Fun) (s0 : List (List PV)) (s1 : Int) (time : Int) : funK E F 17 [AV.t (TV.ptr 0 0), AV.int IntKind.i64 time] [Blk.box [AV.sl 1 s0, AV.int IntKind.i64 s1]] =
  bnd
    (F 43
      [AV.t (TV.ptr 0 0),
        AV.sl 1
          [[PV.int IntKind.i64 1], [PV.int IntKind.i64 1], [PV.int IntKind.i64 2],
            [PV.int IntKind.i64 3], [PV.int IntKind.i64 4], [PV.int IntKind.i64 5],
            [PV.int IntKind.i64 6], [PV.int IntKind.i64 7], [PV.int IntKind.i64 8]]]
      [Blk.box [AV.sl 1 s0, AV.int IntKind.i64 s1]])
    fun (r : Res) =>
    ctl
      (okR [RSh.one (Sh.int IntKind.i64)] r.fst &&
        okB [Sum.inl [Sh.sl 1, Sh.int IntKind.i64]] r.snd)
      (ctl
        (leB 0 (nth (RV.p PV.nilp) r.fst 0).toPV.toInt &&
          ltB (nth (RV.p PV.nilp) r.fst 0).toPV.toInt 9)
        (ctl
          (okCs [Sh.int IntKind.i64]
            (List.take 1
              (List.drop 0
                (nth []
                  [[PV.int IntKind.i64 0], [PV.int IntKind.i64 1], [PV.int IntKind.i64 1],
                    [PV.int IntKind.i64 1], [PV.int IntKind.i64 2], [PV.int IntKind.i64 2],
                    [PV.int IntKind.i64 4], [PV.int IntKind.i64 2], [PV.int IntKind.i64 3]]
                  (nth (RV.p PV.nilp) r.fst 0).toPV.toInt.toNat))))
          (bnd
            (lp E F 17 1 [] 0
              {
                vals :=
                  [AV.int IntKind.i64
                      (nth PV.nilp
                          (nth []
                            [[PV.int IntKind.i64 0], [PV.int IntKind.i64 1], [PV.int IntKind.i64 1],
                              [PV.int IntKind.i64 1], [PV.int IntKind.i64 2], [PV.int IntKind.i64 2],
                              [PV.int IntKind.i64 4], [PV.int IntKind.i64 2], [PV.int IntKind.i64 3]]
                            (nth (RV.p PV.nilp) r.fst 0).toPV.toInt.toNat)
                          0).toInt],
                blks :=
                  [Blk.box
                      [AV.sl 1
                          (nth PV.nilp
                              (List.map AV.toPV (nth (Blk.box []) r.snd 0).toCs) 0).toEs,
                        AV.int IntKind.i64
                          (nth PV.nilp
                              (List.map AV.toPV (nth (Blk.box []) r.snd 0).toCs) 1).toInt],
                    Blk.box
                      [AV.int IntKind.i64 0, AV.int IntKind.i64 0, AV.sl 1 []],
                    Blk.box
                      [AV.int IntKind.i64 time,
                        AV.int IntKind.i64
                          (nth (RV.p PV.nilp) r.fst 0).toPV.toInt,
                        AV.t (TV.hsl 3)],
                    Blk.arr 1 []] })
            fun (p : Ex × Pack) =>
            ctl (p.fst.eqb (Ex.exit 0))
              (ctl
                (okPack
                  {
                    slots :=
                      [(4, Sum.inr (Sum.inr (AV.t (TV.ptr 1 0)))),
                        (5, Sum.inr (Sum.inr (AV.t (TV.ptr 2 0))))],
                    blks :=
                      [Sum.inl [Sum.inl (Sh.sl 1), Sum.inl (Sh.int IntKind.i64)],
                        Sum.inl
                          [Sum.inl (Sh.int IntKind.i64), Sum.inl (Sh.int IntKind.i64), Sum.inl (Sh.sl 1)],
                        Sum.inl
                          [Sum.inl (Sh.int IntKind.i64), Sum.inl (Sh.int IntKind.i64),
                            Sum.inr (AV.t (TV.hsl 3))],
                        Sum.inr 1] }
                  p.snd)
                (Option.some
                  ([RV.agg
                        [PV.int IntKind.i64
                            (nth AV.undef (nth (Blk.box []) p.snd.blks 2).toCs
                                  0).toPV.toInt,
                          PV.int IntKind.i64
                            (nth AV.undef (nth (Blk.box []) p.snd.blks 2).toCs
                                  1).toPV.toInt,
                          PV.sl 1 (nth (Blk.box []) p.snd.blks 3).toEs]],
                    [Blk.box
                        [AV.sl 1
                            (nth AV.undef (nth (Blk.box []) p.snd.blks 0).toCs
                                  0).toPV.toEs,
                          AV.int IntKind.i64
                            (nth AV.undef (nth (Blk.box []) p.snd.blks 0).toCs
                                  1).toPV.toInt]]))
                Option.none)
              Option.none)
          Option.none)
        Option.none)
      Option.none := by kernel_rfl

/-- (*dynpos/dynposmake.Src).Book, the loop of block 0 -/
theorem r13_0 (F : Fun) (time6 : Int) (k7 : Int) (b0_0 : List (List PV)) (b0_1 : Int) (b1_0 : List (List PV)) (b1_1 : Int) (b2_0 : List (List PV)) (b2_1 : Int) : lp E F 13 1 [] 0
  { vals := [AV.int IntKind.i64 time6, AV.int IntKind.i64 k7],
    blks :=
      [Blk.box [AV.sl 1 b0_0, AV.int IntKind.i64 b0_1],
        Blk.box [AV.sl 3 b1_0, AV.int IntKind.u64 b1_1],
        Blk.box [AV.sl 3 b2_0, AV.int IntKind.u64 b2_1]] } =
  ctl (ltB 0 k7)
    (bnd
      (F 18 [AV.t (TV.ptr 0 0), AV.int IntKind.i64 4]
        [Blk.box [AV.sl 1 b0_0, AV.int IntKind.i64 b0_1]])
      fun (r : Res) =>
      ctl
        (okR [RSh.one (Sh.int IntKind.i64)] r.fst &&
          okB [Sum.inl [Sh.sl 1, Sh.int IntKind.i64]] r.snd)
        (bnd
          (F 17
            [AV.t (TV.ptr 0 0),
              AV.int IntKind.i64
                (IntKind.i64.wrap (time6 + (nth (RV.p PV.nilp) r.fst 0).toPV.toInt))]
            [Blk.box
                [AV.sl 1
                    (nth PV.nilp
                        (List.map AV.toPV (nth (Blk.box []) r.snd 0).toCs) 0).toEs,
                  AV.int IntKind.i64
                    (nth PV.nilp
                        (List.map AV.toPV (nth (Blk.box []) r.snd 0).toCs) 1).toInt]])
          fun (r_1 : Res) =>
          ctl
            (okR
                [RSh.agg [Sh.int IntKind.i64, Sh.int IntKind.i64, Sh.sl 1]]
                r_1.fst &&
              okB [Sum.inl [Sh.sl 1, Sh.int IntKind.i64]] r_1.snd)
            (bnd
              (F 22
                [AV.agg [PV.sl 3 b2_0, PV.int IntKind.u64 b2_1],
                  AV.agg
                    [PV.int IntKind.i64
                        (nth PV.nilp
                            (nth (RV.p PV.nilp) r_1.fst 0).toCs 0).toInt,
                      PV.int IntKind.i64
                        (nth PV.nilp
                            (nth (RV.p PV.nilp) r_1.fst 0).toCs 1).toInt,
                      PV.sl 1
                        (nth PV.nilp
                            (nth (RV.p PV.nilp) r_1.fst 0).toCs 2).toEs]]
                [])
              fun (r_2 : Res) =>
              ctl
                (okR
                    [RSh.agg [Sh.sl 3, Sh.int IntKind.u64],
                      RSh.one (Sh.int IntKind.i64)]
                    r_2.fst &&
                  okB [] r_2.snd)
                (lp E F 13 1 [] 0
                  {
                    vals :=
                      [AV.int IntKind.i64
                          (IntKind.i64.wrap (time6 + (nth (RV.p PV.nilp) r.fst 0).toPV.toInt)),
                        AV.int IntKind.i64 (IntKind.i64.wrap (k7 - 1))],
                    blks :=
                      [Blk.box
                          [AV.sl 1
                              (nth PV.nilp
                                  (List.map AV.toPV (nth (Blk.box []) r_1.snd 0).toCs) 0).toEs,
                            AV.int IntKind.i64
                              (nth PV.nilp
                                  (List.map AV.toPV (nth (Blk.box []) r_1.snd 0).toCs) 1).toInt],
                        Blk.box [AV.sl 3 b1_0, AV.int IntKind.u64 b1_1],
                        Blk.box
                          [AV.sl 3
                              (nth PV.nilp
                                  (nth (RV.p PV.nilp) r_2.fst 0).toCs 0).toEs,
                            AV.int IntKind.u64
                              (nth PV.nilp
                                  (nth (RV.p PV.nilp) r_2.fst 0).toCs 1).toInt]] })
                Option.none)
            Option.none)
        Option.none)
    (Option.some
      (Ex.exit 0,
        { vals := [],
          blks :=
            [Blk.box [AV.sl 1 b0_0, AV.int IntKind.i64 b0_1],
              Blk.box [AV.sl 3 b1_0, AV.int IntKind.u64 b1_1],
              Blk.box [AV.sl 3 b2_0, AV.int IntKind.u64 b2_1]] })) := (lp_unfold ..).trans (by kernel_rfl)

/-- (*dynpos/dynposmake.Src).Book -/
theorem r13 (F : Fun) (s0 : List (List PV)) (s1 : Int) (most : Int) : funK E F 13 [AV.t (TV.ptr 0 0), AV.int IntKind.i64 most] [Blk.box [AV.sl 1 s0, AV.int IntKind.i64 s1]] =
  bnd (F 7 [] []) fun (r : Res) =>
    ctl
      (okR [RSh.agg [Sh.sl 3, Sh.int IntKind.u64]] r.fst &&
        okB [] r.snd)
      (bnd
        (F 18 [AV.t (TV.ptr 0 0), AV.int IntKind.i64 (IntKind.i64.wrap (most + 1))]
          [Blk.box [AV.sl 1 s0, AV.int IntKind.i64 s1]])
        fun (r_1 : Res) =>
        ctl
          (okR [RSh.one (Sh.int IntKind.i64)] r_1.fst &&
            okB [Sum.inl [Sh.sl 1, Sh.int IntKind.i64]] r_1.snd)
          (bnd
            (lp E F 13 1 [] 0
              {
                vals :=
                  [AV.int IntKind.i64 0,
                    AV.int IntKind.i64
                      (nth (RV.p PV.nilp) r_1.fst 0).toPV.toInt],
                blks :=
                  [Blk.box
                      [AV.sl 1
                          (nth PV.nilp
                              (List.map AV.toPV (nth (Blk.box []) r_1.snd 0).toCs) 0).toEs,
                        AV.int IntKind.i64
                          (nth PV.nilp
                              (List.map AV.toPV (nth (Blk.box []) r_1.snd 0).toCs) 1).toInt],
                    Blk.box [AV.sl 3 [], AV.int IntKind.u64 0],
                    Blk.box
                      [AV.sl 3
                          (nth PV.nilp
                              (nth (RV.p PV.nilp) r.fst 0).toCs 0).toEs,
                        AV.int IntKind.u64
                          (nth PV.nilp
                              (nth (RV.p PV.nilp) r.fst 0).toCs 1).toInt]] })
            fun (p : Ex × Pack) =>
            ctl (p.fst.eqb (Ex.exit 0))
              (ctl
                (okPack
                  {
                    slots :=
                      [(4, Sum.inr (Sum.inr (AV.t (TV.ptr 1 0)))),
                        (5, Sum.inr (Sum.inr (AV.t (TV.ptr 2 0))))],
                    blks :=
                      [Sum.inl [Sum.inl (Sh.sl 1), Sum.inl (Sh.int IntKind.i64)],
                        Sum.inl [Sum.inl (Sh.sl 3), Sum.inl (Sh.int IntKind.u64)],
                        Sum.inl [Sum.inl (Sh.sl 3), Sum.inl (Sh.int IntKind.u64)]] }
                  p.snd)
                (Option.some
                  ([RV.agg
                        [PV.sl 3
                            (nth AV.undef (nth (Blk.box []) p.snd.blks 2).toCs
                                  0).toPV.toEs,
                          PV.int IntKind.u64
                            (nth AV.undef (nth (Blk.box []) p.snd.blks 2).toCs
                                  1).toPV.toInt]],
                    [Blk.box
                        [AV.sl 1
                            (nth AV.undef (nth (Blk.box []) p.snd.blks 0).toCs
                                  0).toPV.toEs,
                          AV.int IntKind.i64
                            (nth AV.undef (nth (Blk.box []) p.snd.blks 0).toCs
                                  1).toPV.toInt]]))
                Option.none)
              Option.none)
          Option.none)
      Option.none := by kernel_rfl

/-- (*dynpos/dynposmake.Src).BentBook -/
theorem r20 (F : Fun) (s0 : List (List PV)) (s1 : Int) (b0 : List (List PV)) (b1 : Int) : funK E F 20 [AV.t (TV.ptr 0 0),
  AV.agg [PV.sl 3 b0, PV.int IntKind.u64 b1]] [Blk.box [AV.sl 1 s0, AV.int IntKind.i64 s1]] =
  ctl (leN (b0.length * 40) 140737488355328)
    (bnd
      (F 18 [AV.t (TV.ptr 0 0), AV.int IntKind.i64 4]
        [Blk.box [AV.sl 1 s0, AV.int IntKind.i64 s1]])
      fun (r : Res) =>
      ctl
        (okR [RSh.one (Sh.int IntKind.i64)] r.fst &&
          okB [Sum.inl [Sh.sl 1, Sh.int IntKind.i64]] r.snd)
        (ctl ((nth (RV.p PV.nilp) r.fst 0).toPV.toInt == 0)
          (Option.some
            ([RV.agg [PV.sl 3 b0, PV.int IntKind.u64 (IntKind.u64.wrap (b1 + 1))]],
              [Blk.box
                  [AV.sl 1
                      (nth PV.nilp
                          (List.map AV.toPV (nth (Blk.box []) r.snd 0).toCs) 0).toEs,
                    AV.int IntKind.i64
                      (nth PV.nilp
                          (List.map AV.toPV (nth (Blk.box []) r.snd 0).toCs) 1).toInt]]))
          (ctl ((nth (RV.p PV.nilp) r.fst 0).toPV.toInt == 1)
            (bnd
              (F 17 [AV.t (TV.ptr 0 0), AV.int IntKind.i64 0]
                [Blk.box
                    [AV.sl 1
                        (nth PV.nilp
                            (List.map AV.toPV (nth (Blk.box []) r.snd 0).toCs) 0).toEs,
                      AV.int IntKind.i64
                        (nth PV.nilp
                            (List.map AV.toPV (nth (Blk.box []) r.snd 0).toCs) 1).toInt]])
              fun (r : Res) =>
              ctl
                (okR
                    [RSh.agg
                        [Sh.int IntKind.i64, Sh.int IntKind.i64, Sh.sl 1]]
                    r.fst &&
                  okB [Sum.inl [Sh.sl 1, Sh.int IntKind.i64]] r.snd)
                (ctl (leN ((b0.length + 1) * 40) 140737488355328)
                  (Option.some
                    ([RV.agg
                          [PV.sl 3
                              (b0 ++
                                [[PV.int IntKind.i64
                                      (nth PV.nilp
                                          (nth (RV.p PV.nilp) r.fst 0).toCs 0).toInt,
                                    PV.int IntKind.i64
                                      (nth PV.nilp
                                          (nth (RV.p PV.nilp) r.fst 0).toCs 1).toInt,
                                    PV.sl 1
                                      (nth PV.nilp
                                          (nth (RV.p PV.nilp) r.fst 0).toCs 2).toEs]]),
                            PV.int IntKind.u64 b1]],
                      [Blk.box
                          [AV.sl 1
                              (nth PV.nilp
                                  (List.map AV.toPV (nth (Blk.box []) r.snd 0).toCs) 0).toEs,
                            AV.int IntKind.i64
                              (nth PV.nilp
                                  (List.map AV.toPV (nth (Blk.box []) r.snd 0).toCs) 1).toInt]]))
                  Option.none)
                Option.none)
            (ctl ((nth (RV.p PV.nilp) r.fst 0).toPV.toInt == 2)
              (ctl (ltB 0 (↑b0.length : Int))
                (ctl (Bool.true && (leB 1 (↑b0.length : Int) && leB (↑b0.length : Int) (↑b0.length : Int)))
                  (Option.some
                    ([RV.agg
                          [PV.sl 3 (cutI b0 1 (↑b0.length : Int)), PV.int IntKind.u64 b1]],
                      [Blk.box
                          [AV.sl 1
                              (nth PV.nilp
                                  (List.map AV.toPV (nth (Blk.box []) r.snd 0).toCs) 0).toEs,
                            AV.int IntKind.i64
                              (nth PV.nilp
                                  (List.map AV.toPV (nth (Blk.box []) r.snd 0).toCs) 1).toInt]]))
                  Option.none)
                (Option.some
                  ([RV.agg [PV.sl 3 b0, PV.int IntKind.u64 b1]],
                    [Blk.box
                        [AV.sl 1
                            (nth PV.nilp
                                (List.map AV.toPV (nth (Blk.box []) r.snd 0).toCs) 0).toEs,
                          AV.int IntKind.i64
                            (nth PV.nilp
                                (List.map AV.toPV (nth (Blk.box []) r.snd 0).toCs) 1).toInt]])))
              (ctl (ltB 0 (↑b0.length : Int))
                (bnd
                  (F 18 [AV.t (TV.ptr 0 0), AV.int IntKind.i64 (↑b0.length : Int)]
                    [Blk.box
                        [AV.sl 1
                            (nth PV.nilp
                                (List.map AV.toPV (nth (Blk.box []) r.snd 0).toCs) 0).toEs,
                          AV.int IntKind.i64
                            (nth PV.nilp
                                (List.map AV.toPV (nth (Blk.box []) r.snd 0).toCs) 1).toInt]])
                  fun (r : Res) =>
                  ctl
                    (okR [RSh.one (Sh.int IntKind.i64)] r.fst &&
                      okB [Sum.inl [Sh.sl 1, Sh.int IntKind.i64]] r.snd)
                    (bnd
                      (F 18 [AV.t (TV.ptr 0 0), AV.int IntKind.i64 9]
                        [Blk.box
                            [AV.sl 1
                                (nth PV.nilp
                                    (List.map AV.toPV (nth (Blk.box []) r.snd 0).toCs) 0).toEs,
                              AV.int IntKind.i64
                                (nth PV.nilp
                                    (List.map AV.toPV (nth (Blk.box []) r.snd 0).toCs) 1).toInt]])
                      fun (r_1 : Res) =>
                      ctl
                        (okR [RSh.one (Sh.int IntKind.i64)] r_1.fst &&
                          okB [Sum.inl [Sh.sl 1, Sh.int IntKind.i64]] r_1.snd)
                        (bnd
                          (F 17
                            [AV.t (TV.ptr 0 0),
                              AV.int IntKind.i64
                                (nth (RV.p PV.nilp) r_1.fst 0).toPV.toInt]
                            [Blk.box
                                [AV.sl 1
                                    (nth PV.nilp
                                        (List.map AV.toPV (nth (Blk.box []) r_1.snd 0).toCs) 0).toEs,
                                  AV.int IntKind.i64
                                    (nth PV.nilp
                                        (List.map AV.toPV (nth (Blk.box []) r_1.snd 0).toCs) 1).toInt]])
                          fun (r_2 : Res) =>
                          ctl
                            (okR
                                [RSh.agg
                                    [Sh.int IntKind.i64, Sh.int IntKind.i64, Sh.sl 1]]
                                r_2.fst &&
                              okB [Sum.inl [Sh.sl 1, Sh.int IntKind.i64]] r_2.snd)
                            (ctl
                              (leB 0 (nth (RV.p PV.nilp) r.fst 0).toPV.toInt &&
                                ltB (nth (RV.p PV.nilp) r.fst 0).toPV.toInt
                                  (↑b0.length : Int))
                              (Option.some
                                ([RV.agg
                                      [PV.sl 3
                                          (setEs b0
                                            (nth (RV.p PV.nilp) r.fst 0).toPV.toInt.toNat 0
                                            [PV.int IntKind.i64
                                                (nth PV.nilp
                                                    (nth (RV.p PV.nilp) r_2.fst 0).toCs 0).toInt,
                                              PV.int IntKind.i64
                                                (nth PV.nilp
                                                    (nth (RV.p PV.nilp) r_2.fst 0).toCs 1).toInt,
                                              PV.sl 1
                                                (nth PV.nilp
                                                    (nth (RV.p PV.nilp) r_2.fst 0).toCs 2).toEs]),
                                        PV.int IntKind.u64 b1]],
                                  [Blk.box
                                      [AV.sl 1
                                          (nth PV.nilp
                                              (List.map AV.toPV (nth (Blk.box []) r_2.snd 0).toCs) 0).toEs,
                                        AV.int IntKind.i64
                                          (nth PV.nilp
                                              (List.map AV.toPV (nth (Blk.box []) r_2.snd 0).toCs) 1).toInt]]))
                              Option.none)
                            Option.none)
                        Option.none)
                    Option.none)
                (Option.some
                  ([RV.agg [PV.sl 3 b0, PV.int IntKind.u64 b1]],
                    [Blk.box
                        [AV.sl 1
                            (nth PV.nilp
                                (List.map AV.toPV (nth (Blk.box []) r.snd 0).toCs) 0).toEs,
                          AV.int IntKind.i64
                            (nth PV.nilp
                                (List.map AV.toPV (nth (Blk.box []) r.snd 0).toCs) 1).toInt]]))))))
        Option.none)
    Option.none := by kernel_rfl

/-- dynpos/dynposlaw36.sane -/
theorem r11 (F : Fun) : funK E F 11 [] [] =
  bnd (F 34 [] []) fun (r : Res) =>
    ctl
      (okR [RSh.agg [Sh.sl 3, Sh.int IntKind.u64]] r.fst &&
        okB [] r.snd)
      (bnd
        (F 10
          [AV.agg
              [PV.sl 3
                  (nth PV.nilp
                      (nth (RV.p PV.nilp) r.fst 0).toCs 0).toEs,
                PV.int IntKind.u64
                  (nth PV.nilp
                      (nth (RV.p PV.nilp) r.fst 0).toCs 1).toInt],
            AV.agg
              [PV.int IntKind.i64 0, PV.int IntKind.i64 1,
                PV.sl 1 [[PV.int IntKind.i64 3]]]]
          [])
        fun (r : Res) =>
        ctl
          (okR
              [RSh.agg [Sh.sl 3, Sh.int IntKind.u64],
                RSh.one (Sh.int IntKind.i64)]
              r.fst &&
            okB [] r.snd)
          (bnd
            (F 10
              [AV.agg
                  [PV.sl 3
                      (nth PV.nilp
                          (nth (RV.p PV.nilp) r.fst 0).toCs 0).toEs,
                    PV.int IntKind.u64
                      (nth PV.nilp
                          (nth (RV.p PV.nilp) r.fst 0).toCs 1).toInt],
                AV.agg
                  [PV.int IntKind.i64 5, PV.int IntKind.i64 1,
                    PV.sl 1 [[PV.int IntKind.i64 2]]]]
              [])
            fun (r_1 : Res) =>
            ctl
              (okR
                  [RSh.agg [Sh.sl 3, Sh.int IntKind.u64],
                    RSh.one (Sh.int IntKind.i64)]
                  r_1.fst &&
                okB [] r_1.snd)
              (bnd
                (F 31
                  [AV.agg
                      [PV.sl 3
                          (nth PV.nilp
                              (nth (RV.p PV.nilp) r_1.fst 0).toCs 0).toEs,
                        PV.int IntKind.u64
                          (nth PV.nilp
                              (nth (RV.p PV.nilp) r_1.fst 0).toCs 1).toInt],
                    AV.int IntKind.i64 0, AV.int IntKind.i64 10]
                  [])
                fun (r_2 : Res) =>
                ctl
                  (okR
                      [RSh.one (Sh.sl 3), RSh.one (Sh.int IntKind.i64)]
                      r_2.fst &&
                    okB [] r_2.snd)
                  (bnd (F 34 [] []) fun (r_3 : Res) =>
                    ctl
                      (okR [RSh.agg [Sh.sl 3, Sh.int IntKind.u64]] r_3.fst &&
                        okB [] r_3.snd)
                      (bnd
                        (F 27
                          [AV.agg
                              [PV.sl 3
                                  (nth PV.nilp
                                      (nth (RV.p PV.nilp) r_3.fst 0).toCs 0).toEs,
                                PV.int IntKind.u64
                                  (nth PV.nilp
                                      (nth (RV.p PV.nilp) r_3.fst 0).toCs 1).toInt]]
                          [])
                        fun (r_4 : Res) =>
                        ctl
                          (okR
                              [RSh.one Sh.str, RSh.one (Sh.int IntKind.i64)]
                              r_4.fst &&
                            okB [] r_4.snd)
                          (bnd
                            (ctl ((nth (RV.p PV.nilp) r.fst 1).toPV.toInt == 0)
                              (Option.some ((nth (RV.p PV.nilp) r_1.fst 1).toPV.toInt == 0))
                              (Option.some Bool.false))
                            fun (v : Bool) =>
                            bnd
                              (ctl v
                                (Option.some ((nth (RV.p PV.nilp) r_2.fst 1).toPV.toInt == 0))
                                (Option.some Bool.false))
                              fun (v : Bool) =>
                              bnd
                                (ctl v
                                  (Option.some ((nth (RV.p PV.nilp) r_4.fst 1).toPV.toInt == 0))
                                  (Option.some Bool.false))
                                fun (v : Bool) =>
                                ctl v
                                  (bnd
                                    (bnd
                                      (F 33
                                        [AV.sl 3
                                            (nth (RV.p PV.nilp) r_2.fst 0).toPV.toEs,
                                          AV.sl 3
                                            [[PV.int IntKind.i64 5, PV.int IntKind.i64 10,
                                                PV.int IntKind.i64 2]]]
                                        [])
                                      fun (r : Res) =>
                                      ctl
                                        (okR [RSh.one Sh.bool] r.fst &&
                                            okB [] r.snd &&
                                          (noslR r.fst && noslB r.snd))
                                        (Option.some (nth (RV.p PV.nilp) r.fst 0).toPV.toBool) Option.none)
                                    fun (v : Bool) =>
                                    bnd
                                      (ctl v
                                        (Option.some
                                          ((nth (RV.p PV.nilp) r_4.fst 0).toPV.toStr ==
                                            [61, 32, 49, 52, 54, 57, 53, 57, 56, 49, 48, 51, 57, 51, 52, 54, 54, 53, 54, 48, 51, 55, 10]))
                                        (Option.some Bool.false))
                                      fun (v : Bool) => Option.some ([RV.p (PV.bool v)], []))
                                  (Option.some ([RV.p (PV.bool Bool.false)], [])))
                          Option.none)
                      Option.none)
                  Option.none)
              Option.none)
          Option.none)
      Option.none := by kernel_rfl

end Go.Proofs.YtdbajagnhanpfaaDoor.Vm
