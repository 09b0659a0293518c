/- The raw theorems, by program: what each function and each loop comes to. -/
import Derived.Test.YtiagcaefhjibjaaEnv
import Derived.Test.YtiagcaefhjibjaaVm34
import Derived.KernelRfl
namespace Go.Proofs.Ytiagcaefhjibjaa.Vm
open Go
set_option maxRecDepth 100000
set_option linter.unusedVariables false

/-- dynpos/dynposlaw28.StatusNever, the loop of block 0 -/
theorem r4_0 (F : Fun) (l6 : List (List PV)) (delay7 : Int) (x8 : List (List PV)) (x39 : Int) (x40 : Int) : lp E F 4 0 [] 0
  {
    vals :=
      [AV.sl 1 l6, AV.int IntKind.i64 delay7, AV.sl 1 x8, AV.int IntKind.i64 x39,
        AV.int IntKind.i64 x40],
    blks := [] } =
  ctl (ltB x40 x39)
    (bnd
      (lp E F 4 0 [] 2
        {
          vals :=
            [AV.sl 1 l6, AV.int IntKind.i64 delay7, AV.sl 1 x8, AV.int IntKind.i64 x40,
              AV.int IntKind.i64 (maxI (IntKind.i64.wrap (x40 - delay7)) 0), AV.int IntKind.i64 x39,
              AV.int IntKind.i64 x40],
          blks := [] })
      fun (p : Ex × Pack) =>
      ctl (p.fst.eqb (Ex.exit 2))
        (ctl
          (okPack
            {
              slots :=
                [(6, Sum.inl (Sh.sl 1)), (7, Sum.inl (Sh.int IntKind.i64)), (8, Sum.inl (Sh.sl 1)),
                  (39, Sum.inl (Sh.int IntKind.i64)), (40, Sum.inl (Sh.int IntKind.i64))],
              blks := [] }
            p.snd)
          (lp E F 4 0 [] 0
            {
              vals :=
                [AV.sl 1 (nth AV.undef p.snd.vals 0).toPV.toEs,
                  AV.int IntKind.i64 (nth AV.undef p.snd.vals 1).toPV.toInt,
                  AV.sl 1 (nth AV.undef p.snd.vals 2).toPV.toEs,
                  AV.int IntKind.i64 (nth AV.undef p.snd.vals 3).toPV.toInt,
                  AV.int IntKind.i64 (IntKind.i64.wrap ((nth AV.undef p.snd.vals 4).toPV.toInt + 1))],
              blks := [] })
          Option.none)
        (ctl (p.fst.eqb Ex.ret)
          (ctl (okPack { slots := [(4, Sum.inl Sh.bool)], blks := [] } p.snd)
            (Option.some
              (Ex.ret, { vals := [AV.bool (nth AV.undef p.snd.vals 0).toPV.toBool], blks := [] }))
            Option.none)
          Option.none))
    (Option.some (Ex.exit 0, { vals := [], blks := [] })) := (lp_unfold ..).trans (by kernel_rfl)

/-- dynpos/dynposlaw28.StatusNever, the loop of block 2 -/
theorem r4_2 (F : Fun) (l6 : List (List PV)) (delay7 : Int) (x8 : List (List PV)) (i10 : Int) (k11 : Int) (x39 : Int) (x40 : Int) : lp E F 4 0 [] 2
  {
    vals :=
      [AV.sl 1 l6, AV.int IntKind.i64 delay7, AV.sl 1 x8, AV.int IntKind.i64 i10,
        AV.int IntKind.i64 k11, AV.int IntKind.i64 x39, AV.int IntKind.i64 x40],
    blks := [] } =
  ctl (leB k11 i10)
    (getE x8 i10 fun (c : List PV) =>
      ctl (okCs [Sh.int IntKind.i64] c)
        (getE l6 k11 fun (c_1 : List PV) =>
          ctl (okCs [Sh.int IntKind.i64] c_1)
            (ctl
              (ltB (nth PV.nilp c_1 0).toInt
                (nth PV.nilp c 0).toInt)
              (Option.some (Ex.ret, { vals := [AV.bool Bool.false], blks := [] }))
              (lp E F 4 0 [] 2
                {
                  vals :=
                    [AV.sl 1 l6, AV.int IntKind.i64 delay7, AV.sl 1 x8,
                      AV.int IntKind.i64 i10, AV.int IntKind.i64 (IntKind.i64.wrap (k11 + 1)),
                      AV.int IntKind.i64 x39, AV.int IntKind.i64 x40],
                  blks := [] }))
            Option.none)
        Option.none)
    (Option.some
      (Ex.exit 2,
        {
          vals :=
            [AV.sl 1 l6, AV.int IntKind.i64 delay7, AV.sl 1 x8, AV.int IntKind.i64 x39,
              AV.int IntKind.i64 x40],
          blks := [] })) := (lp_unfold ..).trans (by kernel_rfl)

/-- dynpos/dynposlaw28.StatusNever -/
theorem r4 (F : Fun) (t : List (List PV)) (d : Int) : funK E F 4 [AV.sl 1 t, AV.int IntKind.u8 d] [] =
  ctl (ltB 600 (↑t.length : Int))
    (bnd (F 9 [] []) fun (r : Res) =>
      ctl (okR [RSh.one Sh.bool] r.fst && okB [] r.snd)
        (Option.some
          ([RV.p
                (PV.bool (nth (RV.p PV.nilp) r.fst 0).toPV.toBool)],
            []))
        Option.none)
    (bnd (F 10 [AV.sl 1 t] []) fun (r : Res) =>
      ctl
        (okR [RSh.ownp [Sh.sl 1, Sh.int IntKind.i64]] r.fst &&
          okB [] r.snd)
        (bnd
          (F 19 [AV.t (TV.ptr 0 0), AV.int IntKind.i64 30]
            [Blk.box
                [AV.sl 1
                    (nth PV.nilp (nth (RV.p PV.nilp) r.fst 0).toCs
                        0).toEs,
                  AV.int IntKind.i64
                    (nth PV.nilp (nth (RV.p PV.nilp) r.fst 0).toCs
                        1).toInt]])
          fun (r : Res) =>
          ctl
            (okR [RSh.one (Sh.sl 1)] r.fst &&
              okB [Sum.inl [Sh.sl 1, Sh.int IntKind.i64]] r.snd)
            (bnd
              (F 20
                [AV.sl 1 (nth (RV.p PV.nilp) r.fst 0).toPV.toEs,
                  AV.int IntKind.i64 ((IntKind.i64.wrap d).tmod 6)]
                [])
              fun (r_1 : Res) =>
              ctl
                (okR
                    [RSh.one (Sh.sl 1), RSh.one (Sh.int IntKind.i64)] r_1.fst &&
                  okB [] r_1.snd)
                (bnd
                  (ctl (!(nth (RV.p PV.nilp) r_1.fst 1).toPV.toInt != 0)
                    (Option.some
                      ((↑(nth (RV.p PV.nilp) r_1.fst 0).toPV.toEs.length : Int) !=
                        (↑(nth (RV.p PV.nilp) r.fst 0).toPV.toEs.length : Int)))
                    (Option.some Bool.true))
                  fun (v : Bool) =>
                  ctl v (Option.some ([RV.p (PV.bool Bool.false)], []))
                    (bnd
                      (lp E F 4 0 [] 0
                        {
                          vals :=
                            [AV.sl 1 (nth (RV.p PV.nilp) r.fst 0).toPV.toEs,
                              AV.int IntKind.i64 ((IntKind.i64.wrap d).tmod 6),
                              AV.sl 1 (nth (RV.p PV.nilp) r_1.fst 0).toPV.toEs,
                              AV.int IntKind.i64
                                (↑(nth (RV.p PV.nilp) r_1.fst 0).toPV.toEs.length : Int),
                              AV.int IntKind.i64 0],
                          blks := [] })
                      fun (p : Ex × Pack) =>
                      ctl (p.fst.eqb (Ex.exit 0))
                        (bnd (F 9 [] []) fun (r : Res) =>
                          ctl
                            (okR [RSh.one Sh.bool] r.fst && okB [] r.snd)
                            (Option.some
                              ([RV.p
                                    (PV.bool (nth (RV.p PV.nilp) r.fst 0).toPV.toBool)],
                                []))
                            Option.none)
                        (ctl (p.fst.eqb Ex.ret)
                          (ctl (okPack { slots := [(4, Sum.inl Sh.bool)], blks := [] } p.snd)
                            (Option.some
                              ([RV.p (PV.bool (nth AV.undef p.snd.vals 0).toPV.toBool)], []))
                            Option.none)
                          Option.none)))
                Option.none)
            Option.none)
        Option.none) := by kernel_rfl

/-- dynpos/dynposlaw28.StatusSteps, the loop of block 0 -/
theorem r5_0 (F : Fun) (l6 : List (List PV)) (x8 : List (List PV)) (before10 : Int) (x39 : Int) (x40 : Int) : lp E F 5 0 [] 0
  {
    vals :=
      [AV.sl 1 l6, AV.sl 1 x8, AV.int IntKind.i64 before10, AV.int IntKind.i64 x39,
        AV.int IntKind.i64 x40],
    blks := [] } =
  ctl (ltB x40 x39)
    (getE x8 x40 fun (c : List PV) =>
      ctl (okCs [Sh.int IntKind.i64] c)
        (bnd
          (ctl (!ltB (IntKind.i64.wrap (before10 + 1)) (nth PV.nilp c 0).toInt)
            (getE l6 x40 fun (c : List PV) =>
              ctl (okCs [Sh.int IntKind.i64] c)
                (ctl (ltB (nth PV.nilp c 0).toInt before10)
                  (getE x8 x40 fun (c : List PV) =>
                    ctl (okCs [Sh.int IntKind.i64] c)
                      (getE l6 x40 fun (c_1 : List PV) =>
                        ctl (okCs [Sh.int IntKind.i64] c_1)
                          (Option.some ((nth PV.nilp c 0).toInt != (nth PV.nilp c_1 0).toInt))
                          Option.none)
                      Option.none)
                  (Option.some Bool.false))
                Option.none)
            (Option.some Bool.true))
          fun (v : Bool) =>
          bnd
            (ctl (!v)
              (getE l6 x40 fun (c : List PV) =>
                ctl (okCs [Sh.int IntKind.i64] c)
                  (ctl (leB before10 (nth PV.nilp c 0).toInt)
                    (getE x8 x40 fun (c : List PV) =>
                      ctl (okCs [Sh.int IntKind.i64] c)
                        (Option.some (ltB (nth PV.nilp c 0).toInt before10)) Option.none)
                    (Option.some Bool.false))
                  Option.none)
              (Option.some Bool.true))
            fun (v : Bool) =>
            ctl v (Option.some (Ex.ret, { vals := [AV.bool Bool.false], blks := [] }))
              (getE x8 x40 fun (c : List PV) =>
                ctl (okCs [Sh.int IntKind.i64] c)
                  (lp E F 5 0 [] 0
                    {
                      vals :=
                        [AV.sl 1 l6, AV.sl 1 x8,
                          AV.int IntKind.i64 (nth PV.nilp c 0).toInt,
                          AV.int IntKind.i64 x39, AV.int IntKind.i64 (IntKind.i64.wrap (x40 + 1))],
                      blks := [] })
                  Option.none))
        Option.none)
    (Option.some (Ex.exit 0, { vals := [], blks := [] })) := (lp_unfold ..).trans (by kernel_rfl)

/-- dynpos/dynposlaw28.StatusSteps -/
theorem r5 (F : Fun) (t : List (List PV)) (d : Int) : funK E F 5 [AV.sl 1 t, AV.int IntKind.u8 d] [] =
  ctl (ltB 600 (↑t.length : Int))
    (bnd (F 9 [] []) fun (r : Res) =>
      ctl (okR [RSh.one Sh.bool] r.fst && okB [] r.snd)
        (Option.some
          ([RV.p
                (PV.bool (nth (RV.p PV.nilp) r.fst 0).toPV.toBool)],
            []))
        Option.none)
    (bnd (F 10 [AV.sl 1 t] []) fun (r : Res) =>
      ctl
        (okR [RSh.ownp [Sh.sl 1, Sh.int IntKind.i64]] r.fst &&
          okB [] r.snd)
        (bnd
          (F 19 [AV.t (TV.ptr 0 0), AV.int IntKind.i64 30]
            [Blk.box
                [AV.sl 1
                    (nth PV.nilp (nth (RV.p PV.nilp) r.fst 0).toCs
                        0).toEs,
                  AV.int IntKind.i64
                    (nth PV.nilp (nth (RV.p PV.nilp) r.fst 0).toCs
                        1).toInt]])
          fun (r : Res) =>
          ctl
            (okR [RSh.one (Sh.sl 1)] r.fst &&
              okB [Sum.inl [Sh.sl 1, Sh.int IntKind.i64]] r.snd)
            (bnd
              (F 20
                [AV.sl 1 (nth (RV.p PV.nilp) r.fst 0).toPV.toEs,
                  AV.int IntKind.i64 ((IntKind.i64.wrap d).tmod 6)]
                [])
              fun (r_1 : Res) =>
              ctl
                (okR
                    [RSh.one (Sh.sl 1), RSh.one (Sh.int IntKind.i64)] r_1.fst &&
                  okB [] r_1.snd)
                (bnd
                  (ctl (!(nth (RV.p PV.nilp) r_1.fst 1).toPV.toInt != 0)
                    (Option.some
                      ((↑(nth (RV.p PV.nilp) r_1.fst 0).toPV.toEs.length : Int) !=
                        (↑(nth (RV.p PV.nilp) r.fst 0).toPV.toEs.length : Int)))
                    (Option.some Bool.true))
                  fun (v : Bool) =>
                  ctl v (Option.some ([RV.p (PV.bool Bool.false)], []))
                    (bnd
                      (lp E F 5 0 [] 0
                        {
                          vals :=
                            [AV.sl 1 (nth (RV.p PV.nilp) r.fst 0).toPV.toEs,
                              AV.sl 1 (nth (RV.p PV.nilp) r_1.fst 0).toPV.toEs,
                              AV.int IntKind.i64 1,
                              AV.int IntKind.i64
                                (↑(nth (RV.p PV.nilp) r_1.fst 0).toPV.toEs.length : Int),
                              AV.int IntKind.i64 0],
                          blks := [] })
                      fun (p : Ex × Pack) =>
                      ctl (p.fst.eqb (Ex.exit 0))
                        (bnd (F 9 [] []) fun (r : Res) =>
                          ctl
                            (okR [RSh.one Sh.bool] r.fst && okB [] r.snd)
                            (Option.some
                              ([RV.p
                                    (PV.bool (nth (RV.p PV.nilp) r.fst 0).toPV.toBool)],
                                []))
                            Option.none)
                        (ctl (p.fst.eqb Ex.ret)
                          (ctl (okPack { slots := [(4, Sum.inl Sh.bool)], blks := [] } p.snd)
                            (Option.some
                              ([RV.p (PV.bool (nth AV.undef p.snd.vals 0).toPV.toBool)], []))
                            Option.none)
                          Option.none)))
                Option.none)
            Option.none)
        Option.none) := by kernel_rfl

/-- dynpos/dynposlaw28.StatusReaches, the loop of block 0 -/
theorem r6_0 (F : Fun) (delay5 : Int) (x24 : Int) (x25 : Int) (c0 : List (List PV)) : lp E F 6 0 [] 0
  { vals := [AV.int IntKind.i64 delay5, AV.int IntKind.i64 x24, AV.int IntKind.i64 x25],
    blks := [Blk.arr 1 c0] } =
  ctl (ltB x25 x24)
    (ctl (leB 0 x25 && ltB x25 (↑c0.length : Int))
      (lp E F 6 0 [] 0
        {
          vals :=
            [AV.int IntKind.i64 delay5, AV.int IntKind.i64 x24, AV.int IntKind.i64 (IntKind.i64.wrap (x25 + 1))],
          blks := [Blk.arr 1 (setEs c0 x25.toNat 0 [PV.int IntKind.i64 3])] })
      Option.none)
    (Option.some (Ex.exit 0, { vals := [AV.int IntKind.i64 delay5], blks := [Blk.arr 1 c0] })) := (lp_unfold ..).trans (by kernel_rfl)

/-- dynpos/dynposlaw28.StatusReaches, the loop of block 2 -/
theorem r6_2 (F : Fun) (delay5 : Int) (x8 : List (List PV)) (x41 : Int) (x42 : Int) : lp E F 6 0 [] 2
  {
    vals :=
      [AV.int IntKind.i64 delay5, AV.sl 1 x8, AV.int IntKind.i64 x41,
        AV.int IntKind.i64 x42],
    blks := [] } =
  ctl (ltB x42 x41)
    (ctl (leB delay5 x42)
      (bnd
        (ctl (ltB 0 delay5) (Option.some (leB (IntKind.i64.wrap (2 * delay5)) x42)) (Option.some Bool.false))
        fun (v : Bool) =>
        bnd
          (ctl (!v) (ctl (delay5 == 0) (Option.some (leB 1 x42)) (Option.some Bool.false)) (Option.some Bool.true))
          fun (v : Bool) =>
          ctl v
            (getE x8 x42 fun (c : List PV) =>
              ctl (okCs [Sh.int IntKind.i64] c)
                (ctl ((nth PV.nilp c 0).toInt != 3)
                  (Option.some (Ex.ret, { vals := [AV.bool Bool.false], blks := [] }))
                  (lp E F 6 0 [] 2
                    {
                      vals :=
                        [AV.int IntKind.i64 delay5, AV.sl 1 x8, AV.int IntKind.i64 x41,
                          AV.int IntKind.i64 (IntKind.i64.wrap (x42 + 1))],
                      blks := [] }))
                Option.none)
            (getE x8 x42 fun (c : List PV) =>
              ctl (okCs [Sh.int IntKind.i64] c)
                (ctl ((nth PV.nilp c 0).toInt != 2)
                  (Option.some (Ex.ret, { vals := [AV.bool Bool.false], blks := [] }))
                  (lp E F 6 0 [] 2
                    {
                      vals :=
                        [AV.int IntKind.i64 delay5, AV.sl 1 x8, AV.int IntKind.i64 x41,
                          AV.int IntKind.i64 (IntKind.i64.wrap (x42 + 1))],
                      blks := [] }))
                Option.none))
      (bnd
        (ctl (ltB 0 delay5) (Option.some (leB (IntKind.i64.wrap (2 * delay5)) x42)) (Option.some Bool.false))
        fun (v : Bool) =>
        bnd
          (ctl (!v) (ctl (delay5 == 0) (Option.some (leB 1 x42)) (Option.some Bool.false)) (Option.some Bool.true))
          fun (v : Bool) =>
          ctl v
            (getE x8 x42 fun (c : List PV) =>
              ctl (okCs [Sh.int IntKind.i64] c)
                (ctl ((nth PV.nilp c 0).toInt != 3)
                  (Option.some (Ex.ret, { vals := [AV.bool Bool.false], blks := [] }))
                  (lp E F 6 0 [] 2
                    {
                      vals :=
                        [AV.int IntKind.i64 delay5, AV.sl 1 x8, AV.int IntKind.i64 x41,
                          AV.int IntKind.i64 (IntKind.i64.wrap (x42 + 1))],
                      blks := [] }))
                Option.none)
            (getE x8 x42 fun (c : List PV) =>
              ctl (okCs [Sh.int IntKind.i64] c)
                (ctl ((nth PV.nilp c 0).toInt != 1)
                  (Option.some (Ex.ret, { vals := [AV.bool Bool.false], blks := [] }))
                  (lp E F 6 0 [] 2
                    {
                      vals :=
                        [AV.int IntKind.i64 delay5, AV.sl 1 x8, AV.int IntKind.i64 x41,
                          AV.int IntKind.i64 (IntKind.i64.wrap (x42 + 1))],
                      blks := [] }))
                Option.none)))
    (Option.some (Ex.exit 2, { vals := [], blks := [] })) := (lp_unfold ..).trans (by kernel_rfl)

/-- dynpos/dynposlaw28.StatusReaches -/
theorem r6 (F : Fun) (n : Int) (d : Int) : funK E F 6 [AV.int IntKind.u8 n, AV.int IntKind.u8 d] [] =
  ctl
    (leB 0 (IntKind.i64.wrap (IntKind.i64.wrap (IntKind.i64.wrap (2 * (IntKind.i64.wrap d).tmod 60) + 1) + (IntKind.i64.wrap n).tmod 20)) &&
      (leB (IntKind.i64.wrap (IntKind.i64.wrap (IntKind.i64.wrap (2 * (IntKind.i64.wrap d).tmod 60) + 1) + (IntKind.i64.wrap n).tmod 20))
          (IntKind.i64.wrap (IntKind.i64.wrap (IntKind.i64.wrap (2 * (IntKind.i64.wrap d).tmod 60) + 1) + (IntKind.i64.wrap n).tmod 20)) &&
        (leB (IntKind.i64.wrap (IntKind.i64.wrap (IntKind.i64.wrap (2 * (IntKind.i64.wrap d).tmod 60) + 1) + (IntKind.i64.wrap n).tmod 20)) 9223372036854775807 &&
          leB (IntKind.i64.wrap (IntKind.i64.wrap (IntKind.i64.wrap (2 * (IntKind.i64.wrap d).tmod 60) + 1) + (IntKind.i64.wrap n).tmod 20) * 8) 140737488355328)))
    (bnd
      (lp E F 6 0 [] 0
        {
          vals :=
            [AV.int IntKind.i64 ((IntKind.i64.wrap d).tmod 60),
              AV.int IntKind.i64
                (↑(reps [PV.int IntKind.i64 0]
                        (IntKind.i64.wrap (IntKind.i64.wrap (IntKind.i64.wrap (2 * (IntKind.i64.wrap d).tmod 60) + 1) + (IntKind.i64.wrap n).tmod 20)).toNat).length :
                  Int),
              AV.int IntKind.i64 0],
          blks :=
            [Blk.arr 1
                (reps [PV.int IntKind.i64 0]
                  (IntKind.i64.wrap (IntKind.i64.wrap (IntKind.i64.wrap (2 * (IntKind.i64.wrap d).tmod 60) + 1) + (IntKind.i64.wrap n).tmod 20)).toNat)] })
      fun (p : Ex × Pack) =>
      ctl (p.fst.eqb (Ex.exit 0))
        (ctl
          (okPack
            { slots := [(5, Sum.inl (Sh.int IntKind.i64)), (6, Sum.inr (Sum.inr (AV.t (TV.hsl 0))))], blks := [Sum.inr 1] }
            p.snd)
          (bnd
            (F 20
              [AV.sl 1 (nth (Blk.box []) p.snd.blks 0).toEs,
                AV.int IntKind.i64 (nth AV.undef p.snd.vals 0).toPV.toInt]
              [])
            fun (r : Res) =>
            ctl
              (okR
                  [RSh.one (Sh.sl 1), RSh.one (Sh.int IntKind.i64)] r.fst &&
                okB [] r.snd)
              (ctl ((nth (RV.p PV.nilp) r.fst 1).toPV.toInt != 0)
                (Option.some ([RV.p (PV.bool Bool.false)], []))
                (bnd
                  (lp E F 6 0 [] 2
                    {
                      vals :=
                        [AV.int IntKind.i64 (nth AV.undef p.snd.vals 0).toPV.toInt,
                          AV.sl 1 (nth (RV.p PV.nilp) r.fst 0).toPV.toEs,
                          AV.int IntKind.i64
                            (↑(nth (RV.p PV.nilp) r.fst 0).toPV.toEs.length : Int),
                          AV.int IntKind.i64 0],
                      blks := [] })
                  fun (p : Ex × Pack) =>
                  ctl (p.fst.eqb (Ex.exit 2))
                    (bnd (F 9 [] []) fun (r : Res) =>
                      ctl
                        (okR [RSh.one Sh.bool] r.fst && okB [] r.snd)
                        (Option.some
                          ([RV.p
                                (PV.bool (nth (RV.p PV.nilp) r.fst 0).toPV.toBool)],
                            []))
                        Option.none)
                    (ctl (p.fst.eqb Ex.ret)
                      (ctl (okPack { slots := [(4, Sum.inl Sh.bool)], blks := [] } p.snd)
                        (Option.some
                          ([RV.p (PV.bool (nth AV.undef p.snd.vals 0).toPV.toBool)], []))
                        Option.none)
                      Option.none)))
              Option.none)
          Option.none)
        Option.none)
    Option.none := by kernel_rfl

/-- dynpos/dynposlaw28.StatusStays -/
theorem r7 (F : Fun) (t : List (List PV)) : funK E F 7 [AV.sl 1 t] [] =
  ctl (ltB 600 (↑t.length : Int))
    (bnd (F 9 [] []) fun (r : Res) =>
      ctl (okR [RSh.one Sh.bool] r.fst && okB [] r.snd)
        (Option.some
          ([RV.p
                (PV.bool (nth (RV.p PV.nilp) r.fst 0).toPV.toBool)],
            []))
        Option.none)
    (bnd (F 10 [AV.sl 1 t] []) fun (r : Res) =>
      ctl
        (okR [RSh.ownp [Sh.sl 1, Sh.int IntKind.i64]] r.fst &&
          okB [] r.snd)
        (bnd
          (F 11 [AV.t (TV.ptr 0 0), AV.int IntKind.i64 1, AV.int IntKind.i64 3]
            [Blk.box
                [AV.sl 1
                    (nth PV.nilp (nth (RV.p PV.nilp) r.fst 0).toCs
                        0).toEs,
                  AV.int IntKind.i64
                    (nth PV.nilp (nth (RV.p PV.nilp) r.fst 0).toCs
                        1).toInt]])
          fun (r : Res) =>
          ctl
            (okR [RSh.one (Sh.int IntKind.i64)] r.fst &&
              okB [Sum.inl [Sh.sl 1, Sh.int IntKind.i64]] r.snd)
            (bnd
              (F 12 [AV.t (TV.ptr 0 0), AV.int IntKind.i64 50]
                [Blk.box
                    [AV.sl 1
                        (nth PV.nilp
                            (List.map AV.toPV (nth (Blk.box []) r.snd 0).toCs) 0).toEs,
                      AV.int IntKind.i64
                        (nth PV.nilp
                            (List.map AV.toPV (nth (Blk.box []) r.snd 0).toCs) 1).toInt]])
              fun (r_1 : Res) =>
              ctl
                (okR [RSh.one (Sh.int IntKind.i64)] r_1.fst &&
                  okB [Sum.inl [Sh.sl 1, Sh.int IntKind.i64]] r_1.snd)
                (bnd
                  (F 12 [AV.t (TV.ptr 0 0), AV.int IntKind.i64 9]
                    [Blk.box
                        [AV.sl 1
                            (nth PV.nilp
                                (List.map AV.toPV (nth (Blk.box []) r_1.snd 0).toCs) 0).toEs,
                          AV.int IntKind.i64
                            (nth PV.nilp
                                (List.map AV.toPV (nth (Blk.box []) r_1.snd 0).toCs) 1).toInt]])
                  fun (r_2 : Res) =>
                  ctl
                    (okR [RSh.one (Sh.int IntKind.i64)] r_2.fst &&
                      okB [Sum.inl [Sh.sl 1, Sh.int IntKind.i64]] r_2.snd)
                    (bnd
                      (F 15
                        [AV.agg
                            [PV.int IntKind.i64 (nth (RV.p PV.nilp) r.fst 0).toPV.toInt,
                              PV.int IntKind.i64 (-1)],
                          AV.int IntKind.i64 (nth (RV.p PV.nilp) r_1.fst 0).toPV.toInt,
                          AV.int IntKind.i64 (nth (RV.p PV.nilp) r.fst 0).toPV.toInt,
                          AV.int IntKind.i64
                            (IntKind.i64.wrap (1 + (nth (RV.p PV.nilp) r_2.fst 0).toPV.toInt))]
                        [])
                      fun (r_3 : Res) =>
                      ctl
                        (okR
                            [RSh.agg [Sh.int IntKind.i64, Sh.int IntKind.i64],
                              RSh.one (Sh.int IntKind.i64)]
                            r_3.fst &&
                          okB [] r_3.snd)
                        (bnd
                          (F 15
                            [AV.agg
                                [PV.int IntKind.i64 (nth (RV.p PV.nilp) r.fst 0).toPV.toInt,
                                  PV.int IntKind.i64 (-1)],
                              AV.int IntKind.i64 (nth (RV.p PV.nilp) r_1.fst 0).toPV.toInt,
                              AV.int IntKind.i64 1,
                              AV.int IntKind.i64
                                (IntKind.i64.wrap (1 + (nth (RV.p PV.nilp) r_2.fst 0).toPV.toInt))]
                            [])
                          fun (r_4 : Res) =>
                          ctl
                            (okR
                                [RSh.agg [Sh.int IntKind.i64, Sh.int IntKind.i64],
                                  RSh.one (Sh.int IntKind.i64)]
                                r_4.fst &&
                              okB [] r_4.snd)
                            (bnd
                              (F 15
                                [AV.agg
                                    [PV.int IntKind.i64
                                        (nth PV.nilp
                                            (nth (RV.p PV.nilp) r_4.fst 0).toCs 0).toInt,
                                      PV.int IntKind.i64
                                        (nth PV.nilp
                                            (nth (RV.p PV.nilp) r_4.fst 0).toCs 1).toInt],
                                  AV.int IntKind.i64
                                    (IntKind.i64.wrap ((nth (RV.p PV.nilp) r_1.fst 0).toPV.toInt + 1)),
                                  AV.int IntKind.i64 3,
                                  AV.int IntKind.i64
                                    (IntKind.i64.wrap (1 + (nth (RV.p PV.nilp) r_2.fst 0).toPV.toInt))]
                                [])
                              fun (r_5 : Res) =>
                              ctl
                                (okR
                                    [RSh.agg [Sh.int IntKind.i64, Sh.int IntKind.i64],
                                      RSh.one (Sh.int IntKind.i64)]
                                    r_5.fst &&
                                  okB [] r_5.snd)
                                (bnd
                                  (ctl ((nth (RV.p PV.nilp) r_3.fst 1).toPV.toInt == 0)
                                    (Option.some
                                      ((nth PV.nilp
                                              (nth (RV.p PV.nilp) r_3.fst 0).toCs 0).toInt ==
                                          (nth (RV.p PV.nilp) r.fst 0).toPV.toInt &&
                                        ((nth PV.nilp
                                                (nth (RV.p PV.nilp) r_3.fst 0).toCs 1).toInt ==
                                            -1 &&
                                          Bool.true)))
                                    (Option.some Bool.false))
                                  fun (v : Bool) =>
                                  bnd
                                    (ctl v
                                      (Option.some ((nth (RV.p PV.nilp) r_4.fst 1).toPV.toInt == 0)) (Option.some Bool.false))
                                    fun (v : Bool) =>
                                    ctl v
                                      (bnd
                                        (ctl
                                          ((nth PV.nilp
                                                  (nth (RV.p PV.nilp) r_4.fst 0).toCs 0).toInt ==
                                              1 &&
                                            ((nth PV.nilp
                                                    (nth (RV.p PV.nilp) r_4.fst 0).toCs 1).toInt ==
                                                -1 &&
                                              Bool.true))
                                          (Option.some ((nth (RV.p PV.nilp) r_5.fst 1).toPV.toInt == 0))
                                          (Option.some Bool.false))
                                        fun (v : Bool) =>
                                        ctl v
                                          (bnd
                                            (ctl
                                              ((nth PV.nilp
                                                      (nth (RV.p PV.nilp) r_5.fst 0).toCs 0).toInt ==
                                                  1 &&
                                                ((nth PV.nilp
                                                        (nth (RV.p PV.nilp) r_5.fst 0).toCs 1).toInt ==
                                                    IntKind.i64.wrap ((nth (RV.p PV.nilp) r_1.fst 0).toPV.toInt + 1) &&
                                                  Bool.true))
                                              (bnd (F 9 [] []) fun (r : Res) =>
                                                ctl
                                                  (okR [RSh.one Sh.bool] r.fst && okB [] r.snd)
                                                  (Option.some (nth (RV.p PV.nilp) r.fst 0).toPV.toBool) Option.none)
                                              (Option.some Bool.false))
                                            fun (v : Bool) => Option.some ([RV.p (PV.bool v)], []))
                                          (Option.some ([RV.p (PV.bool Bool.false)], [])))
                                      (Option.some ([RV.p (PV.bool Bool.false)], [])))
                                Option.none)
                            Option.none)
                        Option.none)
                    Option.none)
                Option.none)
            Option.none)
        Option.none) := by kernel_rfl

/-- dynpos/dynposlaw28.StatusJudges -/
theorem r8 (F : Fun) (t : List (List PV)) (causes : Int) : funK E F 8 [AV.sl 1 t, AV.int IntKind.u8 causes] [] =
  ctl (ltB 600 (↑t.length : Int))
    (bnd (F 9 [] []) fun (r : Res) =>
      ctl (okR [RSh.one Sh.bool] r.fst && okB [] r.snd)
        (Option.some
          ([RV.p
                (PV.bool (nth (RV.p PV.nilp) r.fst 0).toPV.toBool)],
            []))
        Option.none)
    (bnd (F 10 [AV.sl 1 t] []) fun (r : Res) =>
      ctl
        (okR [RSh.ownp [Sh.sl 1, Sh.int IntKind.i64]] r.fst &&
          okB [] r.snd)
        (bnd
          (F 23 [AV.t (TV.ptr 0 0), AV.int IntKind.i64 0]
            [Blk.box
                [AV.sl 1
                    (nth PV.nilp (nth (RV.p PV.nilp) r.fst 0).toCs
                        0).toEs,
                  AV.int IntKind.i64
                    (nth PV.nilp (nth (RV.p PV.nilp) r.fst 0).toCs
                        1).toInt]])
          fun (r : Res) =>
          ctl
            (okR
                [RSh.agg
                    [Sh.int IntKind.i64, Sh.int IntKind.i64, Sh.int IntKind.i64,
                      Sh.int IntKind.i64, Sh.int IntKind.i64]]
                r.fst &&
              okB [Sum.inl [Sh.sl 1, Sh.int IntKind.i64]] r.snd)
            (bnd
              (F 24
                [AV.bool Bool.true, AV.bool Bool.true,
                  AV.agg
                    [PV.int IntKind.i64
                        (nth PV.nilp
                            (nth (RV.p PV.nilp) r.fst 0).toCs 0).toInt,
                      PV.int IntKind.i64
                        (nth PV.nilp
                            (nth (RV.p PV.nilp) r.fst 0).toCs 1).toInt,
                      PV.int IntKind.i64
                        (nth PV.nilp
                            (nth (RV.p PV.nilp) r.fst 0).toCs 2).toInt,
                      PV.int IntKind.i64
                        (nth PV.nilp
                            (nth (RV.p PV.nilp) r.fst 0).toCs 3).toInt,
                      PV.int IntKind.i64
                        (nth PV.nilp
                            (nth (RV.p PV.nilp) r.fst 0).toCs 4).toInt],
                  AV.int IntKind.i64 (IntKind.i64.wrap causes)]
                [])
              fun (r_1 : Res) =>
              ctl
                (okR [RSh.one (Sh.int IntKind.i64)] r_1.fst && okB [] r_1.snd)
                (bnd
                  (F 24
                    [AV.bool Bool.true, AV.bool Bool.false,
                      AV.agg
                        [PV.int IntKind.i64
                            (nth PV.nilp
                                (nth (RV.p PV.nilp) r.fst 0).toCs 0).toInt,
                          PV.int IntKind.i64
                            (nth PV.nilp
                                (nth (RV.p PV.nilp) r.fst 0).toCs 1).toInt,
                          PV.int IntKind.i64
                            (nth PV.nilp
                                (nth (RV.p PV.nilp) r.fst 0).toCs 2).toInt,
                          PV.int IntKind.i64
                            (nth PV.nilp
                                (nth (RV.p PV.nilp) r.fst 0).toCs 3).toInt,
                          PV.int IntKind.i64
                            (nth PV.nilp
                                (nth (RV.p PV.nilp) r.fst 0).toCs 4).toInt],
                      AV.int IntKind.i64 (IntKind.i64.wrap causes)]
                    [])
                  fun (r_2 : Res) =>
                  ctl
                    (okR [RSh.one (Sh.int IntKind.i64)] r_2.fst && okB [] r_2.snd)
                    (bnd
                      (F 24
                        [AV.bool Bool.false, AV.bool Bool.true,
                          AV.agg
                            [PV.int IntKind.i64
                                (nth PV.nilp
                                    (nth (RV.p PV.nilp) r.fst 0).toCs 0).toInt,
                              PV.int IntKind.i64
                                (nth PV.nilp
                                    (nth (RV.p PV.nilp) r.fst 0).toCs 1).toInt,
                              PV.int IntKind.i64
                                (nth PV.nilp
                                    (nth (RV.p PV.nilp) r.fst 0).toCs 2).toInt,
                              PV.int IntKind.i64
                                (nth PV.nilp
                                    (nth (RV.p PV.nilp) r.fst 0).toCs 3).toInt,
                              PV.int IntKind.i64
                                (nth PV.nilp
                                    (nth (RV.p PV.nilp) r.fst 0).toCs 4).toInt],
                          AV.int IntKind.i64 (IntKind.i64.wrap causes)]
                        [])
                      fun (r_3 : Res) =>
                      ctl
                        (okR [RSh.one (Sh.int IntKind.i64)] r_3.fst && okB [] r_3.snd)
                        (bnd
                          (ctl ((nth (RV.p PV.nilp) r_3.fst 0).toPV.toInt == 1)
                            (Option.some
                              (((nth PV.nilp
                                      (nth (RV.p PV.nilp) r.fst 0).toCs 4).toInt ==
                                  1) ==
                                ltB 1 (nth (RV.p PV.nilp) r_1.fst 0).toPV.toInt))
                            (Option.some Bool.false))
                          fun (v : Bool) =>
                          bnd
                            (ctl v
                              (Option.some
                                (leB (nth (RV.p PV.nilp) r_2.fst 0).toPV.toInt
                                  (nth (RV.p PV.nilp) r_1.fst 0).toPV.toInt))
                              (Option.some Bool.false))
                            fun (v : Bool) =>
                            bnd
                              (ctl v
                                (Option.some (ltB (nth (RV.p PV.nilp) r_2.fst 0).toPV.toInt 3))
                                (Option.some Bool.false))
                              fun (v : Bool) =>
                              bnd
                                (ctl v
                                  (bnd
                                    (F 24
                                      [AV.bool Bool.true, AV.bool Bool.true,
                                        AV.agg
                                          [PV.int IntKind.i64
                                              (nth PV.nilp
                                                  (nth (RV.p PV.nilp) r.fst 0).toCs 0).toInt,
                                            PV.int IntKind.i64
                                              (nth PV.nilp
                                                  (nth (RV.p PV.nilp) r.fst 0).toCs 1).toInt,
                                            PV.int IntKind.i64
                                              (nth PV.nilp
                                                  (nth (RV.p PV.nilp) r.fst 0).toCs 2).toInt,
                                            PV.int IntKind.i64
                                              (nth PV.nilp
                                                  (nth (RV.p PV.nilp) r.fst 0).toCs 3).toInt,
                                            PV.int IntKind.i64
                                              (nth PV.nilp
                                                  (nth (RV.p PV.nilp) r.fst 0).toCs 4).toInt],
                                        AV.int IntKind.i64 (IntKind.i64.wrap (IntKind.i64.wrap causes + 1))]
                                      [])
                                    fun (r : Res) =>
                                    ctl
                                      (okR [RSh.one (Sh.int IntKind.i64)] r.fst &&
                                        okB [] r.snd)
                                      (Option.some
                                        (leB (nth (RV.p PV.nilp) r_1.fst 0).toPV.toInt
                                          (nth (RV.p PV.nilp) r.fst 0).toPV.toInt))
                                      Option.none)
                                  (Option.some Bool.false))
                                fun (v : Bool) =>
                                bnd
                                  (ctl v
                                    (bnd (F 9 [] []) fun (r : Res) =>
                                      ctl
                                        (okR [RSh.one Sh.bool] r.fst && okB [] r.snd)
                                        (Option.some (nth (RV.p PV.nilp) r.fst 0).toPV.toBool) Option.none)
                                    (Option.some Bool.false))
                                  fun (v : Bool) => Option.some ([RV.p (PV.bool v)], []))
                        Option.none)
                    Option.none)
                Option.none)
            Option.none)
        Option.none) := by kernel_rfl

/-- dynpos/dynposlaw28.sane -/
theorem r9 (F : Fun) : funK E F 9 [] [] =
  bnd
    (F 20
      [AV.sl 1
          [[PV.int IntKind.i64 3], [PV.int IntKind.i64 3], [PV.int IntKind.i64 3],
            [PV.int IntKind.i64 3], [PV.int IntKind.i64 3]],
        AV.int IntKind.i64 2]
      [])
    fun (r : Res) =>
    ctl
      (okR [RSh.one (Sh.sl 1), RSh.one (Sh.int IntKind.i64)]
          r.fst &&
        okB [] r.snd)
      (ctl ((nth (RV.p PV.nilp) r.fst 1).toPV.toInt == 0)
        (bnd
          (bnd
            (F 22
              [AV.sl 1 (nth (RV.p PV.nilp) r.fst 0).toPV.toEs,
                AV.sl 1
                  [[PV.int IntKind.i64 1], [PV.int IntKind.i64 1], [PV.int IntKind.i64 2],
                    [PV.int IntKind.i64 2], [PV.int IntKind.i64 3]]]
              [])
            fun (r : Res) =>
            ctl
              (okR [RSh.one Sh.bool] r.fst && okB [] r.snd &&
                (noslR r.fst && noslB r.snd))
              (Option.some (nth (RV.p PV.nilp) r.fst 0).toPV.toBool) Option.none)
          fun (v : Bool) =>
          bnd
            (ctl v
              (bnd
                (F 24
                  [AV.bool Bool.true, AV.bool Bool.true,
                    AV.agg
                      [PV.int IntKind.i64 0, PV.int IntKind.i64 0, PV.int IntKind.i64 0,
                        PV.int IntKind.i64 0, PV.int IntKind.i64 1],
                    AV.int IntKind.i64 2]
                  [])
                fun (r : Res) =>
                ctl
                  (okR [RSh.one (Sh.int IntKind.i64)] r.fst && okB [] r.snd)
                  (Option.some ((nth (RV.p PV.nilp) r.fst 0).toPV.toInt == 3)) Option.none)
              (Option.some Bool.false))
            fun (v : Bool) =>
            bnd
              (ctl v
                (bnd
                  (F 24
                    [AV.bool Bool.true, AV.bool Bool.true,
                      AV.agg
                        [PV.int IntKind.i64 0, PV.int IntKind.i64 0, PV.int IntKind.i64 0,
                          PV.int IntKind.i64 0, PV.int IntKind.i64 1],
                      AV.int IntKind.i64 1]
                    [])
                  fun (r : Res) =>
                  ctl
                    (okR [RSh.one (Sh.int IntKind.i64)] r.fst && okB [] r.snd)
                    (Option.some ((nth (RV.p PV.nilp) r.fst 0).toPV.toInt == 2)) Option.none)
                (Option.some Bool.false))
              fun (v : Bool) =>
              ctl v
                (bnd
                  (bnd
                    (F 24
                      [AV.bool Bool.true, AV.bool Bool.true,
                        AV.agg
                          [PV.int IntKind.i64 0, PV.int IntKind.i64 0, PV.int IntKind.i64 0,
                            PV.int IntKind.i64 0, PV.int IntKind.i64 0],
                        AV.int IntKind.i64 2]
                      [])
                    fun (r : Res) =>
                    ctl
                      (okR [RSh.one (Sh.int IntKind.i64)] r.fst && okB [] r.snd)
                      (Option.some ((nth (RV.p PV.nilp) r.fst 0).toPV.toInt == 1)) Option.none)
                  fun (v : Bool) =>
                  ctl v
                    (bnd
                      (bnd
                        (F 17
                          [AV.agg [PV.int IntKind.i64 2, PV.int IntKind.i64 0],
                            AV.int IntKind.i64 2]
                          [])
                        fun (r : Res) =>
                        ctl
                          (okR [RSh.one Sh.bool] r.fst && okB [] r.snd)
                          (Option.some (nth (RV.p PV.nilp) r.fst 0).toPV.toBool) Option.none)
                      fun (v : Bool) => Option.some ([RV.p (PV.bool v)], []))
                    (Option.some ([RV.p (PV.bool Bool.false)], [])))
                (Option.some ([RV.p (PV.bool Bool.false)], [])))
        (Option.some ([RV.p (PV.bool Bool.false)], [])))
      Option.none := by kernel_rfl

/-- dynpos/dynposmake.New -/
theorem r10 (F : Fun) (l : List (List PV)) : funK E F 10 [AV.sl 1 l] [] =
  ctl
    (Bool.true &&
      (leB 0 (minI 600 (↑l.length : Int)) && leB (minI 600 (↑l.length : Int)) (↑l.length : Int)))
    (Option.some
      ([RV.ownp
            [PV.sl 1 (cutI l 0 (minI 600 (↑l.length : Int))), PV.int IntKind.i64 0]],
        []))
    Option.none := by kernel_rfl

/-- (*dynpos/dynposmake.Src).Range -/
theorem r11 (F : Fun) (s0 : List (List PV)) (s1 : Int) (lo : Int) (hi : Int) : funK E F 11 [AV.t (TV.ptr 0 0), AV.int IntKind.i64 lo, AV.int IntKind.i64 hi] [Blk.box [AV.sl 1 s0, AV.int IntKind.i64 s1]] =
  bnd
    (F 12 [AV.t (TV.ptr 0 0), AV.int IntKind.i64 (IntKind.i64.wrap (IntKind.i64.wrap (hi - lo) + 1))]
      [Blk.box [AV.sl 1 s0, AV.int IntKind.i64 s1]])
    fun (r : Res) =>
    ctl
      (okR [RSh.one (Sh.int IntKind.i64)] r.fst &&
        okB [Sum.inl [Sh.sl 1, Sh.int IntKind.i64]] r.snd)
      (Option.some
        ([RV.p
              (PV.int IntKind.i64
                (IntKind.i64.wrap (lo + (nth (RV.p PV.nilp) r.fst 0).toPV.toInt)))],
          [Blk.box
              [AV.sl 1
                  (nth PV.nilp
                      (List.map AV.toPV (nth (Blk.box []) r.snd 0).toCs) 0).toEs,
                AV.int IntKind.i64
                  (nth PV.nilp
                      (List.map AV.toPV (nth (Blk.box []) r.snd 0).toCs) 1).toInt]]))
      Option.none := by kernel_rfl

/-- (*dynpos/dynposmake.Src).N -/
theorem r12 (F : Fun) (s0 : List (List PV)) (s1 : Int) (n : Int) : funK E F 12 [AV.t (TV.ptr 0 0), AV.int IntKind.i64 n] [Blk.box [AV.sl 1 s0, AV.int IntKind.i64 s1]] =
  ctl (leB (↑s0.length : Int) s1)
    (Option.some
      ([RV.p (PV.int IntKind.i64 0)],
        [Blk.box [AV.sl 1 s0, AV.int IntKind.i64 s1]]))
    (getE s0 (IntKind.i64.wrap (IntKind.i64.wrap (s1 + 1) - 1)) fun (c : List PV) =>
      ctl (okCs [Sh.int IntKind.i64] c)
        (bnd
          (F 26 [AV.int IntKind.i64 (nth PV.nilp c 0).toInt, AV.int IntKind.i64 n] [])
          fun (r : Res) =>
          ctl
            (okR [RSh.one (Sh.int IntKind.i64)] r.fst && okB [] r.snd)
            (Option.some
              ([RV.p
                    (PV.int IntKind.i64 (nth (RV.p PV.nilp) r.fst 0).toPV.toInt)],
                [Blk.box [AV.sl 1 s0, AV.int IntKind.i64 (IntKind.i64.wrap (s1 + 1))]]))
            Option.none)
        Option.none) := by kernel_rfl

/-- dynpos/status.Valid -/
theorem r13 (F : Fun) (c0 : Int) (c1 : Int) (time : Int) : funK E F 13 [AV.agg [PV.int IntKind.i64 c0, PV.int IntKind.i64 c1], AV.int IntKind.i64 time] [] =
  bnd (F 27 [AV.int IntKind.i64 c0] []) fun (r : Res) =>
    ctl (okR [RSh.one Sh.bool] r.fst && okB [] r.snd)
      (bnd
        (ctl (nth (RV.p PV.nilp) r.fst 0).toPV.toBool
          (Option.some (leB (-1) c1)) (Option.some Bool.false))
        fun (v : Bool) =>
        bnd (ctl v (Option.some (leB c1 time)) (Option.some Bool.false)) fun (v : Bool) =>
          bnd
            (ctl v (ctl (!ltB c0 3) (Option.some (c1 == -1)) (Option.some Bool.true)) (Option.some Bool.false)) fun (v : Bool) =>
            Option.some ([RV.p (PV.bool v)], []))
      Option.none := by kernel_rfl

/-- dynpos/dynposref28.Valid -/
theorem r14 (F : Fun) (c0 : Int) (c1 : Int) (time : Int) : funK E F 14 [AV.agg [PV.int IntKind.i64 c0, PV.int IntKind.i64 c1], AV.int IntKind.i64 time] [] =
  bnd (F 28 [AV.int IntKind.i64 c0] []) fun (r : Res) =>
    ctl (okR [RSh.one Sh.bool] r.fst && okB [] r.snd)
      (bnd
        (ctl (nth (RV.p PV.nilp) r.fst 0).toPV.toBool
          (Option.some (leB (-1) c1)) (Option.some Bool.false))
        fun (v : Bool) =>
        bnd (ctl v (Option.some (leB c1 time)) (Option.some Bool.false)) fun (v : Bool) =>
          bnd
            (ctl v (ctl (!c1 == -1) (Option.some (ltB c0 3)) (Option.some Bool.true)) (Option.some Bool.false)) fun (v : Bool) =>
            Option.some ([RV.p (PV.bool v)], []))
      Option.none := by kernel_rfl

/-- dynpos/status.Next -/
theorem r15 (F : Fun) (c0 : Int) (c1 : Int) (time : Int) (judged : Int) (delay : Int) : funK E F 15 [AV.agg [PV.int IntKind.i64 c0, PV.int IntKind.i64 c1], AV.int IntKind.i64 time,
  AV.int IntKind.i64 judged, AV.int IntKind.i64 delay] [] =
  bnd
    (F 13
      [AV.agg [PV.int IntKind.i64 c0, PV.int IntKind.i64 c1], AV.int IntKind.i64 time]
      [])
    fun (r : Res) =>
    ctl (okR [RSh.one Sh.bool] r.fst && okB [] r.snd)
      (bnd
        (ctl (!!(nth (RV.p PV.nilp) r.fst 0).toPV.toBool)
          (bnd (F 27 [AV.int IntKind.i64 judged] []) fun (r : Res) =>
            ctl (okR [RSh.one Sh.bool] r.fst && okB [] r.snd)
              (Option.some !(nth (RV.p PV.nilp) r.fst 0).toPV.toBool) Option.none)
          (Option.some Bool.true))
        fun (v : Bool) =>
        ctl v
          (Option.some
            ([RV.agg [PV.int IntKind.i64 0, PV.int IntKind.i64 0],
                RV.p (PV.int IntKind.i64 64)],
              []))
          (bnd (ctl (!ltB time 0) (Option.some (ltB 2147483648 time)) (Option.some Bool.true))
            fun (v : Bool) =>
            bnd (ctl (!v) (Option.some (ltB delay 0)) (Option.some Bool.true)) fun (v : Bool) =>
              bnd (ctl (!v) (Option.some (ltB 600 delay)) (Option.some Bool.true)) fun (v : Bool) =>
                ctl v
                  (Option.some
                    ([RV.agg [PV.int IntKind.i64 0, PV.int IntKind.i64 0],
                        RV.p (PV.int IntKind.i64 1)],
                      []))
                  (ctl (ltB c0 judged)
                    (bnd
                      (F 30
                        [AV.agg
                            [PV.int IntKind.i64 time, PV.int IntKind.i64 judged, PV.int IntKind.i64 delay],
                          AV.agg [PV.int IntKind.i64 c0, PV.int IntKind.i64 c1]]
                        [])
                      fun (r : Res) =>
                      ctl
                        (okR [RSh.agg [Sh.int IntKind.i64, Sh.int IntKind.i64]] r.fst &&
                          okB [] r.snd)
                        (Option.some
                          ([RV.agg
                                [PV.int IntKind.i64
                                    (nth PV.nilp
                                        (nth (RV.p PV.nilp) r.fst 0).toCs 0).toInt,
                                  PV.int IntKind.i64
                                    (nth PV.nilp
                                        (nth (RV.p PV.nilp) r.fst 0).toCs 1).toInt],
                              RV.p (PV.int IntKind.i64 0)],
                            []))
                        Option.none)
                    (bnd
                      (F 29
                        [AV.agg
                            [PV.int IntKind.i64 time, PV.int IntKind.i64 judged, PV.int IntKind.i64 delay],
                          AV.agg [PV.int IntKind.i64 c0, PV.int IntKind.i64 c1]]
                        [])
                      fun (r : Res) =>
                      ctl
                        (okR [RSh.agg [Sh.int IntKind.i64, Sh.int IntKind.i64]] r.fst &&
                          okB [] r.snd)
                        (Option.some
                          ([RV.agg
                                [PV.int IntKind.i64
                                    (nth PV.nilp
                                        (nth (RV.p PV.nilp) r.fst 0).toCs 0).toInt,
                                  PV.int IntKind.i64
                                    (nth PV.nilp
                                        (nth (RV.p PV.nilp) r.fst 0).toCs 1).toInt],
                              RV.p (PV.int IntKind.i64 0)],
                            []))
                        Option.none))))
      Option.none := by kernel_rfl

/-- dynpos/dynposref28.Next -/
theorem r16 (F : Fun) (c0 : Int) (c1 : Int) (time : Int) (judged : Int) (delay : Int) : funK E F 16 [AV.agg [PV.int IntKind.i64 c0, PV.int IntKind.i64 c1], AV.int IntKind.i64 time,
  AV.int IntKind.i64 judged, AV.int IntKind.i64 delay] [] =
  bnd
    (F 14
      [AV.agg [PV.int IntKind.i64 c0, PV.int IntKind.i64 c1], AV.int IntKind.i64 time]
      [])
    fun (r : Res) =>
    ctl (okR [RSh.one Sh.bool] r.fst && okB [] r.snd)
      (bnd
        (ctl (!!(nth (RV.p PV.nilp) r.fst 0).toPV.toBool)
          (bnd (F 28 [AV.int IntKind.i64 judged] []) fun (r : Res) =>
            ctl (okR [RSh.one Sh.bool] r.fst && okB [] r.snd)
              (Option.some !(nth (RV.p PV.nilp) r.fst 0).toPV.toBool) Option.none)
          (Option.some Bool.true))
        fun (v : Bool) =>
        ctl v
          (Option.some
            ([RV.agg [PV.int IntKind.i64 0, PV.int IntKind.i64 0],
                RV.p (PV.int IntKind.i64 64)],
              []))
          (bnd (ctl (!ltB time 0) (Option.some (ltB 2147483648 time)) (Option.some Bool.true))
            fun (v : Bool) =>
            bnd (ctl (!v) (Option.some (ltB delay 0)) (Option.some Bool.true)) fun (v : Bool) =>
              bnd (ctl (!v) (Option.some (ltB 600 delay)) (Option.some Bool.true)) fun (v : Bool) =>
                ctl v
                  (Option.some
                    ([RV.agg [PV.int IntKind.i64 0, PV.int IntKind.i64 0],
                        RV.p (PV.int IntKind.i64 1)],
                      []))
                  (ctl (leB judged c0)
                    (Option.some
                      ([RV.agg [PV.int IntKind.i64 judged, PV.int IntKind.i64 (-1)],
                          RV.p (PV.int IntKind.i64 0)],
                        []))
                    (ctl (c1 == -1)
                      (ctl (leB delay (IntKind.i64.wrap (time - time)))
                        (ctl (ltB (IntKind.i64.wrap (c0 + 1)) judged)
                          (Option.some
                            ([RV.agg [PV.int IntKind.i64 (IntKind.i64.wrap (c0 + 1)), PV.int IntKind.i64 time],
                                RV.p (PV.int IntKind.i64 0)],
                              []))
                          (Option.some
                            ([RV.agg [PV.int IntKind.i64 (IntKind.i64.wrap (c0 + 1)), PV.int IntKind.i64 (-1)],
                                RV.p (PV.int IntKind.i64 0)],
                              [])))
                        (Option.some
                          ([RV.agg [PV.int IntKind.i64 c0, PV.int IntKind.i64 time],
                              RV.p (PV.int IntKind.i64 0)],
                            [])))
                      (ctl (leB delay (IntKind.i64.wrap (time - c1)))
                        (ctl (ltB (IntKind.i64.wrap (c0 + 1)) judged)
                          (Option.some
                            ([RV.agg [PV.int IntKind.i64 (IntKind.i64.wrap (c0 + 1)), PV.int IntKind.i64 time],
                                RV.p (PV.int IntKind.i64 0)],
                              []))
                          (Option.some
                            ([RV.agg [PV.int IntKind.i64 (IntKind.i64.wrap (c0 + 1)), PV.int IntKind.i64 (-1)],
                                RV.p (PV.int IntKind.i64 0)],
                              [])))
                        (Option.some
                          ([RV.agg [PV.int IntKind.i64 c0, PV.int IntKind.i64 c1],
                              RV.p (PV.int IntKind.i64 0)],
                            [])))))))
      Option.none := by kernel_rfl

/-- dynpos/status.Enough -/
theorem r17 (F : Fun) (c0 : Int) (c1 : Int) (needed : Int) : funK E F 17 [AV.agg [PV.int IntKind.i64 c0, PV.int IntKind.i64 c1], AV.int IntKind.i64 needed] [] =
  Option.some ([RV.p (PV.bool (leB needed c0))], []) := by kernel_rfl

/-- dynpos/dynposref28.Enough -/
theorem r18 (F : Fun) (c0 : Int) (c1 : Int) (needed : Int) : funK E F 18 [AV.agg [PV.int IntKind.i64 c0, PV.int IntKind.i64 c1], AV.int IntKind.i64 needed] [] =
  Option.some ([RV.p (PV.bool (leB needed c0))], []) := by kernel_rfl

/-- dynpos/dynposlaw28.levels, the loop of block 0 -/
theorem r19_0 (F : Fun) (k6 : Int) (b0_0 : List (List PV)) (b0_1 : Int) (c1 : List (List PV)) : lp E F 19 1 [] 0
  { vals := [AV.int IntKind.i64 k6],
    blks := [Blk.box [AV.sl 1 b0_0, AV.int IntKind.i64 b0_1], Blk.arr 1 c1] } =
  ctl (ltB 0 k6)
    (bnd
      (F 31
        [AV.t (TV.ptr 0 0),
          AV.sl 1
            [[PV.int IntKind.i64 3], [PV.int IntKind.i64 3], [PV.int IntKind.i64 2],
              [PV.int IntKind.i64 1], [PV.int IntKind.i64 3]]]
        [Blk.box [AV.sl 1 b0_0, AV.int IntKind.i64 b0_1]])
      fun (r : Res) =>
      ctl
        (okR [RSh.one (Sh.int IntKind.i64)] r.fst &&
          okB [Sum.inl [Sh.sl 1, Sh.int IntKind.i64]] r.snd)
        (ctl (leN ((c1.length + 1) * 8) 140737488355328)
          (lp E F 19 1 [] 0
            { vals := [AV.int IntKind.i64 (IntKind.i64.wrap (k6 - 1))],
              blks :=
                [Blk.box
                    [AV.sl 1
                        (nth PV.nilp
                            (List.map AV.toPV (nth (Blk.box []) r.snd 0).toCs) 0).toEs,
                      AV.int IntKind.i64
                        (nth PV.nilp
                            (List.map AV.toPV (nth (Blk.box []) r.snd 0).toCs) 1).toInt],
                  Blk.arr 1
                    (c1 ++ [[PV.int IntKind.i64 (nth (RV.p PV.nilp) r.fst 0).toPV.toInt]])] })
          Option.none)
        Option.none)
    (Option.some
      (Ex.exit 0,
        { vals := [],
          blks := [Blk.box [AV.sl 1 b0_0, AV.int IntKind.i64 b0_1], Blk.arr 1 c1] })) := (lp_unfold ..).trans (by kernel_rfl)

/-- dynpos/dynposlaw28.levels -/
theorem r19 (F : Fun) (s0 : List (List PV)) (s1 : Int) (most : Int) : funK E F 19 [AV.t (TV.ptr 0 0), AV.int IntKind.i64 most] [Blk.box [AV.sl 1 s0, AV.int IntKind.i64 s1]] =
  bnd
    (F 12 [AV.t (TV.ptr 0 0), AV.int IntKind.i64 (IntKind.i64.wrap (most + 1))]
      [Blk.box [AV.sl 1 s0, AV.int IntKind.i64 s1]])
    fun (r : Res) =>
    ctl
      (okR [RSh.one (Sh.int IntKind.i64)] r.fst &&
        okB [Sum.inl [Sh.sl 1, Sh.int IntKind.i64]] r.snd)
      (bnd
        (lp E F 19 1 [] 0
          { vals := [AV.int IntKind.i64 (nth (RV.p PV.nilp) r.fst 0).toPV.toInt],
            blks :=
              [Blk.box
                  [AV.sl 1
                      (nth PV.nilp
                          (List.map AV.toPV (nth (Blk.box []) r.snd 0).toCs) 0).toEs,
                    AV.int IntKind.i64
                      (nth PV.nilp
                          (List.map AV.toPV (nth (Blk.box []) r.snd 0).toCs) 1).toInt],
                Blk.arr 1 []] })
        fun (p : Ex × Pack) =>
        ctl (p.fst.eqb (Ex.exit 0))
          (ctl
            (okPack
              { slots := [(5, Sum.inr (Sum.inr (AV.t (TV.hsl 1))))],
                blks := [Sum.inl [Sum.inl (Sh.sl 1), Sum.inl (Sh.int IntKind.i64)], Sum.inr 1] }
              p.snd)
            (Option.some
              ([RV.p (PV.sl 1 (nth (Blk.box []) p.snd.blks 1).toEs)],
                [Blk.box
                    [AV.sl 1
                        (nth AV.undef (nth (Blk.box []) p.snd.blks 0).toCs 0).toPV.toEs,
                      AV.int IntKind.i64
                        (nth AV.undef (nth (Blk.box []) p.snd.blks 0).toCs 1).toPV.toInt]]))
            Option.none)
          Option.none)
      Option.none := by kernel_rfl

/-- dynpos/status.Run, the loop of block 0 -/
theorem r20_0 (F : Fun) (delay1 : Int) (x16 : List (List PV)) (x17 : Int) (x18 : Int) (b0_0 : Int) (b0_1 : Int) (c1 : List (List PV)) : lp E F 20 0 [] 0
  {
    vals :=
      [AV.int IntKind.i64 delay1, AV.sl 1 x16, AV.int IntKind.i64 x17,
        AV.int IntKind.i64 x18],
    blks := [Blk.box [AV.int IntKind.i64 b0_0, AV.int IntKind.i64 b0_1], Blk.arr 1 c1] } =
  ctl (ltB x18 x17)
    (getE x16 x18 fun (c : List PV) =>
      ctl (okCs [Sh.int IntKind.i64] c)
        (bnd
          (F 15
            [AV.agg [PV.int IntKind.i64 b0_0, PV.int IntKind.i64 b0_1],
              AV.int IntKind.i64 x18, AV.int IntKind.i64 (nth PV.nilp c 0).toInt,
              AV.int IntKind.i64 delay1]
            [])
          fun (r : Res) =>
          ctl
            (okR
                [RSh.agg [Sh.int IntKind.i64, Sh.int IntKind.i64],
                  RSh.one (Sh.int IntKind.i64)]
                r.fst &&
              okB [] r.snd)
            (ctl ((nth (RV.p PV.nilp) r.fst 1).toPV.toInt != 0)
              (Option.some
                (Ex.ret,
                  {
                    vals :=
                      [AV.sl 1 [],
                        AV.int IntKind.i64 (nth (RV.p PV.nilp) r.fst 1).toPV.toInt],
                    blks := [] }))
              (ctl (leN ((c1.length + 1) * 8) 140737488355328)
                (lp E F 20 0 [] 0
                  {
                    vals :=
                      [AV.int IntKind.i64 delay1, AV.sl 1 x16, AV.int IntKind.i64 x17,
                        AV.int IntKind.i64 (IntKind.i64.wrap (x18 + 1))],
                    blks :=
                      [Blk.box
                          [AV.int IntKind.i64
                              (nth PV.nilp
                                  (nth (RV.p PV.nilp) r.fst 0).toCs 0).toInt,
                            AV.int IntKind.i64
                              (nth PV.nilp
                                  (nth (RV.p PV.nilp) r.fst 0).toCs 1).toInt],
                        Blk.arr 1
                          (c1 ++
                            [[PV.int IntKind.i64
                                  (nth PV.nilp
                                      (nth (RV.p PV.nilp) r.fst 0).toCs 0).toInt]])] })
                Option.none))
            Option.none)
        Option.none)
    (Option.some (Ex.exit 0, { vals := [], blks := [Blk.arr 1 c1] })) := (lp_unfold ..).trans (by kernel_rfl)

/-- dynpos/status.Run -/
theorem r20 (F : Fun) (judged : List (List PV)) (delay : Int) : funK E F 20 [AV.sl 1 judged, AV.int IntKind.i64 delay] [] =
  ctl (ltB 400 (↑judged.length : Int))
    (Option.some ([RV.p PV.nils, RV.p (PV.int IntKind.i64 2)], []))
    (bnd
      (lp E F 20 0 [] 0
        {
          vals :=
            [AV.int IntKind.i64 delay, AV.sl 1 judged, AV.int IntKind.i64 (↑judged.length : Int),
              AV.int IntKind.i64 0],
          blks := [Blk.box [AV.int IntKind.i64 1, AV.int IntKind.i64 (-1)], Blk.arr 1 []] })
      fun (p : Ex × Pack) =>
      ctl (p.fst.eqb (Ex.exit 0))
        (ctl
          (okPack { slots := [(7, Sum.inr (Sum.inr (AV.t (TV.hsl 0))))], blks := [Sum.inr 1] } p.snd)
          (Option.some
            ([RV.p (PV.sl 1 (nth (Blk.box []) p.snd.blks 0).toEs),
                RV.p (PV.int IntKind.i64 0)],
              []))
          Option.none)
        (ctl (p.fst.eqb Ex.ret)
          (ctl
            (okPack { slots := [(4, Sum.inl (Sh.sl 1)), (5, Sum.inl (Sh.int IntKind.i64))], blks := [] } p.snd)
            (Option.some
              ([RV.p (PV.sl 1 (nth AV.undef p.snd.vals 0).toPV.toEs),
                  RV.p (PV.int IntKind.i64 (nth AV.undef p.snd.vals 1).toPV.toInt)],
                []))
            Option.none)
          Option.none)) := by kernel_rfl

/-- dynpos/dynposref28.Run, the loop of block 0 -/
theorem r21_0 (F : Fun) (delay1 : Int) (x16 : List (List PV)) (x17 : Int) (x18 : Int) (b0_0 : Int) (b0_1 : Int) (c1 : List (List PV)) : lp E F 21 0 [] 0
  {
    vals :=
      [AV.int IntKind.i64 delay1, AV.sl 1 x16, AV.int IntKind.i64 x17,
        AV.int IntKind.i64 x18],
    blks := [Blk.box [AV.int IntKind.i64 b0_0, AV.int IntKind.i64 b0_1], Blk.arr 1 c1] } =
  ctl (ltB x18 x17)
    (getE x16 x18 fun (c : List PV) =>
      ctl (okCs [Sh.int IntKind.i64] c)
        (bnd
          (F 16
            [AV.agg [PV.int IntKind.i64 b0_0, PV.int IntKind.i64 b0_1],
              AV.int IntKind.i64 x18, AV.int IntKind.i64 (nth PV.nilp c 0).toInt,
              AV.int IntKind.i64 delay1]
            [])
          fun (r : Res) =>
          ctl
            (okR
                [RSh.agg [Sh.int IntKind.i64, Sh.int IntKind.i64],
                  RSh.one (Sh.int IntKind.i64)]
                r.fst &&
              okB [] r.snd)
            (ctl ((nth (RV.p PV.nilp) r.fst 1).toPV.toInt != 0)
              (Option.some
                (Ex.ret,
                  {
                    vals :=
                      [AV.sl 1 [],
                        AV.int IntKind.i64 (nth (RV.p PV.nilp) r.fst 1).toPV.toInt],
                    blks := [] }))
              (ctl (leN ((c1.length + 1) * 8) 140737488355328)
                (lp E F 21 0 [] 0
                  {
                    vals :=
                      [AV.int IntKind.i64 delay1, AV.sl 1 x16, AV.int IntKind.i64 x17,
                        AV.int IntKind.i64 (IntKind.i64.wrap (x18 + 1))],
                    blks :=
                      [Blk.box
                          [AV.int IntKind.i64
                              (nth PV.nilp
                                  (nth (RV.p PV.nilp) r.fst 0).toCs 0).toInt,
                            AV.int IntKind.i64
                              (nth PV.nilp
                                  (nth (RV.p PV.nilp) r.fst 0).toCs 1).toInt],
                        Blk.arr 1
                          (c1 ++
                            [[PV.int IntKind.i64
                                  (nth PV.nilp
                                      (nth (RV.p PV.nilp) r.fst 0).toCs 0).toInt]])] })
                Option.none))
            Option.none)
        Option.none)
    (Option.some (Ex.exit 0, { vals := [], blks := [Blk.arr 1 c1] })) := (lp_unfold ..).trans (by kernel_rfl)

/-- dynpos/dynposref28.Run -/
theorem r21 (F : Fun) (judged : List (List PV)) (delay : Int) : funK E F 21 [AV.sl 1 judged, AV.int IntKind.i64 delay] [] =
  ctl (ltB 400 (↑judged.length : Int))
    (Option.some ([RV.p PV.nils, RV.p (PV.int IntKind.i64 2)], []))
    (bnd
      (lp E F 21 0 [] 0
        {
          vals :=
            [AV.int IntKind.i64 delay, AV.sl 1 judged, AV.int IntKind.i64 (↑judged.length : Int),
              AV.int IntKind.i64 0],
          blks := [Blk.box [AV.int IntKind.i64 1, AV.int IntKind.i64 (-1)], Blk.arr 1 []] })
      fun (p : Ex × Pack) =>
      ctl (p.fst.eqb (Ex.exit 0))
        (ctl
          (okPack { slots := [(7, Sum.inr (Sum.inr (AV.t (TV.hsl 0))))], blks := [Sum.inr 1] } p.snd)
          (Option.some
            ([RV.p (PV.sl 1 (nth (Blk.box []) p.snd.blks 0).toEs),
                RV.p (PV.int IntKind.i64 0)],
              []))
          Option.none)
        (ctl (p.fst.eqb Ex.ret)
          (ctl
            (okPack { slots := [(4, Sum.inl (Sh.sl 1)), (5, Sum.inl (Sh.int IntKind.i64))], blks := [] } p.snd)
            (Option.some
              ([RV.p (PV.sl 1 (nth AV.undef p.snd.vals 0).toPV.toEs),
                  RV.p (PV.int IntKind.i64 (nth AV.undef p.snd.vals 1).toPV.toInt)],
                []))
            Option.none)
          Option.none)) := by kernel_rfl

/-- dynpos/dynposref01.Ints, the loop of block 0 -/
theorem r22_0 (F : Fun) (a0 : List (List PV)) (b1 : List (List PV)) (x12 : Int) (x13 : Int) : lp E F 22 0 [] 0
  { vals := [AV.sl 1 a0, AV.sl 1 b1, AV.int IntKind.i64 x12, AV.int IntKind.i64 x13],
    blks := [] } =
  ctl (ltB x13 x12)
    (getE a0 x13 fun (c : List PV) =>
      ctl (okCs [Sh.int IntKind.i64] c)
        (getE b1 x13 fun (c_1 : List PV) =>
          ctl (okCs [Sh.int IntKind.i64] c_1)
            (ctl
              ((nth PV.nilp c 0).toInt != (nth PV.nilp c_1 0).toInt)
              (Option.some (Ex.ret, { vals := [AV.bool Bool.false], blks := [] }))
              (lp E F 22 0 [] 0
                {
                  vals :=
                    [AV.sl 1 a0, AV.sl 1 b1, AV.int IntKind.i64 x12,
                      AV.int IntKind.i64 (IntKind.i64.wrap (x13 + 1))],
                  blks := [] }))
            Option.none)
        Option.none)
    (Option.some (Ex.exit 0, { vals := [], blks := [] })) := (lp_unfold ..).trans (by kernel_rfl)

/-- dynpos/dynposref01.Ints -/
theorem r22 (F : Fun) (a : List (List PV)) (b : List (List PV)) : funK E F 22 [AV.sl 1 a, AV.sl 1 b] [] =
  ctl ((↑a.length : Int) != (↑b.length : Int)) (Option.some ([RV.p (PV.bool Bool.false)], []))
    (bnd
      (lp E F 22 0 [] 0
        {
          vals :=
            [AV.sl 1 a, AV.sl 1 b, AV.int IntKind.i64 (↑a.length : Int),
              AV.int IntKind.i64 0],
          blks := [] })
      fun (p : Ex × Pack) =>
      ctl (p.fst.eqb (Ex.exit 0)) (Option.some ([RV.p (PV.bool Bool.true)], []))
        (ctl (p.fst.eqb Ex.ret)
          (ctl (okPack { slots := [(4, Sum.inl Sh.bool)], blks := [] } p.snd)
            (Option.some ([RV.p (PV.bool (nth AV.undef p.snd.vals 0).toPV.toBool)], []))
            Option.none)
          Option.none)) := by kernel_rfl

/-- (*dynpos/dynposmake.Src).Estimate -/
theorem r23 (F : Fun) (s0 : List (List PV)) (s1 : Int) (time : Int) : funK E F 23 [AV.t (TV.ptr 0 0), AV.int IntKind.i64 time] [Blk.box [AV.sl 1 s0, AV.int IntKind.i64 s1]] =
  bnd
    (F 31
      [AV.t (TV.ptr 0 0),
        AV.sl 1
          [[PV.int IntKind.i64 0], [PV.int IntKind.i64 300], [PV.int IntKind.i64 (-700)],
            [PV.int IntKind.i64 5000]]]
      [Blk.box [AV.sl 1 s0, AV.int IntKind.i64 s1]])
    fun (r : Res) =>
    ctl
      (okR [RSh.one (Sh.int IntKind.i64)] r.fst &&
        okB [Sum.inl [Sh.sl 1, Sh.int IntKind.i64]] r.snd)
      (bnd
        (F 31
          [AV.t (TV.ptr 0 0),
            AV.sl 1
              [[PV.int IntKind.i64 0], [PV.int IntKind.i64 400], [PV.int IntKind.i64 (-100)]]]
          [Blk.box
              [AV.sl 1
                  (nth PV.nilp
                      (List.map AV.toPV (nth (Blk.box []) r.snd 0).toCs) 0).toEs,
                AV.int IntKind.i64
                  (nth PV.nilp
                      (List.map AV.toPV (nth (Blk.box []) r.snd 0).toCs) 1).toInt]])
        fun (r_1 : Res) =>
        ctl
          (okR [RSh.one (Sh.int IntKind.i64)] r_1.fst &&
            okB [Sum.inl [Sh.sl 1, Sh.int IntKind.i64]] r_1.snd)
          (bnd
            (F 31
              [AV.t (TV.ptr 0 0),
                AV.sl 1
                  [[PV.int IntKind.i64 0], [PV.int IntKind.i64 10], [PV.int IntKind.i64 100],
                    [PV.int IntKind.i64 900]]]
              [Blk.box
                  [AV.sl 1
                      (nth PV.nilp
                          (List.map AV.toPV (nth (Blk.box []) r_1.snd 0).toCs) 0).toEs,
                    AV.int IntKind.i64
                      (nth PV.nilp
                          (List.map AV.toPV (nth (Blk.box []) r_1.snd 0).toCs) 1).toInt]])
            fun (r_2 : Res) =>
            ctl
              (okR [RSh.one (Sh.int IntKind.i64)] r_2.fst &&
                okB [Sum.inl [Sh.sl 1, Sh.int IntKind.i64]] r_2.snd)
              (bnd
                (F 31
                  [AV.t (TV.ptr 0 0),
                    AV.sl 1
                      [[PV.int IntKind.i64 1], [PV.int IntKind.i64 1], [PV.int IntKind.i64 2],
                        [PV.int IntKind.i64 0]]]
                  [Blk.box
                      [AV.sl 1
                          (nth PV.nilp
                              (List.map AV.toPV (nth (Blk.box []) r_2.snd 0).toCs) 0).toEs,
                        AV.int IntKind.i64
                          (nth PV.nilp
                              (List.map AV.toPV (nth (Blk.box []) r_2.snd 0).toCs) 1).toInt]])
                fun (r_3 : Res) =>
                ctl
                  (okR [RSh.one (Sh.int IntKind.i64)] r_3.fst &&
                    okB [Sum.inl [Sh.sl 1, Sh.int IntKind.i64]] r_3.snd)
                  (Option.some
                    ([RV.agg
                          [PV.int IntKind.i64 (nth (RV.p PV.nilp) r.fst 0).toPV.toInt,
                            PV.int IntKind.i64 (nth (RV.p PV.nilp) r_1.fst 0).toPV.toInt,
                            PV.int IntKind.i64 (nth (RV.p PV.nilp) r_2.fst 0).toPV.toInt,
                            PV.int IntKind.i64 time,
                            PV.int IntKind.i64 (nth (RV.p PV.nilp) r_3.fst 0).toPV.toInt]],
                      [Blk.box
                          [AV.sl 1
                              (nth PV.nilp
                                  (List.map AV.toPV (nth (Blk.box []) r_3.snd 0).toCs) 0).toEs,
                            AV.int IntKind.i64
                              (nth PV.nilp
                                  (List.map AV.toPV (nth (Blk.box []) r_3.snd 0).toCs) 1).toInt]]))
                  Option.none)
              Option.none)
          Option.none)
      Option.none := by kernel_rfl

/-- dynpos/status.Judge -/
theorem r24 (F : Fun) (holds : Bool) (safe : Bool) (e0 : Int) (e1 : Int) (e2 : Int) (e3 : Int) (e4 : Int) (causes : Int) : funK E F 24 [AV.bool holds, AV.bool safe,
  AV.agg
    [PV.int IntKind.i64 e0, PV.int IntKind.i64 e1, PV.int IntKind.i64 e2,
      PV.int IntKind.i64 e3, PV.int IntKind.i64 e4],
  AV.int IntKind.i64 causes] [] =
  bnd (ctl (!!holds) (Option.some (e4 != 1)) (Option.some Bool.true)) fun (v : Bool) =>
    ctl v (Option.some ([RV.p (PV.int IntKind.i64 1)], []))
      (bnd (ctl safe (Option.some (leB 2 causes)) (Option.some Bool.false)) fun (v : Bool) =>
        ctl v (Option.some ([RV.p (PV.int IntKind.i64 3)], []))
          (Option.some ([RV.p (PV.int IntKind.i64 2)], []))) := by kernel_rfl

/-- dynpos/dynposref28.Judge -/
theorem r25 (F : Fun) (holds : Bool) (safe : Bool) (e0 : Int) (e1 : Int) (e2 : Int) (e3 : Int) (e4 : Int) (causes : Int) : funK E F 25 [AV.bool holds, AV.bool safe,
  AV.agg
    [PV.int IntKind.i64 e0, PV.int IntKind.i64 e1, PV.int IntKind.i64 e2,
      PV.int IntKind.i64 e3, PV.int IntKind.i64 e4],
  AV.int IntKind.i64 causes] [] =
  bnd (ctl (!!holds) (Option.some (e4 != 1)) (Option.some Bool.true)) fun (v : Bool) =>
    ctl v (Option.some ([RV.p (PV.int IntKind.i64 1)], []))
      (bnd (ctl safe (Option.some (leB 2 causes)) (Option.some Bool.false)) fun (v : Bool) =>
        ctl v (Option.some ([RV.p (PV.int IntKind.i64 3)], []))
          (Option.some ([RV.p (PV.int IntKind.i64 2)], []))) := by kernel_rfl

/-- dynpos/dynposmake.Mod -/
theorem r26 (F : Fun) (x : Int) (n : Int) : funK E F 26 [AV.int IntKind.i64 x, AV.int IntKind.i64 n] [] =
  ctl (ltB n 1) (Option.some ([RV.p (PV.int IntKind.i64 0)], []))
    (ctl (Bool.true && neB n 0)
      (ctl (Bool.true && neB n 0)
        (Option.some ([RV.p (PV.int IntKind.i64 ((IntKind.i64.wrap (x.tmod n + n)).tmod n))], [])) Option.none)
      Option.none) := by kernel_rfl

/-- dynpos/status.level -/
theorem r27 (F : Fun) (n : Int) : funK E F 27 [AV.int IntKind.i64 n] [] =
  bnd (ctl (leB 1 n) (Option.some (leB n 3)) (Option.some Bool.false)) fun (v : Bool) =>
    Option.some ([RV.p (PV.bool v)], []) := by kernel_rfl

/-- dynpos/dynposref28.level -/
theorem r28 (F : Fun) (n : Int) : funK E F 28 [AV.int IntKind.i64 n] [] =
  bnd (ctl (leB 1 n) (Option.some (leB n 3)) (Option.some Bool.false)) fun (v : Bool) =>
    Option.some ([RV.p (PV.bool v)], []) := by kernel_rfl

/-- (dynpos/status.moment).worse -/
theorem r29 (F : Fun) (m0 : Int) (m1 : Int) (m2 : Int) (x10 : Int) (x11 : Int) : funK E F 29 [AV.agg [PV.int IntKind.i64 m0, PV.int IntKind.i64 m1, PV.int IntKind.i64 m2],
  AV.agg [PV.int IntKind.i64 x10, PV.int IntKind.i64 x11]] [] =
  Option.some ([RV.agg [PV.int IntKind.i64 m1, PV.int IntKind.i64 (-1)]], []) := by kernel_rfl

/-- (dynpos/status.moment).better -/
theorem r30 (F : Fun) (m0 : Int) (m1 : Int) (m2 : Int) (c0 : Int) (c1 : Int) : funK E F 30 [AV.agg [PV.int IntKind.i64 m0, PV.int IntKind.i64 m1, PV.int IntKind.i64 m2],
  AV.agg [PV.int IntKind.i64 c0, PV.int IntKind.i64 c1]] [] =
  ctl (c1 == -1)
    (ctl (ltB (IntKind.i64.wrap (m0 - m0)) m2)
      (Option.some ([RV.agg [PV.int IntKind.i64 c0, PV.int IntKind.i64 m0]], []))
      (ctl (ltB (IntKind.i64.wrap (c0 + 1)) m1)
        (Option.some ([RV.agg [PV.int IntKind.i64 (IntKind.i64.wrap (c0 + 1)), PV.int IntKind.i64 m0]], []))
        (Option.some ([RV.agg [PV.int IntKind.i64 (IntKind.i64.wrap (c0 + 1)), PV.int IntKind.i64 (-1)]], []))))
    (ctl (ltB (IntKind.i64.wrap (m0 - c1)) m2)
      (Option.some ([RV.agg [PV.int IntKind.i64 c0, PV.int IntKind.i64 c1]], []))
      (ctl (ltB (IntKind.i64.wrap (c0 + 1)) m1)
        (Option.some ([RV.agg [PV.int IntKind.i64 (IntKind.i64.wrap (c0 + 1)), PV.int IntKind.i64 m0]], []))
        (Option.some ([RV.agg [PV.int IntKind.i64 (IntKind.i64.wrap (c0 + 1)), PV.int IntKind.i64 (-1)]], [])))) := by kernel_rfl

/-- (*dynpos/dynposmake.Src).Pick -/
theorem r31 (F : Fun) (s0 : List (List PV)) (s1 : Int) (l : List (List PV)) : funK E F 31 [AV.t (TV.ptr 0 0), AV.sl 1 l] [Blk.box [AV.sl 1 s0, AV.int IntKind.i64 s1]] =
  bnd
    (F 12 [AV.t (TV.ptr 0 0), AV.int IntKind.i64 (↑l.length : Int)]
      [Blk.box [AV.sl 1 s0, AV.int IntKind.i64 s1]])
    fun (r : Res) =>
    ctl
      (okR [RSh.one (Sh.int IntKind.i64)] r.fst &&
        okB [Sum.inl [Sh.sl 1, Sh.int IntKind.i64]] r.snd)
      (getE l (nth (RV.p PV.nilp) r.fst 0).toPV.toInt
        fun (c : List PV) =>
        ctl (okCs [Sh.int IntKind.i64] c)
          (Option.some
            ([RV.p (PV.int IntKind.i64 (nth PV.nilp c 0).toInt)],
              [Blk.box
                  [AV.sl 1
                      (nth PV.nilp
                          (List.map AV.toPV (nth (Blk.box []) r.snd 0).toCs) 0).toEs,
                    AV.int IntKind.i64
                      (nth PV.nilp
                          (List.map AV.toPV (nth (Blk.box []) r.snd 0).toCs) 1).toInt]]))
          Option.none)
      Option.none := by kernel_rfl

end Go.Proofs.Ytiagcaefhjibjaa.Vm
