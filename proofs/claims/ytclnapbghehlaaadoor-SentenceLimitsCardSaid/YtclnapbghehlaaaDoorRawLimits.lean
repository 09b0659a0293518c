/- The raw theorems, by program: what each function and each loop comes to. -/
import Derived.Test.YtclnapbghehlaaaDoorEnv
import Derived.Test.YtclnapbghehlaaaDoorVm34
import Derived.KernelRfl
namespace Go.Proofs.YtclnapbghehlaaaDoor.Vm
open Go
set_option maxRecDepth 100000
set_option linter.unusedVariables false

/-- dynpos/dynposlaw04.SentenceLimits, the loop of block 0 -/
theorem r7_0 (F : Fun) (count5 : Int) (long6 : Int) (i8 : Int) (c0 : List (List PV)) : lp E F 7 0 [] 0
  { vals := [AV.int IntKind.i64 count5, AV.int IntKind.i64 long6, AV.int IntKind.i64 i8],
    blks := [Blk.arr 1 c0] } =
  ctl (ltB i8 count5)
    (bnd
      (lp E F 7 0 [] 2
        {
          vals :=
            [AV.int IntKind.i64 count5, AV.int IntKind.i64 long6, AV.int IntKind.i64 i8,
              AV.str []],
          blks := [Blk.arr 1 c0] })
      fun (p : Ex × Pack) =>
      ctl (p.fst.eqb (Ex.exit 2))
        (ctl
          (okPack
            {
              slots :=
                [(5, Sum.inl (Sh.int IntKind.i64)), (6, Sum.inl (Sh.int IntKind.i64)),
                  (7, Sum.inr (Sum.inr (AV.t (TV.hsl 0)))), (8, Sum.inl (Sh.int IntKind.i64)),
                  (9, Sum.inl Sh.str)],
              blks := [Sum.inr 1] }
            p.snd)
          (ctl
            (leN (((nth (Blk.box []) p.snd.blks 0).toEs.length + 1) * 16) 140737488355328)
            (lp E F 7 0 [] 0
              {
                vals :=
                  [AV.int IntKind.i64 (nth AV.undef p.snd.vals 0).toPV.toInt,
                    AV.int IntKind.i64 (nth AV.undef p.snd.vals 1).toPV.toInt,
                    AV.int IntKind.i64 (IntKind.i64.wrap ((nth AV.undef p.snd.vals 2).toPV.toInt + 1))],
                blks :=
                  [Blk.arr 1
                      ((nth (Blk.box []) p.snd.blks 0).toEs ++
                        [[PV.str (nth AV.undef p.snd.vals 3).toPV.toStr]])] })
            Option.none)
          Option.none)
        Option.none)
    (Option.some
      (Ex.exit 0,
        { vals := [AV.int IntKind.i64 count5, AV.int IntKind.i64 long6], blks := [Blk.arr 1 c0] })) := (lp_unfold ..).trans (by kernel_rfl)

/-- dynpos/dynposlaw04.SentenceLimits, the loop of block 2 -/
theorem r7_2 (F : Fun) (count5 : Int) (long6 : Int) (i8 : Int) (f9 : List UInt8) (c0 : List (List PV)) : lp E F 7 0 [] 2
  {
    vals :=
      [AV.int IntKind.i64 count5, AV.int IntKind.i64 long6, AV.int IntKind.i64 i8,
        AV.str f9],
    blks := [Blk.arr 1 c0] } =
  ctl (ltB (↑f9.length : Int) long6)
    (ctl (leN (f9.length + 1) 9223372036854775807)
      (lp E F 7 0 [] 2
        {
          vals :=
            [AV.int IntKind.i64 count5, AV.int IntKind.i64 long6, AV.int IntKind.i64 i8,
              AV.str (f9 ++ [120])],
          blks := [Blk.arr 1 c0] })
      Option.none)
    (Option.some
      (Ex.exit 2,
        {
          vals :=
            [AV.int IntKind.i64 count5, AV.int IntKind.i64 long6, AV.int IntKind.i64 i8,
              AV.str f9],
          blks := [Blk.arr 1 c0] })) := (lp_unfold ..).trans (by kernel_rfl)

/-- dynpos/dynposlaw04.SentenceLimits -/
theorem r7 (F : Fun) (n : Int) (k : Int) : funK E F 7 [AV.int IntKind.u8 n, AV.int IntKind.u8 k] [] =
  bnd
    (lp E F 7 0 [] 0
      {
        vals :=
          [AV.int IntKind.i64 (IntKind.i64.wrap (1 + (IntKind.i64.wrap n).tmod 20)),
            AV.int IntKind.i64 (IntKind.i64.wrap (1 + (IntKind.i64.wrap k).tmod 24)), AV.int IntKind.i64 0],
        blks := [Blk.arr 1 []] })
    fun (p : Ex × Pack) =>
    ctl (p.fst.eqb (Ex.exit 0))
      (ctl
        (okPack
          {
            slots :=
              [(5, Sum.inl (Sh.int IntKind.i64)), (6, Sum.inl (Sh.int IntKind.i64)),
                (7, Sum.inr (Sum.inr (AV.t (TV.hsl 0))))],
            blks := [Sum.inr 1] }
          p.snd)
        (bnd
          (F 16 [AV.agg [PV.sl 1 (nth (Blk.box []) p.snd.blks 0).toEs]] [])
          fun (r : Res) =>
          ctl
            (okR
                [RSh.one (Sh.sl 1), RSh.one (Sh.int IntKind.i64)] r.fst &&
              okB [] r.snd)
            (bnd
              (ctl (leB (nth AV.undef p.snd.vals 0).toPV.toInt 16)
                (Option.some (leB (nth AV.undef p.snd.vals 1).toPV.toInt 20)) (Option.some Bool.false))
              fun (v : Bool) =>
              ctl (!v)
                (bnd
                  (F 18 [AV.agg [PV.sl 1 (nth (Blk.box []) p.snd.blks 0).toEs]]
                    [])
                  fun (r_1 : Res) =>
                  ctl
                    (okR [RSh.one Sh.bool] r_1.fst && okB [] r_1.snd)
                    (bnd
                      (ctl ((nth (RV.p PV.nilp) r_1.fst 0).toPV.toBool == v)
                        (Option.some ((nth (RV.p PV.nilp) r.fst 1).toPV.toInt == 3)) (Option.some Bool.false))
                      fun (v : Bool) =>
                      bnd
                        (ctl v
                          (bnd (F 8 [] []) fun (r : Res) =>
                            ctl
                              (okR [RSh.one Sh.bool] r.fst && okB [] r.snd)
                              (Option.some (nth (RV.p PV.nilp) r.fst 0).toPV.toBool) Option.none)
                          (Option.some Bool.false))
                        fun (v : Bool) => Option.some ([RV.p (PV.bool v)], []))
                    Option.none)
                (ctl
                  (ltB 200
                    (IntKind.i64.wrap
                      (IntKind.i64.wrap
                          ((nth AV.undef p.snd.vals 0).toPV.toInt *
                            IntKind.i64.wrap ((nth AV.undef p.snd.vals 1).toPV.toInt + 1)) +
                        5)))
                  (bnd
                    (F 18 [AV.agg [PV.sl 1 (nth (Blk.box []) p.snd.blks 0).toEs]]
                      [])
                    fun (r_1 : Res) =>
                    ctl
                      (okR [RSh.one Sh.bool] r_1.fst && okB [] r_1.snd)
                      (bnd
                        (ctl ((nth (RV.p PV.nilp) r_1.fst 0).toPV.toBool == v)
                          (Option.some ((nth (RV.p PV.nilp) r.fst 1).toPV.toInt == 2)) (Option.some Bool.false))
                        fun (v : Bool) =>
                        bnd
                          (ctl v
                            (bnd (F 8 [] []) fun (r : Res) =>
                              ctl
                                (okR [RSh.one Sh.bool] r.fst && okB [] r.snd)
                                (Option.some (nth (RV.p PV.nilp) r.fst 0).toPV.toBool) Option.none)
                            (Option.some Bool.false))
                          fun (v : Bool) => Option.some ([RV.p (PV.bool v)], []))
                      Option.none)
                  (bnd
                    (F 18 [AV.agg [PV.sl 1 (nth (Blk.box []) p.snd.blks 0).toEs]]
                      [])
                    fun (r_1 : Res) =>
                    ctl
                      (okR [RSh.one Sh.bool] r_1.fst && okB [] r_1.snd)
                      (bnd
                        (ctl ((nth (RV.p PV.nilp) r_1.fst 0).toPV.toBool == v)
                          (Option.some ((nth (RV.p PV.nilp) r.fst 1).toPV.toInt == 0)) (Option.some Bool.false))
                        fun (v : Bool) =>
                        bnd
                          (ctl v
                            (bnd (F 8 [] []) fun (r : Res) =>
                              ctl
                                (okR [RSh.one Sh.bool] r.fst && okB [] r.snd)
                                (Option.some (nth (RV.p PV.nilp) r.fst 0).toPV.toBool) Option.none)
                            (Option.some Bool.false))
                          fun (v : Bool) => Option.some ([RV.p (PV.bool v)], []))
                      Option.none)))
            Option.none)
        Option.none)
      Option.none := by kernel_rfl

end Go.Proofs.YtclnapbghehlaaaDoor.Vm
