/- The raw theorems, by program: what each function and each loop comes to. -/
import Derived.Test.YthmhnnppikdafaaEnv
import Derived.Test.YthmhnnppikdafaaVm34
import Derived.KernelRfl
namespace Go.Proofs.Ythmhnnppikdafaa.Vm
open Go
set_option maxRecDepth 100000
set_option linter.unusedVariables false

/-- dynpos/dynposlaw33.sane, the loop of block 0 -/
theorem r8_0 (F : Fun) (l1 : List (List PV)) (e2 : Int) (time3 : Int) : lp E F 8 0 [] 0
  { vals := [AV.sl 3 l1, AV.int IntKind.i64 e2, AV.int IntKind.i64 time3], blks := [] } =
  bnd (ctl (ltB time3 4) (Option.some (e2 == 0)) (Option.some Bool.false)) fun (v : Bool) =>
    ctl v
      (bnd (F 17 [AV.int IntKind.i64 3] []) fun (r : Res) =>
        ctl (okR [RSh.one (Sh.sl 1)] r.fst && okB [] r.snd)
          (bnd
            (F 13
              [AV.sl 3 l1,
                AV.sl 1 (nth (RV.p PV.nilp) r.fst 0).toPV.toEs,
                AV.int IntKind.i64 time3, AV.int IntKind.i64 2]
              [])
            fun (r : Res) =>
            ctl
              (okR
                  [RSh.one (Sh.sl 3), RSh.one (Sh.int IntKind.i64)] r.fst &&
                okB [] r.snd)
              (bnd
                (ctl (!(nth (RV.p PV.nilp) r.fst 1).toPV.toInt != 0)
                  (Option.some ((↑(nth (RV.p PV.nilp) r.fst 0).toPV.toEs.length : Int) != 3)) (Option.some Bool.true))
                fun (v : Bool) =>
                bnd
                  (ctl (!v)
                    (getE (nth (RV.p PV.nilp) r.fst 0).toPV.toEs 0
                      fun (c : List PV) =>
                      ctl
                        (okCs
                          [Sh.int IntKind.i64, Sh.int IntKind.i64, Sh.int IntKind.i64] c)
                        (Option.some !((nth PV.nilp c 0).toInt == 1) == leB 2 time3) Option.none)
                    (Option.some Bool.true))
                  fun (v : Bool) =>
                  ctl v (Option.some (Ex.ret, { vals := [AV.bool Bool.false], blks := [] }))
                    (lp E F 8 0 [] 0
                      {
                        vals :=
                          [AV.sl 3 (nth (RV.p PV.nilp) r.fst 0).toPV.toEs,
                            AV.int IntKind.i64 (nth (RV.p PV.nilp) r.fst 1).toPV.toInt,
                            AV.int IntKind.i64 (IntKind.i64.wrap (time3 + 1))],
                        blks := [] }))
              Option.none)
          Option.none)
      (Option.some (Ex.exit 0, { vals := [AV.sl 3 l1, AV.int IntKind.i64 e2], blks := [] })) := (lp_unfold ..).trans (by kernel_rfl)

/-- dynpos/dynposlaw33.sane, the loop of block 2 -/
theorem r8_2 (F : Fun) (l1 : List (List PV)) (e2 : Int) (m4 : List (List PV)) (f5 : Int) (time6 : Int) : lp E F 8 0 [] 2
  {
    vals :=
      [AV.sl 3 l1, AV.int IntKind.i64 e2, AV.sl 3 m4, AV.int IntKind.i64 f5,
        AV.int IntKind.i64 time6],
    blks := [] } =
  bnd (ctl (ltB time6 6) (Option.some (f5 == 0)) (Option.some Bool.false)) fun (v : Bool) =>
    ctl v
      (bnd
        (ctl (!(↑m4.length : Int) != 3)
          (getE m4 1 fun (c : List PV) =>
            ctl
              (okCs [Sh.int IntKind.i64, Sh.int IntKind.i64, Sh.int IntKind.i64] c)
              (Option.some ((nth PV.nilp c 0).toInt == 1)) Option.none)
          (Option.some Bool.true))
        fun (v : Bool) =>
        ctl v (Option.some (Ex.ret, { vals := [AV.bool Bool.false], blks := [] }))
          (bnd (F 17 [AV.int IntKind.i64 3] []) fun (r : Res) =>
            ctl (okR [RSh.one (Sh.sl 1)] r.fst && okB [] r.snd)
              (bnd
                (F 13
                  [AV.sl 3 m4,
                    AV.sl 1 (nth (RV.p PV.nilp) r.fst 0).toPV.toEs,
                    AV.int IntKind.i64 time6, AV.int IntKind.i64 2]
                  [])
                fun (r : Res) =>
                ctl
                  (okR
                      [RSh.one (Sh.sl 3), RSh.one (Sh.int IntKind.i64)] r.fst &&
                    okB [] r.snd)
                  (lp E F 8 0 [] 2
                    {
                      vals :=
                        [AV.sl 3 l1, AV.int IntKind.i64 e2,
                          AV.sl 3 (nth (RV.p PV.nilp) r.fst 0).toPV.toEs,
                          AV.int IntKind.i64 (nth (RV.p PV.nilp) r.fst 1).toPV.toInt,
                          AV.int IntKind.i64 (IntKind.i64.wrap (time6 + 1))],
                      blks := [] })
                  Option.none)
              Option.none))
      (Option.some
        (Ex.exit 2,
          { vals := [AV.sl 3 l1, AV.int IntKind.i64 e2, AV.sl 3 m4, AV.int IntKind.i64 f5],
            blks := [] })) := (lp_unfold ..).trans (by kernel_rfl)

/-- dynpos/dynposlaw33.sane -/
theorem r8 (F : Fun) : funK E F 8 [] [] =
  bnd (F 10 [AV.int IntKind.i64 3] []) fun (r : Res) =>
    ctl
      (okR [RSh.one (Sh.sl 3), RSh.one (Sh.int IntKind.i64)]
          r.fst &&
        okB [] r.snd)
      (bnd
        (lp E F 8 0 [] 0
          {
            vals :=
              [AV.sl 3 (nth (RV.p PV.nilp) r.fst 0).toPV.toEs,
                AV.int IntKind.i64 (nth (RV.p PV.nilp) r.fst 1).toPV.toInt,
                AV.int IntKind.i64 0],
            blks := [] })
        fun (p : Ex × Pack) =>
        ctl (p.fst.eqb (Ex.exit 0))
          (ctl
            (okPack { slots := [(1, Sum.inl (Sh.sl 3)), (2, Sum.inl (Sh.int IntKind.i64))], blks := [] } p.snd)
            (bnd
              (F 24 [AV.sl 3 (nth AV.undef p.snd.vals 0).toPV.toEs, AV.int IntKind.i64 0] [])
              fun (r : Res) =>
              ctl
                (okR
                    [RSh.one (Sh.sl 3), RSh.one (Sh.int IntKind.i64)] r.fst &&
                  okB [] r.snd)
                (bnd
                  (lp E F 8 0 [] 2
                    {
                      vals :=
                        [AV.sl 3 (nth AV.undef p.snd.vals 0).toPV.toEs,
                          AV.int IntKind.i64 (nth AV.undef p.snd.vals 1).toPV.toInt,
                          AV.sl 3 (nth (RV.p PV.nilp) r.fst 0).toPV.toEs,
                          AV.int IntKind.i64 (nth (RV.p PV.nilp) r.fst 1).toPV.toInt,
                          AV.int IntKind.i64 4],
                      blks := [] })
                  fun (p : Ex × Pack) =>
                  ctl (p.fst.eqb (Ex.exit 2))
                    (ctl
                      (okPack
                        {
                          slots :=
                            [(1, Sum.inl (Sh.sl 3)), (2, Sum.inl (Sh.int IntKind.i64)), (4, Sum.inl (Sh.sl 3)),
                              (5, Sum.inl (Sh.int IntKind.i64))],
                          blks := [] }
                        p.snd)
                      (bnd (F 21 [AV.int IntKind.i64 3, AV.int IntKind.i64 2] [])
                        fun (r : Res) =>
                        ctl
                          (okR
                              [RSh.one (Sh.int IntKind.i64), RSh.one (Sh.int IntKind.i64)]
                              r.fst &&
                            okB [] r.snd)
                          (bnd
                            (ctl ((nth AV.undef p.snd.vals 1).toPV.toInt == 0)
                              (Option.some ((nth AV.undef p.snd.vals 3).toPV.toInt == 0)) (Option.some Bool.false))
                            fun (v : Bool) =>
                            bnd
                              (ctl v (Option.some ((↑(nth AV.undef p.snd.vals 0).toPV.toEs.length : Int) == 3))
                                (Option.some Bool.false))
                              fun (v : Bool) =>
                              bnd
                                (ctl v (Option.some ((↑(nth AV.undef p.snd.vals 2).toPV.toEs.length : Int) == 3))
                                  (Option.some Bool.false))
                                fun (v : Bool) =>
                                bnd
                                  (ctl v
                                    (getE (nth AV.undef p.snd.vals 0).toPV.toEs 0
                                      fun (c : List PV) =>
                                      ctl
                                        (okCs
                                          [Sh.int IntKind.i64, Sh.int IntKind.i64, Sh.int IntKind.i64] c)
                                        (Option.some ((nth PV.nilp c 1).toInt == 1)) Option.none)
                                    (Option.some Bool.false))
                                  fun (v : Bool) =>
                                  ctl v
                                    (getE (nth AV.undef p.snd.vals 2).toPV.toEs 1
                                      fun (c : List PV) =>
                                      ctl
                                        (okCs
                                          [Sh.int IntKind.i64, Sh.int IntKind.i64, Sh.int IntKind.i64] c)
                                        (bnd
                                          (ctl
                                            ((nth PV.nilp c 0).toInt == 1 &&
                                              ((nth PV.nilp c 1).toInt == 2 &&
                                                ((nth PV.nilp c 2).toInt == 5 && Bool.true)))
                                            (Option.some ((nth (RV.p PV.nilp) r.fst 1).toPV.toInt == 69))
                                            (Option.some Bool.false))
                                          fun (v : Bool) => Option.some ([RV.p (PV.bool v)], []))
                                        Option.none)
                                    (Option.some ([RV.p (PV.bool Bool.false)], [])))
                          Option.none)
                      Option.none)
                    (ctl (p.fst.eqb Ex.ret)
                      (ctl (okPack { slots := [(0, Sum.inl Sh.bool)], blks := [] } p.snd)
                        (Option.some
                          ([RV.p (PV.bool (nth AV.undef p.snd.vals 0).toPV.toBool)], []))
                        Option.none)
                      Option.none))
                Option.none)
            Option.none)
          (ctl (p.fst.eqb Ex.ret)
            (ctl (okPack { slots := [(0, Sum.inl Sh.bool)], blks := [] } p.snd)
              (Option.some ([RV.p (PV.bool (nth AV.undef p.snd.vals 0).toPV.toBool)], []))
              Option.none)
            Option.none))
      Option.none := by kernel_rfl

/-- dynpos/dynposmake.New -/
theorem r9 (F : Fun) (l : List (List PV)) : funK E F 9 [AV.sl 1 l] [] =
  ctl
    (Bool.true &&
      (leB 0 (minI 600 (↑l.length : Int)) && leB (minI 600 (↑l.length : Int)) (↑l.length : Int)))
    (Option.some
      ([RV.ownp
            [PV.sl 1 (cutI l 0 (minI 600 (↑l.length : Int))), PV.int IntKind.i64 0]],
        []))
    Option.none := by kernel_rfl

/-- dynpos/failover.New -/
theorem r10 (F : Fun) (n : Int) : funK E F 10 [AV.int IntKind.i64 n] [] =
  bnd (ctl (!ltB n 1) (Option.some (ltB 5 n)) (Option.some Bool.true)) fun (v : Bool) =>
    ctl v
      (Option.some ([RV.p (PV.sl 3 []), RV.p (PV.int IntKind.i64 2)], []))
      (ctl
        (leB 0 n && (leB n n && (leB n 9223372036854775807 && leB (n * 24) 140737488355328)))
        (Option.some
          ([RV.p
                (PV.sl 3
                  (reps
                    [PV.int IntKind.i64 0, PV.int IntKind.i64 0, PV.int IntKind.i64 0] n.toNat)),
              RV.p (PV.int IntKind.i64 0)],
            []))
        Option.none) := by kernel_rfl

/-- (*dynpos/dynposmake.Src).Range -/
theorem r11 (F : Fun) (s0 : List (List PV)) (s1 : Int) (lo : Int) (hi : Int) : funK E F 11 [AV.t (TV.ptr 0 0), AV.int IntKind.i64 lo, AV.int IntKind.i64 hi] [Blk.box [AV.sl 1 s0, AV.int IntKind.i64 s1]] =
  bnd
    (F 16 [AV.t (TV.ptr 0 0), AV.int IntKind.i64 (IntKind.i64.wrap (IntKind.i64.wrap (hi - lo) + 1))]
      [Blk.box [AV.sl 1 s0, AV.int IntKind.i64 s1]])
    fun (r : Res) =>
    ctl
      (okR [RSh.one (Sh.int IntKind.i64)] r.fst &&
        okB [Sum.inl [Sh.sl 1, Sh.int IntKind.i64]] r.snd)
      (Option.some
        ([RV.p
              (PV.int IntKind.i64
                (IntKind.i64.wrap (lo + (nth (RV.p PV.nilp) r.fst 0).toPV.toInt)))],
          [Blk.box
              [AV.sl 1
                  (nth PV.nilp
                      (List.map AV.toPV (nth (Blk.box []) r.snd 0).toCs) 0).toEs,
                AV.int IntKind.i64
                  (nth PV.nilp
                      (List.map AV.toPV (nth (Blk.box []) r.snd 0).toCs) 1).toInt]]))
      Option.none := by kernel_rfl

/-- (*dynpos/dynposmake.Src).Shaken -/
theorem r12 (F : Fun) (s0 : List (List PV)) (s1 : Int) (l : List (List PV)) (time : Int) : funK E F 12 [AV.t (TV.ptr 0 0), AV.sl 3 l, AV.int IntKind.i64 time] [Blk.box [AV.sl 1 s0, AV.int IntKind.i64 s1]] =
  bnd
    (F 16 [AV.t (TV.ptr 0 0), AV.int IntKind.i64 (IntKind.i64.wrap (3 * (↑l.length : Int)))]
      [Blk.box [AV.sl 1 s0, AV.int IntKind.i64 s1]])
    fun (r : Res) =>
    ctl
      (okR [RSh.one (Sh.int IntKind.i64)] r.fst &&
        okB [Sum.inl [Sh.sl 1, Sh.int IntKind.i64]] r.snd)
      (bnd
        (F 25
          [AV.sl 3 l,
            AV.int IntKind.i64 (nth (RV.p PV.nilp) r.fst 0).toPV.toInt]
          [])
        fun (r_1 : Res) =>
        ctl
          (okR [RSh.one (Sh.sl 3), RSh.one (Sh.int IntKind.i64)]
              r_1.fst &&
            okB [] r_1.snd)
          (ctl ((nth (RV.p PV.nilp) r_1.fst 1).toPV.toInt == 0)
            (Option.some
              ([RV.p
                    (PV.sl 3 (nth (RV.p PV.nilp) r_1.fst 0).toPV.toEs)],
                [Blk.box
                    [AV.sl 1
                        (nth PV.nilp
                            (List.map AV.toPV (nth (Blk.box []) r.snd 0).toCs) 0).toEs,
                      AV.int IntKind.i64
                        (nth PV.nilp
                            (List.map AV.toPV (nth (Blk.box []) r.snd 0).toCs) 1).toInt]]))
            (bnd
              (F 26
                [AV.sl 3 l,
                  AV.int IntKind.i64 (nth (RV.p PV.nilp) r.fst 0).toPV.toInt,
                  AV.int IntKind.i64 time]
                [])
              fun (r_2 : Res) =>
              ctl
                (okR
                    [RSh.one (Sh.sl 3), RSh.one (Sh.int IntKind.i64)] r_2.fst &&
                  okB [] r_2.snd)
                (ctl ((nth (RV.p PV.nilp) r_2.fst 1).toPV.toInt == 0)
                  (Option.some
                    ([RV.p
                          (PV.sl 3 (nth (RV.p PV.nilp) r_2.fst 0).toPV.toEs)],
                      [Blk.box
                          [AV.sl 1
                              (nth PV.nilp
                                  (List.map AV.toPV (nth (Blk.box []) r.snd 0).toCs) 0).toEs,
                            AV.int IntKind.i64
                              (nth PV.nilp
                                  (List.map AV.toPV (nth (Blk.box []) r.snd 0).toCs) 1).toInt]]))
                  (Option.some
                    ([RV.p (PV.sl 3 l)],
                      [Blk.box
                          [AV.sl 1
                              (nth PV.nilp
                                  (List.map AV.toPV (nth (Blk.box []) r.snd 0).toCs) 0).toEs,
                            AV.int IntKind.i64
                              (nth PV.nilp
                                  (List.map AV.toPV (nth (Blk.box []) r.snd 0).toCs) 1).toInt]])))
                Option.none))
          Option.none)
      Option.none := by kernel_rfl

/-- dynpos/failover.Tick -/
theorem r13 (F : Fun) (l : List (List PV)) (reach : List (List PV)) (time : Int) (timeout : Int) : funK E F 13 [AV.sl 3 l, AV.sl 1 reach, AV.int IntKind.i64 time, AV.int IntKind.i64 timeout] [] =
  bnd
    (F 27 [AV.sl 3 l, AV.sl 1 reach, AV.int IntKind.i64 time, AV.int IntKind.i64 timeout]
      [])
    fun (r : Res) =>
    ctl
      (okR [RSh.one (Sh.int IntKind.i64)] r.fst && okB [] r.snd)
      (ctl ((nth (RV.p PV.nilp) r.fst 0).toPV.toInt != 0)
        (Option.some
          ([RV.p (PV.sl 3 []),
              RV.p
                (PV.int IntKind.i64 (nth (RV.p PV.nilp) r.fst 0).toPV.toInt)],
            []))
        (bnd
          (F 28
            [AV.agg [PV.sl 3 l, PV.sl 1 reach],
              AV.bnd 29 [PV.sl 3 l, PV.sl 1 reach]]
            [])
          fun (r : Res) =>
          ctl
            (okR [RSh.agg [Sh.sl 3, Sh.sl 1]] r.fst &&
              okB [] r.snd)
            (bnd
              (F 28
                [AV.agg
                    [PV.sl 3
                        (nth PV.nilp
                            (nth (RV.p PV.nilp) r.fst 0).toCs 0).toEs,
                      PV.sl 1
                        (nth PV.nilp
                            (nth (RV.p PV.nilp) r.fst 0).toCs 1).toEs],
                  AV.fn 42 [TV.ptr 0 0, TV.ptr 1 0]]
                [Blk.box
                    [AV.sl 3
                        (nth PV.nilp
                            (nth (RV.p PV.nilp) r.fst 0).toCs 0).toEs,
                      AV.sl 1
                        (nth PV.nilp
                            (nth (RV.p PV.nilp) r.fst 0).toCs 1).toEs],
                  Blk.box [AV.sl 3 l, AV.sl 1 reach]])
              fun (r : Res) =>
              ctl
                (okR [RSh.agg [Sh.sl 3, Sh.sl 1]] r.fst &&
                  okB
                    [Sum.inl [Sh.sl 3, Sh.sl 1], Sum.inl [Sh.sl 3, Sh.sl 1]] r.snd)
                (bnd
                  (F 28
                    [AV.agg
                        [PV.sl 3
                            (nth PV.nilp
                                (nth (RV.p PV.nilp) r.fst 0).toCs 0).toEs,
                          PV.sl 1
                            (nth PV.nilp
                                (nth (RV.p PV.nilp) r.fst 0).toCs 1).toEs],
                      AV.fn 47 [TV.ptr 0 0, TV.ptr 1 0]]
                    [Blk.box
                        [AV.sl 3
                            (nth PV.nilp
                                (nth (RV.p PV.nilp) r.fst 0).toCs 0).toEs,
                          AV.sl 1
                            (nth PV.nilp
                                (nth (RV.p PV.nilp) r.fst 0).toCs 1).toEs],
                      Blk.box [AV.int IntKind.i64 time]])
                  fun (r : Res) =>
                  ctl
                    (okR [RSh.agg [Sh.sl 3, Sh.sl 1]] r.fst &&
                      okB [Sum.inl [Sh.sl 3, Sh.sl 1], Sum.inl [Sh.int IntKind.i64]] r.snd)
                    (bnd
                      (F 32
                        [AV.agg
                            [PV.sl 3
                                (nth PV.nilp
                                    (nth (RV.p PV.nilp) r.fst 0).toCs 0).toEs,
                              PV.sl 1
                                (nth PV.nilp
                                    (nth (RV.p PV.nilp) r.fst 0).toCs 1).toEs],
                          AV.int IntKind.i64 time, AV.int IntKind.i64 timeout]
                        [])
                      fun (r : Res) =>
                      ctl
                        (okR
                            [RSh.agg [Sh.sl 3, Sh.sl 1],
                              RSh.one Sh.bool]
                            r.fst &&
                          okB [] r.snd)
                        (ctl (!(nth (RV.p PV.nilp) r.fst 1).toPV.toBool)
                          (Option.some ([RV.p (PV.sl 3 []), RV.p (PV.int IntKind.i64 2)], []))
                          (Option.some
                            ([RV.p
                                  (PV.sl 3
                                    (nth PV.nilp
                                        (nth (RV.p PV.nilp) r.fst 0).toCs 0).toEs),
                                RV.p (PV.int IntKind.i64 0)],
                              [])))
                        Option.none)
                    Option.none)
                Option.none)
            Option.none))
      Option.none := by kernel_rfl

/-- (*dynpos/dynposmake.Src).Reach, the loop of block 0 -/
theorem r14_0 (F : Fun) (n1 : Int) (x11 : Int) (x12 : Int) (b0_0 : List (List PV)) (b0_1 : Int) (c1 : List (Int × MV)) : lp E F 14 1 [] 0
  { vals := [AV.int IntKind.i64 n1, AV.int IntKind.i64 x11, AV.int IntKind.i64 x12],
    blks := [Blk.box [AV.sl 1 b0_0, AV.int IntKind.i64 b0_1], Blk.tab Bool.false 1 c1] } =
  ctl (ltB x12 x11)
    (bnd
      (lp E F 14 1 [] 2
        {
          vals :=
            [AV.int IntKind.i64 n1, AV.int IntKind.i64 x12, AV.int IntKind.i64 0,
              AV.int IntKind.i64 x11, AV.int IntKind.i64 x12],
          blks := [Blk.box [AV.sl 1 b0_0, AV.int IntKind.i64 b0_1], Blk.tab Bool.false 1 c1] })
      fun (p : Ex × Pack) =>
      ctl (p.fst.eqb (Ex.exit 2))
        (ctl
          (okPack
            {
              slots :=
                [(0, Sum.inr (Sum.inr (AV.t (TV.ptr 0 0)))), (1, Sum.inl (Sh.int IntKind.i64)),
                  (5, Sum.inr (Sum.inr (AV.tsl 1))), (11, Sum.inl (Sh.int IntKind.i64)),
                  (12, Sum.inl (Sh.int IntKind.i64))],
              blks := [Sum.inl [Sum.inl (Sh.sl 1), Sum.inl (Sh.int IntKind.i64)], Sum.inr 1000002] }
            p.snd)
          (lp E F 14 1 [] 0
            {
              vals :=
                [AV.int IntKind.i64 (nth AV.undef p.snd.vals 0).toPV.toInt,
                  AV.int IntKind.i64 (nth AV.undef p.snd.vals 1).toPV.toInt,
                  AV.int IntKind.i64 (IntKind.i64.wrap ((nth AV.undef p.snd.vals 2).toPV.toInt + 1))],
              blks :=
                [Blk.box
                    [AV.sl 1
                        (nth AV.undef (nth (Blk.box []) p.snd.blks 0).toCs 0).toPV.toEs,
                      AV.int IntKind.i64
                        (nth AV.undef (nth (Blk.box []) p.snd.blks 0).toCs 1).toPV.toInt],
                  Blk.tab Bool.false 1 (nth (Blk.box []) p.snd.blks 1).toKvs] })
          Option.none)
        Option.none)
    (Option.some
      (Ex.exit 0,
        { vals := [],
          blks :=
            [Blk.box [AV.sl 1 b0_0, AV.int IntKind.i64 b0_1], Blk.tab Bool.false 1 c1] })) := (lp_unfold ..).trans (by kernel_rfl)

/-- (*dynpos/dynposmake.Src).Reach, the loop of block 2 -/
theorem r14_2 (F : Fun) (n1 : Int) (i6 : Int) (k7 : Int) (x11 : Int) (x12 : Int) (b0_0 : List (List PV)) (b0_1 : Int) (c1 : List (Int × MV)) : lp E F 14 1 [] 2
  {
    vals :=
      [AV.int IntKind.i64 n1, AV.int IntKind.i64 i6, AV.int IntKind.i64 k7,
        AV.int IntKind.i64 x11, AV.int IntKind.i64 x12],
    blks := [Blk.box [AV.sl 1 b0_0, AV.int IntKind.i64 b0_1], Blk.tab Bool.false 1 c1] } =
  ctl (ltB k7 n1)
    (ctl (leB 0 i6 && ltB i6 (↑c1.length : Int))
      (ctl (nth (0, MV.gone) c1 i6.toNat).snd.isRow
        (bnd
          (F 16 [AV.t (TV.ptr 0 0), AV.int IntKind.i64 3]
            [Blk.box [AV.sl 1 b0_0, AV.int IntKind.i64 b0_1]])
          fun (r : Res) =>
          ctl
            (okR [RSh.one (Sh.int IntKind.i64)] r.fst &&
              okB [Sum.inl [Sh.sl 1, Sh.int IntKind.i64]] r.snd)
            (ctl (leN (((nth (0, MV.gone) c1 i6.toNat).snd.toEs.length + 1) * 1) 140737488355328)
              (ctl
                (leB 0 i6 && ltB i6 (↑(upd (0, MV.gone) c1 i6.toNat).length : Int))
                (lp E F 14 1 [] 2
                  {
                    vals :=
                      [AV.int IntKind.i64 n1, AV.int IntKind.i64 i6, AV.int IntKind.i64 (IntKind.i64.wrap (k7 + 1)),
                        AV.int IntKind.i64 x11, AV.int IntKind.i64 x12],
                    blks :=
                      [Blk.box
                          [AV.sl 1
                              (nth PV.nilp
                                  (List.map AV.toPV (nth (Blk.box []) r.snd 0).toCs) 0).toEs,
                            AV.int IntKind.i64
                              (nth PV.nilp
                                  (List.map AV.toPV (nth (Blk.box []) r.snd 0).toCs) 1).toInt],
                        Blk.tab Bool.false 1
                          (upd
                            (0,
                              MV.row
                                ((nth (0, MV.gone) c1 i6.toNat).snd.toEs ++
                                  [[PV.bool
                                        (ltB 0 (nth (RV.p PV.nilp) r.fst 0).toPV.toInt)]]))
                            (upd (0, MV.gone) c1 i6.toNat) i6.toNat)] })
                Option.none)
              Option.none)
            Option.none)
        Option.none)
      Option.none)
    (Option.some
      (Ex.exit 2,
        { vals := [AV.int IntKind.i64 n1, AV.int IntKind.i64 x11, AV.int IntKind.i64 x12],
          blks :=
            [Blk.box [AV.sl 1 b0_0, AV.int IntKind.i64 b0_1], Blk.tab Bool.false 1 c1] })) := (lp_unfold ..).trans (by kernel_rfl)

/-- (*dynpos/dynposmake.Src).Reach -/
theorem r14 (F : Fun) (s0 : List (List PV)) (s1 : Int) (n : Int) : funK E F 14 [AV.t (TV.ptr 0 0), AV.int IntKind.i64 n] [Blk.box [AV.sl 1 s0, AV.int IntKind.i64 s1]] =
  ctl
    (leB 0 n && (leB n n && (leB n 9223372036854775807 && leB (n * 24) 140737488355328)))
    (bnd
      (lp E F 14 1 [] 0
        {
          vals :=
            [AV.int IntKind.i64 n,
              AV.int IntKind.i64 (↑(reps ((0 : Int), MV.row []) n.toNat).length : Int),
              AV.int IntKind.i64 0],
          blks :=
            [Blk.box [AV.sl 1 s0, AV.int IntKind.i64 s1],
              Blk.tab Bool.false 1 (reps ((0 : Int), MV.row []) n.toNat)] })
      fun (p : Ex × Pack) =>
      ctl (p.fst.eqb (Ex.exit 0))
        (ctl
          (okPack
            { slots := [(5, Sum.inr (Sum.inr (AV.tsl 1)))],
              blks := [Sum.inl [Sum.inl (Sh.sl 1), Sum.inl (Sh.int IntKind.i64)], Sum.inr 1000002] }
            p.snd)
          (Option.some
            ([RV.p
                  (PV.sl 1
                    (List.map (fun (x : Int × MV) => [MV.frz 1 x.snd])
                      (nth (Blk.box []) p.snd.blks 1).toKvs))],
              [Blk.box
                  [AV.sl 1
                      (nth AV.undef (nth (Blk.box []) p.snd.blks 0).toCs 0).toPV.toEs,
                    AV.int IntKind.i64
                      (nth AV.undef (nth (Blk.box []) p.snd.blks 0).toCs 1).toPV.toInt]]))
          Option.none)
        Option.none)
    Option.none := by kernel_rfl

/-- (*dynpos/dynposmake.Src).Elected, the loop of block 0 -/
theorem r15_0 (F : Fun) (rounds1 : Int) (l6 : List (List PV)) (time8 : Int) (b0_0 : List (List PV)) (b0_1 : Int) : lp E F 15 1 [] 0
  { vals := [AV.int IntKind.i64 rounds1, AV.sl 3 l6, AV.int IntKind.i64 time8],
    blks := [Blk.box [AV.sl 1 b0_0, AV.int IntKind.i64 b0_1]] } =
  ctl (ltB time8 rounds1)
    (bnd
      (F 12 [AV.t (TV.ptr 0 0), AV.sl 3 l6, AV.int IntKind.i64 time8]
        [Blk.box [AV.sl 1 b0_0, AV.int IntKind.i64 b0_1]])
      fun (r : Res) =>
      ctl
        (okR [RSh.one (Sh.sl 3)] r.fst &&
          okB [Sum.inl [Sh.sl 1, Sh.int IntKind.i64]] r.snd)
        (bnd
          (F 14
            [AV.t (TV.ptr 0 0),
              AV.int IntKind.i64 (↑(nth (RV.p PV.nilp) r.fst 0).toPV.toEs.length : Int)]
            [Blk.box
                [AV.sl 1
                    (nth PV.nilp
                        (List.map AV.toPV (nth (Blk.box []) r.snd 0).toCs) 0).toEs,
                  AV.int IntKind.i64
                    (nth PV.nilp
                        (List.map AV.toPV (nth (Blk.box []) r.snd 0).toCs) 1).toInt]])
          fun (r_1 : Res) =>
          ctl
            (okR [RSh.one (Sh.sl 1)] r_1.fst &&
              okB [Sum.inl [Sh.sl 1, Sh.int IntKind.i64]] r_1.snd)
            (bnd
              (F 34
                [AV.sl 3 (nth (RV.p PV.nilp) r.fst 0).toPV.toEs,
                  AV.sl 1 (nth (RV.p PV.nilp) r_1.fst 0).toPV.toEs,
                  AV.int IntKind.i64 time8, AV.int IntKind.i64 2]
                [])
              fun (r_2 : Res) =>
              ctl
                (okR
                    [RSh.one (Sh.sl 3), RSh.one (Sh.int IntKind.i64)] r_2.fst &&
                  okB [] r_2.snd)
                (ctl ((nth (RV.p PV.nilp) r_2.fst 1).toPV.toInt == 0)
                  (lp E F 15 1 [] 0
                    {
                      vals :=
                        [AV.int IntKind.i64 rounds1,
                          AV.sl 3 (nth (RV.p PV.nilp) r_2.fst 0).toPV.toEs,
                          AV.int IntKind.i64 (IntKind.i64.wrap (time8 + 1))],
                      blks :=
                        [Blk.box
                            [AV.sl 1
                                (nth PV.nilp
                                    (List.map AV.toPV (nth (Blk.box []) r_1.snd 0).toCs) 0).toEs,
                              AV.int IntKind.i64
                                (nth PV.nilp
                                    (List.map AV.toPV (nth (Blk.box []) r_1.snd 0).toCs) 1).toInt]] })
                  (lp E F 15 1 [] 0
                    {
                      vals :=
                        [AV.int IntKind.i64 rounds1,
                          AV.sl 3 (nth (RV.p PV.nilp) r.fst 0).toPV.toEs,
                          AV.int IntKind.i64 (IntKind.i64.wrap (time8 + 1))],
                      blks :=
                        [Blk.box
                            [AV.sl 1
                                (nth PV.nilp
                                    (List.map AV.toPV (nth (Blk.box []) r_1.snd 0).toCs) 0).toEs,
                              AV.int IntKind.i64
                                (nth PV.nilp
                                    (List.map AV.toPV (nth (Blk.box []) r_1.snd 0).toCs) 1).toInt]] }))
                Option.none)
            Option.none)
        Option.none)
    (Option.some
      (Ex.exit 0,
        { vals := [AV.int IntKind.i64 rounds1, AV.sl 3 l6],
          blks := [Blk.box [AV.sl 1 b0_0, AV.int IntKind.i64 b0_1]] })) := (lp_unfold ..).trans (by kernel_rfl)

/-- (*dynpos/dynposmake.Src).Elected -/
theorem r15 (F : Fun) (s0 : List (List PV)) (s1 : Int) (rounds : Int) : funK E F 15 [AV.t (TV.ptr 0 0), AV.int IntKind.i64 rounds] [Blk.box [AV.sl 1 s0, AV.int IntKind.i64 s1]] =
  bnd
    (F 11 [AV.t (TV.ptr 0 0), AV.int IntKind.i64 1, AV.int IntKind.i64 5]
      [Blk.box [AV.sl 1 s0, AV.int IntKind.i64 s1]])
    fun (r : Res) =>
    ctl
      (okR [RSh.one (Sh.int IntKind.i64)] r.fst &&
        okB [Sum.inl [Sh.sl 1, Sh.int IntKind.i64]] r.snd)
      (bnd
        (F 33 [AV.int IntKind.i64 (nth (RV.p PV.nilp) r.fst 0).toPV.toInt] [])
        fun (r_1 : Res) =>
        ctl
          (okR [RSh.one (Sh.sl 3), RSh.one (Sh.int IntKind.i64)]
              r_1.fst &&
            okB [] r_1.snd)
          (bnd
            (lp E F 15 1 [] 0
              {
                vals :=
                  [AV.int IntKind.i64 rounds,
                    AV.sl 3 (nth (RV.p PV.nilp) r_1.fst 0).toPV.toEs,
                    AV.int IntKind.i64 0],
                blks :=
                  [Blk.box
                      [AV.sl 1
                          (nth PV.nilp
                              (List.map AV.toPV (nth (Blk.box []) r.snd 0).toCs) 0).toEs,
                        AV.int IntKind.i64
                          (nth PV.nilp
                              (List.map AV.toPV (nth (Blk.box []) r.snd 0).toCs) 1).toInt]] })
            fun (p : Ex × Pack) =>
            ctl (p.fst.eqb (Ex.exit 0))
              (ctl
                (okPack
                  { slots := [(1, Sum.inl (Sh.int IntKind.i64)), (6, Sum.inl (Sh.sl 3))],
                    blks := [Sum.inl [Sum.inl (Sh.sl 1), Sum.inl (Sh.int IntKind.i64)]] }
                  p.snd)
                (Option.some
                  ([RV.p (PV.sl 3 (nth AV.undef p.snd.vals 1).toPV.toEs),
                      RV.p (PV.int IntKind.i64 (nth AV.undef p.snd.vals 0).toPV.toInt)],
                    [Blk.box
                        [AV.sl 1
                            (nth AV.undef (nth (Blk.box []) p.snd.blks 0).toCs 0).toPV.toEs,
                          AV.int IntKind.i64
                            (nth AV.undef (nth (Blk.box []) p.snd.blks 0).toCs 1).toPV.toInt]]))
                Option.none)
              Option.none)
          Option.none)
      Option.none := by kernel_rfl

/-- (*dynpos/dynposmake.Src).N -/
theorem r16 (F : Fun) (s0 : List (List PV)) (s1 : Int) (n : Int) : funK E F 16 [AV.t (TV.ptr 0 0), AV.int IntKind.i64 n] [Blk.box [AV.sl 1 s0, AV.int IntKind.i64 s1]] =
  ctl (leB (↑s0.length : Int) s1)
    (Option.some
      ([RV.p (PV.int IntKind.i64 0)],
        [Blk.box [AV.sl 1 s0, AV.int IntKind.i64 s1]]))
    (getE s0 (IntKind.i64.wrap (IntKind.i64.wrap (s1 + 1) - 1)) fun (c : List PV) =>
      ctl (okCs [Sh.int IntKind.i64] c)
        (bnd
          (F 20 [AV.int IntKind.i64 (nth PV.nilp c 0).toInt, AV.int IntKind.i64 n] [])
          fun (r : Res) =>
          ctl
            (okR [RSh.one (Sh.int IntKind.i64)] r.fst && okB [] r.snd)
            (Option.some
              ([RV.p
                    (PV.int IntKind.i64 (nth (RV.p PV.nilp) r.fst 0).toPV.toInt)],
                [Blk.box [AV.sl 1 s0, AV.int IntKind.i64 (IntKind.i64.wrap (s1 + 1))]]))
            Option.none)
        Option.none) := by kernel_rfl

/-- dynpos/dynposlaw33.full, the loop of block 0 -/
theorem r17_0 (F : Fun) (n0 : Int) (x9 : Int) (x10 : Int) (c0 : List (Int × MV)) : lp E F 17 0 [] 0
  { vals := [AV.int IntKind.i64 n0, AV.int IntKind.i64 x9, AV.int IntKind.i64 x10],
    blks := [Blk.tab Bool.false 1 c0] } =
  ctl (ltB x10 x9)
    (bnd
      (lp E F 17 0 [] 2
        {
          vals :=
            [AV.int IntKind.i64 n0, AV.int IntKind.i64 x10, AV.int IntKind.i64 0,
              AV.int IntKind.i64 x9, AV.int IntKind.i64 x10],
          blks := [Blk.tab Bool.false 1 c0] })
      fun (p : Ex × Pack) =>
      ctl (p.fst.eqb (Ex.exit 2))
        (ctl
          (okPack
            {
              slots :=
                [(0, Sum.inl (Sh.int IntKind.i64)), (3, Sum.inr (Sum.inr (AV.tsl 0))), (9, Sum.inl (Sh.int IntKind.i64)),
                  (10, Sum.inl (Sh.int IntKind.i64))],
              blks := [Sum.inr 1000002] }
            p.snd)
          (lp E F 17 0 [] 0
            {
              vals :=
                [AV.int IntKind.i64 (nth AV.undef p.snd.vals 0).toPV.toInt,
                  AV.int IntKind.i64 (nth AV.undef p.snd.vals 1).toPV.toInt,
                  AV.int IntKind.i64 (IntKind.i64.wrap ((nth AV.undef p.snd.vals 2).toPV.toInt + 1))],
              blks := [Blk.tab Bool.false 1 (nth (Blk.box []) p.snd.blks 0).toKvs] })
          Option.none)
        Option.none)
    (Option.some (Ex.exit 0, { vals := [], blks := [Blk.tab Bool.false 1 c0] })) := (lp_unfold ..).trans (by kernel_rfl)

/-- dynpos/dynposlaw33.full, the loop of block 2 -/
theorem r17_2 (F : Fun) (n0 : Int) (i4 : Int) (k5 : Int) (x9 : Int) (x10 : Int) (c0 : List (Int × MV)) : lp E F 17 0 [] 2
  {
    vals :=
      [AV.int IntKind.i64 n0, AV.int IntKind.i64 i4, AV.int IntKind.i64 k5,
        AV.int IntKind.i64 x9, AV.int IntKind.i64 x10],
    blks := [Blk.tab Bool.false 1 c0] } =
  ctl (ltB k5 n0)
    (ctl (leB 0 i4 && ltB i4 (↑c0.length : Int))
      (ctl (nth (0, MV.gone) c0 i4.toNat).snd.isRow
        (ctl (leN (((nth (0, MV.gone) c0 i4.toNat).snd.toEs.length + 1) * 1) 140737488355328)
          (ctl
            (leB 0 i4 && ltB i4 (↑(upd (0, MV.gone) c0 i4.toNat).length : Int))
            (lp E F 17 0 [] 2
              {
                vals :=
                  [AV.int IntKind.i64 n0, AV.int IntKind.i64 i4, AV.int IntKind.i64 (IntKind.i64.wrap (k5 + 1)),
                    AV.int IntKind.i64 x9, AV.int IntKind.i64 x10],
                blks :=
                  [Blk.tab Bool.false 1
                      (upd
                        (0,
                          MV.row
                            ((nth (0, MV.gone) c0 i4.toNat).snd.toEs ++ [[PV.bool Bool.true]]))
                        (upd (0, MV.gone) c0 i4.toNat) i4.toNat)] })
            Option.none)
          Option.none)
        Option.none)
      Option.none)
    (Option.some
      (Ex.exit 2,
        { vals := [AV.int IntKind.i64 n0, AV.int IntKind.i64 x9, AV.int IntKind.i64 x10],
          blks := [Blk.tab Bool.false 1 c0] })) := (lp_unfold ..).trans (by kernel_rfl)

/-- dynpos/dynposlaw33.full -/
theorem r17 (F : Fun) (n : Int) : funK E F 17 [AV.int IntKind.i64 n] [] =
  ctl
    (leB 0 n && (leB n n && (leB n 9223372036854775807 && leB (n * 24) 140737488355328)))
    (bnd
      (lp E F 17 0 [] 0
        {
          vals :=
            [AV.int IntKind.i64 n,
              AV.int IntKind.i64 (↑(reps ((0 : Int), MV.row []) n.toNat).length : Int),
              AV.int IntKind.i64 0],
          blks := [Blk.tab Bool.false 1 (reps ((0 : Int), MV.row []) n.toNat)] })
      fun (p : Ex × Pack) =>
      ctl (p.fst.eqb (Ex.exit 0))
        (ctl (okPack { slots := [(3, Sum.inr (Sum.inr (AV.tsl 0)))], blks := [Sum.inr 1000002] } p.snd)
          (Option.some
            ([RV.p
                  (PV.sl 1
                    (List.map (fun (x : Int × MV) => [MV.frz 1 x.snd])
                      (nth (Blk.box []) p.snd.blks 0).toKvs))],
              []))
          Option.none)
        Option.none)
    Option.none := by kernel_rfl

/-- dynpos/dynposlaw33.active, the loop of block 0 -/
theorem r18_0 (F : Fun) (k3 : Int) (x6 : List (List PV)) (x7 : Int) (x8 : Int) : lp E F 18 0 [] 0
  {
    vals :=
      [AV.int IntKind.i64 k3, AV.sl 3 x6, AV.int IntKind.i64 x7,
        AV.int IntKind.i64 x8],
    blks := [] } =
  ctl (ltB x8 x7)
    (getE x6 x8 fun (c : List PV) =>
      ctl
        (okCs [Sh.int IntKind.i64, Sh.int IntKind.i64, Sh.int IntKind.i64] c)
        (ctl ((nth PV.nilp c 0).toInt == 1)
          (lp E F 18 0 [] 0
            {
              vals :=
                [AV.int IntKind.i64 (IntKind.i64.wrap (k3 + 1)), AV.sl 3 x6, AV.int IntKind.i64 x7,
                  AV.int IntKind.i64 (IntKind.i64.wrap (x8 + 1))],
              blks := [] })
          (lp E F 18 0 [] 0
            {
              vals :=
                [AV.int IntKind.i64 k3, AV.sl 3 x6, AV.int IntKind.i64 x7,
                  AV.int IntKind.i64 (IntKind.i64.wrap (x8 + 1))],
              blks := [] }))
        Option.none)
    (Option.some (Ex.exit 0, { vals := [AV.int IntKind.i64 k3], blks := [] })) := (lp_unfold ..).trans (by kernel_rfl)

/-- dynpos/dynposlaw33.active -/
theorem r18 (F : Fun) (l : List (List PV)) : funK E F 18 [AV.sl 3 l] [] =
  bnd
    (lp E F 18 0 [] 0
      {
        vals :=
          [AV.int IntKind.i64 0, AV.sl 3 l, AV.int IntKind.i64 (↑l.length : Int),
            AV.int IntKind.i64 0],
        blks := [] })
    fun (p : Ex × Pack) =>
    ctl (p.fst.eqb (Ex.exit 0))
      (ctl (okPack { slots := [(3, Sum.inl (Sh.int IntKind.i64))], blks := [] } p.snd)
        (Option.some ([RV.p (PV.bool ((nth AV.undef p.snd.vals 0).toPV.toInt == 1))], []))
        Option.none)
      Option.none := by kernel_rfl

/-- dynpos/dynposlaw33.leader, the loop of block 0 -/
theorem r19_0 (F : Fun) (x5 : List (List PV)) (x6 : Int) (x7 : Int) : lp E F 19 0 [] 0
  { vals := [AV.sl 3 x5, AV.int IntKind.i64 x6, AV.int IntKind.i64 x7], blks := [] } =
  ctl (ltB x7 x6)
    (getE x5 x7 fun (c : List PV) =>
      ctl
        (okCs [Sh.int IntKind.i64, Sh.int IntKind.i64, Sh.int IntKind.i64] c)
        (ctl ((nth PV.nilp c 0).toInt == 1)
          (Option.some (Ex.ret, { vals := [AV.int IntKind.i64 x7], blks := [] }))
          (lp E F 19 0 [] 0
            { vals := [AV.sl 3 x5, AV.int IntKind.i64 x6, AV.int IntKind.i64 (IntKind.i64.wrap (x7 + 1))],
              blks := [] }))
        Option.none)
    (Option.some (Ex.exit 0, { vals := [], blks := [] })) := (lp_unfold ..).trans (by kernel_rfl)

/-- dynpos/dynposlaw33.leader -/
theorem r19 (F : Fun) (l : List (List PV)) : funK E F 19 [AV.sl 3 l] [] =
  bnd
    (lp E F 19 0 [] 0
      { vals := [AV.sl 3 l, AV.int IntKind.i64 (↑l.length : Int), AV.int IntKind.i64 0], blks := [] })
    fun (p : Ex × Pack) =>
    ctl (p.fst.eqb (Ex.exit 0)) (Option.some ([RV.p (PV.int IntKind.i64 (-1))], []))
      (ctl (p.fst.eqb Ex.ret)
        (ctl (okPack { slots := [(2, Sum.inl (Sh.int IntKind.i64))], blks := [] } p.snd)
          (Option.some
            ([RV.p (PV.int IntKind.i64 (nth AV.undef p.snd.vals 0).toPV.toInt)], []))
          Option.none)
        Option.none) := by kernel_rfl

/-- dynpos/dynposmake.Mod -/
theorem r20 (F : Fun) (x : Int) (n : Int) : funK E F 20 [AV.int IntKind.i64 x, AV.int IntKind.i64 n] [] =
  ctl (ltB n 1) (Option.some ([RV.p (PV.int IntKind.i64 0)], []))
    (ctl (Bool.true && neB n 0)
      (ctl (Bool.true && neB n 0)
        (Option.some ([RV.p (PV.int IntKind.i64 ((IntKind.i64.wrap (x.tmod n + n)).tmod n))], [])) Option.none)
      Option.none) := by kernel_rfl

/-- dynpos/failover.Fence -/
theorem r21 (F : Fun) (epoch : Int) (command : Int) : funK E F 21 [AV.int IntKind.i64 epoch, AV.int IntKind.i64 command] [] =
  bnd (ctl (!ltB epoch 0) (Option.some (ltB 2147483648 epoch)) (Option.some Bool.true))
    fun (v : Bool) =>
    bnd (ctl (!v) (Option.some (ltB command 0)) (Option.some Bool.true)) fun (v : Bool) =>
      bnd (ctl (!v) (Option.some (ltB 2147483648 command)) (Option.some Bool.true)) fun (v : Bool) =>
        ctl v
          (Option.some ([RV.p (PV.int IntKind.i64 0), RV.p (PV.int IntKind.i64 1)], []))
          (ctl (ltB command epoch)
            (Option.some ([RV.p (PV.int IntKind.i64 0), RV.p (PV.int IntKind.i64 69)], []))
            (Option.some
              ([RV.p (PV.int IntKind.i64 command), RV.p (PV.int IntKind.i64 0)], []))) := by kernel_rfl

/-- dynpos/failover.Heard -/
theorem r22 (F : Fun) (l : List (List PV)) (reach : List (List PV)) (i : Int) : funK E F 22 [AV.sl 3 l, AV.sl 1 reach, AV.int IntKind.i64 i] [] =
  bnd (F 35 [AV.sl 3 l, AV.sl 1 reach] []) fun (r : Res) =>
    ctl (okR [RSh.one Sh.bool] r.fst && okB [] r.snd)
      (bnd
        (ctl (!!(nth (RV.p PV.nilp) r.fst 0).toPV.toBool)
          (Option.some (ltB i 0)) (Option.some Bool.true))
        fun (v : Bool) =>
        bnd (ctl (!v) (Option.some (leB (↑l.length : Int) i)) (Option.some Bool.true)) fun (v : Bool) =>
          ctl v (Option.some ([RV.p (PV.sl 1 [])], []))
            (bnd
              (F 36 [AV.agg [PV.sl 3 l, PV.sl 1 reach], AV.int IntKind.i64 i] [])
              fun (r : Res) =>
              ctl (okR [RSh.one (Sh.sl 1)] r.fst && okB [] r.snd)
                (Option.some
                  ([RV.p
                        (PV.sl 1 (nth (RV.p PV.nilp) r.fst 0).toPV.toEs)],
                    []))
                Option.none))
      Option.none := by kernel_rfl

/-- (*dynpos/dynposmake.Src).Controllers, the loop of block 0 -/
theorem r23_0 (F : Fun) (time1 : Int) (x11 : Int) (x12 : Int) (b0_0 : List (List PV)) (b0_1 : Int) (c1 : List (List PV)) : lp E F 23 1 [] 0
  { vals := [AV.int IntKind.i64 time1, AV.int IntKind.i64 x11, AV.int IntKind.i64 x12],
    blks := [Blk.box [AV.sl 1 b0_0, AV.int IntKind.i64 b0_1], Blk.arr 3 c1] } =
  ctl (ltB x12 x11)
    (bnd
      (F 37
        [AV.t (TV.ptr 0 0),
          AV.sl 1
            [[PV.int IntKind.i64 0], [PV.int IntKind.i64 0], [PV.int IntKind.i64 1],
              [PV.int IntKind.i64 2]]]
        [Blk.box [AV.sl 1 b0_0, AV.int IntKind.i64 b0_1]])
      fun (r : Res) =>
      ctl
        (okR [RSh.one (Sh.int IntKind.i64)] r.fst &&
          okB [Sum.inl [Sh.sl 1, Sh.int IntKind.i64]] r.snd)
        (bnd
          (F 16 [AV.t (TV.ptr 0 0), AV.int IntKind.i64 4]
            [Blk.box
                [AV.sl 1
                    (nth PV.nilp
                        (List.map AV.toPV (nth (Blk.box []) r.snd 0).toCs) 0).toEs,
                  AV.int IntKind.i64
                    (nth PV.nilp
                        (List.map AV.toPV (nth (Blk.box []) r.snd 0).toCs) 1).toInt]])
          fun (r_1 : Res) =>
          ctl
            (okR [RSh.one (Sh.int IntKind.i64)] r_1.fst &&
              okB [Sum.inl [Sh.sl 1, Sh.int IntKind.i64]] r_1.snd)
            (bnd
              (F 16 [AV.t (TV.ptr 0 0), AV.int IntKind.i64 (IntKind.i64.wrap (time1 + 1))]
                [Blk.box
                    [AV.sl 1
                        (nth PV.nilp
                            (List.map AV.toPV (nth (Blk.box []) r_1.snd 0).toCs) 0).toEs,
                      AV.int IntKind.i64
                        (nth PV.nilp
                            (List.map AV.toPV (nth (Blk.box []) r_1.snd 0).toCs) 1).toInt]])
              fun (r_2 : Res) =>
              ctl
                (okR [RSh.one (Sh.int IntKind.i64)] r_2.fst &&
                  okB [Sum.inl [Sh.sl 1, Sh.int IntKind.i64]] r_2.snd)
                (ctl (leB 0 x12 && ltB x12 (↑c1.length : Int))
                  (lp E F 23 1 [] 0
                    {
                      vals :=
                        [AV.int IntKind.i64 time1, AV.int IntKind.i64 x11,
                          AV.int IntKind.i64 (IntKind.i64.wrap (x12 + 1))],
                      blks :=
                        [Blk.box
                            [AV.sl 1
                                (nth PV.nilp
                                    (List.map AV.toPV (nth (Blk.box []) r_2.snd 0).toCs) 0).toEs,
                              AV.int IntKind.i64
                                (nth PV.nilp
                                    (List.map AV.toPV (nth (Blk.box []) r_2.snd 0).toCs) 1).toInt],
                          Blk.arr 3
                            (setEs c1 x12.toNat 0
                              [PV.int IntKind.i64 (nth (RV.p PV.nilp) r.fst 0).toPV.toInt,
                                PV.int IntKind.i64 (nth (RV.p PV.nilp) r_1.fst 0).toPV.toInt,
                                PV.int IntKind.i64
                                  (nth (RV.p PV.nilp) r_2.fst 0).toPV.toInt])] })
                  Option.none)
                Option.none)
            Option.none)
        Option.none)
    (Option.some
      (Ex.exit 0,
        { vals := [],
          blks := [Blk.box [AV.sl 1 b0_0, AV.int IntKind.i64 b0_1], Blk.arr 3 c1] })) := (lp_unfold ..).trans (by kernel_rfl)

/-- (*dynpos/dynposmake.Src).Controllers -/
theorem r23 (F : Fun) (s0 : List (List PV)) (s1 : Int) (time : Int) : funK E F 23 [AV.t (TV.ptr 0 0), AV.int IntKind.i64 time] [Blk.box [AV.sl 1 s0, AV.int IntKind.i64 s1]] =
  bnd
    (F 11 [AV.t (TV.ptr 0 0), AV.int IntKind.i64 1, AV.int IntKind.i64 5]
      [Blk.box [AV.sl 1 s0, AV.int IntKind.i64 s1]])
    fun (r : Res) =>
    ctl
      (okR [RSh.one (Sh.int IntKind.i64)] r.fst &&
        okB [Sum.inl [Sh.sl 1, Sh.int IntKind.i64]] r.snd)
      (ctl
        (leB 0 (nth (RV.p PV.nilp) r.fst 0).toPV.toInt &&
          (leB (nth (RV.p PV.nilp) r.fst 0).toPV.toInt
              (nth (RV.p PV.nilp) r.fst 0).toPV.toInt &&
            (leB (nth (RV.p PV.nilp) r.fst 0).toPV.toInt 9223372036854775807 &&
              leB ((nth (RV.p PV.nilp) r.fst 0).toPV.toInt * 24) 140737488355328)))
        (bnd
          (lp E F 23 1 [] 0
            {
              vals :=
                [AV.int IntKind.i64 time,
                  AV.int IntKind.i64
                    (↑(reps
                            [PV.int IntKind.i64 0, PV.int IntKind.i64 0, PV.int IntKind.i64 0]
                            (nth (RV.p PV.nilp) r.fst 0).toPV.toInt.toNat).length :
                      Int),
                  AV.int IntKind.i64 0],
              blks :=
                [Blk.box
                    [AV.sl 1
                        (nth PV.nilp
                            (List.map AV.toPV (nth (Blk.box []) r.snd 0).toCs) 0).toEs,
                      AV.int IntKind.i64
                        (nth PV.nilp
                            (List.map AV.toPV (nth (Blk.box []) r.snd 0).toCs) 1).toInt],
                  Blk.arr 3
                    (reps
                      [PV.int IntKind.i64 0, PV.int IntKind.i64 0, PV.int IntKind.i64 0]
                      (nth (RV.p PV.nilp) r.fst 0).toPV.toInt.toNat)] })
          fun (p : Ex × Pack) =>
          ctl (p.fst.eqb (Ex.exit 0))
            (ctl
              (okPack
                { slots := [(5, Sum.inr (Sum.inr (AV.t (TV.hsl 1))))],
                  blks := [Sum.inl [Sum.inl (Sh.sl 1), Sum.inl (Sh.int IntKind.i64)], Sum.inr 3] }
                p.snd)
              (Option.some
                ([RV.p (PV.sl 3 (nth (Blk.box []) p.snd.blks 1).toEs)],
                  [Blk.box
                      [AV.sl 1
                          (nth AV.undef (nth (Blk.box []) p.snd.blks 0).toCs 0).toPV.toEs,
                        AV.int IntKind.i64
                          (nth AV.undef (nth (Blk.box []) p.snd.blks 0).toCs 1).toPV.toInt]]))
              Option.none)
            Option.none)
        Option.none)
      Option.none := by kernel_rfl

/-- dynpos/failover.Crash -/
theorem r24 (F : Fun) (l : List (List PV)) (i : Int) : funK E F 24 [AV.sl 3 l, AV.int IntKind.i64 i] [] =
  bnd (ctl (!ltB i 0) (Option.some (leB (↑l.length : Int) i)) (Option.some Bool.true))
    fun (v : Bool) =>
    ctl v
      (Option.some ([RV.p (PV.sl 3 []), RV.p (PV.int IntKind.i64 10)], []))
      (getE l i fun (c : List PV) =>
        ctl
          (okCs [Sh.int IntKind.i64, Sh.int IntKind.i64, Sh.int IntKind.i64] c)
          (ctl ((nth PV.nilp c 0).toInt == 2)
            (Option.some ([RV.p (PV.sl 3 []), RV.p (PV.int IntKind.i64 11)], []))
            (bnd (F 38 [AV.sl 3 l] []) fun (r : Res) =>
              ctl (okR [RSh.own 3] r.fst && okB [] r.snd)
                (ctl
                  (leB 0 i &&
                    ltB i (↑(nth (RV.p PV.nilp) r.fst 0).toEs.length : Int))
                  (Option.some
                    ([RV.p
                          (PV.sl 3
                            (setEs (nth (RV.p PV.nilp) r.fst 0).toEs i.toNat 0
                              [PV.int IntKind.i64 2])),
                        RV.p (PV.int IntKind.i64 0)],
                      []))
                  Option.none)
                Option.none))
          Option.none) := by kernel_rfl

/-- dynpos/dynposref33.Crash -/
theorem r25 (F : Fun) (l : List (List PV)) (i : Int) : funK E F 25 [AV.sl 3 l, AV.int IntKind.i64 i] [] =
  bnd (ctl (!ltB i 0) (Option.some (leB (↑l.length : Int) i)) (Option.some Bool.true))
    fun (v : Bool) =>
    ctl v
      (Option.some ([RV.p (PV.sl 3 []), RV.p (PV.int IntKind.i64 10)], []))
      (getE l i fun (c : List PV) =>
        ctl
          (okCs [Sh.int IntKind.i64, Sh.int IntKind.i64, Sh.int IntKind.i64] c)
          (ctl ((nth PV.nilp c 0).toInt == 2)
            (Option.some ([RV.p (PV.sl 3 []), RV.p (PV.int IntKind.i64 11)], []))
            (ctl (leN (l.length * 24) 140737488355328)
              (ctl (leB 0 i && ltB i (↑l.length : Int))
                (Option.some
                  ([RV.p (PV.sl 3 (setEs l i.toNat 0 [PV.int IntKind.i64 2])),
                      RV.p (PV.int IntKind.i64 0)],
                    []))
                Option.none)
              Option.none))
          Option.none) := by kernel_rfl

/-- dynpos/dynposref33.Restart -/
theorem r26 (F : Fun) (l : List (List PV)) (i : Int) (time : Int) : funK E F 26 [AV.sl 3 l, AV.int IntKind.i64 i, AV.int IntKind.i64 time] [] =
  bnd (ctl (!ltB i 0) (Option.some (leB (↑l.length : Int) i)) (Option.some Bool.true))
    fun (v : Bool) =>
    ctl v
      (Option.some ([RV.p (PV.sl 3 []), RV.p (PV.int IntKind.i64 10)], []))
      (getE l i fun (c : List PV) =>
        ctl
          (okCs [Sh.int IntKind.i64, Sh.int IntKind.i64, Sh.int IntKind.i64] c)
          (ctl ((nth PV.nilp c 0).toInt != 2)
            (Option.some ([RV.p (PV.sl 3 []), RV.p (PV.int IntKind.i64 11)], []))
            (getE l i fun (c : List PV) =>
              ctl
                (okCs [Sh.int IntKind.i64, Sh.int IntKind.i64, Sh.int IntKind.i64] c)
                (bnd
                  (ctl (!ltB time (nth PV.nilp c 2).toInt)
                    (Option.some (ltB 2147483648 time)) (Option.some Bool.true))
                  fun (v : Bool) =>
                  ctl v
                    (Option.some ([RV.p (PV.sl 3 []), RV.p (PV.int IntKind.i64 1)], []))
                    (ctl (leN (l.length * 24) 140737488355328)
                      (ctl (leB 0 i && ltB i (↑l.length : Int))
                        (ctl
                          (leB 0 i &&
                            ltB i (↑(setEs l i.toNat 0 [PV.int IntKind.i64 0]).length : Int))
                          (Option.some
                            ([RV.p
                                  (PV.sl 3
                                    (setEs (setEs l i.toNat 0 [PV.int IntKind.i64 0]) i.toNat 2
                                      [PV.int IntKind.i64 time])),
                                RV.p (PV.int IntKind.i64 0)],
                              []))
                          Option.none)
                        Option.none)
                      Option.none))
                Option.none))
          Option.none) := by kernel_rfl

/-- dynpos/failover.check -/
theorem r27 (F : Fun) (l : List (List PV)) (reach : List (List PV)) (time : Int) (timeout : Int) : funK E F 27 [AV.sl 3 l, AV.sl 1 reach, AV.int IntKind.i64 time, AV.int IntKind.i64 timeout] [] =
  bnd (F 39 [AV.sl 3 l, AV.int IntKind.i64 time] []) fun (r : Res) =>
    ctl
      (okR [RSh.one (Sh.int IntKind.i64)] r.fst && okB [] r.snd)
      (ctl ((nth (RV.p PV.nilp) r.fst 0).toPV.toInt != 0)
        (Option.some
          ([RV.p
                (PV.int IntKind.i64 (nth (RV.p PV.nilp) r.fst 0).toPV.toInt)],
            []))
        (bnd (F 35 [AV.sl 3 l, AV.sl 1 reach] []) fun (r : Res) =>
          ctl (okR [RSh.one Sh.bool] r.fst && okB [] r.snd)
            (ctl (!(nth (RV.p PV.nilp) r.fst 0).toPV.toBool)
              (Option.some ([RV.p (PV.int IntKind.i64 8)], []))
              (bnd (ctl (!ltB time 0) (Option.some (ltB 2147483648 time)) (Option.some Bool.true))
                fun (v : Bool) =>
                bnd (ctl (!v) (Option.some (ltB timeout 0)) (Option.some Bool.true)) fun (v : Bool) =>
                  bnd (ctl (!v) (Option.some (ltB 600 timeout)) (Option.some Bool.true)) fun (v : Bool) =>
                    ctl v (Option.some ([RV.p (PV.int IntKind.i64 1)], []))
                      (Option.some ([RV.p (PV.int IntKind.i64 0)], []))))
            Option.none))
      Option.none := by kernel_rfl

/-- (dynpos/failover.party).each, the loop of block 0 -/
theorem r28_0l (F : Fun) (q0 : List (List PV)) (q1 : List (List PV)) (x15 : List (List PV)) (x16 : Int) (x17 : Int) (b0_0 : List (List PV)) (b0_1 : List (List PV)) (b1_0 : List (List PV)) (b1_1 : List (List PV)) (b2_1 : List (List PV)) (c3 : List (List PV)) : lp E F 28 0
  [AV.undef, AV.bnd 29 [PV.sl 3 q0, PV.sl 1 q1]] 0
  { vals := [AV.sl 3 x15, AV.int IntKind.i64 x16, AV.int IntKind.i64 x17],
    blks :=
      [Blk.box [AV.sl 3 b0_0, AV.sl 1 b0_1],
        Blk.box [AV.sl 3 b1_0, AV.sl 1 b1_1],
        Blk.box [AV.t (TV.hsl 3), AV.sl 1 b2_1], Blk.arr 3 c3] } =
  ctl (ltB x17 x16)
    (getE x15 x17 fun (c : List PV) =>
      ctl
        (okCs [Sh.int IntKind.i64, Sh.int IntKind.i64, Sh.int IntKind.i64] c)
        (bnd
          (F 40 [AV.agg [PV.sl 3 b0_0, PV.sl 1 b0_1], AV.int IntKind.i64 x17] [])
          fun (r : Res) =>
          ctl (okR [RSh.one Sh.bool] r.fst && okB [] r.snd)
            (ctl (nth (RV.p PV.nilp) r.fst 0).toPV.toBool
              (bnd
                (F 29
                  [AV.agg [PV.sl 3 q0, PV.sl 1 q1], AV.int IntKind.i64 x17,
                    AV.agg
                      [PV.int IntKind.i64 (nth PV.nilp c 0).toInt,
                        PV.int IntKind.i64 (nth PV.nilp c 1).toInt,
                        PV.int IntKind.i64 (nth PV.nilp c 2).toInt]]
                  [])
                fun (r : Res) =>
                ctl
                  (okR
                      [RSh.agg
                          [Sh.int IntKind.i64, Sh.int IntKind.i64, Sh.int IntKind.i64]]
                      r.fst &&
                    okB [] r.snd)
                  (ctl (leB 0 x17 && ltB x17 (↑c3.length : Int))
                    (ctl
                      (eqAV (AV.bnd 29 [PV.sl 3 q0, PV.sl 1 q1])
                            (AV.bnd 29 [PV.sl 3 q0, PV.sl 1 q1]) &&
                          Bool.true &&
                        Bool.true)
                      (lp E F 28 0
                        [AV.undef, AV.bnd 29 [PV.sl 3 q0, PV.sl 1 q1]] 0
                        {
                          vals :=
                            [AV.sl 3 x15, AV.int IntKind.i64 x16, AV.int IntKind.i64 (IntKind.i64.wrap (x17 + 1))],
                          blks :=
                            [Blk.box [AV.sl 3 b0_0, AV.sl 1 b0_1],
                              Blk.box [AV.sl 3 b1_0, AV.sl 1 b1_1],
                              Blk.box [AV.t (TV.hsl 3), AV.sl 1 b2_1],
                              Blk.arr 3
                                (setEs c3 x17.toNat 0
                                  [PV.int IntKind.i64
                                      (nth PV.nilp
                                          (nth (RV.p PV.nilp) r.fst 0).toCs 0).toInt,
                                    PV.int IntKind.i64
                                      (nth PV.nilp
                                          (nth (RV.p PV.nilp) r.fst 0).toCs 1).toInt,
                                    PV.int IntKind.i64
                                      (nth PV.nilp
                                          (nth (RV.p PV.nilp) r.fst 0).toCs 2).toInt])] })
                      Option.none)
                    Option.none)
                  Option.none)
              (ctl
                (eqAV (AV.bnd 29 [PV.sl 3 q0, PV.sl 1 q1])
                      (AV.bnd 29 [PV.sl 3 q0, PV.sl 1 q1]) &&
                    Bool.true &&
                  Bool.true)
                (lp E F 28 0
                  [AV.undef, AV.bnd 29 [PV.sl 3 q0, PV.sl 1 q1]] 0
                  { vals := [AV.sl 3 x15, AV.int IntKind.i64 x16, AV.int IntKind.i64 (IntKind.i64.wrap (x17 + 1))],
                    blks :=
                      [Blk.box [AV.sl 3 b0_0, AV.sl 1 b0_1],
                        Blk.box [AV.sl 3 b1_0, AV.sl 1 b1_1],
                        Blk.box [AV.t (TV.hsl 3), AV.sl 1 b2_1],
                        Blk.arr 3 c3] })
                Option.none))
            Option.none)
        Option.none)
    (Option.some
      (Ex.exit 0,
        { vals := [],
          blks :=
            [Blk.box [AV.sl 3 b1_0, AV.sl 1 b1_1],
              Blk.box [AV.t (TV.hsl 2), AV.sl 1 b2_1],
              Blk.arr 3 c3] })) := (lp_unfold ..).trans (by kernel_rfl)

/-- (dynpos/failover.party).each, the loop of block 0 -/
theorem r28_0y (F : Fun) (x15 : List (List PV)) (x16 : Int) (x17 : Int) (b0_0 : List (List PV)) (b0_1 : List (List PV)) (b1_0 : List (List PV)) (b1_1 : List (List PV)) (b2_0 : List (List PV)) (b2_1 : List (List PV)) (b3_0 : List (List PV)) (b3_1 : List (List PV)) (b4_1 : List (List PV)) (c5 : List (List PV)) : lp E F 28 2
  [AV.undef, AV.fn 42 [TV.ptr 0 0, TV.ptr 1 0]] 0
  { vals := [AV.sl 3 x15, AV.int IntKind.i64 x16, AV.int IntKind.i64 x17],
    blks :=
      [Blk.box [AV.sl 3 b0_0, AV.sl 1 b0_1],
        Blk.box [AV.sl 3 b1_0, AV.sl 1 b1_1],
        Blk.box [AV.sl 3 b2_0, AV.sl 1 b2_1],
        Blk.box [AV.sl 3 b3_0, AV.sl 1 b3_1],
        Blk.box [AV.t (TV.hsl 5), AV.sl 1 b4_1], Blk.arr 3 c5] } =
  ctl (ltB x17 x16)
    (getE x15 x17 fun (c : List PV) =>
      ctl
        (okCs [Sh.int IntKind.i64, Sh.int IntKind.i64, Sh.int IntKind.i64] c)
        (bnd
          (F 40 [AV.agg [PV.sl 3 b2_0, PV.sl 1 b2_1], AV.int IntKind.i64 x17] [])
          fun (r : Res) =>
          ctl (okR [RSh.one Sh.bool] r.fst && okB [] r.snd)
            (ctl (nth (RV.p PV.nilp) r.fst 0).toPV.toBool
              (bnd
                (F 42
                  [AV.int IntKind.i64 x17,
                    AV.agg
                      [PV.int IntKind.i64 (nth PV.nilp c 0).toInt,
                        PV.int IntKind.i64 (nth PV.nilp c 1).toInt,
                        PV.int IntKind.i64 (nth PV.nilp c 2).toInt],
                    AV.t (TV.ptr 0 0), AV.t (TV.ptr 1 0)]
                  [Blk.box [AV.sl 3 b0_0, AV.sl 1 b0_1],
                    Blk.box [AV.sl 3 b1_0, AV.sl 1 b1_1]])
                fun (r : Res) =>
                ctl
                  (okR
                      [RSh.agg
                          [Sh.int IntKind.i64, Sh.int IntKind.i64, Sh.int IntKind.i64]]
                      r.fst &&
                    okB
                      [Sum.inl [Sh.sl 3, Sh.sl 1], Sum.inl [Sh.sl 3, Sh.sl 1]] r.snd)
                  (ctl (leB 0 x17 && ltB x17 (↑c5.length : Int))
                    (lp E F 28 2
                      [AV.undef, AV.fn 42 [TV.ptr 0 0, TV.ptr 1 0]] 0
                      { vals := [AV.sl 3 x15, AV.int IntKind.i64 x16, AV.int IntKind.i64 (IntKind.i64.wrap (x17 + 1))],
                        blks :=
                          [Blk.box
                              [AV.sl 3
                                  (nth PV.nilp
                                      (List.map AV.toPV (nth (Blk.box []) r.snd 0).toCs) 0).toEs,
                                AV.sl 1
                                  (nth PV.nilp
                                      (List.map AV.toPV (nth (Blk.box []) r.snd 0).toCs) 1).toEs],
                            Blk.box
                              [AV.sl 3
                                  (nth PV.nilp
                                      (List.map AV.toPV (nth (Blk.box []) r.snd 1).toCs) 0).toEs,
                                AV.sl 1
                                  (nth PV.nilp
                                      (List.map AV.toPV (nth (Blk.box []) r.snd 1).toCs) 1).toEs],
                            Blk.box [AV.sl 3 b2_0, AV.sl 1 b2_1],
                            Blk.box [AV.sl 3 b3_0, AV.sl 1 b3_1],
                            Blk.box [AV.t (TV.hsl 5), AV.sl 1 b4_1],
                            Blk.arr 3
                              (setEs c5 x17.toNat 0
                                [PV.int IntKind.i64
                                    (nth PV.nilp
                                        (nth (RV.p PV.nilp) r.fst 0).toCs 0).toInt,
                                  PV.int IntKind.i64
                                    (nth PV.nilp
                                        (nth (RV.p PV.nilp) r.fst 0).toCs 1).toInt,
                                  PV.int IntKind.i64
                                    (nth PV.nilp
                                        (nth (RV.p PV.nilp) r.fst 0).toCs 2).toInt])] })
                    Option.none)
                  Option.none)
              (lp E F 28 2
                [AV.undef, AV.fn 42 [TV.ptr 0 0, TV.ptr 1 0]] 0
                { vals := [AV.sl 3 x15, AV.int IntKind.i64 x16, AV.int IntKind.i64 (IntKind.i64.wrap (x17 + 1))],
                  blks :=
                    [Blk.box [AV.sl 3 b0_0, AV.sl 1 b0_1],
                      Blk.box [AV.sl 3 b1_0, AV.sl 1 b1_1],
                      Blk.box [AV.sl 3 b2_0, AV.sl 1 b2_1],
                      Blk.box [AV.sl 3 b3_0, AV.sl 1 b3_1],
                      Blk.box [AV.t (TV.hsl 5), AV.sl 1 b4_1],
                      Blk.arr 3 c5] }))
            Option.none)
        Option.none)
    (Option.some
      (Ex.exit 0,
        { vals := [],
          blks :=
            [Blk.box [AV.sl 3 b0_0, AV.sl 1 b0_1],
              Blk.box [AV.sl 3 b1_0, AV.sl 1 b1_1],
              Blk.box [AV.sl 3 b3_0, AV.sl 1 b3_1],
              Blk.box [AV.t (TV.hsl 4), AV.sl 1 b4_1],
              Blk.arr 3 c5] })) := (lp_unfold ..).trans (by kernel_rfl)

/-- (dynpos/failover.party).each, the loop of block 0 -/
theorem r28_0h (F : Fun) (x15 : List (List PV)) (x16 : Int) (x17 : Int) (b0_0 : List (List PV)) (b0_1 : List (List PV)) (b1_0 : Int) (b2_0 : List (List PV)) (b2_1 : List (List PV)) (b3_0 : List (List PV)) (b3_1 : List (List PV)) (b4_1 : List (List PV)) (c5 : List (List PV)) : lp E F 28 2
  [AV.undef, AV.fn 47 [TV.ptr 0 0, TV.ptr 1 0]] 0
  { vals := [AV.sl 3 x15, AV.int IntKind.i64 x16, AV.int IntKind.i64 x17],
    blks :=
      [Blk.box [AV.sl 3 b0_0, AV.sl 1 b0_1],
        Blk.box [AV.int IntKind.i64 b1_0],
        Blk.box [AV.sl 3 b2_0, AV.sl 1 b2_1],
        Blk.box [AV.sl 3 b3_0, AV.sl 1 b3_1],
        Blk.box [AV.t (TV.hsl 5), AV.sl 1 b4_1], Blk.arr 3 c5] } =
  ctl (ltB x17 x16)
    (getE x15 x17 fun (c : List PV) =>
      ctl
        (okCs [Sh.int IntKind.i64, Sh.int IntKind.i64, Sh.int IntKind.i64] c)
        (bnd
          (F 40 [AV.agg [PV.sl 3 b2_0, PV.sl 1 b2_1], AV.int IntKind.i64 x17] [])
          fun (r : Res) =>
          ctl (okR [RSh.one Sh.bool] r.fst && okB [] r.snd)
            (ctl (nth (RV.p PV.nilp) r.fst 0).toPV.toBool
              (bnd
                (F 47
                  [AV.int IntKind.i64 x17,
                    AV.agg
                      [PV.int IntKind.i64 (nth PV.nilp c 0).toInt,
                        PV.int IntKind.i64 (nth PV.nilp c 1).toInt,
                        PV.int IntKind.i64 (nth PV.nilp c 2).toInt],
                    AV.t (TV.ptr 0 0), AV.t (TV.ptr 1 0)]
                  [Blk.box [AV.sl 3 b0_0, AV.sl 1 b0_1],
                    Blk.box [AV.int IntKind.i64 b1_0]])
                fun (r : Res) =>
                ctl
                  (okR
                      [RSh.agg
                          [Sh.int IntKind.i64, Sh.int IntKind.i64, Sh.int IntKind.i64]]
                      r.fst &&
                    okB [Sum.inl [Sh.sl 3, Sh.sl 1], Sum.inl [Sh.int IntKind.i64]] r.snd)
                  (ctl (leB 0 x17 && ltB x17 (↑c5.length : Int))
                    (lp E F 28 2
                      [AV.undef, AV.fn 47 [TV.ptr 0 0, TV.ptr 1 0]] 0
                      { vals := [AV.sl 3 x15, AV.int IntKind.i64 x16, AV.int IntKind.i64 (IntKind.i64.wrap (x17 + 1))],
                        blks :=
                          [Blk.box
                              [AV.sl 3
                                  (nth PV.nilp
                                      (List.map AV.toPV (nth (Blk.box []) r.snd 0).toCs) 0).toEs,
                                AV.sl 1
                                  (nth PV.nilp
                                      (List.map AV.toPV (nth (Blk.box []) r.snd 0).toCs) 1).toEs],
                            Blk.box
                              [AV.int IntKind.i64
                                  (nth PV.nilp
                                      (List.map AV.toPV (nth (Blk.box []) r.snd 1).toCs) 0).toInt],
                            Blk.box [AV.sl 3 b2_0, AV.sl 1 b2_1],
                            Blk.box [AV.sl 3 b3_0, AV.sl 1 b3_1],
                            Blk.box [AV.t (TV.hsl 5), AV.sl 1 b4_1],
                            Blk.arr 3
                              (setEs c5 x17.toNat 0
                                [PV.int IntKind.i64
                                    (nth PV.nilp
                                        (nth (RV.p PV.nilp) r.fst 0).toCs 0).toInt,
                                  PV.int IntKind.i64
                                    (nth PV.nilp
                                        (nth (RV.p PV.nilp) r.fst 0).toCs 1).toInt,
                                  PV.int IntKind.i64
                                    (nth PV.nilp
                                        (nth (RV.p PV.nilp) r.fst 0).toCs 2).toInt])] })
                    Option.none)
                  Option.none)
              (lp E F 28 2
                [AV.undef, AV.fn 47 [TV.ptr 0 0, TV.ptr 1 0]] 0
                { vals := [AV.sl 3 x15, AV.int IntKind.i64 x16, AV.int IntKind.i64 (IntKind.i64.wrap (x17 + 1))],
                  blks :=
                    [Blk.box [AV.sl 3 b0_0, AV.sl 1 b0_1],
                      Blk.box [AV.int IntKind.i64 b1_0],
                      Blk.box [AV.sl 3 b2_0, AV.sl 1 b2_1],
                      Blk.box [AV.sl 3 b3_0, AV.sl 1 b3_1],
                      Blk.box [AV.t (TV.hsl 5), AV.sl 1 b4_1],
                      Blk.arr 3 c5] }))
            Option.none)
        Option.none)
    (Option.some
      (Ex.exit 0,
        { vals := [],
          blks :=
            [Blk.box [AV.sl 3 b0_0, AV.sl 1 b0_1],
              Blk.box [AV.int IntKind.i64 b1_0],
              Blk.box [AV.sl 3 b3_0, AV.sl 1 b3_1],
              Blk.box [AV.t (TV.hsl 4), AV.sl 1 b4_1],
              Blk.arr 3 c5] })) := (lp_unfold ..).trans (by kernel_rfl)

/-- (dynpos/failover.party).each -/
theorem r28l (F : Fun) (p0 : List (List PV)) (p1 : List (List PV)) (q0 : List (List PV)) (q1 : List (List PV)) : funK E F 28 [AV.agg [PV.sl 3 p0, PV.sl 1 p1],
  AV.bnd 29 [PV.sl 3 q0, PV.sl 1 q1]] [] =
  bnd (F 38 [AV.sl 3 p0] []) fun (r : Res) =>
    ctl (okR [RSh.own 3] r.fst && okB [] r.snd)
      (ctl
        (eqAV (AV.bnd 29 [PV.sl 3 q0, PV.sl 1 q1])
              (AV.bnd 29 [PV.sl 3 q0, PV.sl 1 q1]) &&
            Bool.true &&
          Bool.true)
        (bnd
          (lp E F 28 0
            [AV.undef, AV.bnd 29 [PV.sl 3 q0, PV.sl 1 q1]] 0
            { vals := [AV.sl 3 p0, AV.int IntKind.i64 (↑p0.length : Int), AV.int IntKind.i64 0],
              blks :=
                [Blk.box [AV.sl 3 p0, AV.sl 1 p1],
                  Blk.box [AV.sl 3 [], AV.sl 1 []],
                  Blk.box [AV.t (TV.hsl 3), AV.sl 1 p1],
                  Blk.arr 3 (nth (RV.p PV.nilp) r.fst 0).toEs] })
          fun (p : Ex × Pack) =>
          ctl (p.fst.eqb (Ex.exit 0))
            (ctl
              (okPack
                {
                  slots :=
                    [(4, Sum.inr (Sum.inr (AV.t (TV.ptr 0 0)))),
                      (5, Sum.inr (Sum.inr (AV.t (TV.ptr 1 0))))],
                  blks :=
                    [Sum.inl [Sum.inl (Sh.sl 3), Sum.inl (Sh.sl 1)],
                      Sum.inl [Sum.inr (AV.t (TV.hsl 2)), Sum.inl (Sh.sl 1)], Sum.inr 3] }
                p.snd)
              (Option.some
                ([RV.agg
                      [PV.sl 3 (nth (Blk.box []) p.snd.blks 2).toEs,
                        PV.sl 1
                          (nth AV.undef (nth (Blk.box []) p.snd.blks 1).toCs 1).toPV.toEs]],
                  []))
              Option.none)
            Option.none)
        Option.none)
      Option.none := by kernel_rfl

/-- (dynpos/failover.party).each -/
theorem r28y (F : Fun) (p0 : List (List PV)) (p1 : List (List PV)) (k0_0 : List (List PV)) (k0_1 : List (List PV)) (k1_0 : List (List PV)) (k1_1 : List (List PV)) : funK E F 28 [AV.agg [PV.sl 3 p0, PV.sl 1 p1],
  AV.fn 42 [TV.ptr 0 0, TV.ptr 1 0]] [Blk.box [AV.sl 3 k0_0, AV.sl 1 k0_1],
  Blk.box [AV.sl 3 k1_0, AV.sl 1 k1_1]] =
  bnd (F 38 [AV.sl 3 p0] []) fun (r : Res) =>
    ctl (okR [RSh.own 3] r.fst && okB [] r.snd)
      (bnd
        (lp E F 28 2
          [AV.undef, AV.fn 42 [TV.ptr 0 0, TV.ptr 1 0]] 0
          { vals := [AV.sl 3 p0, AV.int IntKind.i64 (↑p0.length : Int), AV.int IntKind.i64 0],
            blks :=
              [Blk.box [AV.sl 3 k0_0, AV.sl 1 k0_1],
                Blk.box [AV.sl 3 k1_0, AV.sl 1 k1_1],
                Blk.box [AV.sl 3 p0, AV.sl 1 p1],
                Blk.box [AV.sl 3 [], AV.sl 1 []],
                Blk.box [AV.t (TV.hsl 5), AV.sl 1 p1],
                Blk.arr 3 (nth (RV.p PV.nilp) r.fst 0).toEs] })
        fun (p : Ex × Pack) =>
        ctl (p.fst.eqb (Ex.exit 0))
          (ctl
            (okPack
              {
                slots :=
                  [(4, Sum.inr (Sum.inr (AV.t (TV.ptr 2 0)))),
                    (5, Sum.inr (Sum.inr (AV.t (TV.ptr 3 0))))],
                blks :=
                  [Sum.inl [Sum.inl (Sh.sl 3), Sum.inl (Sh.sl 1)],
                    Sum.inl [Sum.inl (Sh.sl 3), Sum.inl (Sh.sl 1)],
                    Sum.inl [Sum.inl (Sh.sl 3), Sum.inl (Sh.sl 1)],
                    Sum.inl [Sum.inr (AV.t (TV.hsl 4)), Sum.inl (Sh.sl 1)], Sum.inr 3] }
              p.snd)
            (Option.some
              ([RV.agg
                    [PV.sl 3 (nth (Blk.box []) p.snd.blks 4).toEs,
                      PV.sl 1
                        (nth AV.undef (nth (Blk.box []) p.snd.blks 3).toCs 1).toPV.toEs]],
                [Blk.box
                    [AV.sl 3
                        (nth AV.undef (nth (Blk.box []) p.snd.blks 0).toCs 0).toPV.toEs,
                      AV.sl 1
                        (nth AV.undef (nth (Blk.box []) p.snd.blks 0).toCs 1).toPV.toEs],
                  Blk.box
                    [AV.sl 3
                        (nth AV.undef (nth (Blk.box []) p.snd.blks 1).toCs 0).toPV.toEs,
                      AV.sl 1
                        (nth AV.undef (nth (Blk.box []) p.snd.blks 1).toCs 1).toPV.toEs]]))
            Option.none)
          Option.none)
      Option.none := by kernel_rfl

/-- (dynpos/failover.party).each -/
theorem r28h (F : Fun) (p0 : List (List PV)) (p1 : List (List PV)) (k0_0 : List (List PV)) (k0_1 : List (List PV)) (k1_0 : Int) : funK E F 28 [AV.agg [PV.sl 3 p0, PV.sl 1 p1],
  AV.fn 47 [TV.ptr 0 0, TV.ptr 1 0]] [Blk.box [AV.sl 3 k0_0, AV.sl 1 k0_1],
  Blk.box [AV.int IntKind.i64 k1_0]] =
  bnd (F 38 [AV.sl 3 p0] []) fun (r : Res) =>
    ctl (okR [RSh.own 3] r.fst && okB [] r.snd)
      (bnd
        (lp E F 28 2
          [AV.undef, AV.fn 47 [TV.ptr 0 0, TV.ptr 1 0]] 0
          { vals := [AV.sl 3 p0, AV.int IntKind.i64 (↑p0.length : Int), AV.int IntKind.i64 0],
            blks :=
              [Blk.box [AV.sl 3 k0_0, AV.sl 1 k0_1],
                Blk.box [AV.int IntKind.i64 k1_0],
                Blk.box [AV.sl 3 p0, AV.sl 1 p1],
                Blk.box [AV.sl 3 [], AV.sl 1 []],
                Blk.box [AV.t (TV.hsl 5), AV.sl 1 p1],
                Blk.arr 3 (nth (RV.p PV.nilp) r.fst 0).toEs] })
        fun (p : Ex × Pack) =>
        ctl (p.fst.eqb (Ex.exit 0))
          (ctl
            (okPack
              {
                slots :=
                  [(4, Sum.inr (Sum.inr (AV.t (TV.ptr 2 0)))),
                    (5, Sum.inr (Sum.inr (AV.t (TV.ptr 3 0))))],
                blks :=
                  [Sum.inl [Sum.inl (Sh.sl 3), Sum.inl (Sh.sl 1)], Sum.inl [Sum.inl (Sh.int IntKind.i64)],
                    Sum.inl [Sum.inl (Sh.sl 3), Sum.inl (Sh.sl 1)],
                    Sum.inl [Sum.inr (AV.t (TV.hsl 4)), Sum.inl (Sh.sl 1)], Sum.inr 3] }
              p.snd)
            (Option.some
              ([RV.agg
                    [PV.sl 3 (nth (Blk.box []) p.snd.blks 4).toEs,
                      PV.sl 1
                        (nth AV.undef (nth (Blk.box []) p.snd.blks 3).toCs 1).toPV.toEs]],
                [Blk.box
                    [AV.sl 3
                        (nth AV.undef (nth (Blk.box []) p.snd.blks 0).toCs 0).toPV.toEs,
                      AV.sl 1
                        (nth AV.undef (nth (Blk.box []) p.snd.blks 0).toCs 1).toPV.toEs],
                  Blk.box
                    [AV.int IntKind.i64
                        (nth AV.undef (nth (Blk.box []) p.snd.blks 1).toCs 0).toPV.toInt]]))
            Option.none)
          Option.none)
      Option.none := by kernel_rfl

/-- (dynpos/failover.party).learn -/
theorem r29 (F : Fun) (p0 : List (List PV)) (p1 : List (List PV)) (i : Int) (c0 : Int) (c1 : Int) (c2 : Int) : funK E F 29 [AV.agg [PV.sl 3 p0, PV.sl 1 p1], AV.int IntKind.i64 i,
  AV.agg [PV.int IntKind.i64 c0, PV.int IntKind.i64 c1, PV.int IntKind.i64 c2]] [] =
  bnd
    (F 36 [AV.agg [PV.sl 3 p0, PV.sl 1 p1], AV.int IntKind.i64 i] [])
    fun (r : Res) =>
    ctl (okR [RSh.one (Sh.sl 1)] r.fst && okB [] r.snd)
      (bnd
        (F 41
          [AV.agg [PV.sl 3 p0, PV.sl 1 p1],
            AV.sl 1 (nth (RV.p PV.nilp) r.fst 0).toPV.toEs]
          [])
        fun (r : Res) =>
        ctl
          (okR [RSh.one (Sh.int IntKind.i64)] r.fst && okB [] r.snd)
          (Option.some
            ([RV.agg
                  [PV.int IntKind.i64 c0,
                    PV.int IntKind.i64 (nth (RV.p PV.nilp) r.fst 0).toPV.toInt,
                    PV.int IntKind.i64 c2]],
              []))
          Option.none)
      Option.none := by kernel_rfl

/-- (dynpos/failover.party).elect, the loop of block 0 -/
theorem r32_0 (F : Fun) (time1 : Int) (all8 : List (List PV)) (x26 : Int) (x27 : Int) (b0_0 : List (List PV)) (b0_1 : List (List PV)) (b1_0 : List (List PV)) (b1_1 : List (List PV)) (c2 : List (Int × MV)) : lp E F 32 0 [] 0
  {
    vals :=
      [AV.int IntKind.i64 time1, AV.sl 1 all8, AV.int IntKind.i64 x26,
        AV.int IntKind.i64 x27],
    blks :=
      [Blk.box [AV.sl 3 b0_0, AV.sl 1 b0_1],
        Blk.box [AV.sl 3 b1_0, AV.sl 1 b1_1], Blk.tab Bool.true 1 c2] } =
  ctl (ltB x27 x26)
    (bnd
      (F 48 [AV.agg [PV.sl 3 b0_0, PV.sl 1 b0_1], AV.int IntKind.i64 x27] [])
      fun (r : Res) =>
      ctl (okR [RSh.one Sh.bool] r.fst && okB [] r.snd)
        (ctl (nth (RV.p PV.nilp) r.fst 0).toPV.toBool
          (lp E F 32 0 [] 0
            {
              vals :=
                [AV.int IntKind.i64 time1, AV.sl 1 all8, AV.int IntKind.i64 x26,
                  AV.int IntKind.i64 (IntKind.i64.wrap (x27 + 1))],
              blks :=
                [Blk.box [AV.sl 3 b0_0, AV.sl 1 b0_1],
                  Blk.box [AV.sl 3 b1_0, AV.sl 1 b1_1], Blk.tab Bool.true 1 c2] })
          (bnd
            (F 36 [AV.agg [PV.sl 3 b0_0, PV.sl 1 b0_1], AV.int IntKind.i64 x27] [])
            fun (r : Res) =>
            ctl (okR [RSh.one (Sh.sl 1)] r.fst && okB [] r.snd)
              (bnd
                (F 50 [AV.sl 1 all8, AV.fn 51 [TV.ptr 0 0]]
                  [Blk.box
                      [AV.sl 1 (nth (RV.p PV.nilp) r.fst 0).toPV.toEs]])
                fun (r : Res) =>
                ctl
                  (okR [RSh.one (Sh.int IntKind.i64)] r.fst &&
                    okB [Sum.inl [Sh.sl 1]] r.snd)
                  (ctl
                    (leB 0 (nth (RV.p PV.nilp) r.fst 0).toPV.toInt)
                    (getE all8 (nth (RV.p PV.nilp) r.fst 0).toPV.toInt
                      fun (c : List PV) =>
                      ctl (okCs [Sh.int IntKind.i64] c)
                        (getE all8 (nth (RV.p PV.nilp) r.fst 0).toPV.toInt
                          fun (c_1 : List PV) =>
                          ctl (okCs [Sh.int IntKind.i64] c_1)
                            (ctl
                              (kvGet (MV.row []) (nth PV.nilp c_1 0).toInt c2).isRow
                              (ctl
                                (leN
                                  (((kvGet (MV.row []) (nth PV.nilp c_1 0).toInt c2).toEs.length +
                                      1) *
                                    8)
                                  140737488355328)
                                (lp E F 32 0 [] 0
                                  {
                                    vals :=
                                      [AV.int IntKind.i64 time1, AV.sl 1 all8, AV.int IntKind.i64 x26,
                                        AV.int IntKind.i64 (IntKind.i64.wrap (x27 + 1))],
                                    blks :=
                                      [Blk.box [AV.sl 3 b0_0, AV.sl 1 b0_1],
                                        Blk.box [AV.sl 3 b1_0, AV.sl 1 b1_1],
                                        Blk.tab Bool.true 1
                                          (kvPut (nth PV.nilp c 0).toInt
                                            (MV.row
                                              ((kvGet (MV.row []) (nth PV.nilp c_1 0).toInt
                                                    c2).toEs ++
                                                [[PV.int IntKind.i64 x27]]))
                                            (kvGone (nth PV.nilp c_1 0).toInt c2))] })
                                Option.none)
                              Option.none)
                            Option.none)
                        Option.none)
                    (lp E F 32 0 [] 0
                      {
                        vals :=
                          [AV.int IntKind.i64 time1, AV.sl 1 all8, AV.int IntKind.i64 x26,
                            AV.int IntKind.i64 (IntKind.i64.wrap (x27 + 1))],
                        blks :=
                          [Blk.box [AV.sl 3 b0_0, AV.sl 1 b0_1],
                            Blk.box [AV.sl 3 b1_0, AV.sl 1 b1_1], Blk.tab Bool.true 1 c2] }))
                  Option.none)
              Option.none))
        Option.none)
    (Option.some
      (Ex.exit 0,
        { vals := [AV.int IntKind.i64 time1, AV.sl 1 all8],
          blks :=
            [Blk.box [AV.sl 3 b0_0, AV.sl 1 b0_1],
              Blk.box [AV.sl 3 b1_0, AV.sl 1 b1_1], Blk.tab Bool.true 1 c2] })) := (lp_unfold ..).trans (by kernel_rfl)

/-- (dynpos/failover.party).elect, the loop of block 2 -/
theorem r32_2 (F : Fun) (time1 : Int) (x62 : List (List PV)) (x63 : Int) (x64 : Int) (b0_0 : List (List PV)) (b0_1 : List (List PV)) (b1_0 : List (List PV)) (b1_1 : List (List PV)) (c2 : List (Int × MV)) (b3_1 : List (List PV)) (c4 : List (List PV)) : lp E F 32 0 [] 2
  {
    vals :=
      [AV.int IntKind.i64 time1, AV.sl 1 x62, AV.int IntKind.i64 x63,
        AV.int IntKind.i64 x64],
    blks :=
      [Blk.box [AV.sl 3 b0_0, AV.sl 1 b0_1],
        Blk.box [AV.sl 3 b1_0, AV.sl 1 b1_1], Blk.tab Bool.true 0 c2,
        Blk.box [AV.t (TV.hsl 4), AV.sl 1 b3_1], Blk.arr 3 c4] } =
  ctl (ltB x64 x63)
    (getE x62 x64 fun (c : List PV) =>
      ctl (okCs [Sh.int IntKind.i64] c)
        (ctl
          (MV.pvOk (Sh.sl 1)
            (kvGet (MV.pv PV.nils) (nth PV.nilp c 0).toInt c2))
          (bnd
            (F 45
              [AV.agg [PV.sl 3 b0_0, PV.sl 1 b0_1],
                AV.int IntKind.i64
                  (↑(kvGet (MV.pv PV.nils) (nth PV.nilp c 0).toInt
                              c2).toPV.toEs.length :
                    Int)]
              [])
            fun (r : Res) =>
            ctl (okR [RSh.one Sh.bool] r.fst && okB [] r.snd)
              (ctl (!(nth (RV.p PV.nilp) r.fst 0).toPV.toBool)
                (lp E F 32 0 [] 2
                  {
                    vals :=
                      [AV.int IntKind.i64 time1, AV.sl 1 x62, AV.int IntKind.i64 x63,
                        AV.int IntKind.i64 (IntKind.i64.wrap (x64 + 1))],
                    blks :=
                      [Blk.box [AV.sl 3 b0_0, AV.sl 1 b0_1],
                        Blk.box [AV.sl 3 b1_0, AV.sl 1 b1_1], Blk.tab Bool.true 0 c2,
                        Blk.box [AV.t (TV.hsl 4), AV.sl 1 b3_1],
                        Blk.arr 3 c4] })
                (ctl
                  (MV.pvOk (Sh.sl 1)
                    (kvGet (MV.pv PV.nils) (nth PV.nilp c 0).toInt
                      c2))
                  (bnd
                    (F 53
                      [AV.sl 1
                          (kvGet (MV.pv PV.nils)
                                (nth PV.nilp c 0).toInt c2).toPV.toEs]
                      [])
                    fun (r : Res) =>
                    ctl (okR [RSh.own 1] r.fst && okB [] r.snd)
                      (ctl
                        (leN (((nth (RV.p PV.nilp) r.fst 0).toEs.length + 1) * 8) 140737488355328)
                        (bnd
                          (F 41
                            [AV.agg [PV.sl 3 b0_0, PV.sl 1 b0_1],
                              AV.sl 1
                                ((nth (RV.p PV.nilp) r.fst 0).toEs ++
                                  [[PV.int IntKind.i64 (nth PV.nilp c 0).toInt]])]
                            [])
                          fun (r : Res) =>
                          ctl
                            (okR [RSh.one (Sh.int IntKind.i64)] r.fst && okB [] r.snd &&
                              (noslR r.fst && noslB r.snd))
                            (ctl
                              (ltB 2147483648
                                (IntKind.i64.wrap (1 + (nth (RV.p PV.nilp) r.fst 0).toPV.toInt)))
                              (Option.some
                                (Ex.ret,
                                  { vals := [AV.bool Bool.false],
                                    blks := [Blk.box [AV.sl 3 [], AV.sl 1 []]] }))
                              (ctl
                                (MV.pvOk (Sh.sl 1)
                                  (kvGet (MV.pv PV.nils)
                                    (nth PV.nilp c 0).toInt c2))
                                (bnd
                                  (F 53
                                    [AV.sl 1
                                        (kvGet (MV.pv PV.nils)
                                              (nth PV.nilp c 0).toInt c2).toPV.toEs]
                                    [])
                                  fun (r_1 : Res) =>
                                  ctl (okR [RSh.own 1] r_1.fst && okB [] r_1.snd)
                                    (ctl
                                      (leN (((nth (RV.p PV.nilp) r_1.fst 0).toEs.length + 1) * 8)
                                        140737488355328)
                                      (bnd
                                        (lp E F 32 0 [] 4
                                          {
                                            vals :=
                                              [AV.int IntKind.i64 time1,
                                                AV.int IntKind.i64 (nth PV.nilp c 0).toInt,
                                                AV.int IntKind.i64
                                                  (IntKind.i64.wrap (1 + (nth (RV.p PV.nilp) r.fst 0).toPV.toInt)),
                                                AV.sl 1 x62, AV.int IntKind.i64 x63, AV.int IntKind.i64 x64,
                                                AV.sl 1
                                                  ((nth (RV.p PV.nilp) r_1.fst 0).toEs ++
                                                    [[PV.int IntKind.i64 (nth PV.nilp c 0).toInt]]),
                                                AV.int IntKind.i64
                                                  (↑((nth (RV.p PV.nilp) r_1.fst 0).toEs ++
                                                          [[PV.int IntKind.i64 (nth PV.nilp c 0).toInt]]).length :
                                                    Int),
                                                AV.int IntKind.i64 0],
                                            blks :=
                                              [Blk.box [AV.sl 3 b0_0, AV.sl 1 b0_1],
                                                Blk.box [AV.sl 3 b1_0, AV.sl 1 b1_1],
                                                Blk.tab Bool.true 0 c2,
                                                Blk.box [AV.t (TV.hsl 4), AV.sl 1 b3_1],
                                                Blk.arr 3 c4] })
                                        fun (p : Ex × Pack) =>
                                        ctl (p.fst.eqb (Ex.exit 4))
                                          (ctl
                                            (okPack
                                              {
                                                slots :=
                                                  [(1, Sum.inl (Sh.int IntKind.i64)),
                                                    (3, Sum.inr (Sum.inr (AV.t (TV.ptr 0 0)))),
                                                    (6, Sum.inr (Sum.inr (AV.t (TV.ptr 1 0)))),
                                                    (9, Sum.inr (Sum.inr (AV.hmap 2))),
                                                    (13, Sum.inr (Sum.inr (AV.t (TV.ptr 3 0)))),
                                                    (15, Sum.inl (Sh.int IntKind.i64)), (62, Sum.inl (Sh.sl 1)),
                                                    (63, Sum.inl (Sh.int IntKind.i64)), (64, Sum.inl (Sh.int IntKind.i64))],
                                                blks :=
                                                  [Sum.inl [Sum.inl (Sh.sl 3), Sum.inl (Sh.sl 1)],
                                                    Sum.inl [Sum.inl (Sh.sl 3), Sum.inl (Sh.sl 1)], Sum.inr 1000001,
                                                    Sum.inl [Sum.inr (AV.t (TV.hsl 4)), Sum.inl (Sh.sl 1)], Sum.inr 3] }
                                              p.snd)
                                            (ctl
                                              (leB 0 (nth AV.undef p.snd.vals 1).toPV.toInt &&
                                                ltB (nth AV.undef p.snd.vals 1).toPV.toInt
                                                  (↑(nth (Blk.box []) p.snd.blks 4).toEs.length : Int))
                                              (ctl
                                                (leB 0 (nth AV.undef p.snd.vals 1).toPV.toInt &&
                                                  ltB (nth AV.undef p.snd.vals 1).toPV.toInt
                                                    (↑(setEs (nth (Blk.box []) p.snd.blks 4).toEs
                                                            (nth AV.undef p.snd.vals 1).toPV.toInt.toNat 0
                                                            [PV.int IntKind.i64 1]).length :
                                                      Int))
                                                (lp E F 32 0 [] 2
                                                  {
                                                    vals :=
                                                      [AV.int IntKind.i64 (nth AV.undef p.snd.vals 0).toPV.toInt,
                                                        AV.sl 1 (nth AV.undef p.snd.vals 2).toPV.toEs,
                                                        AV.int IntKind.i64 (nth AV.undef p.snd.vals 3).toPV.toInt,
                                                        AV.int IntKind.i64
                                                          (IntKind.i64.wrap ((nth AV.undef p.snd.vals 4).toPV.toInt + 1))],
                                                    blks :=
                                                      [Blk.box
                                                          [AV.sl 3
                                                              (nth AV.undef
                                                                    (nth (Blk.box []) p.snd.blks 0).toCs 0).toPV.toEs,
                                                            AV.sl 1
                                                              (nth AV.undef
                                                                    (nth (Blk.box []) p.snd.blks 0).toCs 1).toPV.toEs],
                                                        Blk.box
                                                          [AV.sl 3
                                                              (nth AV.undef
                                                                    (nth (Blk.box []) p.snd.blks 1).toCs 0).toPV.toEs,
                                                            AV.sl 1
                                                              (nth AV.undef
                                                                    (nth (Blk.box []) p.snd.blks 1).toCs 1).toPV.toEs],
                                                        Blk.tab Bool.true 0 (nth (Blk.box []) p.snd.blks 2).toKvs,
                                                        Blk.box
                                                          [AV.t (TV.hsl 4),
                                                            AV.sl 1
                                                              (nth AV.undef
                                                                    (nth (Blk.box []) p.snd.blks 3).toCs 1).toPV.toEs],
                                                        Blk.arr 3
                                                          (setEs
                                                            (setEs (nth (Blk.box []) p.snd.blks 4).toEs
                                                              (nth AV.undef p.snd.vals 1).toPV.toInt.toNat 0
                                                              [PV.int IntKind.i64 1])
                                                            (nth AV.undef p.snd.vals 1).toPV.toInt.toNat 2
                                                            [PV.int IntKind.i64 (nth AV.undef p.snd.vals 0).toPV.toInt])] })
                                                Option.none)
                                              Option.none)
                                            Option.none)
                                          Option.none)
                                      Option.none)
                                    Option.none)
                                Option.none))
                            Option.none)
                        Option.none)
                      Option.none)
                  Option.none))
              Option.none)
          Option.none)
        Option.none)
    (Option.some
      (Ex.exit 2,
        { vals := [],
          blks :=
            [Blk.box [AV.sl 3 b1_0, AV.sl 1 b1_1],
              Blk.box [AV.t (TV.hsl 2), AV.sl 1 b3_1],
              Blk.arr 3 c4] })) := (lp_unfold ..).trans (by kernel_rfl)

/-- (dynpos/failover.party).elect, the loop of block 4 -/
theorem r32_4 (F : Fun) (time1 : Int) (c15 : Int) (epoch16 : Int) (x62 : List (List PV)) (x63 : Int) (x64 : Int) (x94 : List (List PV)) (x95 : Int) (x96 : Int) (b0_0 : List (List PV)) (b0_1 : List (List PV)) (b1_0 : List (List PV)) (b1_1 : List (List PV)) (c2 : List (Int × MV)) (b3_1 : List (List PV)) (c4 : List (List PV)) : lp E F 32 0 [] 4
  {
    vals :=
      [AV.int IntKind.i64 time1, AV.int IntKind.i64 c15, AV.int IntKind.i64 epoch16,
        AV.sl 1 x62, AV.int IntKind.i64 x63, AV.int IntKind.i64 x64, AV.sl 1 x94,
        AV.int IntKind.i64 x95, AV.int IntKind.i64 x96],
    blks :=
      [Blk.box [AV.sl 3 b0_0, AV.sl 1 b0_1],
        Blk.box [AV.sl 3 b1_0, AV.sl 1 b1_1], Blk.tab Bool.true 0 c2,
        Blk.box [AV.t (TV.hsl 4), AV.sl 1 b3_1], Blk.arr 3 c4] } =
  ctl (ltB x96 x95)
    (getE x94 x96 fun (c : List PV) =>
      ctl (okCs [Sh.int IntKind.i64] c)
        (ctl
          (leB 0 (nth PV.nilp c 0).toInt &&
            ltB (nth PV.nilp c 0).toInt (↑c4.length : Int))
          (lp E F 32 0 [] 4
            {
              vals :=
                [AV.int IntKind.i64 time1, AV.int IntKind.i64 c15, AV.int IntKind.i64 epoch16,
                  AV.sl 1 x62, AV.int IntKind.i64 x63, AV.int IntKind.i64 x64, AV.sl 1 x94,
                  AV.int IntKind.i64 x95, AV.int IntKind.i64 (IntKind.i64.wrap (x96 + 1))],
              blks :=
                [Blk.box [AV.sl 3 b0_0, AV.sl 1 b0_1],
                  Blk.box [AV.sl 3 b1_0, AV.sl 1 b1_1], Blk.tab Bool.true 0 c2,
                  Blk.box [AV.t (TV.hsl 4), AV.sl 1 b3_1],
                  Blk.arr 3
                    (setEs c4 (nth PV.nilp c 0).toInt.toNat 1 [PV.int IntKind.i64 epoch16])] })
          Option.none)
        Option.none)
    (Option.some
      (Ex.exit 4,
        {
          vals :=
            [AV.int IntKind.i64 time1, AV.int IntKind.i64 c15, AV.sl 1 x62,
              AV.int IntKind.i64 x63, AV.int IntKind.i64 x64],
          blks :=
            [Blk.box [AV.sl 3 b0_0, AV.sl 1 b0_1],
              Blk.box [AV.sl 3 b1_0, AV.sl 1 b1_1], Blk.tab Bool.true 0 c2,
              Blk.box [AV.t (TV.hsl 4), AV.sl 1 b3_1],
              Blk.arr 3 c4] })) := (lp_unfold ..).trans (by kernel_rfl)

/-- (dynpos/failover.party).elect -/
theorem r32 (F : Fun) (p0 : List (List PV)) (p1 : List (List PV)) (time : Int) (timeout : Int) : funK E F 32 [AV.agg [PV.sl 3 p0, PV.sl 1 p1], AV.int IntKind.i64 time,
  AV.int IntKind.i64 timeout] [] =
  bnd
    (F 49
      [AV.agg [PV.sl 3 p0, PV.sl 1 p1], AV.int IntKind.i64 time,
        AV.int IntKind.i64 timeout]
      [])
    fun (r : Res) =>
    ctl (okR [RSh.one (Sh.sl 1)] r.fst && okB [] r.snd)
      (bnd
        (lp E F 32 0 [] 0
          {
            vals :=
              [AV.int IntKind.i64 time,
                AV.sl 1 (nth (RV.p PV.nilp) r.fst 0).toPV.toEs,
                AV.int IntKind.i64 (↑p0.length : Int), AV.int IntKind.i64 0],
            blks :=
              [Blk.box [AV.sl 3 p0, AV.sl 1 p1],
                Blk.box [AV.sl 3 [], AV.sl 1 []], Blk.tab Bool.true 1 []] })
        fun (p : Ex × Pack) =>
        ctl (p.fst.eqb (Ex.exit 0))
          (ctl
            (okPack
              {
                slots :=
                  [(1, Sum.inl (Sh.int IntKind.i64)), (3, Sum.inr (Sum.inr (AV.t (TV.ptr 0 0)))),
                    (6, Sum.inr (Sum.inr (AV.t (TV.ptr 1 0)))), (8, Sum.inl (Sh.sl 1)),
                    (9, Sum.inr (Sum.inr (AV.hmap 2)))],
                blks :=
                  [Sum.inl [Sum.inl (Sh.sl 3), Sum.inl (Sh.sl 1)],
                    Sum.inl [Sum.inl (Sh.sl 3), Sum.inl (Sh.sl 1)], Sum.inr 1000003] }
              p.snd)
            (bnd
              (F 38
                [AV.sl 3
                    (nth AV.undef (nth (Blk.box []) p.snd.blks 0).toCs 0).toPV.toEs]
                [])
              fun (r : Res) =>
              ctl (okR [RSh.own 3] r.fst && okB [] r.snd)
                (bnd
                  (lp E F 32 0 [] 2
                    {
                      vals :=
                        [AV.int IntKind.i64 (nth AV.undef p.snd.vals 0).toPV.toInt,
                          AV.sl 1 (nth AV.undef p.snd.vals 1).toPV.toEs,
                          AV.int IntKind.i64 (↑(nth AV.undef p.snd.vals 1).toPV.toEs.length : Int),
                          AV.int IntKind.i64 0],
                      blks :=
                        [Blk.box
                            [AV.sl 3
                                (nth AV.undef (nth (Blk.box []) p.snd.blks 0).toCs 0).toPV.toEs,
                              AV.sl 1
                                (nth AV.undef (nth (Blk.box []) p.snd.blks 0).toCs 1).toPV.toEs],
                          Blk.box
                            [AV.sl 3
                                (nth AV.undef (nth (Blk.box []) p.snd.blks 1).toCs 0).toPV.toEs,
                              AV.sl 1
                                (nth AV.undef (nth (Blk.box []) p.snd.blks 1).toCs 1).toPV.toEs],
                          Blk.tab Bool.true 0
                            (List.map (fun (x : Int × MV) => (x.fst, MV.pv (MV.frz 1 x.snd)))
                              (nth (Blk.box []) p.snd.blks 2).toKvs),
                          Blk.box
                            [AV.t (TV.hsl 4),
                              AV.sl 1
                                (nth AV.undef (nth (Blk.box []) p.snd.blks 0).toCs 1).toPV.toEs],
                          Blk.arr 3 (nth (RV.p PV.nilp) r.fst 0).toEs] })
                  fun (p : Ex × Pack) =>
                  ctl (p.fst.eqb (Ex.exit 2))
                    (ctl
                      (okPack
                        {
                          slots :=
                            [(6, Sum.inr (Sum.inr (AV.t (TV.ptr 0 0)))),
                              (13, Sum.inr (Sum.inr (AV.t (TV.ptr 1 0))))],
                          blks :=
                            [Sum.inl [Sum.inl (Sh.sl 3), Sum.inl (Sh.sl 1)],
                              Sum.inl [Sum.inr (AV.t (TV.hsl 2)), Sum.inl (Sh.sl 1)], Sum.inr 3] }
                        p.snd)
                      (Option.some
                        ([RV.agg
                              [PV.sl 3 (nth (Blk.box []) p.snd.blks 2).toEs,
                                PV.sl 1
                                  (nth AV.undef (nth (Blk.box []) p.snd.blks 1).toCs
                                        1).toPV.toEs],
                            RV.p (PV.bool Bool.true)],
                          []))
                      Option.none)
                    (ctl (p.fst.eqb Ex.ret)
                      (ctl
                        (okPack
                          { slots := [(6, Sum.inr (Sum.inr (AV.t (TV.ptr 0 0)))), (7, Sum.inl Sh.bool)],
                            blks := [Sum.inl [Sum.inl (Sh.sl 3), Sum.inl (Sh.sl 1)]] }
                          p.snd)
                        (Option.some
                          ([RV.agg
                                [PV.sl 3
                                    (nth AV.undef (nth (Blk.box []) p.snd.blks 0).toCs
                                          0).toPV.toEs,
                                  PV.sl 1
                                    (nth AV.undef (nth (Blk.box []) p.snd.blks 0).toCs
                                          1).toPV.toEs],
                              RV.p (PV.bool (nth AV.undef p.snd.vals 0).toPV.toBool)],
                            []))
                        Option.none)
                      Option.none))
                Option.none)
            Option.none)
          Option.none)
      Option.none := by kernel_rfl

/-- dynpos/dynposref33.New -/
theorem r33 (F : Fun) (n : Int) : funK E F 33 [AV.int IntKind.i64 n] [] =
  bnd (F 54 [AV.int IntKind.i64 n, AV.int IntKind.i64 1, AV.int IntKind.i64 5] [])
    fun (r : Res) =>
    ctl (okR [RSh.one Sh.bool] r.fst && okB [] r.snd)
      (ctl (!(nth (RV.p PV.nilp) r.fst 0).toPV.toBool)
        (Option.some ([RV.p (PV.sl 3 []), RV.p (PV.int IntKind.i64 2)], []))
        (ctl
          (leB 0 n && (leB n n && (leB n 9223372036854775807 && leB (n * 24) 140737488355328)))
          (Option.some
            ([RV.p
                  (PV.sl 3
                    (reps
                      [PV.int IntKind.i64 0, PV.int IntKind.i64 0, PV.int IntKind.i64 0] n.toNat)),
                RV.p (PV.int IntKind.i64 0)],
              []))
          Option.none))
      Option.none := by kernel_rfl

/-- dynpos/dynposref33.Tick, the loop of block 0 -/
theorem r34_0 (F : Fun) (l0 : List (List PV)) (reach1 : List (List PV)) (time2 : Int) (timeout3 : Int) (x48 : Int) (x49 : Int) (c0 : List (List PV)) : lp E F 34 0 [] 0
  {
    vals :=
      [AV.sl 3 l0, AV.sl 1 reach1, AV.int IntKind.i64 time2, AV.int IntKind.i64 timeout3,
        AV.int IntKind.i64 x48, AV.int IntKind.i64 x49],
    blks := [Blk.arr 3 c0] } =
  ctl (ltB x49 x48)
    (bnd (F 56 [AV.sl 3 l0, AV.sl 1 reach1, AV.int IntKind.i64 x49] [])
      fun (r : Res) =>
      ctl (okR [RSh.one (Sh.sl 1)] r.fst && okB [] r.snd)
        (bnd
          (lp E F 34 0 [] 2
            {
              vals :=
                [AV.sl 3 l0, AV.sl 1 reach1, AV.int IntKind.i64 time2,
                  AV.int IntKind.i64 timeout3, AV.int IntKind.i64 x49, AV.int IntKind.i64 x48,
                  AV.int IntKind.i64 x49,
                  AV.sl 1 (nth (RV.p PV.nilp) r.fst 0).toPV.toEs,
                  AV.int IntKind.i64 (↑(nth (RV.p PV.nilp) r.fst 0).toPV.toEs.length : Int),
                  AV.int IntKind.i64 0],
              blks := [Blk.arr 3 c0] })
          fun (p : Ex × Pack) =>
          ctl (p.fst.eqb (Ex.exit 2))
            (ctl
              (okPack
                {
                  slots :=
                    [(0, Sum.inl (Sh.sl 3)), (1, Sum.inl (Sh.sl 1)), (2, Sum.inl (Sh.int IntKind.i64)),
                      (3, Sum.inl (Sh.int IntKind.i64)), (11, Sum.inr (Sum.inr (AV.t (TV.hsl 0)))),
                      (48, Sum.inl (Sh.int IntKind.i64)), (49, Sum.inl (Sh.int IntKind.i64))],
                  blks := [Sum.inr 3] }
                p.snd)
              (lp E F 34 0 [] 0
                {
                  vals :=
                    [AV.sl 3 (nth AV.undef p.snd.vals 0).toPV.toEs,
                      AV.sl 1 (nth AV.undef p.snd.vals 1).toPV.toEs,
                      AV.int IntKind.i64 (nth AV.undef p.snd.vals 2).toPV.toInt,
                      AV.int IntKind.i64 (nth AV.undef p.snd.vals 3).toPV.toInt,
                      AV.int IntKind.i64 (nth AV.undef p.snd.vals 4).toPV.toInt,
                      AV.int IntKind.i64 (IntKind.i64.wrap ((nth AV.undef p.snd.vals 5).toPV.toInt + 1))],
                  blks := [Blk.arr 3 (nth (Blk.box []) p.snd.blks 0).toEs] })
              Option.none)
            Option.none)
        Option.none)
    (Option.some
      (Ex.exit 0,
        {
          vals :=
            [AV.sl 3 l0, AV.sl 1 reach1, AV.int IntKind.i64 time2,
              AV.int IntKind.i64 timeout3],
          blks := [Blk.arr 3 c0] })) := (lp_unfold ..).trans (by kernel_rfl)

/-- dynpos/dynposref33.Tick, the loop of block 2 -/
theorem r34_2 (F : Fun) (l0 : List (List PV)) (reach1 : List (List PV)) (time2 : Int) (timeout3 : Int) (i12 : Int) (x48 : Int) (x49 : Int) (x55 : List (List PV)) (x56 : Int) (x57 : Int) (c0 : List (List PV)) : lp E F 34 0 [] 2
  {
    vals :=
      [AV.sl 3 l0, AV.sl 1 reach1, AV.int IntKind.i64 time2, AV.int IntKind.i64 timeout3,
        AV.int IntKind.i64 i12, AV.int IntKind.i64 x48, AV.int IntKind.i64 x49,
        AV.sl 1 x55, AV.int IntKind.i64 x56, AV.int IntKind.i64 x57],
    blks := [Blk.arr 3 c0] } =
  ctl (ltB x57 x56)
    (getE x55 x57 fun (c : List PV) =>
      ctl (okCs [Sh.int IntKind.i64] c)
        (ctl (leB 0 i12 && ltB i12 (↑c0.length : Int))
          (ctl (okCs [Sh.int IntKind.i64] (List.take 1 (List.drop 1 (nth [] c0 i12.toNat))))
            (getE l0 (nth PV.nilp c 0).toInt fun (c : List PV) =>
              ctl
                (okCs [Sh.int IntKind.i64, Sh.int IntKind.i64, Sh.int IntKind.i64] c)
                (ctl (leB 0 i12 && ltB i12 (↑c0.length : Int))
                  (lp E F 34 0 [] 2
                    {
                      vals :=
                        [AV.sl 3 l0, AV.sl 1 reach1, AV.int IntKind.i64 time2,
                          AV.int IntKind.i64 timeout3, AV.int IntKind.i64 i12, AV.int IntKind.i64 x48,
                          AV.int IntKind.i64 x49, AV.sl 1 x55, AV.int IntKind.i64 x56,
                          AV.int IntKind.i64 (IntKind.i64.wrap (x57 + 1))],
                      blks :=
                        [Blk.arr 3
                            (setEs c0 i12.toNat 1
                              [PV.int IntKind.i64
                                  (maxI (nth PV.nilp c 1).toInt
                                    (nth PV.nilp (nth [] c0 i12.toNat) 1).toInt)])] })
                  Option.none)
                Option.none)
            Option.none)
          Option.none)
        Option.none)
    (Option.some
      (Ex.exit 2,
        {
          vals :=
            [AV.sl 3 l0, AV.sl 1 reach1, AV.int IntKind.i64 time2,
              AV.int IntKind.i64 timeout3, AV.int IntKind.i64 x48, AV.int IntKind.i64 x49],
          blks := [Blk.arr 3 c0] })) := (lp_unfold ..).trans (by kernel_rfl)

/-- dynpos/dynposref33.Tick, the loop of block 4 -/
theorem r34_4 (F : Fun) (l0 : List (List PV)) (reach1 : List (List PV)) (time2 : Int) (timeout3 : Int) (one11 : List (List PV)) (x80 : List (List PV)) (x81 : Int) (x82 : Int) (c0 : List (List PV)) : lp E F 34 0 [] 4
  {
    vals :=
      [AV.sl 3 l0, AV.sl 1 reach1, AV.int IntKind.i64 time2, AV.int IntKind.i64 timeout3,
        AV.sl 3 one11, AV.sl 3 x80, AV.int IntKind.i64 x81, AV.int IntKind.i64 x82],
    blks := [Blk.arr 3 c0] } =
  ctl (ltB x82 x81)
    (getE x80 x82 fun (c : List PV) =>
      ctl
        (okCs [Sh.int IntKind.i64, Sh.int IntKind.i64, Sh.int IntKind.i64] c)
        (ctl ((nth PV.nilp c 0).toInt != 1)
          (lp E F 34 0 [] 4
            {
              vals :=
                [AV.sl 3 l0, AV.sl 1 reach1, AV.int IntKind.i64 time2,
                  AV.int IntKind.i64 timeout3, AV.sl 3 one11, AV.sl 3 x80,
                  AV.int IntKind.i64 x81, AV.int IntKind.i64 (IntKind.i64.wrap (x82 + 1))],
              blks := [Blk.arr 3 c0] })
          (bnd (F 56 [AV.sl 3 one11, AV.sl 1 reach1, AV.int IntKind.i64 x82] [])
            fun (r : Res) =>
            ctl (okR [RSh.one (Sh.sl 1)] r.fst && okB [] r.snd)
              (bnd
                (F 57
                  [AV.sl 3 l0,
                    AV.int IntKind.i64 (↑(nth (RV.p PV.nilp) r.fst 0).toPV.toEs.length : Int)]
                  [])
                fun (r_1 : Res) =>
                ctl
                  (okR [RSh.one Sh.bool] r_1.fst && okB [] r_1.snd)
                  (bnd
                    (ctl (!!(nth (RV.p PV.nilp) r_1.fst 0).toPV.toBool)
                      (getE l0 x82 fun (c_1 : List PV) =>
                        ctl
                          (okCs
                            [Sh.int IntKind.i64, Sh.int IntKind.i64, Sh.int IntKind.i64] c_1)
                          (Option.some
                            (ltB (nth PV.nilp c_1 1).toInt
                              (nth PV.nilp c 1).toInt))
                          Option.none)
                      (Option.some Bool.true))
                    fun (v : Bool) =>
                    bnd
                      (lp E F 34 0 [] 6
                        {
                          vals :=
                            [AV.sl 3 l0, AV.sl 1 reach1, AV.int IntKind.i64 time2,
                              AV.int IntKind.i64 timeout3, AV.sl 3 one11, AV.int IntKind.i64 x82,
                              AV.bool v, AV.sl 3 x80, AV.int IntKind.i64 x81,
                              AV.int IntKind.i64 x82,
                              AV.sl 1 (nth (RV.p PV.nilp) r.fst 0).toPV.toEs,
                              AV.int IntKind.i64
                                (↑(nth (RV.p PV.nilp) r.fst 0).toPV.toEs.length : Int),
                              AV.int IntKind.i64 0],
                          blks :=
                            [Blk.arr 3 c0,
                              Blk.box
                                [AV.int IntKind.i64 (nth PV.nilp c 0).toInt,
                                  AV.int IntKind.i64 (nth PV.nilp c 1).toInt,
                                  AV.int IntKind.i64 (nth PV.nilp c 2).toInt]] })
                      fun (p : Ex × Pack) =>
                      ctl (p.fst.eqb (Ex.exit 6))
                        (ctl
                          (okPack
                            {
                              slots :=
                                [(0, Sum.inl (Sh.sl 3)), (1, Sum.inl (Sh.sl 1)), (2, Sum.inl (Sh.int IntKind.i64)),
                                  (3, Sum.inl (Sh.int IntKind.i64)), (11, Sum.inl (Sh.sl 3)),
                                  (15, Sum.inr (Sum.inr (AV.t (TV.hsl 0)))), (16, Sum.inl (Sh.int IntKind.i64)),
                                  (19, Sum.inl Sh.bool), (80, Sum.inl (Sh.sl 3)), (81, Sum.inl (Sh.int IntKind.i64)),
                                  (82, Sum.inl (Sh.int IntKind.i64))],
                              blks := [Sum.inr 3] }
                            p.snd)
                          (ctl (nth AV.undef p.snd.vals 6).toPV.toBool
                            (ctl
                              (leB 0 (nth AV.undef p.snd.vals 5).toPV.toInt &&
                                ltB (nth AV.undef p.snd.vals 5).toPV.toInt
                                  (↑(nth (Blk.box []) p.snd.blks 0).toEs.length : Int))
                              (lp E F 34 0 [] 4
                                {
                                  vals :=
                                    [AV.sl 3 (nth AV.undef p.snd.vals 0).toPV.toEs,
                                      AV.sl 1 (nth AV.undef p.snd.vals 1).toPV.toEs,
                                      AV.int IntKind.i64 (nth AV.undef p.snd.vals 2).toPV.toInt,
                                      AV.int IntKind.i64 (nth AV.undef p.snd.vals 3).toPV.toInt,
                                      AV.sl 3 (nth AV.undef p.snd.vals 4).toPV.toEs,
                                      AV.sl 3 (nth AV.undef p.snd.vals 7).toPV.toEs,
                                      AV.int IntKind.i64 (nth AV.undef p.snd.vals 8).toPV.toInt,
                                      AV.int IntKind.i64 (IntKind.i64.wrap ((nth AV.undef p.snd.vals 9).toPV.toInt + 1))],
                                  blks :=
                                    [Blk.arr 3
                                        (setEs (nth (Blk.box []) p.snd.blks 0).toEs
                                          (nth AV.undef p.snd.vals 5).toPV.toInt.toNat 0 [PV.int IntKind.i64 0])] })
                              Option.none)
                            (lp E F 34 0 [] 4
                              {
                                vals :=
                                  [AV.sl 3 (nth AV.undef p.snd.vals 0).toPV.toEs,
                                    AV.sl 1 (nth AV.undef p.snd.vals 1).toPV.toEs,
                                    AV.int IntKind.i64 (nth AV.undef p.snd.vals 2).toPV.toInt,
                                    AV.int IntKind.i64 (nth AV.undef p.snd.vals 3).toPV.toInt,
                                    AV.sl 3 (nth AV.undef p.snd.vals 4).toPV.toEs,
                                    AV.sl 3 (nth AV.undef p.snd.vals 7).toPV.toEs,
                                    AV.int IntKind.i64 (nth AV.undef p.snd.vals 8).toPV.toInt,
                                    AV.int IntKind.i64 (IntKind.i64.wrap ((nth AV.undef p.snd.vals 9).toPV.toInt + 1))],
                                blks := [Blk.arr 3 (nth (Blk.box []) p.snd.blks 0).toEs] }))
                          Option.none)
                        Option.none)
                  Option.none)
              Option.none))
        Option.none)
    (Option.some
      (Ex.exit 4,
        {
          vals :=
            [AV.sl 3 l0, AV.sl 1 reach1, AV.int IntKind.i64 time2,
              AV.int IntKind.i64 timeout3],
          blks := [Blk.arr 3 c0] })) := (lp_unfold ..).trans (by kernel_rfl)

/-- dynpos/dynposref33.Tick, the loop of block 6 -/
theorem r34_6 (F : Fun) (l0 : List (List PV)) (reach1 : List (List PV)) (time2 : Int) (timeout3 : Int) (one11 : List (List PV)) (i16 : Int) (down19 : Bool) (x80 : List (List PV)) (x81 : Int) (x82 : Int) (x109 : List (List PV)) (x110 : Int) (x111 : Int) (c0 : List (List PV)) (b1_0 : Int) (b1_1 : Int) (b1_2 : Int) : lp E F 34 0 [] 6
  {
    vals :=
      [AV.sl 3 l0, AV.sl 1 reach1, AV.int IntKind.i64 time2, AV.int IntKind.i64 timeout3,
        AV.sl 3 one11, AV.int IntKind.i64 i16, AV.bool down19, AV.sl 3 x80,
        AV.int IntKind.i64 x81, AV.int IntKind.i64 x82, AV.sl 1 x109,
        AV.int IntKind.i64 x110, AV.int IntKind.i64 x111],
    blks :=
      [Blk.arr 3 c0,
        Blk.box
          [AV.int IntKind.i64 b1_0, AV.int IntKind.i64 b1_1, AV.int IntKind.i64 b1_2]] } =
  ctl (ltB x111 x110)
    (getE x109 x111 fun (c : List PV) =>
      ctl (okCs [Sh.int IntKind.i64] c)
        (bnd
          (ctl (!down19)
            (ctl (ltB (nth PV.nilp c 0).toInt i16)
              (getE one11 (nth PV.nilp c 0).toInt fun (c_1 : List PV) =>
                ctl
                  (okCs [Sh.int IntKind.i64, Sh.int IntKind.i64, Sh.int IntKind.i64] c_1)
                  (ctl ((nth PV.nilp c_1 0).toInt == 1)
                    (getE one11 (nth PV.nilp c 0).toInt fun (c : List PV) =>
                      ctl
                        (okCs
                          [Sh.int IntKind.i64, Sh.int IntKind.i64, Sh.int IntKind.i64] c)
                        (Option.some ((nth PV.nilp c 1).toInt == b1_1)) Option.none)
                    (Option.some Bool.false))
                  Option.none)
              (Option.some Bool.false))
            (Option.some Bool.true))
          fun (v : Bool) =>
          lp E F 34 0 [] 6
            {
              vals :=
                [AV.sl 3 l0, AV.sl 1 reach1, AV.int IntKind.i64 time2,
                  AV.int IntKind.i64 timeout3, AV.sl 3 one11, AV.int IntKind.i64 i16,
                  AV.bool v, AV.sl 3 x80, AV.int IntKind.i64 x81, AV.int IntKind.i64 x82,
                  AV.sl 1 x109, AV.int IntKind.i64 x110, AV.int IntKind.i64 (IntKind.i64.wrap (x111 + 1))],
              blks :=
                [Blk.arr 3 c0,
                  Blk.box
                    [AV.int IntKind.i64 b1_0, AV.int IntKind.i64 b1_1, AV.int IntKind.i64 b1_2]] })
        Option.none)
    (Option.some
      (Ex.exit 6,
        {
          vals :=
            [AV.sl 3 l0, AV.sl 1 reach1, AV.int IntKind.i64 time2,
              AV.int IntKind.i64 timeout3, AV.sl 3 one11, AV.int IntKind.i64 i16,
              AV.bool down19, AV.sl 3 x80, AV.int IntKind.i64 x81, AV.int IntKind.i64 x82],
          blks := [Blk.arr 3 c0] })) := (lp_unfold ..).trans (by kernel_rfl)

/-- dynpos/dynposref33.Tick, the loop of block 8 -/
theorem r34_8 (F : Fun) (l0 : List (List PV)) (reach1 : List (List PV)) (time2 : Int) (timeout3 : Int) (two15 : List (List PV)) (x149 : Int) (x150 : Int) (c0 : List (List PV)) : lp E F 34 0 [] 8
  {
    vals :=
      [AV.sl 3 l0, AV.sl 1 reach1, AV.int IntKind.i64 time2, AV.int IntKind.i64 timeout3,
        AV.sl 3 two15, AV.int IntKind.i64 x149, AV.int IntKind.i64 x150],
    blks := [Blk.arr 3 c0] } =
  ctl (ltB x150 x149)
    (bnd (F 58 [AV.sl 3 two15, AV.sl 1 reach1, AV.int IntKind.i64 x150] [])
      fun (r : Res) =>
      ctl (okR [RSh.one Sh.bool] r.fst && okB [] r.snd)
        (ctl (nth (RV.p PV.nilp) r.fst 0).toPV.toBool
          (ctl (leB 0 x150 && ltB x150 (↑c0.length : Int))
            (lp E F 34 0 [] 8
              {
                vals :=
                  [AV.sl 3 l0, AV.sl 1 reach1, AV.int IntKind.i64 time2,
                    AV.int IntKind.i64 timeout3, AV.sl 3 two15, AV.int IntKind.i64 x149,
                    AV.int IntKind.i64 (IntKind.i64.wrap (x150 + 1))],
                blks := [Blk.arr 3 (setEs c0 x150.toNat 2 [PV.int IntKind.i64 time2])] })
            Option.none)
          (lp E F 34 0 [] 8
            {
              vals :=
                [AV.sl 3 l0, AV.sl 1 reach1, AV.int IntKind.i64 time2,
                  AV.int IntKind.i64 timeout3, AV.sl 3 two15, AV.int IntKind.i64 x149,
                  AV.int IntKind.i64 (IntKind.i64.wrap (x150 + 1))],
              blks := [Blk.arr 3 c0] }))
        Option.none)
    (Option.some
      (Ex.exit 8,
        {
          vals :=
            [AV.sl 3 l0, AV.sl 1 reach1, AV.int IntKind.i64 time2,
              AV.int IntKind.i64 timeout3],
          blks := [Blk.arr 3 c0] })) := (lp_unfold ..).trans (by kernel_rfl)

/-- dynpos/dynposref33.Tick, the loop of block 10 -/
theorem r34_10 (F : Fun) (l0 : List (List PV)) (reach1 : List (List PV)) (time2 : Int) (three22 : List (List PV)) (list25 : List (List PV)) (x172 : Int) (x173 : Int) (c0 : List (Int × MV)) : lp E F 34 0 [] 10
  {
    vals :=
      [AV.sl 3 l0, AV.sl 1 reach1, AV.int IntKind.i64 time2, AV.sl 3 three22,
        AV.sl 1 list25, AV.int IntKind.i64 x172, AV.int IntKind.i64 x173],
    blks := [Blk.tab Bool.false 1 c0] } =
  ctl (ltB x173 x172)
    (bnd (F 58 [AV.sl 3 three22, AV.sl 1 reach1, AV.int IntKind.i64 x173] [])
      fun (r : Res) =>
      ctl (okR [RSh.one Sh.bool] r.fst && okB [] r.snd)
        (ctl (nth (RV.p PV.nilp) r.fst 0).toPV.toBool
          (lp E F 34 0 [] 10
            {
              vals :=
                [AV.sl 3 l0, AV.sl 1 reach1, AV.int IntKind.i64 time2, AV.sl 3 three22,
                  AV.sl 1 list25, AV.int IntKind.i64 x172, AV.int IntKind.i64 (IntKind.i64.wrap (x173 + 1))],
              blks := [Blk.tab Bool.false 1 c0] })
          (bnd
            (lp E F 34 0 [] 12
              {
                vals :=
                  [AV.sl 3 l0, AV.sl 1 reach1, AV.int IntKind.i64 time2, AV.sl 3 three22,
                    AV.sl 1 list25, AV.int IntKind.i64 x173, AV.int IntKind.i64 x172,
                    AV.int IntKind.i64 x173, AV.sl 1 list25, AV.int IntKind.i64 (↑list25.length : Int),
                    AV.int IntKind.i64 0],
                blks := [Blk.tab Bool.false 1 c0] })
            fun (p : Ex × Pack) =>
            ctl (p.fst.eqb (Ex.exit 12))
              (ctl
                (okPack
                  {
                    slots :=
                      [(0, Sum.inl (Sh.sl 3)), (1, Sum.inl (Sh.sl 1)), (2, Sum.inl (Sh.int IntKind.i64)),
                        (22, Sum.inl (Sh.sl 3)), (24, Sum.inr (Sum.inr (AV.tsl 0))), (25, Sum.inl (Sh.sl 1)),
                        (172, Sum.inl (Sh.int IntKind.i64)), (173, Sum.inl (Sh.int IntKind.i64))],
                    blks := [Sum.inr 1000002] }
                  p.snd)
                (lp E F 34 0 [] 10
                  {
                    vals :=
                      [AV.sl 3 (nth AV.undef p.snd.vals 0).toPV.toEs,
                        AV.sl 1 (nth AV.undef p.snd.vals 1).toPV.toEs,
                        AV.int IntKind.i64 (nth AV.undef p.snd.vals 2).toPV.toInt,
                        AV.sl 3 (nth AV.undef p.snd.vals 3).toPV.toEs,
                        AV.sl 1 (nth AV.undef p.snd.vals 4).toPV.toEs,
                        AV.int IntKind.i64 (nth AV.undef p.snd.vals 5).toPV.toInt,
                        AV.int IntKind.i64 (IntKind.i64.wrap ((nth AV.undef p.snd.vals 6).toPV.toInt + 1))],
                    blks := [Blk.tab Bool.false 1 (nth (Blk.box []) p.snd.blks 0).toKvs] })
                Option.none)
              Option.none))
        Option.none)
    (Option.some
      (Ex.exit 10,
        { vals := [AV.sl 3 l0, AV.int IntKind.i64 time2, AV.sl 3 three22],
          blks := [Blk.tab Bool.false 1 c0] })) := (lp_unfold ..).trans (by kernel_rfl)

/-- dynpos/dynposref33.Tick, the loop of block 12 -/
theorem r34_12 (F : Fun) (l0 : List (List PV)) (reach1 : List (List PV)) (time2 : Int) (three22 : List (List PV)) (list25 : List (List PV)) (i26 : Int) (x172 : Int) (x173 : Int) (x180 : List (List PV)) (x181 : Int) (x182 : Int) (c0 : List (Int × MV)) : lp E F 34 0 [] 12
  {
    vals :=
      [AV.sl 3 l0, AV.sl 1 reach1, AV.int IntKind.i64 time2, AV.sl 3 three22,
        AV.sl 1 list25, AV.int IntKind.i64 i26, AV.int IntKind.i64 x172,
        AV.int IntKind.i64 x173, AV.sl 1 x180, AV.int IntKind.i64 x181,
        AV.int IntKind.i64 x182],
    blks := [Blk.tab Bool.false 1 c0] } =
  ctl (ltB x182 x181)
    (getE x180 x182 fun (c : List PV) =>
      ctl (okCs [Sh.int IntKind.i64] c)
        (bnd (F 56 [AV.sl 3 three22, AV.sl 1 reach1, AV.int IntKind.i64 i26] [])
          fun (r : Res) =>
          ctl (okR [RSh.one (Sh.sl 1)] r.fst && okB [] r.snd)
            (bnd
              (F 60
                [AV.sl 1 (nth (RV.p PV.nilp) r.fst 0).toPV.toEs,
                  AV.int IntKind.i64 (nth PV.nilp c 0).toInt]
                [])
              fun (r : Res) =>
              ctl (okR [RSh.one Sh.bool] r.fst && okB [] r.snd)
                (ctl (nth (RV.p PV.nilp) r.fst 0).toPV.toBool
                  (ctl
                    (leB 0 (nth PV.nilp c 0).toInt &&
                      ltB (nth PV.nilp c 0).toInt (↑c0.length : Int))
                    (ctl
                      (nth (0, MV.gone) c0 (nth PV.nilp c 0).toInt.toNat).snd.isRow
                      (ctl
                        (leN
                          (((nth (0, MV.gone) c0 (nth PV.nilp c 0).toInt.toNat).snd.toEs.length +
                              1) *
                            8)
                          140737488355328)
                        (ctl
                          (leB 0 (nth PV.nilp c 0).toInt &&
                            ltB (nth PV.nilp c 0).toInt
                              (↑(upd (0, MV.gone) c0 (nth PV.nilp c 0).toInt.toNat).length : Int))
                          (Option.some
                            (Ex.exit 12,
                              {
                                vals :=
                                  [AV.sl 3 l0, AV.sl 1 reach1, AV.int IntKind.i64 time2,
                                    AV.sl 3 three22, AV.sl 1 list25, AV.int IntKind.i64 x172,
                                    AV.int IntKind.i64 x173],
                                blks :=
                                  [Blk.tab Bool.false 1
                                      (upd
                                        (0,
                                          MV.row
                                            ((nth (0, MV.gone) c0
                                                    (nth PV.nilp c 0).toInt.toNat).snd.toEs ++
                                              [[PV.int IntKind.i64 i26]]))
                                        (upd (0, MV.gone) c0 (nth PV.nilp c 0).toInt.toNat)
                                        (nth PV.nilp c 0).toInt.toNat)] }))
                          Option.none)
                        Option.none)
                      Option.none)
                    Option.none)
                  (lp E F 34 0 [] 12
                    {
                      vals :=
                        [AV.sl 3 l0, AV.sl 1 reach1, AV.int IntKind.i64 time2, AV.sl 3 three22,
                          AV.sl 1 list25, AV.int IntKind.i64 i26, AV.int IntKind.i64 x172,
                          AV.int IntKind.i64 x173, AV.sl 1 x180, AV.int IntKind.i64 x181,
                          AV.int IntKind.i64 (IntKind.i64.wrap (x182 + 1))],
                      blks := [Blk.tab Bool.false 1 c0] }))
                Option.none)
            Option.none)
        Option.none)
    (Option.some
      (Ex.exit 12,
        {
          vals :=
            [AV.sl 3 l0, AV.sl 1 reach1, AV.int IntKind.i64 time2, AV.sl 3 three22,
              AV.sl 1 list25, AV.int IntKind.i64 x172, AV.int IntKind.i64 x173],
          blks := [Blk.tab Bool.false 1 c0] })) := (lp_unfold ..).trans (by kernel_rfl)

/-- dynpos/dynposref33.Tick, the loop of block 14 -/
theorem r34_14 (F : Fun) (l0 : List (List PV)) (time2 : Int) (three22 : List (List PV)) (x206 : List (List PV)) (x207 : Int) (x208 : Int) (c0 : List (List PV)) : lp E F 34 0 [] 14
  {
    vals :=
      [AV.sl 3 l0, AV.int IntKind.i64 time2, AV.sl 3 three22, AV.sl 1 x206,
        AV.int IntKind.i64 x207, AV.int IntKind.i64 x208],
    blks := [Blk.arr 3 c0] } =
  ctl (ltB x208 x207)
    (getE x206 x208 fun (c : List PV) =>
      ctl (okCs [Sh.sl 1] c)
        (bnd
          (F 57 [AV.sl 3 l0, AV.int IntKind.i64 (↑(nth PV.nilp c 0).toEs.length : Int)] [])
          fun (r : Res) =>
          ctl (okR [RSh.one Sh.bool] r.fst && okB [] r.snd)
            (ctl (!(nth (RV.p PV.nilp) r.fst 0).toPV.toBool)
              (lp E F 34 0 [] 14
                {
                  vals :=
                    [AV.sl 3 l0, AV.int IntKind.i64 time2, AV.sl 3 three22, AV.sl 1 x206,
                      AV.int IntKind.i64 x207, AV.int IntKind.i64 (IntKind.i64.wrap (x208 + 1))],
                  blks := [Blk.arr 3 c0] })
              (bnd
                (lp E F 34 0 [] 16
                  {
                    vals :=
                      [AV.sl 3 l0, AV.int IntKind.i64 time2, AV.sl 3 three22,
                        AV.int IntKind.i64 x208, AV.sl 1 (nth PV.nilp c 0).toEs,
                        AV.int IntKind.i64 0, AV.sl 1 x206, AV.int IntKind.i64 x207,
                        AV.int IntKind.i64 x208, AV.sl 1 (nth PV.nilp c 0).toEs,
                        AV.int IntKind.i64 (↑(nth PV.nilp c 0).toEs.length : Int),
                        AV.int IntKind.i64 0],
                    blks := [Blk.arr 3 c0] })
                fun (p : Ex × Pack) =>
                ctl (p.fst.eqb (Ex.exit 16))
                  (ctl
                    (okPack
                      {
                        slots :=
                          [(0, Sum.inl (Sh.sl 3)), (2, Sum.inl (Sh.int IntKind.i64)), (22, Sum.inl (Sh.sl 3)),
                            (29, Sum.inr (Sum.inr (AV.t (TV.hsl 0)))), (30, Sum.inl (Sh.int IntKind.i64)),
                            (31, Sum.inl (Sh.sl 1)), (32, Sum.inl (Sh.int IntKind.i64)), (206, Sum.inl (Sh.sl 1)),
                            (207, Sum.inl (Sh.int IntKind.i64)), (208, Sum.inl (Sh.int IntKind.i64))],
                        blks := [Sum.inr 3] }
                      p.snd)
                    (ctl ((nth AV.undef p.snd.vals 5).toPV.toInt == 2147483648)
                      (Option.some (Ex.ret, { vals := [AV.sl 3 [], AV.int IntKind.i64 2], blks := [] }))
                      (bnd
                        (lp E F 34 0 [] 18
                          {
                            vals :=
                              [AV.sl 3 (nth AV.undef p.snd.vals 0).toPV.toEs,
                                AV.int IntKind.i64 (nth AV.undef p.snd.vals 1).toPV.toInt,
                                AV.sl 3 (nth AV.undef p.snd.vals 2).toPV.toEs,
                                AV.int IntKind.i64 (nth AV.undef p.snd.vals 3).toPV.toInt,
                                AV.int IntKind.i64 (nth AV.undef p.snd.vals 5).toPV.toInt,
                                AV.sl 1 (nth AV.undef p.snd.vals 6).toPV.toEs,
                                AV.int IntKind.i64 (nth AV.undef p.snd.vals 7).toPV.toInt,
                                AV.int IntKind.i64 (nth AV.undef p.snd.vals 8).toPV.toInt,
                                AV.sl 1 (nth AV.undef p.snd.vals 4).toPV.toEs,
                                AV.int IntKind.i64 (↑(nth AV.undef p.snd.vals 4).toPV.toEs.length : Int),
                                AV.int IntKind.i64 0],
                            blks := [Blk.arr 3 (nth (Blk.box []) p.snd.blks 0).toEs] })
                        fun (p : Ex × Pack) =>
                        ctl (p.fst.eqb (Ex.exit 18))
                          (ctl
                            (okPack
                              {
                                slots :=
                                  [(0, Sum.inl (Sh.sl 3)), (2, Sum.inl (Sh.int IntKind.i64)), (22, Sum.inl (Sh.sl 3)),
                                    (29, Sum.inr (Sum.inr (AV.t (TV.hsl 0)))), (30, Sum.inl (Sh.int IntKind.i64)),
                                    (32, Sum.inl (Sh.int IntKind.i64)), (206, Sum.inl (Sh.sl 1)),
                                    (207, Sum.inl (Sh.int IntKind.i64)), (208, Sum.inl (Sh.int IntKind.i64))],
                                blks := [Sum.inr 3] }
                              p.snd)
                            (ctl
                              (leB 0 (nth AV.undef p.snd.vals 3).toPV.toInt &&
                                ltB (nth AV.undef p.snd.vals 3).toPV.toInt
                                  (↑(nth (Blk.box []) p.snd.blks 0).toEs.length : Int))
                              (lp E F 34 0 [] 14
                                {
                                  vals :=
                                    [AV.sl 3 (nth AV.undef p.snd.vals 0).toPV.toEs,
                                      AV.int IntKind.i64 (nth AV.undef p.snd.vals 1).toPV.toInt,
                                      AV.sl 3 (nth AV.undef p.snd.vals 2).toPV.toEs,
                                      AV.sl 1 (nth AV.undef p.snd.vals 5).toPV.toEs,
                                      AV.int IntKind.i64 (nth AV.undef p.snd.vals 6).toPV.toInt,
                                      AV.int IntKind.i64 (IntKind.i64.wrap ((nth AV.undef p.snd.vals 7).toPV.toInt + 1))],
                                  blks :=
                                    [Blk.arr 3
                                        (setEs (nth (Blk.box []) p.snd.blks 0).toEs
                                          (nth AV.undef p.snd.vals 3).toPV.toInt.toNat 0
                                          [PV.int IntKind.i64 1,
                                            PV.int IntKind.i64
                                              (IntKind.i64.wrap ((nth AV.undef p.snd.vals 4).toPV.toInt + 1)),
                                            PV.int IntKind.i64 (nth AV.undef p.snd.vals 1).toPV.toInt])] })
                              Option.none)
                            Option.none)
                          Option.none))
                    Option.none)
                  Option.none))
            Option.none)
        Option.none)
    (Option.some (Ex.exit 14, { vals := [], blks := [Blk.arr 3 c0] })) := (lp_unfold ..).trans (by kernel_rfl)

/-- dynpos/dynposref33.Tick, the loop of block 16 -/
theorem r34_16 (F : Fun) (l0 : List (List PV)) (time2 : Int) (three22 : List (List PV)) (c30 : Int) (v31 : List (List PV)) (most32 : Int) (x206 : List (List PV)) (x207 : Int) (x208 : Int) (x218 : List (List PV)) (x219 : Int) (x220 : Int) (c0 : List (List PV)) : lp E F 34 0 [] 16
  {
    vals :=
      [AV.sl 3 l0, AV.int IntKind.i64 time2, AV.sl 3 three22, AV.int IntKind.i64 c30,
        AV.sl 1 v31, AV.int IntKind.i64 most32, AV.sl 1 x206, AV.int IntKind.i64 x207,
        AV.int IntKind.i64 x208, AV.sl 1 x218, AV.int IntKind.i64 x219,
        AV.int IntKind.i64 x220],
    blks := [Blk.arr 3 c0] } =
  ctl (ltB x220 x219)
    (getE x218 x220 fun (c : List PV) =>
      ctl (okCs [Sh.int IntKind.i64] c)
        (getE three22 (nth PV.nilp c 0).toInt fun (c : List PV) =>
          ctl
            (okCs [Sh.int IntKind.i64, Sh.int IntKind.i64, Sh.int IntKind.i64] c)
            (lp E F 34 0 [] 16
              {
                vals :=
                  [AV.sl 3 l0, AV.int IntKind.i64 time2, AV.sl 3 three22,
                    AV.int IntKind.i64 c30, AV.sl 1 v31,
                    AV.int IntKind.i64 (maxI (nth PV.nilp c 1).toInt most32),
                    AV.sl 1 x206, AV.int IntKind.i64 x207, AV.int IntKind.i64 x208,
                    AV.sl 1 x218, AV.int IntKind.i64 x219, AV.int IntKind.i64 (IntKind.i64.wrap (x220 + 1))],
                blks := [Blk.arr 3 c0] })
            Option.none)
        Option.none)
    (Option.some
      (Ex.exit 16,
        {
          vals :=
            [AV.sl 3 l0, AV.int IntKind.i64 time2, AV.sl 3 three22, AV.int IntKind.i64 c30,
              AV.sl 1 v31, AV.int IntKind.i64 most32, AV.sl 1 x206, AV.int IntKind.i64 x207,
              AV.int IntKind.i64 x208],
          blks := [Blk.arr 3 c0] })) := (lp_unfold ..).trans (by kernel_rfl)

/-- dynpos/dynposref33.Tick, the loop of block 18 -/
theorem r34_18 (F : Fun) (l0 : List (List PV)) (time2 : Int) (three22 : List (List PV)) (c30 : Int) (most32 : Int) (x206 : List (List PV)) (x207 : Int) (x208 : Int) (x234 : List (List PV)) (x235 : Int) (x236 : Int) (c0 : List (List PV)) : lp E F 34 0 [] 18
  {
    vals :=
      [AV.sl 3 l0, AV.int IntKind.i64 time2, AV.sl 3 three22, AV.int IntKind.i64 c30,
        AV.int IntKind.i64 most32, AV.sl 1 x206, AV.int IntKind.i64 x207,
        AV.int IntKind.i64 x208, AV.sl 1 x234, AV.int IntKind.i64 x235,
        AV.int IntKind.i64 x236],
    blks := [Blk.arr 3 c0] } =
  ctl (ltB x236 x235)
    (getE x234 x236 fun (c : List PV) =>
      ctl (okCs [Sh.int IntKind.i64] c)
        (ctl
          (leB 0 (nth PV.nilp c 0).toInt &&
            ltB (nth PV.nilp c 0).toInt (↑c0.length : Int))
          (lp E F 34 0 [] 18
            {
              vals :=
                [AV.sl 3 l0, AV.int IntKind.i64 time2, AV.sl 3 three22,
                  AV.int IntKind.i64 c30, AV.int IntKind.i64 most32, AV.sl 1 x206,
                  AV.int IntKind.i64 x207, AV.int IntKind.i64 x208, AV.sl 1 x234,
                  AV.int IntKind.i64 x235, AV.int IntKind.i64 (IntKind.i64.wrap (x236 + 1))],
              blks :=
                [Blk.arr 3
                    (setEs c0 (nth PV.nilp c 0).toInt.toNat 1
                      [PV.int IntKind.i64 (IntKind.i64.wrap (most32 + 1))])] })
          Option.none)
        Option.none)
    (Option.some
      (Ex.exit 18,
        {
          vals :=
            [AV.sl 3 l0, AV.int IntKind.i64 time2, AV.sl 3 three22, AV.int IntKind.i64 c30,
              AV.int IntKind.i64 most32, AV.sl 1 x206, AV.int IntKind.i64 x207,
              AV.int IntKind.i64 x208],
          blks := [Blk.arr 3 c0] })) := (lp_unfold ..).trans (by kernel_rfl)

/-- dynpos/dynposref33.Tick -/
theorem r34 (F : Fun) (l : List (List PV)) (reach : List (List PV)) (time : Int) (timeout : Int) : funK E F 34 [AV.sl 3 l, AV.sl 1 reach, AV.int IntKind.i64 time, AV.int IntKind.i64 timeout] [] =
  bnd
    (F 55 [AV.sl 3 l, AV.sl 1 reach, AV.int IntKind.i64 time, AV.int IntKind.i64 timeout]
      [])
    fun (r : Res) =>
    ctl
      (okR [RSh.one (Sh.int IntKind.i64)] r.fst && okB [] r.snd)
      (ctl ((nth (RV.p PV.nilp) r.fst 0).toPV.toInt != 0)
        (Option.some
          ([RV.p (PV.sl 3 []),
              RV.p
                (PV.int IntKind.i64 (nth (RV.p PV.nilp) r.fst 0).toPV.toInt)],
            []))
        (ctl (leN (l.length * 24) 140737488355328)
          (bnd
            (lp E F 34 0 [] 0
              {
                vals :=
                  [AV.sl 3 l, AV.sl 1 reach, AV.int IntKind.i64 time,
                    AV.int IntKind.i64 timeout, AV.int IntKind.i64 (↑l.length : Int), AV.int IntKind.i64 0],
                blks := [Blk.arr 3 l] })
            fun (p : Ex × Pack) =>
            ctl (p.fst.eqb (Ex.exit 0))
              (ctl
                (okPack
                  {
                    slots :=
                      [(0, Sum.inl (Sh.sl 3)), (1, Sum.inl (Sh.sl 1)), (2, Sum.inl (Sh.int IntKind.i64)),
                        (3, Sum.inl (Sh.int IntKind.i64)), (11, Sum.inr (Sum.inr (AV.t (TV.hsl 0))))],
                    blks := [Sum.inr 3] }
                  p.snd)
                (ctl (leN ((nth (Blk.box []) p.snd.blks 0).toEs.length * 24) 140737488355328)
                  (bnd
                    (lp E F 34 0 [] 4
                      {
                        vals :=
                          [AV.sl 3 (nth AV.undef p.snd.vals 0).toPV.toEs,
                            AV.sl 1 (nth AV.undef p.snd.vals 1).toPV.toEs,
                            AV.int IntKind.i64 (nth AV.undef p.snd.vals 2).toPV.toInt,
                            AV.int IntKind.i64 (nth AV.undef p.snd.vals 3).toPV.toInt,
                            AV.sl 3 (nth (Blk.box []) p.snd.blks 0).toEs,
                            AV.sl 3 (nth (Blk.box []) p.snd.blks 0).toEs,
                            AV.int IntKind.i64 (↑(nth (Blk.box []) p.snd.blks 0).toEs.length : Int),
                            AV.int IntKind.i64 0],
                        blks := [Blk.arr 3 (nth (Blk.box []) p.snd.blks 0).toEs] })
                    fun (p : Ex × Pack) =>
                    ctl (p.fst.eqb (Ex.exit 4))
                      (ctl
                        (okPack
                          {
                            slots :=
                              [(0, Sum.inl (Sh.sl 3)), (1, Sum.inl (Sh.sl 1)), (2, Sum.inl (Sh.int IntKind.i64)),
                                (3, Sum.inl (Sh.int IntKind.i64)), (15, Sum.inr (Sum.inr (AV.t (TV.hsl 0))))],
                            blks := [Sum.inr 3] }
                          p.snd)
                        (ctl
                          (leN ((nth (Blk.box []) p.snd.blks 0).toEs.length * 24) 140737488355328)
                          (bnd
                            (lp E F 34 0 [] 8
                              {
                                vals :=
                                  [AV.sl 3 (nth AV.undef p.snd.vals 0).toPV.toEs,
                                    AV.sl 1 (nth AV.undef p.snd.vals 1).toPV.toEs,
                                    AV.int IntKind.i64 (nth AV.undef p.snd.vals 2).toPV.toInt,
                                    AV.int IntKind.i64 (nth AV.undef p.snd.vals 3).toPV.toInt,
                                    AV.sl 3 (nth (Blk.box []) p.snd.blks 0).toEs,
                                    AV.int IntKind.i64 (↑(nth (Blk.box []) p.snd.blks 0).toEs.length : Int),
                                    AV.int IntKind.i64 0],
                                blks := [Blk.arr 3 (nth (Blk.box []) p.snd.blks 0).toEs] })
                            fun (p : Ex × Pack) =>
                            ctl (p.fst.eqb (Ex.exit 8))
                              (ctl
                                (okPack
                                  {
                                    slots :=
                                      [(0, Sum.inl (Sh.sl 3)), (1, Sum.inl (Sh.sl 1)), (2, Sum.inl (Sh.int IntKind.i64)),
                                        (3, Sum.inl (Sh.int IntKind.i64)), (22, Sum.inr (Sum.inr (AV.t (TV.hsl 0))))],
                                    blks := [Sum.inr 3] }
                                  p.snd)
                                (ctl
                                  (Bool.true &&
                                    (leB (↑(nth AV.undef p.snd.vals 0).toPV.toEs.length : Int)
                                        (↑(nth AV.undef p.snd.vals 0).toPV.toEs.length : Int) &&
                                      (leB (↑(nth AV.undef p.snd.vals 0).toPV.toEs.length : Int) 9223372036854775807 &&
                                        leB ((↑(nth AV.undef p.snd.vals 0).toPV.toEs.length : Int) * 24) 140737488355328)))
                                  (bnd
                                    (F 59
                                      [AV.sl 3 (nth (Blk.box []) p.snd.blks 0).toEs,
                                        AV.sl 1 (nth AV.undef p.snd.vals 1).toPV.toEs,
                                        AV.int IntKind.i64 (nth AV.undef p.snd.vals 2).toPV.toInt,
                                        AV.int IntKind.i64 (nth AV.undef p.snd.vals 3).toPV.toInt]
                                      [])
                                    fun (r : Res) =>
                                    ctl
                                      (okR [RSh.one (Sh.sl 1)] r.fst && okB [] r.snd)
                                      (bnd
                                        (lp E F 34 0 [] 10
                                          {
                                            vals :=
                                              [AV.sl 3 (nth AV.undef p.snd.vals 0).toPV.toEs,
                                                AV.sl 1 (nth AV.undef p.snd.vals 1).toPV.toEs,
                                                AV.int IntKind.i64 (nth AV.undef p.snd.vals 2).toPV.toInt,
                                                AV.sl 3 (nth (Blk.box []) p.snd.blks 0).toEs,
                                                AV.sl 1 (nth (RV.p PV.nilp) r.fst 0).toPV.toEs,
                                                AV.int IntKind.i64 (↑(nth (Blk.box []) p.snd.blks 0).toEs.length : Int),
                                                AV.int IntKind.i64 0],
                                            blks :=
                                              [Blk.tab Bool.false 1
                                                  (reps ((0 : Int), MV.row [])
                                                    (↑(nth AV.undef p.snd.vals 0).toPV.toEs.length : Int).toNat)] })
                                        fun (p : Ex × Pack) =>
                                        ctl (p.fst.eqb (Ex.exit 10))
                                          (ctl
                                            (okPack
                                              {
                                                slots :=
                                                  [(0, Sum.inl (Sh.sl 3)), (2, Sum.inl (Sh.int IntKind.i64)),
                                                    (22, Sum.inl (Sh.sl 3)), (24, Sum.inr (Sum.inr (AV.tsl 0)))],
                                                blks := [Sum.inr 1000002] }
                                              p.snd)
                                            (ctl
                                              (leN ((nth AV.undef p.snd.vals 2).toPV.toEs.length * 24) 140737488355328)
                                              (bnd
                                                (lp E F 34 0 [] 14
                                                  {
                                                    vals :=
                                                      [AV.sl 3 (nth AV.undef p.snd.vals 0).toPV.toEs,
                                                        AV.int IntKind.i64 (nth AV.undef p.snd.vals 1).toPV.toInt,
                                                        AV.sl 3 (nth AV.undef p.snd.vals 2).toPV.toEs,
                                                        AV.sl 1
                                                          (List.map (fun (x : Int × MV) => [MV.frz 1 x.snd])
                                                            (nth (Blk.box []) p.snd.blks 0).toKvs),
                                                        AV.int IntKind.i64
                                                          (↑(List.map (fun (x : Int × MV) => [MV.frz 1 x.snd])
                                                                  (nth (Blk.box []) p.snd.blks 0).toKvs).length :
                                                            Int),
                                                        AV.int IntKind.i64 0],
                                                    blks := [Blk.arr 3 (nth AV.undef p.snd.vals 2).toPV.toEs] })
                                                fun (p : Ex × Pack) =>
                                                ctl (p.fst.eqb (Ex.exit 14))
                                                  (ctl
                                                    (okPack
                                                      { slots := [(29, Sum.inr (Sum.inr (AV.t (TV.hsl 0))))], blks := [Sum.inr 3] } p.snd)
                                                    (Option.some
                                                      ([RV.p
                                                            (PV.sl 3 (nth (Blk.box []) p.snd.blks 0).toEs),
                                                          RV.p (PV.int IntKind.i64 0)],
                                                        []))
                                                    Option.none)
                                                  (ctl (p.fst.eqb Ex.ret)
                                                    (ctl
                                                      (okPack
                                                        { slots := [(8, Sum.inl (Sh.sl 3)), (9, Sum.inl (Sh.int IntKind.i64))], blks := [] } p.snd)
                                                      (Option.some
                                                        ([RV.p
                                                              (PV.sl 3 (nth AV.undef p.snd.vals 0).toPV.toEs),
                                                            RV.p
                                                              (PV.int IntKind.i64 (nth AV.undef p.snd.vals 1).toPV.toInt)],
                                                          []))
                                                      Option.none)
                                                    Option.none))
                                              Option.none)
                                            Option.none)
                                          Option.none)
                                      Option.none)
                                  Option.none)
                                Option.none)
                              Option.none)
                          Option.none)
                        Option.none)
                      Option.none)
                  Option.none)
                Option.none)
              Option.none)
          Option.none))
      Option.none := by kernel_rfl

/-- dynpos/failover.shaped -/
theorem r35 (F : Fun) (l : List (List PV)) (reach : List (List PV)) : funK E F 35 [AV.sl 3 l, AV.sl 1 reach] [] =
  ctl ((↑reach.length : Int) == (↑l.length : Int))
    (bnd
      (F 61 [AV.sl 1 reach, AV.fn 62 [TV.ptr 0 0]]
        [Blk.box [AV.sl 3 l]])
      fun (r : Res) =>
      ctl
        (okR [RSh.one Sh.bool] r.fst &&
          okB [Sum.inl [Sh.sl 3]] r.snd)
        (Option.some
          ([RV.p
                (PV.bool !(nth (RV.p PV.nilp) r.fst 0).toPV.toBool)],
            []))
        Option.none)
    (Option.some ([RV.p (PV.bool Bool.false)], [])) := by kernel_rfl

/-- (dynpos/failover.party).hears, the loop of block 0 -/
theorem r36_0 (F : Fun) (i1 : Int) (x9 : Int) (x10 : Int) (b0_0 : List (List PV)) (b0_1 : List (List PV)) (c1 : List (List PV)) : lp E F 36 0 [] 0
  { vals := [AV.int IntKind.i64 i1, AV.int IntKind.i64 x9, AV.int IntKind.i64 x10],
    blks := [Blk.box [AV.sl 3 b0_0, AV.sl 1 b0_1], Blk.arr 1 c1] } =
  ctl (ltB x10 x9)
    (bnd
      (F 40 [AV.agg [PV.sl 3 b0_0, PV.sl 1 b0_1], AV.int IntKind.i64 i1] [])
      fun (r : Res) =>
      ctl (okR [RSh.one Sh.bool] r.fst && okB [] r.snd)
        (bnd
          (ctl (nth (RV.p PV.nilp) r.fst 0).toPV.toBool
            (bnd
              (F 40 [AV.agg [PV.sl 3 b0_0, PV.sl 1 b0_1], AV.int IntKind.i64 x10] [])
              fun (r : Res) =>
              ctl (okR [RSh.one Sh.bool] r.fst && okB [] r.snd)
                (Option.some (nth (RV.p PV.nilp) r.fst 0).toPV.toBool) Option.none)
            (Option.some Bool.false))
          fun (v : Bool) =>
          bnd
            (ctl v
              (ctl (!i1 == x10)
                (getE b0_1 i1 fun (c : List PV) =>
                  ctl (okCs [Sh.sl 1] c)
                    (getE (nth PV.nilp c 0).toEs x10 fun (c : List PV) =>
                      ctl (okCs [Sh.bool] c)
                        (ctl (!(nth PV.nilp c 0).toBool)
                          (getE b0_1 x10 fun (c : List PV) =>
                            ctl (okCs [Sh.sl 1] c)
                              (getE (nth PV.nilp c 0).toEs i1 fun (c : List PV) =>
                                ctl (okCs [Sh.bool] c)
                                  (Option.some (nth PV.nilp c 0).toBool) Option.none)
                              Option.none)
                          (Option.some Bool.true))
                        Option.none)
                    Option.none)
                (Option.some Bool.true))
              (Option.some Bool.false))
            fun (v : Bool) =>
            ctl v
              (ctl (leN ((c1.length + 1) * 8) 140737488355328)
                (lp E F 36 0 [] 0
                  {
                    vals :=
                      [AV.int IntKind.i64 i1, AV.int IntKind.i64 x9,
                        AV.int IntKind.i64 (IntKind.i64.wrap (x10 + 1))],
                    blks :=
                      [Blk.box [AV.sl 3 b0_0, AV.sl 1 b0_1],
                        Blk.arr 1 (c1 ++ [[PV.int IntKind.i64 x10]])] })
                Option.none)
              (lp E F 36 0 [] 0
                {
                  vals :=
                    [AV.int IntKind.i64 i1, AV.int IntKind.i64 x9, AV.int IntKind.i64 (IntKind.i64.wrap (x10 + 1))],
                  blks := [Blk.box [AV.sl 3 b0_0, AV.sl 1 b0_1], Blk.arr 1 c1] }))
        Option.none)
    (Option.some (Ex.exit 0, { vals := [], blks := [Blk.arr 1 c1] })) := (lp_unfold ..).trans (by kernel_rfl)

/-- (dynpos/failover.party).hears -/
theorem r36 (F : Fun) (p0 : List (List PV)) (p1 : List (List PV)) (i : Int) : funK E F 36 [AV.agg [PV.sl 3 p0, PV.sl 1 p1], AV.int IntKind.i64 i] [] =
  bnd
    (lp E F 36 0 [] 0
      { vals := [AV.int IntKind.i64 i, AV.int IntKind.i64 (↑p0.length : Int), AV.int IntKind.i64 0],
        blks := [Blk.box [AV.sl 3 p0, AV.sl 1 p1], Blk.arr 1 []] })
    fun (p : Ex × Pack) =>
    ctl (p.fst.eqb (Ex.exit 0))
      (ctl
        (okPack { slots := [(5, Sum.inr (Sum.inr (AV.t (TV.hsl 0))))], blks := [Sum.inr 1] } p.snd)
        (Option.some ([RV.p (PV.sl 1 (nth (Blk.box []) p.snd.blks 0).toEs)], [])) Option.none)
      Option.none := by kernel_rfl

/-- (*dynpos/dynposmake.Src).Pick -/
theorem r37 (F : Fun) (s0 : List (List PV)) (s1 : Int) (l : List (List PV)) : funK E F 37 [AV.t (TV.ptr 0 0), AV.sl 1 l] [Blk.box [AV.sl 1 s0, AV.int IntKind.i64 s1]] =
  bnd
    (F 16 [AV.t (TV.ptr 0 0), AV.int IntKind.i64 (↑l.length : Int)]
      [Blk.box [AV.sl 1 s0, AV.int IntKind.i64 s1]])
    fun (r : Res) =>
    ctl
      (okR [RSh.one (Sh.int IntKind.i64)] r.fst &&
        okB [Sum.inl [Sh.sl 1, Sh.int IntKind.i64]] r.snd)
      (getE l (nth (RV.p PV.nilp) r.fst 0).toPV.toInt
        fun (c : List PV) =>
        ctl (okCs [Sh.int IntKind.i64] c)
          (Option.some
            ([RV.p (PV.int IntKind.i64 (nth PV.nilp c 0).toInt)],
              [Blk.box
                  [AV.sl 1
                      (nth PV.nilp
                          (List.map AV.toPV (nth (Blk.box []) r.snd 0).toCs) 0).toEs,
                    AV.int IntKind.i64
                      (nth PV.nilp
                          (List.map AV.toPV (nth (Blk.box []) r.snd 0).toCs) 1).toInt]]))
          Option.none)
      Option.none := by kernel_rfl

/-- slices.Clone[[]dynpos/api.Controller,dynpos/api.Controller] -/
theorem r38c (F : Fun) (e : List PV) (l : List (List PV)) : funK E F 38 [AV.sl 3 (e :: l)] [] =
  ctl (leN ((0 + (e :: l).length) * 24) 140737488355328) (Option.some ([RV.own 3 ([] ++ e :: l)], [])) Option.none := by kernel_rfl

/-- dynpos/failover.Check, the loop of block 0 -/
theorem r39_0 (F : Fun) (time1 : Int) (x15 : List (List PV)) (x16 : Int) (x17 : Int) : lp E F 39 0 [] 0
  {
    vals :=
      [AV.int IntKind.i64 time1, AV.sl 3 x15, AV.int IntKind.i64 x16,
        AV.int IntKind.i64 x17],
    blks := [] } =
  ctl (ltB x17 x16)
    (getE x15 x17 fun (c : List PV) =>
      ctl
        (okCs [Sh.int IntKind.i64, Sh.int IntKind.i64, Sh.int IntKind.i64] c)
        (bnd
          (ctl (!ltB (nth PV.nilp c 0).toInt 0)
            (Option.some (ltB 2 (nth PV.nilp c 0).toInt)) (Option.some Bool.true))
          fun (v : Bool) =>
          bnd
            (ctl (!v) (Option.some (ltB (nth PV.nilp c 1).toInt 0)) (Option.some Bool.true))
            fun (v : Bool) =>
            bnd
              (ctl (!v) (Option.some (ltB 2147483648 (nth PV.nilp c 1).toInt))
                (Option.some Bool.true))
              fun (v : Bool) =>
              bnd
                (ctl (!v) (Option.some (ltB (nth PV.nilp c 2).toInt 0)) (Option.some Bool.true))
                fun (v : Bool) =>
                bnd
                  (ctl (!v) (Option.some (ltB time1 (nth PV.nilp c 2).toInt))
                    (Option.some Bool.true))
                  fun (v : Bool) =>
                  ctl v (Option.some (Ex.ret, { vals := [AV.int IntKind.i64 1], blks := [] }))
                    (lp E F 39 0 [] 0
                      {
                        vals :=
                          [AV.int IntKind.i64 time1, AV.sl 3 x15, AV.int IntKind.i64 x16,
                            AV.int IntKind.i64 (IntKind.i64.wrap (x17 + 1))],
                        blks := [] }))
        Option.none)
    (Option.some (Ex.exit 0, { vals := [], blks := [] })) := (lp_unfold ..).trans (by kernel_rfl)

/-- dynpos/failover.Check -/
theorem r39 (F : Fun) (l : List (List PV)) (time : Int) : funK E F 39 [AV.sl 3 l, AV.int IntKind.i64 time] [] =
  bnd
    (ctl (!ltB (↑l.length : Int) 1) (Option.some (ltB 5 (↑l.length : Int))) (Option.some Bool.true)) fun (v : Bool) =>
    ctl v (Option.some ([RV.p (PV.int IntKind.i64 2)], []))
      (bnd
        (lp E F 39 0 [] 0
          {
            vals :=
              [AV.int IntKind.i64 time, AV.sl 3 l, AV.int IntKind.i64 (↑l.length : Int),
                AV.int IntKind.i64 0],
            blks := [] })
        fun (p : Ex × Pack) =>
        ctl (p.fst.eqb (Ex.exit 0)) (Option.some ([RV.p (PV.int IntKind.i64 0)], []))
          (ctl (p.fst.eqb Ex.ret)
            (ctl (okPack { slots := [(4, Sum.inl (Sh.int IntKind.i64))], blks := [] } p.snd)
              (Option.some
                ([RV.p (PV.int IntKind.i64 (nth AV.undef p.snd.vals 0).toPV.toInt)], []))
              Option.none)
            Option.none)) := by kernel_rfl

/-- (dynpos/failover.party).up -/
theorem r40 (F : Fun) (p0 : List (List PV)) (p1 : List (List PV)) (i : Int) : funK E F 40 [AV.agg [PV.sl 3 p0, PV.sl 1 p1], AV.int IntKind.i64 i] [] =
  getE p0 i fun (c : List PV) =>
    ctl
      (okCs [Sh.int IntKind.i64, Sh.int IntKind.i64, Sh.int IntKind.i64] c)
      (Option.some ([RV.p (PV.bool ((nth PV.nilp c 0).toInt != 2))], [])) Option.none := by kernel_rfl

/-- (dynpos/failover.party).greatest, the loop of block 0 -/
theorem r41_0 (F : Fun) (out5 : Int) (x8 : List (List PV)) (x9 : Int) (x10 : Int) (b0_0 : List (List PV)) (b0_1 : List (List PV)) : lp E F 41 0 [] 0
  {
    vals :=
      [AV.int IntKind.i64 out5, AV.sl 1 x8, AV.int IntKind.i64 x9,
        AV.int IntKind.i64 x10],
    blks := [Blk.box [AV.sl 3 b0_0, AV.sl 1 b0_1]] } =
  ctl (ltB x10 x9)
    (getE x8 x10 fun (c : List PV) =>
      ctl (okCs [Sh.int IntKind.i64] c)
        (getE b0_0 (nth PV.nilp c 0).toInt fun (c : List PV) =>
          ctl
            (okCs [Sh.int IntKind.i64, Sh.int IntKind.i64, Sh.int IntKind.i64] c)
            (lp E F 41 0 [] 0
              {
                vals :=
                  [AV.int IntKind.i64 (maxI (nth PV.nilp c 1).toInt out5),
                    AV.sl 1 x8, AV.int IntKind.i64 x9, AV.int IntKind.i64 (IntKind.i64.wrap (x10 + 1))],
                blks := [Blk.box [AV.sl 3 b0_0, AV.sl 1 b0_1]] })
            Option.none)
        Option.none)
    (Option.some (Ex.exit 0, { vals := [AV.int IntKind.i64 out5], blks := [] })) := (lp_unfold ..).trans (by kernel_rfl)

/-- (dynpos/failover.party).greatest -/
theorem r41 (F : Fun) (p0 : List (List PV)) (p1 : List (List PV)) (l : List (List PV)) : funK E F 41 [AV.agg [PV.sl 3 p0, PV.sl 1 p1], AV.sl 1 l] [] =
  bnd
    (lp E F 41 0 [] 0
      {
        vals :=
          [AV.int IntKind.i64 0, AV.sl 1 l, AV.int IntKind.i64 (↑l.length : Int),
            AV.int IntKind.i64 0],
        blks := [Blk.box [AV.sl 3 p0, AV.sl 1 p1]] })
    fun (p : Ex × Pack) =>
    ctl (p.fst.eqb (Ex.exit 0))
      (ctl (okPack { slots := [(5, Sum.inl (Sh.int IntKind.i64))], blks := [] } p.snd)
        (Option.some ([RV.p (PV.int IntKind.i64 (nth AV.undef p.snd.vals 0).toPV.toInt)], []))
        Option.none)
      Option.none := by kernel_rfl

/-- (dynpos/failover.party).yields$1 -/
theorem r42 (F : Fun) (i : Int) (c0 : Int) (c1 : Int) (c2 : Int) (k0_0 : List (List PV)) (k0_1 : List (List PV)) (k1_0 : List (List PV)) (k1_1 : List (List PV)) : funK E F 42 [AV.int IntKind.i64 i,
  AV.agg [PV.int IntKind.i64 c0, PV.int IntKind.i64 c1, PV.int IntKind.i64 c2],
  AV.t (TV.ptr 0 0), AV.t (TV.ptr 1 0)] [Blk.box [AV.sl 3 k0_0, AV.sl 1 k0_1],
  Blk.box [AV.sl 3 k1_0, AV.sl 1 k1_1]] =
  bnd
    (F 44 [AV.agg [PV.sl 3 k0_0, PV.sl 1 k0_1], AV.int IntKind.i64 i] [])
    fun (r : Res) =>
    ctl (okR [RSh.one Sh.bool] r.fst && okB [] r.snd)
      (ctl (nth (RV.p PV.nilp) r.fst 0).toPV.toBool
        (bnd
          (F 36 [AV.agg [PV.sl 3 k0_0, PV.sl 1 k0_1], AV.int IntKind.i64 i] [])
          fun (r : Res) =>
          ctl (okR [RSh.one (Sh.sl 1)] r.fst && okB [] r.snd)
            (bnd
              (F 45
                [AV.agg [PV.sl 3 k0_0, PV.sl 1 k0_1],
                  AV.int IntKind.i64 (↑(nth (RV.p PV.nilp) r.fst 0).toPV.toEs.length : Int)]
                [])
              fun (r : Res) =>
              ctl (okR [RSh.one Sh.bool] r.fst && okB [] r.snd)
                (ctl (!!(nth (RV.p PV.nilp) r.fst 0).toPV.toBool)
                  (getE k1_0 i fun (c : List PV) =>
                    ctl
                      (okCs [Sh.int IntKind.i64, Sh.int IntKind.i64, Sh.int IntKind.i64]
                        c)
                      (ctl (!ltB (nth PV.nilp c 1).toInt c1)
                        (bnd
                          (F 36 [AV.agg [PV.sl 3 k0_0, PV.sl 1 k0_1], AV.int IntKind.i64 i] [])
                          fun (r : Res) =>
                          ctl
                            (okR [RSh.one (Sh.sl 1)] r.fst && okB [] r.snd)
                            (bnd
                              (F 46
                                [AV.sl 1 (nth (RV.p PV.nilp) r.fst 0).toPV.toEs,
                                  AV.fn 43 [TV.ptr 0 0, TV.ptr 1 0, TV.ptr 2 0]]
                                [Blk.box [AV.int IntKind.i64 i],
                                  Blk.box [AV.sl 3 k0_0, AV.sl 1 k0_1],
                                  Blk.box
                                    [AV.int IntKind.i64 c0, AV.int IntKind.i64 c1, AV.int IntKind.i64 c2]])
                              fun (r : Res) =>
                              ctl
                                (okR [RSh.one Sh.bool] r.fst &&
                                  okB
                                    [Sum.inl [Sh.int IntKind.i64], Sum.inl [Sh.sl 3, Sh.sl 1],
                                      Sum.inl [Sh.int IntKind.i64, Sh.int IntKind.i64, Sh.int IntKind.i64]]
                                    r.snd)
                                (ctl (nth (RV.p PV.nilp) r.fst 0).toPV.toBool
                                  (Option.some
                                    ([RV.agg
                                          [PV.int IntKind.i64 0,
                                            PV.int IntKind.i64
                                              (nth PV.nilp
                                                  (List.map AV.toPV (nth (Blk.box []) r.snd 2).toCs) 1).toInt,
                                            PV.int IntKind.i64
                                              (nth PV.nilp
                                                  (List.map AV.toPV (nth (Blk.box []) r.snd 2).toCs) 2).toInt]],
                                      [Blk.box
                                          [AV.sl 3
                                              (nth PV.nilp
                                                  (List.map AV.toPV (nth (Blk.box []) r.snd 1).toCs) 0).toEs,
                                            AV.sl 1
                                              (nth PV.nilp
                                                  (List.map AV.toPV (nth (Blk.box []) r.snd 1).toCs) 1).toEs],
                                        Blk.box [AV.sl 3 k1_0, AV.sl 1 k1_1]]))
                                  (Option.some
                                    ([RV.agg
                                          [PV.int IntKind.i64
                                              (nth PV.nilp
                                                  (List.map AV.toPV (nth (Blk.box []) r.snd 2).toCs) 0).toInt,
                                            PV.int IntKind.i64
                                              (nth PV.nilp
                                                  (List.map AV.toPV (nth (Blk.box []) r.snd 2).toCs) 1).toInt,
                                            PV.int IntKind.i64
                                              (nth PV.nilp
                                                  (List.map AV.toPV (nth (Blk.box []) r.snd 2).toCs) 2).toInt]],
                                      [Blk.box
                                          [AV.sl 3
                                              (nth PV.nilp
                                                  (List.map AV.toPV (nth (Blk.box []) r.snd 1).toCs) 0).toEs,
                                            AV.sl 1
                                              (nth PV.nilp
                                                  (List.map AV.toPV (nth (Blk.box []) r.snd 1).toCs) 1).toEs],
                                        Blk.box [AV.sl 3 k1_0, AV.sl 1 k1_1]])))
                                Option.none)
                            Option.none)
                        (Option.some
                          ([RV.agg
                                [PV.int IntKind.i64 0, PV.int IntKind.i64 c1, PV.int IntKind.i64 c2]],
                            [Blk.box [AV.sl 3 k0_0, AV.sl 1 k0_1],
                              Blk.box [AV.sl 3 k1_0, AV.sl 1 k1_1]])))
                      Option.none)
                  (Option.some
                    ([RV.agg
                          [PV.int IntKind.i64 0, PV.int IntKind.i64 c1, PV.int IntKind.i64 c2]],
                      [Blk.box [AV.sl 3 k0_0, AV.sl 1 k0_1],
                        Blk.box [AV.sl 3 k1_0, AV.sl 1 k1_1]])))
                Option.none)
            Option.none)
        (Option.some
          ([RV.agg
                [PV.int IntKind.i64 c0, PV.int IntKind.i64 c1, PV.int IntKind.i64 c2]],
            [Blk.box [AV.sl 3 k0_0, AV.sl 1 k0_1],
              Blk.box [AV.sl 3 k1_0, AV.sl 1 k1_1]])))
      Option.none := by kernel_rfl

/-- (dynpos/failover.party).yields$1$1 -/
theorem r43 (F : Fun) (k : Int) (k0_0 : Int) (k1_0 : List (List PV)) (k1_1 : List (List PV)) (k2_0 : Int) (k2_1 : Int) (k2_2 : Int) : funK E F 43 [AV.int IntKind.i64 k, AV.t (TV.ptr 0 0), AV.t (TV.ptr 1 0),
  AV.t (TV.ptr 2 0)] [Blk.box [AV.int IntKind.i64 k0_0],
  Blk.box [AV.sl 3 k1_0, AV.sl 1 k1_1],
  Blk.box [AV.int IntKind.i64 k2_0, AV.int IntKind.i64 k2_1, AV.int IntKind.i64 k2_2]] =
  bnd
    (ctl (ltB k k0_0)
      (bnd
        (F 44 [AV.agg [PV.sl 3 k1_0, PV.sl 1 k1_1], AV.int IntKind.i64 k] [])
        fun (r : Res) =>
        ctl (okR [RSh.one Sh.bool] r.fst && okB [] r.snd)
          (Option.some (nth (RV.p PV.nilp) r.fst 0).toPV.toBool) Option.none)
      (Option.some Bool.false))
    fun (v : Bool) =>
    bnd
      (ctl v
        (getE k1_0 k fun (c : List PV) =>
          ctl
            (okCs [Sh.int IntKind.i64, Sh.int IntKind.i64, Sh.int IntKind.i64] c)
            (Option.some ((nth PV.nilp c 1).toInt == k2_1)) Option.none)
        (Option.some Bool.false))
      fun (v : Bool) =>
      Option.some
        ([RV.p (PV.bool v)],
          [Blk.box [AV.int IntKind.i64 k0_0],
            Blk.box [AV.sl 3 k1_0, AV.sl 1 k1_1],
            Blk.box
              [AV.int IntKind.i64 k2_0, AV.int IntKind.i64 k2_1, AV.int IntKind.i64 k2_2]]) := by kernel_rfl

/-- (dynpos/failover.party).active -/
theorem r44 (F : Fun) (p0 : List (List PV)) (p1 : List (List PV)) (i : Int) : funK E F 44 [AV.agg [PV.sl 3 p0, PV.sl 1 p1], AV.int IntKind.i64 i] [] =
  getE p0 i fun (c : List PV) =>
    ctl
      (okCs [Sh.int IntKind.i64, Sh.int IntKind.i64, Sh.int IntKind.i64] c)
      (Option.some ([RV.p (PV.bool ((nth PV.nilp c 0).toInt == 1))], [])) Option.none := by kernel_rfl

/-- (dynpos/failover.party).majority -/
theorem r45 (F : Fun) (p0 : List (List PV)) (p1 : List (List PV)) (n : Int) : funK E F 45 [AV.agg [PV.sl 3 p0, PV.sl 1 p1], AV.int IntKind.i64 n] [] =
  Option.some ([RV.p (PV.bool (ltB (↑p0.length : Int) (IntKind.i64.wrap (2 * n))))], []) := by kernel_rfl

/-- slices.ContainsFunc[[]int,int] -/
theorem r46a (F : Fun) (s : List (List PV)) (q0 : List (List PV)) (q1 : List (List PV)) : funK E F 46 [AV.sl 1 s, AV.bnd 44 [PV.sl 3 q0, PV.sl 1 q1]] [] =
  bnd (F 50 [AV.sl 1 s, AV.bnd 44 [PV.sl 3 q0, PV.sl 1 q1]] [])
    fun (r : Res) =>
    ctl
      (okR [RSh.one (Sh.int IntKind.i64)] r.fst && okB [] r.snd)
      (Option.some
        ([RV.p
              (PV.bool
                (leB 0 (nth (RV.p PV.nilp) r.fst 0).toPV.toInt))],
          []))
      Option.none := by kernel_rfl

/-- slices.ContainsFunc[[]int,int] -/
theorem r46b (F : Fun) (s : List (List PV)) (k0_0 : Int) (k1_0 : List (List PV)) (k1_1 : List (List PV)) (k2_0 : Int) (k2_1 : Int) (k2_2 : Int) : funK E F 46 [AV.sl 1 s, AV.fn 43 [TV.ptr 0 0, TV.ptr 1 0, TV.ptr 2 0]] [Blk.box [AV.int IntKind.i64 k0_0],
  Blk.box [AV.sl 3 k1_0, AV.sl 1 k1_1],
  Blk.box [AV.int IntKind.i64 k2_0, AV.int IntKind.i64 k2_1, AV.int IntKind.i64 k2_2]] =
  bnd
    (F 50
      [AV.sl 1 s, AV.fn 43 [TV.ptr 0 0, TV.ptr 1 0, TV.ptr 2 0]]
      [Blk.box [AV.int IntKind.i64 k0_0],
        Blk.box [AV.sl 3 k1_0, AV.sl 1 k1_1],
        Blk.box
          [AV.int IntKind.i64 k2_0, AV.int IntKind.i64 k2_1, AV.int IntKind.i64 k2_2]])
    fun (r : Res) =>
    ctl
      (okR [RSh.one (Sh.int IntKind.i64)] r.fst &&
        okB
          [Sum.inl [Sh.int IntKind.i64], Sum.inl [Sh.sl 3, Sh.sl 1],
            Sum.inl [Sh.int IntKind.i64, Sh.int IntKind.i64, Sh.int IntKind.i64]]
          r.snd)
      (Option.some
        ([RV.p
              (PV.bool
                (leB 0 (nth (RV.p PV.nilp) r.fst 0).toPV.toInt))],
          [Blk.box
              [AV.int IntKind.i64
                  (nth PV.nilp
                      (List.map AV.toPV (nth (Blk.box []) r.snd 0).toCs) 0).toInt],
            Blk.box
              [AV.sl 3
                  (nth PV.nilp
                      (List.map AV.toPV (nth (Blk.box []) r.snd 1).toCs) 0).toEs,
                AV.sl 1
                  (nth PV.nilp
                      (List.map AV.toPV (nth (Blk.box []) r.snd 1).toCs) 1).toEs],
            Blk.box
              [AV.int IntKind.i64
                  (nth PV.nilp
                      (List.map AV.toPV (nth (Blk.box []) r.snd 2).toCs) 0).toInt,
                AV.int IntKind.i64
                  (nth PV.nilp
                      (List.map AV.toPV (nth (Blk.box []) r.snd 2).toCs) 1).toInt,
                AV.int IntKind.i64
                  (nth PV.nilp
                      (List.map AV.toPV (nth (Blk.box []) r.snd 2).toCs) 2).toInt]]))
      Option.none := by kernel_rfl

/-- (dynpos/failover.party).listens$1 -/
theorem r47 (F : Fun) (i : Int) (c0 : Int) (c1 : Int) (c2 : Int) (k0_0 : List (List PV)) (k0_1 : List (List PV)) (k1_0 : Int) : funK E F 47 [AV.int IntKind.i64 i,
  AV.agg [PV.int IntKind.i64 c0, PV.int IntKind.i64 c1, PV.int IntKind.i64 c2],
  AV.t (TV.ptr 0 0), AV.t (TV.ptr 1 0)] [Blk.box [AV.sl 3 k0_0, AV.sl 1 k0_1],
  Blk.box [AV.int IntKind.i64 k1_0]] =
  bnd
    (F 48 [AV.agg [PV.sl 3 k0_0, PV.sl 1 k0_1], AV.int IntKind.i64 i] [])
    fun (r : Res) =>
    ctl (okR [RSh.one Sh.bool] r.fst && okB [] r.snd)
      (ctl (nth (RV.p PV.nilp) r.fst 0).toPV.toBool
        (Option.some
          ([RV.agg
                [PV.int IntKind.i64 c0, PV.int IntKind.i64 c1, PV.int IntKind.i64 k1_0]],
            [Blk.box [AV.sl 3 k0_0, AV.sl 1 k0_1],
              Blk.box [AV.int IntKind.i64 k1_0]]))
        (Option.some
          ([RV.agg
                [PV.int IntKind.i64 c0, PV.int IntKind.i64 c1, PV.int IntKind.i64 c2]],
            [Blk.box [AV.sl 3 k0_0, AV.sl 1 k0_1],
              Blk.box [AV.int IntKind.i64 k1_0]])))
      Option.none := by kernel_rfl

/-- (dynpos/failover.party).leads -/
theorem r48 (F : Fun) (p0 : List (List PV)) (p1 : List (List PV)) (i : Int) : funK E F 48 [AV.agg [PV.sl 3 p0, PV.sl 1 p1], AV.int IntKind.i64 i] [] =
  bnd
    (F 36 [AV.agg [PV.sl 3 p0, PV.sl 1 p1], AV.int IntKind.i64 i] [])
    fun (r : Res) =>
    ctl (okR [RSh.one (Sh.sl 1)] r.fst && okB [] r.snd)
      (bnd
        (F 46
          [AV.sl 1 (nth (RV.p PV.nilp) r.fst 0).toPV.toEs,
            AV.bnd 44 [PV.sl 3 p0, PV.sl 1 p1]]
          [])
        fun (r : Res) =>
        ctl (okR [RSh.one Sh.bool] r.fst && okB [] r.snd)
          (Option.some
            ([RV.p
                  (PV.bool (nth (RV.p PV.nilp) r.fst 0).toPV.toBool)],
              []))
          Option.none)
      Option.none := by kernel_rfl

/-- (dynpos/failover.party).candidates, the loop of block 0 -/
theorem r49_0 (F : Fun) (time1 : Int) (timeout2 : Int) (x11 : List (List PV)) (x12 : Int) (x13 : Int) (b0_0 : List (List PV)) (b0_1 : List (List PV)) (c1 : List (List PV)) : lp E F 49 0 [] 0
  {
    vals :=
      [AV.int IntKind.i64 time1, AV.int IntKind.i64 timeout2, AV.sl 3 x11,
        AV.int IntKind.i64 x12, AV.int IntKind.i64 x13],
    blks := [Blk.box [AV.sl 3 b0_0, AV.sl 1 b0_1], Blk.arr 1 c1] } =
  ctl (ltB x13 x12)
    (getE x11 x13 fun (c : List PV) =>
      ctl
        (okCs [Sh.int IntKind.i64, Sh.int IntKind.i64, Sh.int IntKind.i64] c)
        (bnd
          (ctl ((nth PV.nilp c 0).toInt == 0)
            (bnd
              (F 36 [AV.agg [PV.sl 3 b0_0, PV.sl 1 b0_1], AV.int IntKind.i64 x13] [])
              fun (r : Res) =>
              ctl (okR [RSh.one (Sh.sl 1)] r.fst && okB [] r.snd)
                (bnd
                  (F 45
                    [AV.agg [PV.sl 3 b0_0, PV.sl 1 b0_1],
                      AV.int IntKind.i64
                        (↑(nth (RV.p PV.nilp) r.fst 0).toPV.toEs.length : Int)]
                    [])
                  fun (r : Res) =>
                  ctl (okR [RSh.one Sh.bool] r.fst && okB [] r.snd)
                    (Option.some (nth (RV.p PV.nilp) r.fst 0).toPV.toBool) Option.none)
                Option.none)
            (Option.some Bool.false))
          fun (v : Bool) =>
          bnd
            (ctl v
              (bnd
                (F 48 [AV.agg [PV.sl 3 b0_0, PV.sl 1 b0_1], AV.int IntKind.i64 x13] [])
                fun (r : Res) =>
                ctl (okR [RSh.one Sh.bool] r.fst && okB [] r.snd)
                  (Option.some !(nth (RV.p PV.nilp) r.fst 0).toPV.toBool) Option.none)
              (Option.some Bool.false))
            fun (v : Bool) =>
            bnd
              (ctl v
                (Option.some (leB timeout2 (IntKind.i64.wrap (time1 - (nth PV.nilp c 2).toInt)))) (Option.some Bool.false))
              fun (v : Bool) =>
              ctl v
                (ctl (leN ((c1.length + 1) * 8) 140737488355328)
                  (lp E F 49 0 [] 0
                    {
                      vals :=
                        [AV.int IntKind.i64 time1, AV.int IntKind.i64 timeout2, AV.sl 3 x11,
                          AV.int IntKind.i64 x12, AV.int IntKind.i64 (IntKind.i64.wrap (x13 + 1))],
                      blks :=
                        [Blk.box [AV.sl 3 b0_0, AV.sl 1 b0_1],
                          Blk.arr 1 (c1 ++ [[PV.int IntKind.i64 x13]])] })
                  Option.none)
                (lp E F 49 0 [] 0
                  {
                    vals :=
                      [AV.int IntKind.i64 time1, AV.int IntKind.i64 timeout2, AV.sl 3 x11,
                        AV.int IntKind.i64 x12, AV.int IntKind.i64 (IntKind.i64.wrap (x13 + 1))],
                    blks := [Blk.box [AV.sl 3 b0_0, AV.sl 1 b0_1], Blk.arr 1 c1] }))
        Option.none)
    (Option.some (Ex.exit 0, { vals := [], blks := [Blk.arr 1 c1] })) := (lp_unfold ..).trans (by kernel_rfl)

/-- (dynpos/failover.party).candidates -/
theorem r49 (F : Fun) (p0 : List (List PV)) (p1 : List (List PV)) (time : Int) (timeout : Int) : funK E F 49 [AV.agg [PV.sl 3 p0, PV.sl 1 p1], AV.int IntKind.i64 time,
  AV.int IntKind.i64 timeout] [] =
  bnd
    (lp E F 49 0 [] 0
      {
        vals :=
          [AV.int IntKind.i64 time, AV.int IntKind.i64 timeout, AV.sl 3 p0,
            AV.int IntKind.i64 (↑p0.length : Int), AV.int IntKind.i64 0],
        blks := [Blk.box [AV.sl 3 p0, AV.sl 1 p1], Blk.arr 1 []] })
    fun (p : Ex × Pack) =>
    ctl (p.fst.eqb (Ex.exit 0))
      (ctl
        (okPack { slots := [(7, Sum.inr (Sum.inr (AV.t (TV.hsl 0))))], blks := [Sum.inr 1] } p.snd)
        (Option.some ([RV.p (PV.sl 1 (nth (Blk.box []) p.snd.blks 0).toEs)], [])) Option.none)
      Option.none := by kernel_rfl

/-- slices.IndexFunc[[]int,int], the loop of block 0 -/
theorem r50_0a (F : Fun) (q0 : List (List PV)) (q1 : List (List PV)) (s0 : List (List PV)) (x7 : Int) (x8 : Int) : lp E F 50 0
  [AV.undef, AV.bnd 44 [PV.sl 3 q0, PV.sl 1 q1]] 0
  { vals := [AV.sl 1 s0, AV.int IntKind.i64 x7, AV.int IntKind.i64 x8], blks := [] } =
  ctl (ltB x8 x7)
    (getE s0 x8 fun (c : List PV) =>
      ctl (okCs [Sh.int IntKind.i64] c)
        (bnd
          (F 44
            [AV.agg [PV.sl 3 q0, PV.sl 1 q1],
              AV.int IntKind.i64 (nth PV.nilp c 0).toInt]
            [])
          fun (r : Res) =>
          ctl (okR [RSh.one Sh.bool] r.fst && okB [] r.snd)
            (ctl (nth (RV.p PV.nilp) r.fst 0).toPV.toBool
              (Option.some (Ex.ret, { vals := [AV.int IntKind.i64 x8], blks := [] }))
              (ctl
                (Bool.true &&
                    (eqAV (AV.bnd 44 [PV.sl 3 q0, PV.sl 1 q1])
                        (AV.bnd 44 [PV.sl 3 q0, PV.sl 1 q1]) &&
                      Bool.true) &&
                  Bool.true)
                (lp E F 50 0
                  [AV.undef, AV.bnd 44 [PV.sl 3 q0, PV.sl 1 q1]] 0
                  { vals := [AV.sl 1 s0, AV.int IntKind.i64 x7, AV.int IntKind.i64 (IntKind.i64.wrap (x8 + 1))],
                    blks := [] })
                Option.none))
            Option.none)
        Option.none)
    (Option.some (Ex.exit 0, { vals := [], blks := [] })) := (lp_unfold ..).trans (by kernel_rfl)

/-- slices.IndexFunc[[]int,int], the loop of block 0 -/
theorem r50_0b (F : Fun) (s0 : List (List PV)) (x7 : Int) (x8 : Int) (b0_0 : Int) (b1_0 : List (List PV)) (b1_1 : List (List PV)) (b2_0 : Int) (b2_1 : Int) (b2_2 : Int) : lp E F 50 3
  [AV.undef, AV.fn 43 [TV.ptr 0 0, TV.ptr 1 0, TV.ptr 2 0]] 0
  { vals := [AV.sl 1 s0, AV.int IntKind.i64 x7, AV.int IntKind.i64 x8],
    blks :=
      [Blk.box [AV.int IntKind.i64 b0_0],
        Blk.box [AV.sl 3 b1_0, AV.sl 1 b1_1],
        Blk.box
          [AV.int IntKind.i64 b2_0, AV.int IntKind.i64 b2_1, AV.int IntKind.i64 b2_2]] } =
  ctl (ltB x8 x7)
    (getE s0 x8 fun (c : List PV) =>
      ctl (okCs [Sh.int IntKind.i64] c)
        (bnd
          (F 43
            [AV.int IntKind.i64 (nth PV.nilp c 0).toInt,
              AV.t (TV.ptr 0 0), AV.t (TV.ptr 1 0),
              AV.t (TV.ptr 2 0)]
            [Blk.box [AV.int IntKind.i64 b0_0],
              Blk.box [AV.sl 3 b1_0, AV.sl 1 b1_1],
              Blk.box
                [AV.int IntKind.i64 b2_0, AV.int IntKind.i64 b2_1, AV.int IntKind.i64 b2_2]])
          fun (r : Res) =>
          ctl
            (okR [RSh.one Sh.bool] r.fst &&
              okB
                [Sum.inl [Sh.int IntKind.i64], Sum.inl [Sh.sl 3, Sh.sl 1],
                  Sum.inl [Sh.int IntKind.i64, Sh.int IntKind.i64, Sh.int IntKind.i64]]
                r.snd)
            (ctl (nth (RV.p PV.nilp) r.fst 0).toPV.toBool
              (Option.some
                (Ex.ret,
                  { vals := [AV.int IntKind.i64 x8],
                    blks :=
                      [Blk.box
                          [AV.int IntKind.i64
                              (nth PV.nilp
                                  (List.map AV.toPV (nth (Blk.box []) r.snd 0).toCs) 0).toInt],
                        Blk.box
                          [AV.sl 3
                              (nth PV.nilp
                                  (List.map AV.toPV (nth (Blk.box []) r.snd 1).toCs) 0).toEs,
                            AV.sl 1
                              (nth PV.nilp
                                  (List.map AV.toPV (nth (Blk.box []) r.snd 1).toCs) 1).toEs],
                        Blk.box
                          [AV.int IntKind.i64
                              (nth PV.nilp
                                  (List.map AV.toPV (nth (Blk.box []) r.snd 2).toCs) 0).toInt,
                            AV.int IntKind.i64
                              (nth PV.nilp
                                  (List.map AV.toPV (nth (Blk.box []) r.snd 2).toCs) 1).toInt,
                            AV.int IntKind.i64
                              (nth PV.nilp
                                  (List.map AV.toPV (nth (Blk.box []) r.snd 2).toCs) 2).toInt]] }))
              (lp E F 50 3
                [AV.undef,
                  AV.fn 43 [TV.ptr 0 0, TV.ptr 1 0, TV.ptr 2 0]]
                0
                { vals := [AV.sl 1 s0, AV.int IntKind.i64 x7, AV.int IntKind.i64 (IntKind.i64.wrap (x8 + 1))],
                  blks :=
                    [Blk.box
                        [AV.int IntKind.i64
                            (nth PV.nilp
                                (List.map AV.toPV (nth (Blk.box []) r.snd 0).toCs) 0).toInt],
                      Blk.box
                        [AV.sl 3
                            (nth PV.nilp
                                (List.map AV.toPV (nth (Blk.box []) r.snd 1).toCs) 0).toEs,
                          AV.sl 1
                            (nth PV.nilp
                                (List.map AV.toPV (nth (Blk.box []) r.snd 1).toCs) 1).toEs],
                      Blk.box
                        [AV.int IntKind.i64
                            (nth PV.nilp
                                (List.map AV.toPV (nth (Blk.box []) r.snd 2).toCs) 0).toInt,
                          AV.int IntKind.i64
                            (nth PV.nilp
                                (List.map AV.toPV (nth (Blk.box []) r.snd 2).toCs) 1).toInt,
                          AV.int IntKind.i64
                            (nth PV.nilp
                                (List.map AV.toPV (nth (Blk.box []) r.snd 2).toCs) 2).toInt]] }))
            Option.none)
        Option.none)
    (Option.some
      (Ex.exit 0,
        { vals := [],
          blks :=
            [Blk.box [AV.int IntKind.i64 b0_0],
              Blk.box [AV.sl 3 b1_0, AV.sl 1 b1_1],
              Blk.box
                [AV.int IntKind.i64 b2_0, AV.int IntKind.i64 b2_1, AV.int IntKind.i64 b2_2]] })) := (lp_unfold ..).trans (by kernel_rfl)

/-- slices.IndexFunc[[]int,int], the loop of block 0 -/
theorem r50_0e (F : Fun) (s0 : List (List PV)) (x7 : Int) (x8 : Int) (b0_0 : List (List PV)) : lp E F 50 1 [AV.undef, AV.fn 51 [TV.ptr 0 0]] 0
  { vals := [AV.sl 1 s0, AV.int IntKind.i64 x7, AV.int IntKind.i64 x8],
    blks := [Blk.box [AV.sl 1 b0_0]] } =
  ctl (ltB x8 x7)
    (getE s0 x8 fun (c : List PV) =>
      ctl (okCs [Sh.int IntKind.i64] c)
        (bnd
          (F 51
            [AV.int IntKind.i64 (nth PV.nilp c 0).toInt,
              AV.t (TV.ptr 0 0)]
            [Blk.box [AV.sl 1 b0_0]])
          fun (r : Res) =>
          ctl
            (okR [RSh.one Sh.bool] r.fst &&
              okB [Sum.inl [Sh.sl 1]] r.snd)
            (ctl (nth (RV.p PV.nilp) r.fst 0).toPV.toBool
              (Option.some
                (Ex.ret,
                  { vals := [AV.int IntKind.i64 x8],
                    blks :=
                      [Blk.box
                          [AV.sl 1
                              (nth PV.nilp
                                  (List.map AV.toPV (nth (Blk.box []) r.snd 0).toCs) 0).toEs]] }))
              (lp E F 50 1 [AV.undef, AV.fn 51 [TV.ptr 0 0]] 0
                { vals := [AV.sl 1 s0, AV.int IntKind.i64 x7, AV.int IntKind.i64 (IntKind.i64.wrap (x8 + 1))],
                  blks :=
                    [Blk.box
                        [AV.sl 1
                            (nth PV.nilp
                                (List.map AV.toPV (nth (Blk.box []) r.snd 0).toCs) 0).toEs]] }))
            Option.none)
        Option.none)
    (Option.some (Ex.exit 0, { vals := [], blks := [Blk.box [AV.sl 1 b0_0]] })) := (lp_unfold ..).trans (by kernel_rfl)

/-- slices.IndexFunc[[]int,int] -/
theorem r50a (F : Fun) (s : List (List PV)) (q0 : List (List PV)) (q1 : List (List PV)) : funK E F 50 [AV.sl 1 s, AV.bnd 44 [PV.sl 3 q0, PV.sl 1 q1]] [] =
  ctl
    (Bool.true &&
        (eqAV (AV.bnd 44 [PV.sl 3 q0, PV.sl 1 q1])
            (AV.bnd 44 [PV.sl 3 q0, PV.sl 1 q1]) &&
          Bool.true) &&
      Bool.true)
    (bnd
      (lp E F 50 0
        [AV.undef, AV.bnd 44 [PV.sl 3 q0, PV.sl 1 q1]] 0
        { vals := [AV.sl 1 s, AV.int IntKind.i64 (↑s.length : Int), AV.int IntKind.i64 0], blks := [] })
      fun (p : Ex × Pack) =>
      ctl (p.fst.eqb (Ex.exit 0)) (Option.some ([RV.p (PV.int IntKind.i64 (-1))], []))
        (ctl (p.fst.eqb Ex.ret)
          (ctl (okPack { slots := [(4, Sum.inl (Sh.int IntKind.i64))], blks := [] } p.snd)
            (Option.some
              ([RV.p (PV.int IntKind.i64 (nth AV.undef p.snd.vals 0).toPV.toInt)], []))
            Option.none)
          Option.none))
    Option.none := by kernel_rfl

/-- slices.IndexFunc[[]int,int] -/
theorem r50b (F : Fun) (s : List (List PV)) (k0_0 : Int) (k1_0 : List (List PV)) (k1_1 : List (List PV)) (k2_0 : Int) (k2_1 : Int) (k2_2 : Int) : funK E F 50 [AV.sl 1 s, AV.fn 43 [TV.ptr 0 0, TV.ptr 1 0, TV.ptr 2 0]] [Blk.box [AV.int IntKind.i64 k0_0],
  Blk.box [AV.sl 3 k1_0, AV.sl 1 k1_1],
  Blk.box [AV.int IntKind.i64 k2_0, AV.int IntKind.i64 k2_1, AV.int IntKind.i64 k2_2]] =
  bnd
    (lp E F 50 3
      [AV.undef, AV.fn 43 [TV.ptr 0 0, TV.ptr 1 0, TV.ptr 2 0]] 0
      { vals := [AV.sl 1 s, AV.int IntKind.i64 (↑s.length : Int), AV.int IntKind.i64 0],
        blks :=
          [Blk.box [AV.int IntKind.i64 k0_0],
            Blk.box [AV.sl 3 k1_0, AV.sl 1 k1_1],
            Blk.box
              [AV.int IntKind.i64 k2_0, AV.int IntKind.i64 k2_1, AV.int IntKind.i64 k2_2]] })
    fun (p : Ex × Pack) =>
    ctl (p.fst.eqb (Ex.exit 0))
      (ctl
        (okPack
          { slots := [],
            blks :=
              [Sum.inl [Sum.inl (Sh.int IntKind.i64)], Sum.inl [Sum.inl (Sh.sl 3), Sum.inl (Sh.sl 1)],
                Sum.inl [Sum.inl (Sh.int IntKind.i64), Sum.inl (Sh.int IntKind.i64), Sum.inl (Sh.int IntKind.i64)]] }
          p.snd)
        (Option.some
          ([RV.p (PV.int IntKind.i64 (-1))],
            [Blk.box
                [AV.int IntKind.i64
                    (nth AV.undef (nth (Blk.box []) p.snd.blks 0).toCs 0).toPV.toInt],
              Blk.box
                [AV.sl 3
                    (nth AV.undef (nth (Blk.box []) p.snd.blks 1).toCs 0).toPV.toEs,
                  AV.sl 1
                    (nth AV.undef (nth (Blk.box []) p.snd.blks 1).toCs 1).toPV.toEs],
              Blk.box
                [AV.int IntKind.i64
                    (nth AV.undef (nth (Blk.box []) p.snd.blks 2).toCs 0).toPV.toInt,
                  AV.int IntKind.i64
                    (nth AV.undef (nth (Blk.box []) p.snd.blks 2).toCs 1).toPV.toInt,
                  AV.int IntKind.i64
                    (nth AV.undef (nth (Blk.box []) p.snd.blks 2).toCs 2).toPV.toInt]]))
        Option.none)
      (ctl (p.fst.eqb Ex.ret)
        (ctl
          (okPack
            { slots := [(4, Sum.inl (Sh.int IntKind.i64))],
              blks :=
                [Sum.inl [Sum.inl (Sh.int IntKind.i64)], Sum.inl [Sum.inl (Sh.sl 3), Sum.inl (Sh.sl 1)],
                  Sum.inl [Sum.inl (Sh.int IntKind.i64), Sum.inl (Sh.int IntKind.i64), Sum.inl (Sh.int IntKind.i64)]] }
            p.snd)
          (Option.some
            ([RV.p (PV.int IntKind.i64 (nth AV.undef p.snd.vals 0).toPV.toInt)],
              [Blk.box
                  [AV.int IntKind.i64
                      (nth AV.undef (nth (Blk.box []) p.snd.blks 0).toCs 0).toPV.toInt],
                Blk.box
                  [AV.sl 3
                      (nth AV.undef (nth (Blk.box []) p.snd.blks 1).toCs 0).toPV.toEs,
                    AV.sl 1
                      (nth AV.undef (nth (Blk.box []) p.snd.blks 1).toCs 1).toPV.toEs],
                Blk.box
                  [AV.int IntKind.i64
                      (nth AV.undef (nth (Blk.box []) p.snd.blks 2).toCs 0).toPV.toInt,
                    AV.int IntKind.i64
                      (nth AV.undef (nth (Blk.box []) p.snd.blks 2).toCs 1).toPV.toInt,
                    AV.int IntKind.i64
                      (nth AV.undef (nth (Blk.box []) p.snd.blks 2).toCs 2).toPV.toInt]]))
          Option.none)
        Option.none) := by kernel_rfl

/-- slices.IndexFunc[[]int,int] -/
theorem r50e (F : Fun) (s : List (List PV)) (k0_0 : List (List PV)) : funK E F 50 [AV.sl 1 s, AV.fn 51 [TV.ptr 0 0]] [Blk.box [AV.sl 1 k0_0]] =
  bnd
    (lp E F 50 1 [AV.undef, AV.fn 51 [TV.ptr 0 0]] 0
      { vals := [AV.sl 1 s, AV.int IntKind.i64 (↑s.length : Int), AV.int IntKind.i64 0],
        blks := [Blk.box [AV.sl 1 k0_0]] })
    fun (p : Ex × Pack) =>
    ctl (p.fst.eqb (Ex.exit 0))
      (ctl (okPack { slots := [], blks := [Sum.inl [Sum.inl (Sh.sl 1)]] } p.snd)
        (Option.some
          ([RV.p (PV.int IntKind.i64 (-1))],
            [Blk.box
                [AV.sl 1
                    (nth AV.undef (nth (Blk.box []) p.snd.blks 0).toCs 0).toPV.toEs]]))
        Option.none)
      (ctl (p.fst.eqb Ex.ret)
        (ctl
          (okPack { slots := [(4, Sum.inl (Sh.int IntKind.i64))], blks := [Sum.inl [Sum.inl (Sh.sl 1)]] } p.snd)
          (Option.some
            ([RV.p (PV.int IntKind.i64 (nth AV.undef p.snd.vals 0).toPV.toInt)],
              [Blk.box
                  [AV.sl 1
                      (nth AV.undef (nth (Blk.box []) p.snd.blks 0).toCs 0).toPV.toEs]]))
          Option.none)
        Option.none) := by kernel_rfl

/-- (dynpos/failover.party).elect$1 -/
theorem r51 (F : Fun) (c : Int) (k0_0 : List (List PV)) : funK E F 51 [AV.int IntKind.i64 c, AV.t (TV.ptr 0 0)] [Blk.box [AV.sl 1 k0_0]] =
  bnd (F 52 [AV.sl 1 k0_0, AV.int IntKind.i64 c] []) fun (r : Res) =>
    ctl (okR [RSh.one Sh.bool] r.fst && okB [] r.snd)
      (Option.some
        ([RV.p (PV.bool (nth (RV.p PV.nilp) r.fst 0).toPV.toBool)],
          [Blk.box [AV.sl 1 k0_0]]))
      Option.none := by kernel_rfl

/-- slices.Contains[[]int,int] -/
theorem r52 (F : Fun) (s : List (List PV)) (v : Int) : funK E F 52 [AV.sl 1 s, AV.int IntKind.i64 v] [] =
  bnd (F 63 [AV.sl 1 s, AV.int IntKind.i64 v] []) fun (r : Res) =>
    ctl
      (okR [RSh.one (Sh.int IntKind.i64)] r.fst && okB [] r.snd)
      (Option.some
        ([RV.p
              (PV.bool
                (leB 0 (nth (RV.p PV.nilp) r.fst 0).toPV.toInt))],
          []))
      Option.none := by kernel_rfl

/-- slices.Clone[[]int,int] -/
theorem r53c (F : Fun) (e : List PV) (l : List (List PV)) : funK E F 53 [AV.sl 1 (e :: l)] [] =
  ctl (leN ((0 + (e :: l).length) * 8) 140737488355328) (Option.some ([RV.own 1 ([] ++ e :: l)], [])) Option.none := by kernel_rfl

/-- dynpos/dynposref33.in -/
theorem r54 (F : Fun) (x : Int) (low : Int) (high : Int) : funK E F 54 [AV.int IntKind.i64 x, AV.int IntKind.i64 low, AV.int IntKind.i64 high] [] =
  bnd (ctl (leB low x) (Option.some (leB x high)) (Option.some Bool.false)) fun (v : Bool) =>
    Option.some ([RV.p (PV.bool v)], []) := by kernel_rfl

/-- dynpos/dynposref33.before -/
theorem r55 (F : Fun) (l : List (List PV)) (reach : List (List PV)) (time : Int) (timeout : Int) : funK E F 55 [AV.sl 3 l, AV.sl 1 reach, AV.int IntKind.i64 time, AV.int IntKind.i64 timeout] [] =
  bnd (F 64 [AV.sl 3 l, AV.int IntKind.i64 time] []) fun (r : Res) =>
    ctl
      (okR [RSh.one (Sh.int IntKind.i64)] r.fst && okB [] r.snd)
      (ctl ((nth (RV.p PV.nilp) r.fst 0).toPV.toInt != 0)
        (Option.some
          ([RV.p
                (PV.int IntKind.i64 (nth (RV.p PV.nilp) r.fst 0).toPV.toInt)],
            []))
        (bnd (F 65 [AV.sl 1 reach, AV.int IntKind.i64 (↑l.length : Int)] []) fun (r : Res) =>
          ctl (okR [RSh.one Sh.bool] r.fst && okB [] r.snd)
            (ctl (!(nth (RV.p PV.nilp) r.fst 0).toPV.toBool)
              (Option.some ([RV.p (PV.int IntKind.i64 8)], []))
              (bnd
                (F 54 [AV.int IntKind.i64 time, AV.int IntKind.i64 0, AV.int IntKind.i64 2147483648] [])
                fun (r : Res) =>
                ctl (okR [RSh.one Sh.bool] r.fst && okB [] r.snd)
                  (bnd
                    (ctl (!!(nth (RV.p PV.nilp) r.fst 0).toPV.toBool)
                      (bnd
                        (F 54 [AV.int IntKind.i64 timeout, AV.int IntKind.i64 0, AV.int IntKind.i64 600] [])
                        fun (r : Res) =>
                        ctl
                          (okR [RSh.one Sh.bool] r.fst && okB [] r.snd)
                          (Option.some !(nth (RV.p PV.nilp) r.fst 0).toPV.toBool) Option.none)
                      (Option.some Bool.true))
                    fun (v : Bool) =>
                    ctl v (Option.some ([RV.p (PV.int IntKind.i64 1)], []))
                      (Option.some ([RV.p (PV.int IntKind.i64 0)], [])))
                  Option.none))
            Option.none))
      Option.none := by kernel_rfl

/-- dynpos/dynposref33.Heard, the loop of block 0 -/
theorem r56_0 (F : Fun) (reach1 : List (List PV)) (i2 : Int) (x33 : List (List PV)) (x34 : Int) (x35 : Int) (c0 : List (List PV)) : lp E F 56 0 [] 0
  {
    vals :=
      [AV.sl 1 reach1, AV.int IntKind.i64 i2, AV.sl 3 x33, AV.int IntKind.i64 x34,
        AV.int IntKind.i64 x35],
    blks := [Blk.arr 1 c0] } =
  ctl (ltB x35 x34)
    (getE x33 x35 fun (c : List PV) =>
      ctl
        (okCs [Sh.int IntKind.i64, Sh.int IntKind.i64, Sh.int IntKind.i64] c)
        (bnd
          (ctl ((nth PV.nilp c 0).toInt != 2)
            (ctl (!x35 == i2)
              (getE reach1 i2 fun (c : List PV) =>
                ctl (okCs [Sh.sl 1] c)
                  (getE (nth PV.nilp c 0).toEs x35 fun (c : List PV) =>
                    ctl (okCs [Sh.bool] c)
                      (ctl (!(nth PV.nilp c 0).toBool)
                        (getE reach1 x35 fun (c : List PV) =>
                          ctl (okCs [Sh.sl 1] c)
                            (getE (nth PV.nilp c 0).toEs i2 fun (c : List PV) =>
                              ctl (okCs [Sh.bool] c)
                                (Option.some (nth PV.nilp c 0).toBool) Option.none)
                            Option.none)
                        (Option.some Bool.true))
                      Option.none)
                  Option.none)
              (Option.some Bool.true))
            (Option.some Bool.false))
          fun (v : Bool) =>
          ctl v
            (ctl (leN ((c0.length + 1) * 8) 140737488355328)
              (lp E F 56 0 [] 0
                {
                  vals :=
                    [AV.sl 1 reach1, AV.int IntKind.i64 i2, AV.sl 3 x33,
                      AV.int IntKind.i64 x34, AV.int IntKind.i64 (IntKind.i64.wrap (x35 + 1))],
                  blks := [Blk.arr 1 (c0 ++ [[PV.int IntKind.i64 x35]])] })
              Option.none)
            (lp E F 56 0 [] 0
              {
                vals :=
                  [AV.sl 1 reach1, AV.int IntKind.i64 i2, AV.sl 3 x33,
                    AV.int IntKind.i64 x34, AV.int IntKind.i64 (IntKind.i64.wrap (x35 + 1))],
                blks := [Blk.arr 1 c0] }))
        Option.none)
    (Option.some (Ex.exit 0, { vals := [], blks := [Blk.arr 1 c0] })) := (lp_unfold ..).trans (by kernel_rfl)

/-- dynpos/dynposref33.Heard -/
theorem r56 (F : Fun) (l : List (List PV)) (reach : List (List PV)) (i : Int) : funK E F 56 [AV.sl 3 l, AV.sl 1 reach, AV.int IntKind.i64 i] [] =
  bnd (ctl (!ltB i 0) (Option.some (leB (↑l.length : Int) i)) (Option.some Bool.true))
    fun (v : Bool) =>
    bnd
      (ctl (!v)
        (bnd (F 65 [AV.sl 1 reach, AV.int IntKind.i64 (↑l.length : Int)] []) fun (r : Res) =>
          ctl (okR [RSh.one Sh.bool] r.fst && okB [] r.snd)
            (Option.some !(nth (RV.p PV.nilp) r.fst 0).toPV.toBool) Option.none)
        (Option.some Bool.true))
      fun (v : Bool) =>
      bnd
        (ctl (!v)
          (getE l i fun (c : List PV) =>
            ctl
              (okCs [Sh.int IntKind.i64, Sh.int IntKind.i64, Sh.int IntKind.i64] c)
              (Option.some ((nth PV.nilp c 0).toInt == 2)) Option.none)
          (Option.some Bool.true))
        fun (v : Bool) =>
        ctl v (Option.some ([RV.p (PV.sl 1 [])], []))
          (bnd
            (lp E F 56 0 [] 0
              {
                vals :=
                  [AV.sl 1 reach, AV.int IntKind.i64 i, AV.sl 3 l,
                    AV.int IntKind.i64 (↑l.length : Int), AV.int IntKind.i64 0],
                blks := [Blk.arr 1 []] })
            fun (p : Ex × Pack) =>
            ctl (p.fst.eqb (Ex.exit 0))
              (ctl
                (okPack { slots := [(7, Sum.inr (Sum.inr (AV.t (TV.hsl 0))))], blks := [Sum.inr 1] } p.snd)
                (Option.some ([RV.p (PV.sl 1 (nth (Blk.box []) p.snd.blks 0).toEs)], []))
                Option.none)
              Option.none) := by kernel_rfl

/-- dynpos/dynposref33.majority -/
theorem r57 (F : Fun) (l : List (List PV)) (n : Int) : funK E F 57 [AV.sl 3 l, AV.int IntKind.i64 n] [] =
  Option.some ([RV.p (PV.bool (ltB (↑l.length : Int) (IntKind.i64.wrap (2 * n))))], []) := by kernel_rfl

/-- dynpos/dynposref33.hears, the loop of block 0 -/
theorem r58_0 (F : Fun) (l0 : List (List PV)) (x12 : List (List PV)) (x13 : Int) (x14 : Int) : lp E F 58 0 [] 0
  { vals := [AV.sl 3 l0, AV.sl 1 x12, AV.int IntKind.i64 x13, AV.int IntKind.i64 x14],
    blks := [] } =
  ctl (ltB x14 x13)
    (getE x12 x14 fun (c : List PV) =>
      ctl (okCs [Sh.int IntKind.i64] c)
        (getE l0 (nth PV.nilp c 0).toInt fun (c : List PV) =>
          ctl
            (okCs [Sh.int IntKind.i64, Sh.int IntKind.i64, Sh.int IntKind.i64] c)
            (ctl ((nth PV.nilp c 0).toInt == 1)
              (Option.some (Ex.ret, { vals := [AV.bool Bool.true], blks := [] }))
              (lp E F 58 0 [] 0
                {
                  vals :=
                    [AV.sl 3 l0, AV.sl 1 x12, AV.int IntKind.i64 x13,
                      AV.int IntKind.i64 (IntKind.i64.wrap (x14 + 1))],
                  blks := [] }))
            Option.none)
        Option.none)
    (Option.some (Ex.exit 0, { vals := [], blks := [] })) := (lp_unfold ..).trans (by kernel_rfl)

/-- dynpos/dynposref33.hears -/
theorem r58 (F : Fun) (l : List (List PV)) (reach : List (List PV)) (i : Int) : funK E F 58 [AV.sl 3 l, AV.sl 1 reach, AV.int IntKind.i64 i] [] =
  bnd (F 56 [AV.sl 3 l, AV.sl 1 reach, AV.int IntKind.i64 i] [])
    fun (r : Res) =>
    ctl (okR [RSh.one (Sh.sl 1)] r.fst && okB [] r.snd)
      (bnd
        (lp E F 58 0 [] 0
          {
            vals :=
              [AV.sl 3 l,
                AV.sl 1 (nth (RV.p PV.nilp) r.fst 0).toPV.toEs,
                AV.int IntKind.i64 (↑(nth (RV.p PV.nilp) r.fst 0).toPV.toEs.length : Int),
                AV.int IntKind.i64 0],
            blks := [] })
        fun (p : Ex × Pack) =>
        ctl (p.fst.eqb (Ex.exit 0)) (Option.some ([RV.p (PV.bool Bool.false)], []))
          (ctl (p.fst.eqb Ex.ret)
            (ctl (okPack { slots := [(6, Sum.inl Sh.bool)], blks := [] } p.snd)
              (Option.some ([RV.p (PV.bool (nth AV.undef p.snd.vals 0).toPV.toBool)], []))
              Option.none)
            Option.none))
      Option.none := by kernel_rfl

/-- dynpos/dynposref33.candidates, the loop of block 0 -/
theorem r59_0 (F : Fun) (l0 : List (List PV)) (reach1 : List (List PV)) (time2 : Int) (timeout3 : Int) (x12 : List (List PV)) (x13 : Int) (x14 : Int) (c0 : List (List PV)) : lp E F 59 0 [] 0
  {
    vals :=
      [AV.sl 3 l0, AV.sl 1 reach1, AV.int IntKind.i64 time2, AV.int IntKind.i64 timeout3,
        AV.sl 3 x12, AV.int IntKind.i64 x13, AV.int IntKind.i64 x14],
    blks := [Blk.arr 1 c0] } =
  ctl (ltB x14 x13)
    (getE x12 x14 fun (c : List PV) =>
      ctl
        (okCs [Sh.int IntKind.i64, Sh.int IntKind.i64, Sh.int IntKind.i64] c)
        (ctl ((nth PV.nilp c 0).toInt == 0)
          (bnd (F 56 [AV.sl 3 l0, AV.sl 1 reach1, AV.int IntKind.i64 x14] [])
            fun (r : Res) =>
            ctl (okR [RSh.one (Sh.sl 1)] r.fst && okB [] r.snd)
              (bnd
                (bnd
                  (F 57
                    [AV.sl 3 l0,
                      AV.int IntKind.i64
                        (↑(nth (RV.p PV.nilp) r.fst 0).toPV.toEs.length : Int)]
                    [])
                  fun (r : Res) =>
                  ctl (okR [RSh.one Sh.bool] r.fst && okB [] r.snd)
                    (Option.some (nth (RV.p PV.nilp) r.fst 0).toPV.toBool) Option.none)
                fun (v : Bool) =>
                bnd
                  (ctl v
                    (bnd (F 58 [AV.sl 3 l0, AV.sl 1 reach1, AV.int IntKind.i64 x14] [])
                      fun (r : Res) =>
                      ctl
                        (okR [RSh.one Sh.bool] r.fst && okB [] r.snd)
                        (Option.some !(nth (RV.p PV.nilp) r.fst 0).toPV.toBool) Option.none)
                    (Option.some Bool.false))
                  fun (v : Bool) =>
                  bnd
                    (ctl v
                      (Option.some (leB timeout3 (IntKind.i64.wrap (time2 - (nth PV.nilp c 2).toInt))))
                      (Option.some Bool.false))
                    fun (v : Bool) =>
                    ctl v
                      (ctl (leN ((c0.length + 1) * 8) 140737488355328)
                        (lp E F 59 0 [] 0
                          {
                            vals :=
                              [AV.sl 3 l0, AV.sl 1 reach1, AV.int IntKind.i64 time2,
                                AV.int IntKind.i64 timeout3, AV.sl 3 x12, AV.int IntKind.i64 x13,
                                AV.int IntKind.i64 (IntKind.i64.wrap (x14 + 1))],
                            blks := [Blk.arr 1 (c0 ++ [[PV.int IntKind.i64 x14]])] })
                        Option.none)
                      (lp E F 59 0 [] 0
                        {
                          vals :=
                            [AV.sl 3 l0, AV.sl 1 reach1, AV.int IntKind.i64 time2,
                              AV.int IntKind.i64 timeout3, AV.sl 3 x12, AV.int IntKind.i64 x13,
                              AV.int IntKind.i64 (IntKind.i64.wrap (x14 + 1))],
                          blks := [Blk.arr 1 c0] }))
              Option.none)
          (lp E F 59 0 [] 0
            {
              vals :=
                [AV.sl 3 l0, AV.sl 1 reach1, AV.int IntKind.i64 time2,
                  AV.int IntKind.i64 timeout3, AV.sl 3 x12, AV.int IntKind.i64 x13,
                  AV.int IntKind.i64 (IntKind.i64.wrap (x14 + 1))],
              blks := [Blk.arr 1 c0] }))
        Option.none)
    (Option.some (Ex.exit 0, { vals := [], blks := [Blk.arr 1 c0] })) := (lp_unfold ..).trans (by kernel_rfl)

/-- dynpos/dynposref33.candidates -/
theorem r59 (F : Fun) (l : List (List PV)) (reach : List (List PV)) (time : Int) (timeout : Int) : funK E F 59 [AV.sl 3 l, AV.sl 1 reach, AV.int IntKind.i64 time, AV.int IntKind.i64 timeout] [] =
  bnd
    (lp E F 59 0 [] 0
      {
        vals :=
          [AV.sl 3 l, AV.sl 1 reach, AV.int IntKind.i64 time, AV.int IntKind.i64 timeout,
            AV.sl 3 l, AV.int IntKind.i64 (↑l.length : Int), AV.int IntKind.i64 0],
        blks := [Blk.arr 1 []] })
    fun (p : Ex × Pack) =>
    ctl (p.fst.eqb (Ex.exit 0))
      (ctl
        (okPack { slots := [(9, Sum.inr (Sum.inr (AV.t (TV.hsl 0))))], blks := [Sum.inr 1] } p.snd)
        (Option.some ([RV.p (PV.sl 1 (nth (Blk.box []) p.snd.blks 0).toEs)], [])) Option.none)
      Option.none := by kernel_rfl

/-- dynpos/dynposref33.has, the loop of block 0 -/
theorem r60_0 (F : Fun) (x1 : Int) (x7 : List (List PV)) (x8 : Int) (x9 : Int) : lp E F 60 0 [] 0
  {
    vals :=
      [AV.int IntKind.i64 x1, AV.sl 1 x7, AV.int IntKind.i64 x8,
        AV.int IntKind.i64 x9],
    blks := [] } =
  ctl (ltB x9 x8)
    (getE x7 x9 fun (c : List PV) =>
      ctl (okCs [Sh.int IntKind.i64] c)
        (ctl ((nth PV.nilp c 0).toInt == x1)
          (Option.some (Ex.ret, { vals := [AV.bool Bool.true], blks := [] }))
          (lp E F 60 0 [] 0
            {
              vals :=
                [AV.int IntKind.i64 x1, AV.sl 1 x7, AV.int IntKind.i64 x8,
                  AV.int IntKind.i64 (IntKind.i64.wrap (x9 + 1))],
              blks := [] }))
        Option.none)
    (Option.some (Ex.exit 0, { vals := [], blks := [] })) := (lp_unfold ..).trans (by kernel_rfl)

/-- dynpos/dynposref33.has -/
theorem r60 (F : Fun) (l : List (List PV)) (x : Int) : funK E F 60 [AV.sl 1 l, AV.int IntKind.i64 x] [] =
  bnd
    (lp E F 60 0 [] 0
      {
        vals :=
          [AV.int IntKind.i64 x, AV.sl 1 l, AV.int IntKind.i64 (↑l.length : Int),
            AV.int IntKind.i64 0],
        blks := [] })
    fun (p : Ex × Pack) =>
    ctl (p.fst.eqb (Ex.exit 0)) (Option.some ([RV.p (PV.bool Bool.false)], []))
      (ctl (p.fst.eqb Ex.ret)
        (ctl (okPack { slots := [(4, Sum.inl Sh.bool)], blks := [] } p.snd)
          (Option.some ([RV.p (PV.bool (nth AV.undef p.snd.vals 0).toPV.toBool)], []))
          Option.none)
        Option.none) := by kernel_rfl

/-- slices.ContainsFunc[[][]bool,[]bool] -/
theorem r61a (F : Fun) (s : List (List PV)) (k0_0 : List (List PV)) : funK E F 61 [AV.sl 1 s, AV.fn 62 [TV.ptr 0 0]] [Blk.box [AV.sl 3 k0_0]] =
  bnd
    (F 66 [AV.sl 1 s, AV.fn 62 [TV.ptr 0 0]]
      [Blk.box [AV.sl 3 k0_0]])
    fun (r : Res) =>
    ctl
      (okR [RSh.one (Sh.int IntKind.i64)] r.fst &&
        okB [Sum.inl [Sh.sl 3]] r.snd)
      (Option.some
        ([RV.p
              (PV.bool
                (leB 0 (nth (RV.p PV.nilp) r.fst 0).toPV.toInt))],
          [Blk.box
              [AV.sl 3
                  (nth PV.nilp
                      (List.map AV.toPV (nth (Blk.box []) r.snd 0).toCs) 0).toEs]]))
      Option.none := by kernel_rfl

/-- dynpos/failover.shaped$1 -/
theorem r62 (F : Fun) (row : List (List PV)) (k0_0 : List (List PV)) : funK E F 62 [AV.sl 1 row, AV.t (TV.ptr 0 0)] [Blk.box [AV.sl 3 k0_0]] =
  Option.some
    ([RV.p (PV.bool ((↑row.length : Int) != (↑k0_0.length : Int)))], [Blk.box [AV.sl 3 k0_0]]) := by kernel_rfl

/-- slices.Index[[]int,int], the loop of block 0 -/
theorem r63_0 (F : Fun) (s0 : List (List PV)) (v1 : Int) (x7 : Int) (x8 : Int) : lp E F 63 0 [] 0
  {
    vals :=
      [AV.sl 1 s0, AV.int IntKind.i64 v1, AV.int IntKind.i64 x7,
        AV.int IntKind.i64 x8],
    blks := [] } =
  ctl (ltB x8 x7)
    (getE s0 x8 fun (c : List PV) =>
      ctl (okCs [Sh.int IntKind.i64] c)
        (ctl (v1 == (nth PV.nilp c 0).toInt)
          (Option.some (Ex.ret, { vals := [AV.int IntKind.i64 x8], blks := [] }))
          (lp E F 63 0 [] 0
            {
              vals :=
                [AV.sl 1 s0, AV.int IntKind.i64 v1, AV.int IntKind.i64 x7,
                  AV.int IntKind.i64 (IntKind.i64.wrap (x8 + 1))],
              blks := [] }))
        Option.none)
    (Option.some (Ex.exit 0, { vals := [], blks := [] })) := (lp_unfold ..).trans (by kernel_rfl)

/-- slices.Index[[]int,int] -/
theorem r63 (F : Fun) (s : List (List PV)) (v : Int) : funK E F 63 [AV.sl 1 s, AV.int IntKind.i64 v] [] =
  bnd
    (lp E F 63 0 [] 0
      {
        vals :=
          [AV.sl 1 s, AV.int IntKind.i64 v, AV.int IntKind.i64 (↑s.length : Int),
            AV.int IntKind.i64 0],
        blks := [] })
    fun (p : Ex × Pack) =>
    ctl (p.fst.eqb (Ex.exit 0)) (Option.some ([RV.p (PV.int IntKind.i64 (-1))], []))
      (ctl (p.fst.eqb Ex.ret)
        (ctl (okPack { slots := [(4, Sum.inl (Sh.int IntKind.i64))], blks := [] } p.snd)
          (Option.some
            ([RV.p (PV.int IntKind.i64 (nth AV.undef p.snd.vals 0).toPV.toInt)], []))
          Option.none)
        Option.none) := by kernel_rfl

/-- dynpos/dynposref33.Check, the loop of block 0 -/
theorem r64_0 (F : Fun) (time1 : Int) (x11 : List (List PV)) (x12 : Int) (x13 : Int) : lp E F 64 0 [] 0
  {
    vals :=
      [AV.int IntKind.i64 time1, AV.sl 3 x11, AV.int IntKind.i64 x12,
        AV.int IntKind.i64 x13],
    blks := [] } =
  ctl (ltB x13 x12)
    (getE x11 x13 fun (c : List PV) =>
      ctl
        (okCs [Sh.int IntKind.i64, Sh.int IntKind.i64, Sh.int IntKind.i64] c)
        (bnd
          (F 54
            [AV.int IntKind.i64 (nth PV.nilp c 0).toInt, AV.int IntKind.i64 0,
              AV.int IntKind.i64 2]
            [])
          fun (r : Res) =>
          ctl (okR [RSh.one Sh.bool] r.fst && okB [] r.snd)
            (bnd
              (ctl (!!(nth (RV.p PV.nilp) r.fst 0).toPV.toBool)
                (bnd
                  (F 54
                    [AV.int IntKind.i64 (nth PV.nilp c 1).toInt, AV.int IntKind.i64 0,
                      AV.int IntKind.i64 2147483648]
                    [])
                  fun (r : Res) =>
                  ctl (okR [RSh.one Sh.bool] r.fst && okB [] r.snd)
                    (Option.some !(nth (RV.p PV.nilp) r.fst 0).toPV.toBool) Option.none)
                (Option.some Bool.true))
              fun (v : Bool) =>
              bnd
                (ctl (!v)
                  (bnd
                    (F 54
                      [AV.int IntKind.i64 (nth PV.nilp c 2).toInt, AV.int IntKind.i64 0,
                        AV.int IntKind.i64 time1]
                      [])
                    fun (r : Res) =>
                    ctl
                      (okR [RSh.one Sh.bool] r.fst && okB [] r.snd)
                      (Option.some !(nth (RV.p PV.nilp) r.fst 0).toPV.toBool) Option.none)
                  (Option.some Bool.true))
                fun (v : Bool) =>
                ctl v (Option.some (Ex.ret, { vals := [AV.int IntKind.i64 1], blks := [] }))
                  (lp E F 64 0 [] 0
                    {
                      vals :=
                        [AV.int IntKind.i64 time1, AV.sl 3 x11, AV.int IntKind.i64 x12,
                          AV.int IntKind.i64 (IntKind.i64.wrap (x13 + 1))],
                      blks := [] }))
            Option.none)
        Option.none)
    (Option.some (Ex.exit 0, { vals := [], blks := [] })) := (lp_unfold ..).trans (by kernel_rfl)

/-- dynpos/dynposref33.Check -/
theorem r64 (F : Fun) (l : List (List PV)) (time : Int) : funK E F 64 [AV.sl 3 l, AV.int IntKind.i64 time] [] =
  bnd
    (F 54 [AV.int IntKind.i64 (↑l.length : Int), AV.int IntKind.i64 1, AV.int IntKind.i64 5] [])
    fun (r : Res) =>
    ctl (okR [RSh.one Sh.bool] r.fst && okB [] r.snd)
      (ctl (!(nth (RV.p PV.nilp) r.fst 0).toPV.toBool)
        (Option.some ([RV.p (PV.int IntKind.i64 2)], []))
        (bnd
          (lp E F 64 0 [] 0
            {
              vals :=
                [AV.int IntKind.i64 time, AV.sl 3 l, AV.int IntKind.i64 (↑l.length : Int),
                  AV.int IntKind.i64 0],
              blks := [] })
          fun (p : Ex × Pack) =>
          ctl (p.fst.eqb (Ex.exit 0)) (Option.some ([RV.p (PV.int IntKind.i64 0)], []))
            (ctl (p.fst.eqb Ex.ret)
              (ctl (okPack { slots := [(4, Sum.inl (Sh.int IntKind.i64))], blks := [] } p.snd)
                (Option.some
                  ([RV.p (PV.int IntKind.i64 (nth AV.undef p.snd.vals 0).toPV.toInt)], []))
                Option.none)
              Option.none)))
      Option.none := by kernel_rfl

/-- dynpos/dynposref33.square, the loop of block 0 -/
theorem r65_0 (F : Fun) (n1 : Int) (x11 : List (List PV)) (x12 : Int) (x13 : Int) : lp E F 65 0 [] 0
  {
    vals :=
      [AV.int IntKind.i64 n1, AV.sl 1 x11, AV.int IntKind.i64 x12,
        AV.int IntKind.i64 x13],
    blks := [] } =
  ctl (ltB x13 x12)
    (getE x11 x13 fun (c : List PV) =>
      ctl (okCs [Sh.sl 1] c)
        (ctl ((↑(nth PV.nilp c 0).toEs.length : Int) != n1)
          (Option.some (Ex.ret, { vals := [AV.bool Bool.false], blks := [] }))
          (lp E F 65 0 [] 0
            {
              vals :=
                [AV.int IntKind.i64 n1, AV.sl 1 x11, AV.int IntKind.i64 x12,
                  AV.int IntKind.i64 (IntKind.i64.wrap (x13 + 1))],
              blks := [] }))
        Option.none)
    (Option.some (Ex.exit 0, { vals := [], blks := [] })) := (lp_unfold ..).trans (by kernel_rfl)

/-- dynpos/dynposref33.square -/
theorem r65 (F : Fun) (reach : List (List PV)) (n : Int) : funK E F 65 [AV.sl 1 reach, AV.int IntKind.i64 n] [] =
  ctl ((↑reach.length : Int) != n) (Option.some ([RV.p (PV.bool Bool.false)], []))
    (bnd
      (lp E F 65 0 [] 0
        {
          vals :=
            [AV.int IntKind.i64 n, AV.sl 1 reach, AV.int IntKind.i64 (↑reach.length : Int),
              AV.int IntKind.i64 0],
          blks := [] })
      fun (p : Ex × Pack) =>
      ctl (p.fst.eqb (Ex.exit 0)) (Option.some ([RV.p (PV.bool Bool.true)], []))
        (ctl (p.fst.eqb Ex.ret)
          (ctl (okPack { slots := [(4, Sum.inl Sh.bool)], blks := [] } p.snd)
            (Option.some ([RV.p (PV.bool (nth AV.undef p.snd.vals 0).toPV.toBool)], []))
            Option.none)
          Option.none)) := by kernel_rfl

/-- slices.IndexFunc[[][]bool,[]bool], the loop of block 0 -/
theorem r66_0a (F : Fun) (s0 : List (List PV)) (x7 : Int) (x8 : Int) (b0_0 : List (List PV)) : lp E F 66 1 [AV.undef, AV.fn 62 [TV.ptr 0 0]] 0
  { vals := [AV.sl 1 s0, AV.int IntKind.i64 x7, AV.int IntKind.i64 x8],
    blks := [Blk.box [AV.sl 3 b0_0]] } =
  ctl (ltB x8 x7)
    (getE s0 x8 fun (c : List PV) =>
      ctl (okCs [Sh.sl 1] c)
        (bnd
          (F 62 [AV.sl 1 (nth PV.nilp c 0).toEs, AV.t (TV.ptr 0 0)]
            [Blk.box [AV.sl 3 b0_0]])
          fun (r : Res) =>
          ctl
            (okR [RSh.one Sh.bool] r.fst &&
              okB [Sum.inl [Sh.sl 3]] r.snd)
            (ctl (nth (RV.p PV.nilp) r.fst 0).toPV.toBool
              (Option.some
                (Ex.ret,
                  { vals := [AV.int IntKind.i64 x8],
                    blks :=
                      [Blk.box
                          [AV.sl 3
                              (nth PV.nilp
                                  (List.map AV.toPV (nth (Blk.box []) r.snd 0).toCs) 0).toEs]] }))
              (lp E F 66 1 [AV.undef, AV.fn 62 [TV.ptr 0 0]] 0
                { vals := [AV.sl 1 s0, AV.int IntKind.i64 x7, AV.int IntKind.i64 (IntKind.i64.wrap (x8 + 1))],
                  blks :=
                    [Blk.box
                        [AV.sl 3
                            (nth PV.nilp
                                (List.map AV.toPV (nth (Blk.box []) r.snd 0).toCs) 0).toEs]] }))
            Option.none)
        Option.none)
    (Option.some (Ex.exit 0, { vals := [], blks := [Blk.box [AV.sl 3 b0_0]] })) := (lp_unfold ..).trans (by kernel_rfl)

/-- slices.IndexFunc[[][]bool,[]bool] -/
theorem r66a (F : Fun) (s : List (List PV)) (k0_0 : List (List PV)) : funK E F 66 [AV.sl 1 s, AV.fn 62 [TV.ptr 0 0]] [Blk.box [AV.sl 3 k0_0]] =
  bnd
    (lp E F 66 1 [AV.undef, AV.fn 62 [TV.ptr 0 0]] 0
      { vals := [AV.sl 1 s, AV.int IntKind.i64 (↑s.length : Int), AV.int IntKind.i64 0],
        blks := [Blk.box [AV.sl 3 k0_0]] })
    fun (p : Ex × Pack) =>
    ctl (p.fst.eqb (Ex.exit 0))
      (ctl (okPack { slots := [], blks := [Sum.inl [Sum.inl (Sh.sl 3)]] } p.snd)
        (Option.some
          ([RV.p (PV.int IntKind.i64 (-1))],
            [Blk.box
                [AV.sl 3
                    (nth AV.undef (nth (Blk.box []) p.snd.blks 0).toCs 0).toPV.toEs]]))
        Option.none)
      (ctl (p.fst.eqb Ex.ret)
        (ctl
          (okPack { slots := [(4, Sum.inl (Sh.int IntKind.i64))], blks := [Sum.inl [Sum.inl (Sh.sl 3)]] } p.snd)
          (Option.some
            ([RV.p (PV.int IntKind.i64 (nth AV.undef p.snd.vals 0).toPV.toInt)],
              [Blk.box
                  [AV.sl 3
                      (nth AV.undef (nth (Blk.box []) p.snd.blks 0).toCs 0).toPV.toEs]]))
          Option.none)
        Option.none) := by kernel_rfl

end Go.Proofs.Ythmhnnppikdafaa.Vm
