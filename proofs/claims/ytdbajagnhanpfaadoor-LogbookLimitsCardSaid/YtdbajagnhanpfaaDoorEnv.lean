/- The annotations of the loops, by program. Nothing is claimed here. -/
import Derived.Test.YtdbajagnhanpfaaDoorVm4
import Derived.Test.YtdbajagnhanpfaaDoorProg
import Derived.Test.YtdbajagnhanpfaaDoorPrims
namespace Go.Proofs.YtdbajagnhanpfaaDoor.Vm

/-- dynpos/dynposlaw36.LogbookSpans, the loop of block 2 -/
def la_4_2 : LAnn := ⟨⟨[(8, .inr (.inr (.t (.ptr 0 0)))), (9, .inl (.int .i64)), (11, .inl (.int .i64)), (12, .inl (.sl 3)), (16, .inr (.inr (.t (.ptr 1 0)))), (17, .inl (.int .i64)), (58, .inl (.sl 3)), (59, .inl (.int .i64)), (60, .inl (.int .i64))], [.inl [.inl (.sl 3), .inl (.int .u64)], .inl [.inl (.int .i64), .inl (.int .i64), .inl (.int .i64)]]⟩,
  [(.exit 2, ⟨[(8, .inr (.inr (.t (.ptr 0 0)))), (9, .inl (.int .i64)), (11, .inl (.int .i64)), (12, .inl (.sl 3)), (16, .inr (.inr (.t (.ptr 1 0)))), (58, .inl (.sl 3)), (59, .inl (.int .i64)), (60, .inl (.int .i64))], [.inl [.inl (.sl 3), .inl (.int .u64)], .inl [.inl (.int .i64), .inl (.int .i64), .inl (.int .i64)]]⟩), (.ret, ⟨[(6, .inl .bool)], []⟩)]⟩
/-- dynpos/dynposlaw36.LogbookSpans, the loop of block 0 -/
def la_4_0 : LAnn := ⟨⟨[(8, .inr (.inr (.t (.ptr 0 0)))), (9, .inl (.int .i64)), (11, .inl (.int .i64)), (12, .inl (.sl 3)), (14, .inl (.int .i64)), (58, .inl (.sl 3)), (59, .inl (.int .i64)), (60, .inl (.int .i64))], [.inl [.inl (.sl 3), .inl (.int .u64)]]⟩,
  [(.exit 0, ⟨[(11, .inl (.int .i64)), (14, .inl (.int .i64))], []⟩), (.ret, ⟨[(6, .inl .bool)], []⟩)]⟩
/-- dynpos/dynposlaw36.LogbookGrows, the loop of block 2 -/
def la_5_2 : LAnn := ⟨⟨[(4, .inr (.inr (.t (.ptr 0 0)))), (7, .inr (.inr (.t (.ptr 1 0)))), (8, .inr (.inr (.t (.ptr 2 0)))), (10, .inl (.int .i64)), (11, .inl (.int .i64))], [.inl [.inl (.sl 3), .inl (.int .u64)], .inl [.inl (.int .i64), .inl (.int .i64), .inl (.sl 1)], .inl [.inl (.sl 3), .inl (.int .u64)]]⟩,
  [(.exit 2, ⟨[(4, .inr (.inr (.t (.ptr 0 0)))), (7, .inr (.inr (.t (.ptr 1 0)))), (8, .inr (.inr (.t (.ptr 2 0)))), (10, .inl (.int .i64))], [.inl [.inl (.sl 3), .inl (.int .u64)], .inl [.inl (.int .i64), .inl (.int .i64), .inl (.sl 1)], .inl [.inl (.sl 3), .inl (.int .u64)]]⟩), (.ret, ⟨[(2, .inl .bool)], []⟩)]⟩
/-- dynpos/dynposlaw36.LogbookGrows, the loop of block 0 -/
def la_5_0 : LAnn := ⟨⟨[(4, .inr (.inr (.t (.ptr 0 0)))), (7, .inr (.inr (.t (.ptr 1 0)))), (8, .inr (.inr (.t (.ptr 2 0)))), (10, .inl (.int .i64))], [.inl [.inl (.sl 3), .inl (.int .u64)], .inl [.inl (.int .i64), .inl (.int .i64), .inl (.sl 1)], .inl [.inl (.sl 3), .inl (.int .u64)]]⟩,
  [(.exit 0, ⟨[(7, .inr (.inr (.t (.ptr 0 0)))), (8, .inr (.inr (.t (.ptr 1 0))))], [.inl [.inl (.int .i64), .inl (.int .i64), .inl (.sl 1)], .inl [.inl (.sl 3), .inl (.int .u64)]]⟩), (.ret, ⟨[(2, .inl .bool)], []⟩)]⟩
/-- dynpos/dynposlaw36.LogbookExact, the loop of block 6 -/
def la_6_6 : LAnn := ⟨⟨[(3, .inl (.int .i64)), (4, .inl (.int .i64)), (5, .inl (.int .i64)), (8, .inr (.inr (.t (.ptr 0 0)))), (15, .inr (.inr (.t (.ptr 1 0)))), (18, .inr (.inr (.t (.ptr 2 0)))), (85, .inr (.inl [.sl 3, .int .u64, .sl 3, .int .u64, .sl 3, .int .u64])), (86, .inl (.int .i64)), (184, .inr (.inl [.int .i64, .int .i64, .int .i64, .int .i64, .int .i64, .int .i64])), (185, .inl (.int .i64))], [.inl [.inl (.int .i64), .inl (.int .i64), .inl (.sl 1)], .inl [.inl (.sl 1), .inl (.int .i64)], .inl [.inl (.sl 3), .inl (.int .u64)]]⟩,
  [(.exit 6, ⟨[(3, .inl (.int .i64)), (4, .inl (.int .i64)), (5, .inl (.int .i64)), (8, .inr (.inr (.t (.ptr 0 0)))), (15, .inr (.inr (.t (.ptr 1 0)))), (85, .inr (.inl [.sl 3, .int .u64, .sl 3, .int .u64, .sl 3, .int .u64])), (86, .inl (.int .i64))], [.inl [.inl (.int .i64), .inl (.int .i64), .inl (.sl 1)], .inl [.inl (.sl 1), .inl (.int .i64)]]⟩), (.ret, ⟨[(12, .inl .bool)], []⟩)]⟩
/-- dynpos/dynposlaw36.LogbookExact, the loop of block 4 -/
def la_6_4 : LAnn := ⟨⟨[(3, .inl (.int .i64)), (4, .inl (.int .i64)), (5, .inl (.int .i64)), (8, .inr (.inr (.t (.ptr 0 0)))), (15, .inr (.inr (.t (.ptr 1 0)))), (18, .inr (.inr (.t (.ptr 2 0)))), (85, .inr (.inl [.sl 3, .int .u64, .sl 3, .int .u64, .sl 3, .int .u64])), (86, .inl (.int .i64)), (102, .inr (.inl [.int .i64, .int .i64, .sl 1, .int .i64, .int .i64, .sl 1, .int .i64, .int .i64, .sl 1])), (103, .inl (.int .i64))], [.inl [.inl (.int .i64), .inl (.int .i64), .inl (.sl 1)], .inl [.inl (.sl 1), .inl (.int .i64)], .inl [.inl (.sl 3), .inl (.int .u64)]]⟩,
  [(.exit 4, ⟨[(3, .inl (.int .i64)), (4, .inl (.int .i64)), (5, .inl (.int .i64)), (8, .inr (.inr (.t (.ptr 0 0)))), (15, .inr (.inr (.t (.ptr 1 0)))), (18, .inr (.inr (.t (.ptr 2 0)))), (85, .inr (.inl [.sl 3, .int .u64, .sl 3, .int .u64, .sl 3, .int .u64])), (86, .inl (.int .i64))], [.inl [.inl (.int .i64), .inl (.int .i64), .inl (.sl 1)], .inl [.inl (.sl 1), .inl (.int .i64)], .inl [.inl (.sl 3), .inl (.int .u64)]]⟩), (.ret, ⟨[(12, .inl .bool)], []⟩)]⟩
/-- dynpos/dynposlaw36.LogbookExact, the loop of block 2 -/
def la_6_2 : LAnn := ⟨⟨[(3, .inl (.int .i64)), (4, .inl (.int .i64)), (5, .inl (.int .i64)), (8, .inr (.inr (.t (.ptr 0 0)))), (15, .inr (.inr (.t (.ptr 1 0)))), (85, .inr (.inl [.sl 3, .int .u64, .sl 3, .int .u64, .sl 3, .int .u64])), (86, .inl (.int .i64))], [.inl [.inl (.int .i64), .inl (.int .i64), .inl (.sl 1)], .inl [.inl (.sl 1), .inl (.int .i64)]]⟩,
  [(.exit 2, ⟨[], []⟩), (.ret, ⟨[(12, .inl .bool)], []⟩)]⟩
/-- dynpos/dynposlaw36.LogbookExact, the loop of block 0 -/
def la_6_0 : LAnn := ⟨⟨[(0, .inl (.sl 1)), (3, .inl (.int .i64)), (4, .inl (.int .i64)), (5, .inl (.int .i64)), (7, .inr (.inr (.t (.ptr 0 0)))), (8, .inr (.inr (.t (.ptr 1 0)))), (64, .inl (.sl 3)), (65, .inl (.int .i64)), (66, .inl (.int .i64))], [.inl [.inl (.sl 3), .inl (.int .u64)], .inl [.inl (.int .i64), .inl (.int .i64), .inl (.sl 1)]]⟩,
  [(.exit 0, ⟨[(0, .inl (.sl 1)), (3, .inl (.int .i64)), (4, .inl (.int .i64)), (5, .inl (.int .i64)), (7, .inr (.inr (.t (.ptr 0 0)))), (8, .inr (.inr (.t (.ptr 1 0))))], [.inl [.inl (.sl 3), .inl (.int .u64)], .inl [.inl (.int .i64), .inl (.int .i64), .inl (.sl 1)]]⟩), (.ret, ⟨[(12, .inl .bool)], []⟩)]⟩
/-- dynpos/dynposref36.Sum, the loop of block 0 -/
def la_9_0 : LAnn := ⟨⟨[(0, .inl (.int .u64)), (1, .inl .str), (5, .inl (.int .i64))], []⟩,
  [(.exit 0, ⟨[(0, .inl (.int .u64))], []⟩)]⟩
/-- (*dynpos/dynposmake.Src).Book, the loop of block 0 -/
def la_13_0 : LAnn := ⟨⟨[(0, .inr (.inr (.t (.ptr 0 0)))), (4, .inr (.inr (.t (.ptr 1 0)))), (5, .inr (.inr (.t (.ptr 2 0)))), (6, .inl (.int .i64)), (7, .inl (.int .i64))], [.inl [.inl (.sl 1), .inl (.int .i64)], .inl [.inl (.sl 3), .inl (.int .u64)], .inl [.inl (.sl 3), .inl (.int .u64)]]⟩,
  [(.exit 0, ⟨[(4, .inr (.inr (.t (.ptr 1 0)))), (5, .inr (.inr (.t (.ptr 2 0))))], [.inl [.inl (.sl 1), .inl (.int .i64)], .inl [.inl (.sl 3), .inl (.int .u64)], .inl [.inl (.sl 3), .inl (.int .u64)]]⟩)]⟩
/-- dynpos/logbook.Spans, the loop of block 0 -/
def la_15_0 : LAnn := ⟨⟨[(1, .inl (.int .i64)), (2, .inl (.int .i64)), (3, .inl (.int .i64)), (4, .inr (.inr (.t (.ptr 0 0)))), (13, .inr (.inr (.t (.hsl 1)))), (56, .inl (.sl 3)), (57, .inl (.int .i64)), (58, .inl (.int .i64))], [.inl [.inl (.sl 3), .inl (.int .u64)], .inr 3]⟩,
  [(.exit 0, ⟨[(13, .inr (.inr (.t (.hsl 0))))], [.inr 3]⟩)]⟩
/-- (*dynpos/dynposmake.Src).Entry, the loop of block 0 -/
def la_17_0 : LAnn := ⟨⟨[(0, .inr (.inr (.t (.ptr 0 0)))), (4, .inr (.inr (.t (.ptr 1 0)))), (5, .inr (.inr (.t (.ptr 2 0)))), (6, .inl (.int .i64))], [.inl [.inl (.sl 1), .inl (.int .i64)], .inl [.inl (.int .i64), .inl (.int .i64), .inl (.sl 1)], .inl [.inl (.int .i64), .inl (.int .i64), .inr (.t (.hsl 3))], .inr 1]⟩,
  [(.exit 0, ⟨[(4, .inr (.inr (.t (.ptr 1 0)))), (5, .inr (.inr (.t (.ptr 2 0))))], [.inl [.inl (.sl 1), .inl (.int .i64)], .inl [.inl (.int .i64), .inl (.int .i64), .inl (.sl 1)], .inl [.inl (.int .i64), .inl (.int .i64), .inr (.t (.hsl 3))], .inr 1]⟩)]⟩
/-- dynpos/logbook.Check, the loop of block 0 -/
def la_19_0 : LAnn := ⟨⟨[(1, .inr (.inr (.t (.ptr 0 0)))), (3, .inl (.int .u64)), (12, .inl (.sl 3)), (13, .inl (.int .i64)), (14, .inl (.int .i64))], [.inl [.inl (.sl 3), .inl (.int .u64)]]⟩,
  [(.exit 0, ⟨[(1, .inr (.inr (.t (.ptr 0 0)))), (3, .inl (.int .u64))], [.inl [.inl (.sl 3), .inl (.int .u64)]]⟩), (.ret, ⟨[(2, .inl (.int .i64))], []⟩)]⟩
/-- dynpos/dynposref36.Check, the loop of block 0 -/
def la_21_0 : LAnn := ⟨⟨[(1, .inr (.inr (.t (.ptr 0 0)))), (3, .inl (.int .u64)), (11, .inl (.sl 3)), (12, .inl (.int .i64)), (13, .inl (.int .i64))], [.inl [.inl (.sl 3), .inl (.int .u64)]]⟩,
  [(.exit 0, ⟨[(1, .inr (.inr (.t (.ptr 0 0)))), (3, .inl (.int .u64))], [.inl [.inl (.sl 3), .inl (.int .u64)]]⟩), (.ret, ⟨[(2, .inl (.int .i64))], []⟩)]⟩
/-- dynpos/dynposref36.Valid, the loop of block 0 -/
def la_26_0 : LAnn := ⟨⟨[(29, .inl (.sl 1)), (30, .inl (.int .i64)), (31, .inl (.int .i64))], []⟩,
  [(.exit 0, ⟨[], []⟩), (.ret, ⟨[(2, .inl .bool)], []⟩)]⟩
/-- dynpos/dynposref36.Text, the loop of block 0 -/
def la_28_0 : LAnn := ⟨⟨[(1, .inr (.inr (.t (.ptr 0 0)))), (5, .inl .str), (14, .inl (.sl 3)), (15, .inl (.int .i64)), (16, .inl (.int .i64))], [.inl [.inl (.sl 3), .inl (.int .u64)]]⟩,
  [(.exit 0, ⟨[(1, .inr (.inr (.t (.ptr 0 0)))), (5, .inl .str)], [.inl [.inl (.sl 3), .inl (.int .u64)]]⟩)]⟩
/-- dynpos/dynposref36.Spans, the loop of block 2 -/
def la_30_2 : LAnn := ⟨⟨[(1, .inl (.int .i64)), (3, .inl (.int .i64)), (4, .inr (.inr (.t (.ptr 0 0)))), (11, .inl (.sl 1)), (14, .inr (.inr (.t (.hsl 1)))), (74, .inl (.sl 1)), (75, .inl (.int .i64)), (76, .inl (.int .i64))], [.inl [.inl (.sl 3), .inl (.int .u64)], .inr 3]⟩,
  [(.exit 2, ⟨[(14, .inr (.inr (.t (.hsl 0))))], [.inr 3]⟩)]⟩
/-- dynpos/dynposref36.Spans, the loop of block 0 -/
def la_30_0 : LAnn := ⟨⟨[(1, .inl (.int .i64)), (2, .inl (.int .i64)), (3, .inl (.int .i64)), (4, .inr (.inr (.t (.ptr 0 0)))), (11, .inr (.inr (.t (.hsl 1)))), (45, .inl (.sl 3)), (46, .inl (.int .i64)), (47, .inl (.int .i64))], [.inl [.inl (.sl 3), .inl (.int .u64)], .inr 1]⟩,
  [(.exit 0, ⟨[(1, .inl (.int .i64)), (3, .inl (.int .i64)), (4, .inr (.inr (.t (.ptr 0 0)))), (11, .inl (.sl 1))], [.inl [.inl (.sl 3), .inl (.int .u64)]]⟩)]⟩
/-- dynpos/dynposref36.Degraded, the loop of block 0 -/
def la_32_0 : LAnn := ⟨⟨[(10, .inr (.inr (.t (.hsl 0)))), (23, .inl (.sl 3)), (24, .inl (.int .i64)), (25, .inl (.int .i64))], [.inr 3]⟩,
  [(.exit 0, ⟨[(10, .inr (.inr (.t (.hsl 0))))], [.inr 3]⟩)]⟩
/-- dynpos/dynposref36.All, the loop of block 0 -/
def la_33_0 : LAnn := ⟨⟨[(0, .inl (.sl 3)), (1, .inl (.sl 3)), (12, .inl (.int .i64)), (13, .inl (.int .i64))], []⟩,
  [(.exit 0, ⟨[], []⟩), (.ret, ⟨[(4, .inl .bool)], []⟩)]⟩
/-- dynpos/dynposref36.line, the loop of block 0 -/
def la_35_0 : LAnn := ⟨⟨[(3, .inl .str), (15, .inl (.sl 1)), (16, .inl (.int .i64)), (17, .inl (.int .i64))], []⟩,
  [(.exit 0, ⟨[(3, .inl .str)], []⟩)]⟩
/-- dynpos/logbook.Sum, the loop of block 0 -/
def la_39_0 : LAnn := ⟨⟨[(0, .inl (.int .u64)), (8, .inl (.sl 1)), (9, .inl (.int .i64)), (10, .inl (.int .i64))], []⟩,
  [(.exit 0, ⟨[(0, .inl (.int .u64))], []⟩)]⟩
/-- dynpos/logbook.line, the loop of block 0 -/
def la_40_0 : LAnn := ⟨⟨[(3, .inr (.inr (.t (.hsl 0)))), (14, .inl (.sl 1)), (15, .inl (.int .i64)), (16, .inl (.int .i64))], [.inr 1]⟩,
  [(.exit 0, ⟨[(3, .inr (.inr (.t (.hsl 0))))], [.inr 1]⟩)]⟩
/-- dynpos/dynposref36.Entries, the loop of block 0 -/
def la_46_0 : LAnn := ⟨⟨[(0, .inl (.sl 3)), (1, .inl (.sl 3)), (12, .inl (.int .i64)), (13, .inl (.int .i64))], []⟩,
  [(.exit 0, ⟨[], []⟩), (.ret, ⟨[(4, .inl .bool)], []⟩)]⟩
/-- dynpos/quotient.Within, the loop of block 0 -/
def la_48_0 : LAnn := ⟨⟨[(0, .inl (.int .i64)), (7, .inl (.sl 1)), (8, .inl (.int .i64)), (9, .inl (.int .i64))], []⟩,
  [(.exit 0, ⟨[], []⟩), (.ret, ⟨[(4, .inl .bool)], []⟩)]⟩
/-- dynpos/dynposref36.at, the loop of block 0 -/
def la_55_0 : LAnn := ⟨⟨[(1, .inl (.int .i64)), (2, .inl (.int .i64)), (8, .inl (.int .i64)), (9, .inl .bool), (13, .inl (.sl 3)), (14, .inl (.int .i64)), (15, .inl (.int .i64))], []⟩,
  [(.exit 0, ⟨[(8, .inl (.int .i64)), (9, .inl .bool)], []⟩)]⟩
/-- dynpos/dynposref01.Has, the loop of block 0 -/
def la_56_0 : LAnn := ⟨⟨[(1, .inl (.int .i64)), (7, .inl (.sl 1)), (8, .inl (.int .i64)), (9, .inl (.int .i64))], []⟩,
  [(.exit 0, ⟨[], []⟩), (.ret, ⟨[(4, .inl .bool)], []⟩)]⟩
/-- dynpos/dynposref01.Ints, the loop of block 0 -/
def la_63_0 : LAnn := ⟨⟨[(0, .inl (.sl 1)), (1, .inl (.sl 1)), (12, .inl (.int .i64)), (13, .inl (.int .i64))], []⟩,
  [(.exit 0, ⟨[], []⟩), (.ret, ⟨[(4, .inl .bool)], []⟩)]⟩

noncomputable def E : Env := ⟨Tryd.prog, [3, 4, 5, 6, 7, 8, 9, 10, 11, 12, 13, 14, 15, 16, 17, 18, 19, 20, 21, 22, 23, 24, 25, 26, 27, 28, 29, 30, 31, 32, 33, 34, 35, 36, 38, 39, 40, 41, 42, 43, 44, 45, 46, 47, 48, 49, 52, 53, 54, 55, 56, 59, 60, 61, 63, 65], [(15, 0)], [], [(12, 0), (43, 1), (60, 0)], [(4, 2, la_4_2), (4, 0, la_4_0), (5, 2, la_5_2), (5, 0, la_5_0), (6, 6, la_6_6), (6, 4, la_6_4), (6, 2, la_6_2), (6, 0, la_6_0), (9, 0, la_9_0), (13, 0, la_13_0), (15, 0, la_15_0), (17, 0, la_17_0), (19, 0, la_19_0), (21, 0, la_21_0), (26, 0, la_26_0), (28, 0, la_28_0), (30, 2, la_30_2), (30, 0, la_30_0), (32, 0, la_32_0), (33, 0, la_33_0), (35, 0, la_35_0), (39, 0, la_39_0), (40, 0, la_40_0), (46, 0, la_46_0), (48, 0, la_48_0), (55, 0, la_55_0), (56, 0, la_56_0), (63, 0, la_63_0)], [], [60], [(3, hLim 7 8 9 10 11), (10, hAppend 19 25 36 38 40 39), (27, hBook 19 40 52), (31, hDegr 15), (42, .pure pAt), (59, .pure pItoa), (61, .pure pJoin), (65, .pure pFormatUint)], [], [(6, 1000006, [(85, none)]), (6, 1000004, [(85, none), (102, none)]), (6, 1000002, [(85, none)])], []⟩

end Go.Proofs.YtdbajagnhanpfaaDoor.Vm
