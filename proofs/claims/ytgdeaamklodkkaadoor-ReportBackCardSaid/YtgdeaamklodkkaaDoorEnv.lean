/- The annotations of the loops, by program. Nothing is claimed here. -/
import Derived.Test.YtgdeaamklodkkaaDoorVm4
import Derived.Test.YtgdeaamklodkkaaDoorProg
import Derived.Test.YtgdeaamklodkkaaDoorPrims
namespace Go.Proofs.YtgdeaamklodkkaaDoor.Vm

/-- dynpos/dynposlaw40.ReportCounts, the loop of block 2 -/
def la_3_2 : LAnn := ⟨⟨[(11, .inl (.int .i64)), (12, .inl (.int .i64)), (13, .inr (.inr (.t (.ptr 0 0)))), (14, .inl (.int .i64)), (15, .inl (.int .i64)), (61, .inr (.inl [.int .i64, .int .i64, .int .i64, .int .i64])), (62, .inl (.int .i64))], [.inl [.inl (.int .i64), .inl (.int .i64), .inl (.int .i64), .inl (.int .i64), .inl (.int .i64), .inl (.int .i64), .inl (.int .i64)]]⟩,
  [(.exit 2, ⟨[(11, .inl (.int .i64)), (12, .inl (.int .i64)), (14, .inl (.int .i64)), (15, .inl (.int .i64))], []⟩), (.ret, ⟨[(6, .inl .bool)], []⟩)]⟩
/-- dynpos/dynposlaw40.ReportCounts, the loop of block 0 -/
def la_3_0 : LAnn := ⟨⟨[(1, .inl (.int .u8)), (2, .inl (.int .u8)), (7, .inr (.inr (.t (.ptr 0 0)))), (8, .inr (.inr (.t (.ptr 1 0)))), (9, .inl (.int .i64)), (10, .inl (.int .i64))], [.inl [.inl (.sl 1), .inl (.int .i64)], .inl [.inl (.sl 3), .inl (.int .u64)]]⟩,
  [(.exit 0, ⟨[(1, .inl (.int .u8)), (2, .inl (.int .u8)), (8, .inr (.inr (.t (.ptr 0 0))))], [.inl [.inl (.sl 3), .inl (.int .u64)]]⟩)]⟩
/-- dynpos/dynposlaw40.ReportPercents, the loop of block 0 -/
def la_4_0 : LAnn := ⟨⟨[(4, .inr (.inr (.t (.ptr 0 0)))), (5, .inl (.int .i64)), (6, .inl (.int .i64)), (19, .inr (.inl [.int .i64, .int .i64, .int .i64, .int .i64])), (20, .inl (.int .i64))], [.inl [.inl (.int .i64), .inl (.int .i64), .inl (.int .i64), .inl (.int .i64), .inl (.int .i64), .inl (.int .i64), .inl (.int .i64)]]⟩,
  [(.exit 0, ⟨[(5, .inl (.int .i64)), (6, .inl (.int .i64))], []⟩), (.ret, ⟨[(2, .inl .bool)], []⟩)]⟩
/-- dynpos/dynposlaw40.made, the loop of block 0 -/
def la_15_0 : LAnn := ⟨⟨[(0, .inr (.inr (.t (.ptr 0 0)))), (2, .inr (.inr (.t (.ptr 1 0)))), (3, .inr (.inr (.t (.ptr 2 0)))), (12, .inl (.int .i64))], [.inl [.inl (.sl 1), .inl (.int .i64)], .inl [.inl (.int .i64), .inl (.int .i64), .inl (.int .i64), .inl (.int .i64), .inl (.int .i64), .inl (.int .i64), .inl (.int .i64)], .inl [.inl (.int .i64), .inl (.int .i64), .inl (.int .i64), .inl (.int .i64), .inl (.int .i64), .inl (.int .i64), .inl (.int .i64)]]⟩,
  [(.exit 0, ⟨[(2, .inr (.inr (.t (.ptr 1 0)))), (3, .inr (.inr (.t (.ptr 2 0))))], [.inl [.inl (.sl 1), .inl (.int .i64)], .inl [.inl (.int .i64), .inl (.int .i64), .inl (.int .i64), .inl (.int .i64), .inl (.int .i64), .inl (.int .i64), .inl (.int .i64)], .inl [.inl (.int .i64), .inl (.int .i64), .inl (.int .i64), .inl (.int .i64), .inl (.int .i64), .inl (.int .i64), .inl (.int .i64)]]⟩)]⟩
/-- dynpos/report.Percent, the loop of block 0 -/
def la_16_0 : LAnn := ⟨⟨[(1, .inl (.int .i64)), (2, .inr (.inr (.t (.ptr 0 0)))), (5, .inl (.int .i64)), (21, .inr (.inl [.int .i64, .int .i64, .int .i64, .int .i64])), (22, .inl (.int .i64))], [.inl [.inl (.int .i64), .inl (.int .i64), .inl (.int .i64), .inl (.int .i64), .inl (.int .i64), .inl (.int .i64), .inl (.int .i64)]]⟩,
  [(.exit 0, ⟨[(1, .inl (.int .i64)), (2, .inr (.inr (.t (.ptr 0 0)))), (5, .inl (.int .i64))], [.inl [.inl (.int .i64), .inl (.int .i64), .inl (.int .i64), .inl (.int .i64), .inl (.int .i64), .inl (.int .i64), .inl (.int .i64)]]⟩), (.ret, ⟨[(4, .inl (.int .i64))], []⟩)]⟩
/-- (*dynpos/dynposmake.Src).Book, the loop of block 0 -/
def la_17_0 : LAnn := ⟨⟨[(0, .inr (.inr (.t (.ptr 0 0)))), (4, .inr (.inr (.t (.ptr 1 0)))), (5, .inr (.inr (.t (.ptr 2 0)))), (6, .inl (.int .i64)), (7, .inl (.int .i64))], [.inl [.inl (.sl 1), .inl (.int .i64)], .inl [.inl (.sl 3), .inl (.int .u64)], .inl [.inl (.sl 3), .inl (.int .u64)]]⟩,
  [(.exit 0, ⟨[(4, .inr (.inr (.t (.ptr 1 0)))), (5, .inr (.inr (.t (.ptr 2 0))))], [.inl [.inl (.sl 1), .inl (.int .i64)], .inl [.inl (.sl 3), .inl (.int .u64)], .inl [.inl (.sl 3), .inl (.int .u64)]]⟩)]⟩
/-- dynpos/report.Add, the loop of block 0 -/
def la_18_0 : LAnn := ⟨⟨[(2, .inr (.inr (.t (.ptr 0 0)))), (3, .inr (.inr (.t (.ptr 1 0)))), (4, .inr (.inr (.t (.ptr 2 0)))), (5, .inr (.inr (.t (.ptr 3 0)))), (20, .inl (.int .i64))], [.inl [.inl (.int .i64), .inl (.int .i64), .inl (.int .i64), .inl (.int .i64), .inl (.int .i64), .inl (.int .i64), .inl (.int .i64)], .inl [.inl (.int .i64), .inl (.int .i64), .inl (.int .i64), .inl (.int .i64), .inl (.int .i64), .inl (.int .i64), .inl (.int .i64)], .inl [.inl (.int .i64), .inl (.int .i64), .inl (.int .i64), .inl (.int .i64), .inl (.int .i64), .inl (.int .i64), .inl (.int .i64)], .inl [.inl (.int .i64), .inl (.int .i64), .inl (.int .i64), .inl (.int .i64), .inl (.int .i64), .inl (.int .i64), .inl (.int .i64)]]⟩,
  [(.exit 0, ⟨[(2, .inr (.inr (.t (.ptr 0 0)))), (3, .inr (.inr (.t (.ptr 1 0)))), (4, .inr (.inr (.t (.ptr 2 0)))), (5, .inr (.inr (.t (.ptr 3 0))))], [.inl [.inl (.int .i64), .inl (.int .i64), .inl (.int .i64), .inl (.int .i64), .inl (.int .i64), .inl (.int .i64), .inl (.int .i64)], .inl [.inl (.int .i64), .inl (.int .i64), .inl (.int .i64), .inl (.int .i64), .inl (.int .i64), .inl (.int .i64), .inl (.int .i64)], .inl [.inl (.int .i64), .inl (.int .i64), .inl (.int .i64), .inl (.int .i64), .inl (.int .i64), .inl (.int .i64), .inl (.int .i64)], .inl [.inl (.int .i64), .inl (.int .i64), .inl (.int .i64), .inl (.int .i64), .inl (.int .i64), .inl (.int .i64), .inl (.int .i64)]]⟩)]⟩
/-- dynpos/report.Read, the loop of block 0 -/
def la_20_0 : LAnn := ⟨⟨[(0, .inl .str), (2, .inr (.inr (.t (.ptr 0 0)))), (4, .inl .str), (5, .inr (.inr (.t (.hsl 1)))), (18, .inl (.sl 1)), (19, .inl (.int .i64)), (20, .inl (.int .i64))], [.inl [.inl (.int .i64), .inl (.int .i64), .inl (.int .i64), .inl (.int .i64), .inl (.int .i64), .inl (.int .i64), .inl (.int .i64)], .inr 1]⟩,
  [(.exit 0, ⟨[(0, .inl .str), (2, .inr (.inr (.t (.ptr 0 0)))), (5, .inr (.inr (.t (.hsl 1))))], [.inl [.inl (.int .i64), .inl (.int .i64), .inl (.int .i64), .inl (.int .i64), .inl (.int .i64), .inl (.int .i64), .inl (.int .i64)], .inr 1]⟩), (.ret, ⟨[(2, .inr (.inr (.t (.ptr 0 0)))), (3, .inl (.int .i64))], [.inl [.inl (.int .i64), .inl (.int .i64), .inl (.int .i64), .inl (.int .i64), .inl (.int .i64), .inl (.int .i64), .inl (.int .i64)]]⟩)]⟩
/-- dynpos/dynposref36.Check, the loop of block 0 -/
def la_22_0 : LAnn := ⟨⟨[(1, .inr (.inr (.t (.ptr 0 0)))), (3, .inl (.int .u64)), (11, .inl (.sl 3)), (12, .inl (.int .i64)), (13, .inl (.int .i64))], [.inl [.inl (.sl 3), .inl (.int .u64)]]⟩,
  [(.exit 0, ⟨[(1, .inr (.inr (.t (.ptr 0 0)))), (3, .inl (.int .u64))], [.inl [.inl (.sl 3), .inl (.int .u64)]]⟩), (.ret, ⟨[(2, .inl (.int .i64))], []⟩)]⟩
/-- dynpos/dynposref36.Valid, the loop of block 0 -/
def la_23_0 : LAnn := ⟨⟨[(29, .inl (.sl 1)), (30, .inl (.int .i64)), (31, .inl (.int .i64))], []⟩,
  [(.exit 0, ⟨[], []⟩), (.ret, ⟨[(2, .inl .bool)], []⟩)]⟩
/-- dynpos/dynposref36.Sum, the loop of block 0 -/
def la_24_0 : LAnn := ⟨⟨[(0, .inl (.int .u64)), (1, .inl .str), (5, .inl (.int .i64))], []⟩,
  [(.exit 0, ⟨[(0, .inl (.int .u64))], []⟩)]⟩
/-- dynpos/dynposref36.line, the loop of block 0 -/
def la_25_0 : LAnn := ⟨⟨[(3, .inl .str), (15, .inl (.sl 1)), (16, .inl (.int .i64)), (17, .inl (.int .i64))], []⟩,
  [(.exit 0, ⟨[(3, .inl .str)], []⟩)]⟩
/-- dynpos/logbook.Spans, the loop of block 0 -/
def la_26_0 : LAnn := ⟨⟨[(1, .inl (.int .i64)), (2, .inl (.int .i64)), (3, .inl (.int .i64)), (4, .inr (.inr (.t (.ptr 0 0)))), (13, .inr (.inr (.t (.hsl 1)))), (56, .inl (.sl 3)), (57, .inl (.int .i64)), (58, .inl (.int .i64))], [.inl [.inl (.sl 3), .inl (.int .u64)], .inr 3]⟩,
  [(.exit 0, ⟨[(13, .inr (.inr (.t (.hsl 0))))], [.inr 3]⟩)]⟩
/-- dynpos/report.worst, the loop of block 0 -/
def la_27_0 : LAnn := ⟨⟨[(1, .inr (.inr (.t (.ptr 0 0)))), (3, .inl (.int .i64))], [.inl [.inl (.int .i64), .inl (.int .i64), .inl (.int .i64), .inl (.int .i64)]]⟩,
  [(.exit 0, ⟨[], []⟩), (.ret, ⟨[(2, .inl (.int .i64))], []⟩)]⟩
/-- (*dynpos/dynposmake.Src).Entry, the loop of block 0 -/
def la_32_0 : LAnn := ⟨⟨[(0, .inr (.inr (.t (.ptr 0 0)))), (4, .inr (.inr (.t (.ptr 1 0)))), (5, .inr (.inr (.t (.ptr 2 0)))), (6, .inl (.int .i64))], [.inl [.inl (.sl 1), .inl (.int .i64)], .inl [.inl (.int .i64), .inl (.int .i64), .inl (.sl 1)], .inl [.inl (.int .i64), .inl (.int .i64), .inr (.t (.hsl 3))], .inr 1]⟩,
  [(.exit 0, ⟨[(4, .inr (.inr (.t (.ptr 1 0)))), (5, .inr (.inr (.t (.ptr 2 0))))], [.inl [.inl (.sl 1), .inl (.int .i64)], .inl [.inl (.int .i64), .inl (.int .i64), .inl (.sl 1)], .inl [.inl (.int .i64), .inl (.int .i64), .inr (.t (.hsl 3))], .inr 1]⟩)]⟩
/-- dynpos/logbook.Check, the loop of block 0 -/
def la_42_0 : LAnn := ⟨⟨[(1, .inr (.inr (.t (.ptr 0 0)))), (3, .inl (.int .u64)), (12, .inl (.sl 3)), (13, .inl (.int .i64)), (14, .inl (.int .i64))], [.inl [.inl (.sl 3), .inl (.int .u64)]]⟩,
  [(.exit 0, ⟨[(1, .inr (.inr (.t (.ptr 0 0)))), (3, .inl (.int .u64))], [.inl [.inl (.sl 3), .inl (.int .u64)]]⟩), (.ret, ⟨[(2, .inl (.int .i64))], []⟩)]⟩
/-- dynpos/logbook.Sum, the loop of block 0 -/
def la_57_0 : LAnn := ⟨⟨[(0, .inl (.int .u64)), (8, .inl (.sl 1)), (9, .inl (.int .i64)), (10, .inl (.int .i64))], []⟩,
  [(.exit 0, ⟨[(0, .inl (.int .u64))], []⟩)]⟩
/-- dynpos/logbook.line, the loop of block 0 -/
def la_58_0 : LAnn := ⟨⟨[(3, .inr (.inr (.t (.hsl 0)))), (14, .inl (.sl 1)), (15, .inl (.int .i64)), (16, .inl (.int .i64))], [.inr 1]⟩,
  [(.exit 0, ⟨[(3, .inr (.inr (.t (.hsl 0))))], [.inr 1]⟩)]⟩
/-- dynpos/quotient.Within, the loop of block 0 -/
def la_76_0 : LAnn := ⟨⟨[(0, .inl (.int .i64)), (7, .inl (.sl 1)), (8, .inl (.int .i64)), (9, .inl (.int .i64))], []⟩,
  [(.exit 0, ⟨[], []⟩), (.ret, ⟨[(4, .inl .bool)], []⟩)]⟩

noncomputable def E : Env := ⟨Tryd.prog, [3, 4, 5, 6, 7, 8, 9, 10, 11, 12, 13, 14, 15, 16, 17, 18, 19, 20, 21, 22, 23, 24, 25, 26, 27, 29, 30, 31, 32, 35, 36, 38, 39, 40, 41, 42, 43, 44, 45, 55, 56, 57, 58, 59, 61, 62, 63, 76, 77], [], [], [(9, 0), (29, 1)], [(3, 2, la_3_2), (3, 0, la_3_0), (4, 0, la_4_0), (15, 0, la_15_0), (16, 0, la_16_0), (17, 0, la_17_0), (18, 0, la_18_0), (20, 0, la_20_0), (22, 0, la_22_0), (23, 0, la_23_0), (24, 0, la_24_0), (25, 0, la_25_0), (26, 0, la_26_0), (27, 0, la_27_0), (32, 0, la_32_0), (42, 0, la_42_0), (57, 0, la_57_0), (58, 0, la_58_0), (76, 0, la_76_0)], [], [], [(14, hOf 26 27), (19, .pure pRep), (36, .pure pItoa), (38, .pure pCutPrefix), (39, .pure pIndexAny), (40, .pure pAtoi), (44, .pure pAt), (77, .pure pJoin)], [], [], []⟩

end Go.Proofs.YtgdeaamklodkkaaDoor.Vm
