/- The annotations of the loops, by program. Nothing is claimed here. -/
import Derived.Test.YtmlhemkadoadaaaDoorVm4
import Derived.Test.YtmlhemkadoadaaaDoorProg
import Derived.Test.YtmlhemkadoadaaaDoorPrims
namespace Go.Proofs.YtmlhemkadoadaaaDoor.Vm

/-- dynpos/dynposlaw05.StreamLimits, the loop of block 0 -/
def la_3_0 : LAnn := ⟨⟨[(0, .inl (.int .u8)), (3, .inr (.inr (.t (.hsl 0)))), (4, .inl (.int .i64))], [.inr 1]⟩,
  [(.exit 0, ⟨[(3, .inr (.inr (.t (.hsl 0))))], [.inr 1]⟩)]⟩
/-- dynpos/dynposlaw05.StreamPieces, the loop of block 0 -/
def la_4_0 : LAnn := ⟨⟨[(6, .inl (.sl 1)), (7, .inr (.inr (.t (.ptr 0 0)))), (8, .inl (.sl 1)), (10, .inr (.inr (.t (.ptr 1 0)))), (11, .inr (.inr (.t (.hsl 2)))), (33, .inl (.sl 1)), (34, .inl (.int .i64)), (35, .inl (.int .i64))], [.inl [.inl (.sl 1)], .inl [.inl (.sl 1)], .inr 1]⟩,
  [(.exit 0, ⟨[(6, .inl (.sl 1)), (7, .inr (.inr (.t (.ptr 0 0)))), (8, .inl (.sl 1)), (10, .inr (.inr (.t (.ptr 1 0)))), (11, .inr (.inr (.t (.hsl 2))))], [.inl [.inl (.sl 1)], .inl [.inl (.sl 1)], .inr 1]⟩)]⟩
/-- dynpos/dynposlaw05.StreamExact, the loop of block 2 -/
def la_6_2 : LAnn := ⟨⟨[(2, .inl (.sl 1)), (7, .inr (.inr (.t (.ptr 0 0)))), (9, .inr (.inr (.t (.ptr 1 0)))), (35, .inr (.inl [.sl 1, .sl 1, .sl 1])), (36, .inl (.int .i64)), (49, .inr (.inl [.sl 1, .sl 1, .sl 1])), (50, .inl (.int .i64))], [.inl [.inl (.sl 1), .inl (.int .i64)], .inl [.inl (.sl 1)]]⟩,
  [(.exit 2, ⟨[(2, .inl (.sl 1)), (7, .inr (.inr (.t (.ptr 0 0)))), (35, .inr (.inl [.sl 1, .sl 1, .sl 1])), (36, .inl (.int .i64))], [.inl [.inl (.sl 1), .inl (.int .i64)]]⟩), (.ret, ⟨[(6, .inl .bool)], []⟩)]⟩
/-- dynpos/dynposlaw05.StreamExact, the loop of block 0 -/
def la_6_0 : LAnn := ⟨⟨[(2, .inl (.sl 1)), (7, .inr (.inr (.t (.ptr 0 0)))), (35, .inr (.inl [.sl 1, .sl 1, .sl 1])), (36, .inl (.int .i64))], [.inl [.inl (.sl 1), .inl (.int .i64)]]⟩,
  [(.exit 0, ⟨[], []⟩), (.ret, ⟨[(6, .inl .bool)], []⟩)]⟩
/-- dynpos/dynposlaw05.StreamFinds, the loop of block 2 -/
def la_7_2 : LAnn := ⟨⟨[(3, .inr (.inr (.t (.ptr 0 0)))), (4, .inr (.inr (.t (.hsl 1)))), (5, .inr (.inr (.t (.hsl 2)))), (6, .inl (.int .i64)), (7, .inl (.int .i64)), (8, .inl (.int .i64))], [.inl [.inl (.sl 1), .inl (.int .i64)], .inr 1, .inr 1]⟩,
  [(.exit 2, ⟨[(3, .inr (.inr (.t (.ptr 0 0)))), (4, .inr (.inr (.t (.hsl 1)))), (5, .inr (.inr (.t (.hsl 2)))), (6, .inl (.int .i64)), (7, .inl (.int .i64))], [.inl [.inl (.sl 1), .inl (.int .i64)], .inr 1, .inr 1]⟩)]⟩
/-- dynpos/dynposlaw05.StreamFinds, the loop of block 0 -/
def la_7_0 : LAnn := ⟨⟨[(3, .inr (.inr (.t (.ptr 0 0)))), (4, .inr (.inr (.t (.hsl 1)))), (5, .inr (.inr (.t (.hsl 2)))), (6, .inl (.int .i64)), (7, .inl (.int .i64))], [.inl [.inl (.sl 1), .inl (.int .i64)], .inr 1, .inr 1]⟩,
  [(.exit 0, ⟨[(4, .inr (.inr (.t (.hsl 0)))), (5, .inr (.inr (.t (.hsl 1)))), (6, .inl (.int .i64))], [.inr 1, .inr 1]⟩)]⟩
/-- dynpos/stream.Feed, the loop of block 0 -/
def la_8_0 : LAnn := ⟨⟨[(4, .inr (.inr (.t (.ptr 0 0)))), (7, .inr (.inr (.t (.ptr 1 0)))), (21, .inl (.sl 1)), (22, .inl (.int .i64)), (23, .inl (.int .i64))], [.inl [.inl (.sl 1)], .inl [.inr (.t (.hsl 2)), .inl (.int .i64), .inr (.t (.hsl 3)), .inl (.int .i64)], .inr 1, .inr 1]⟩,
  [(.exit 0, ⟨[(4, .inr (.inr (.t (.ptr 0 0)))), (7, .inr (.inr (.t (.ptr 1 0))))], [.inl [.inl (.sl 1)], .inl [.inr (.t (.hsl 2)), .inl (.int .i64), .inr (.t (.hsl 3)), .inl (.int .i64)], .inr 1, .inr 1]⟩)]⟩
/-- dynpos/dynposlaw05.bytes, the loop of block 0 -/
def la_12_0 : LAnn := ⟨⟨[(0, .inr (.inr (.t (.ptr 0 0)))), (3, .inr (.inr (.t (.hsl 1)))), (4, .inl (.int .i64))], [.inl [.inl (.sl 1), .inl (.int .i64)], .inr 1]⟩,
  [(.exit 0, ⟨[(0, .inr (.inr (.t (.ptr 0 0)))), (3, .inr (.inr (.t (.hsl 1))))], [.inl [.inl (.sl 1), .inl (.int .i64)], .inr 1]⟩)]⟩
/-- dynpos/dynposref05.Same, the loop of block 0 -/
def la_13_0 : LAnn := ⟨⟨[(0, .inl (.sl 1)), (1, .inl (.sl 1)), (12, .inl (.int .i64)), (13, .inl (.int .i64))], []⟩,
  [(.exit 0, ⟨[], []⟩), (.ret, ⟨[(4, .inl .bool)], []⟩)]⟩
/-- (*dynpos/dynposmake.Src).Fields, the loop of block 0 -/
def la_15_0 : LAnn := ⟨⟨[(0, .inr (.inr (.t (.ptr 0 0)))), (3, .inr (.inr (.t (.hsl 1)))), (4, .inl (.int .i64))], [.inl [.inl (.sl 1), .inl (.int .i64)], .inr 1]⟩,
  [(.exit 0, ⟨[(3, .inr (.inr (.t (.hsl 1))))], [.inl [.inl (.sl 1), .inl (.int .i64)], .inr 1]⟩)]⟩
/-- dynpos/dynposref04.Format, the loop of block 0 -/
def la_16_0 : LAnn := ⟨⟨[(4, .inr (.inr (.t (.hsl 0)))), (13, .inl (.sl 1)), (14, .inl (.int .i64)), (15, .inl (.int .i64))], [.inr 1]⟩,
  [(.exit 0, ⟨[(4, .inr (.inr (.t (.hsl 0))))], [.inr 1]⟩)]⟩
/-- dynpos/dynposref05.Feed, the loop of block 0 -/
def la_19_0 : LAnn := ⟨⟨[(1, .inl (.sl 1)), (4, .inr (.inr (.t (.ptr 0 0)))), (7, .inr (.inr (.t (.hsl 1)))), (8, .inr (.inr (.t (.hsl 2)))), (9, .inl (.int .i64)), (10, .inl (.int .i64)), (17, .inl (.sl 1)), (18, .inl (.int .i64)), (19, .inl (.int .i64))], [.inl [.inl (.sl 1)], .inr 1, .inr 1]⟩,
  [(.exit 0, ⟨[(1, .inl (.sl 1)), (4, .inr (.inr (.t (.ptr 0 0)))), (7, .inr (.inr (.t (.hsl 1)))), (8, .inr (.inr (.t (.hsl 2)))), (9, .inl (.int .i64)), (10, .inl (.int .i64))], [.inl [.inl (.sl 1)], .inr 1, .inr 1]⟩)]⟩
/-- (*dynpos/dynposmake.Src).Noise, the loop of block 0 -/
def la_26_0 : LAnn := ⟨⟨[(0, .inr (.inr (.t (.ptr 0 0)))), (5, .inr (.inr (.t (.hsl 1)))), (6, .inl (.int .i64))], [.inl [.inl (.sl 1), .inl (.int .i64)], .inr 1]⟩,
  [(.exit 0, ⟨[(5, .inr (.inr (.t (.hsl 1))))], [.inl [.inl (.sl 1), .inl (.int .i64)], .inr 1]⟩)]⟩
/-- dynpos/dynposref04.Valid, the loop of block 0 -/
def la_30_0 : LAnn := ⟨⟨[(29, .inl (.sl 1)), (30, .inl (.int .i64)), (31, .inl (.int .i64))], []⟩,
  [(.exit 0, ⟨[], []⟩), (.ret, ⟨[(2, .inl .bool)], []⟩)]⟩
/-- dynpos/dynposref04.Sum, the loop of block 0 -/
def la_31_0 : LAnn := ⟨⟨[(3, .inl (.int .u8)), (6, .inl (.sl 1)), (7, .inl (.int .i64)), (8, .inl (.int .i64))], []⟩,
  [(.exit 0, ⟨[(3, .inl (.int .u8))], []⟩)]⟩
/-- dynpos/dynposref05.rest, the loop of block 0 -/
def la_32_0 : LAnn := ⟨⟨[(1, .inr (.inr (.t (.ptr 0 0)))), (23, .inl (.sl 1)), (24, .inl (.int .i64)), (25, .inl (.int .i64))], [.inl [.inl (.sl 1)]]⟩,
  [(.exit 0, ⟨[(1, .inr (.inr (.t (.ptr 0 0))))], [.inl [.inl (.sl 1)]]⟩), (.ret, ⟨[(2, .inr (.inr (.t (.hsl 0))))], [.inr 1]⟩)]⟩
/-- dynpos/dynposref04.Texts, the loop of block 0 -/
def la_39_0 : LAnn := ⟨⟨[(0, .inl (.sl 1)), (1, .inl (.sl 1)), (12, .inl (.int .i64)), (13, .inl (.int .i64))], []⟩,
  [(.exit 0, ⟨[], []⟩), (.ret, ⟨[(4, .inl .bool)], []⟩)]⟩
/-- dynpos/dynposref04.field, the loop of block 0 -/
def la_40_0 : LAnn := ⟨⟨[(0, .inl .str), (3, .inl (.int .i64))], []⟩,
  [(.exit 0, ⟨[], []⟩), (.ret, ⟨[(2, .inl .bool)], []⟩)]⟩
/-- dynpos/dynposref04.hex, the loop of block 0 -/
def la_41_0 : LAnn := ⟨⟨[(0, .inl (.int .u8)), (3, .inl (.int .i64))], []⟩,
  [(.exit 0, ⟨[], []⟩), (.ret, ⟨[(2, .inl (.int .i64))], []⟩)]⟩
/-- dynpos/dynposref04.Fields, the loop of block 0 -/
def la_42_0 : LAnn := ⟨⟨[(0, .inl .str), (3, .inr (.inr (.t (.hsl 0)))), (4, .inl (.int .i64))], [.inr 1]⟩,
  [(.exit 0, ⟨[(3, .inr (.inr (.t (.hsl 0))))], [.inr 1]⟩)]⟩
/-- internal/bytealg.LastIndexByte, the loop of block 0 -/
def la_43_0 : LAnn := ⟨⟨[(0, .inl (.sl 1)), (1, .inl (.int .u8)), (5, .inl (.int .i64))], []⟩,
  [(.exit 0, ⟨[], []⟩), (.ret, ⟨[(4, .inl (.int .i64))], []⟩)]⟩
/-- dynpos/sentence.field, the loop of block 0 -/
def la_57_0 : LAnn := ⟨⟨[(9, .inl (.sl 1)), (10, .inl (.int .i64)), (11, .inl (.int .i64))], []⟩,
  [(.exit 0, ⟨[], []⟩), (.ret, ⟨[(2, .inl .bool)], []⟩)]⟩
/-- dynpos/sentence.Sum, the loop of block 0 -/
def la_58_0 : LAnn := ⟨⟨[(3, .inl (.int .u8)), (6, .inl (.sl 1)), (7, .inl (.int .i64)), (8, .inl (.int .i64))], []⟩,
  [(.exit 0, ⟨[(3, .inl (.int .u8))], []⟩)]⟩
/-- slices.IndexFunc[[]string,string], the loop of block 0 -/
def la_63_0 : LAnn := ⟨⟨[(0, .inl (.sl 1)), (1, .inr (.inr (.undef))), (7, .inl (.int .i64)), (8, .inl (.int .i64))], []⟩,
  [(.exit 0, ⟨[], []⟩), (.ret, ⟨[(4, .inl (.int .i64))], []⟩)]⟩

noncomputable def E : Env := ⟨Tryd.prog, [3, 4, 5, 6, 7, 8, 9, 10, 11, 12, 13, 14, 15, 16, 17, 18, 19, 20, 21, 22, 23, 24, 25, 26, 27, 28, 29, 30, 31, 32, 33, 34, 35, 36, 37, 38, 39, 40, 41, 42, 43, 45, 46, 47, 48, 49, 50, 54, 55, 56, 57, 58, 63], [(24, 0), (32, 0)], [], [(8, 1), (11, 0), (17, 0), (19, 1), (20, 0), (22, 1), (29, 1), (33, 0), (38, 0)], [(3, 0, la_3_0), (4, 0, la_4_0), (6, 2, la_6_2), (6, 0, la_6_0), (7, 2, la_7_2), (7, 0, la_7_0), (8, 0, la_8_0), (12, 0, la_12_0), (13, 0, la_13_0), (15, 0, la_15_0), (16, 0, la_16_0), (19, 0, la_19_0), (26, 0, la_26_0), (30, 0, la_30_0), (31, 0, la_31_0), (32, 0, la_32_0), (39, 0, la_39_0), (40, 0, la_40_0), (41, 0, la_41_0), (42, 0, la_42_0), (43, 0, la_43_0), (57, 0, la_57_0), (58, 0, la_58_0), (63, 0, la_63_0)], [], [24], [(36, pBIndexByte), (45, pCutPrefix), (46, pCutSuffix), (47, pIndexByte), (54, pSplit)], [25, 37], [(25, 6, [(0, some 0)]), (19, 12, [(7, none)]), (8, 9, [(7, some 0), (7, some 2)]), (3, 6, [(3, none)]), (6, 1000002, [(35, none), (49, none)]), (6, 1000000, [(35, none)])], []⟩

end Go.Proofs.YtmlhemkadoadaaaDoor.Vm
