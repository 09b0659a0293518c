/- The annotations of the loops, by program. Nothing is claimed here. -/
import Derived.Test.YtclnapbghehlaaaDoorVm4
import Derived.Test.YtclnapbghehlaaaDoorProg
import Derived.Test.YtclnapbghehlaaaDoorPrims
namespace Go.Proofs.YtclnapbghehlaaaDoor.Vm

/-- dynpos/dynposlaw04.SentenceFields, the loop of block 0 -/
def la_3_0 : LAnn := ⟨⟨[(1, .inl (.sl 1)), (2, .inl (.sl 1)), (8, .inl (.sl 1)), (9, .inl .str), (26, .inl (.sl 1)), (27, .inl (.int .i64)), (28, .inl (.int .i64))], []⟩,
  [(.exit 0, ⟨[(1, .inl (.sl 1)), (2, .inl (.sl 1)), (8, .inl (.sl 1)), (9, .inl .str)], []⟩)]⟩
/-- dynpos/dynposlaw04.SentenceExact, the loop of block 2 -/
def la_4_2 : LAnn := ⟨⟨[(2, .inl (.sl 1)), (3, .inl .str), (9, .inr (.inr (.t (.ptr 0 0)))), (56, .inr (.inl [.sl 1, .sl 1, .sl 1])), (57, .inl (.int .i64)), (107, .inr (.inl [.sl 1, .sl 1, .sl 1, .sl 1])), (108, .inl (.int .i64))], [.inl [.inl (.sl 1), .inl (.int .i64)]]⟩,
  [(.exit 2, ⟨[(2, .inl (.sl 1)), (3, .inl .str), (9, .inr (.inr (.t (.ptr 0 0)))), (56, .inr (.inl [.sl 1, .sl 1, .sl 1])), (57, .inl (.int .i64))], [.inl [.inl (.sl 1), .inl (.int .i64)]]⟩), (.ret, ⟨[(8, .inl .bool)], []⟩)]⟩
/-- dynpos/dynposlaw04.SentenceExact, the loop of block 0 -/
def la_4_0 : LAnn := ⟨⟨[(2, .inl (.sl 1)), (3, .inl .str), (9, .inr (.inr (.t (.ptr 0 0)))), (56, .inr (.inl [.sl 1, .sl 1, .sl 1])), (57, .inl (.int .i64))], [.inl [.inl (.sl 1), .inl (.int .i64)]]⟩,
  [(.exit 0, ⟨[(3, .inl .str)], []⟩), (.ret, ⟨[(8, .inl .bool)], []⟩)]⟩
/-- dynpos/dynposlaw04.SentenceLimits, the loop of block 2 -/
def la_7_2 : LAnn := ⟨⟨[(5, .inl (.int .i64)), (6, .inl (.int .i64)), (7, .inr (.inr (.t (.hsl 0)))), (8, .inl (.int .i64)), (9, .inl .str)], [.inr 1]⟩,
  [(.exit 2, ⟨[(5, .inl (.int .i64)), (6, .inl (.int .i64)), (7, .inr (.inr (.t (.hsl 0)))), (8, .inl (.int .i64)), (9, .inl .str)], [.inr 1]⟩)]⟩
/-- dynpos/dynposlaw04.SentenceLimits, the loop of block 0 -/
def la_7_0 : LAnn := ⟨⟨[(5, .inl (.int .i64)), (6, .inl (.int .i64)), (7, .inr (.inr (.t (.hsl 0)))), (8, .inl (.int .i64))], [.inr 1]⟩,
  [(.exit 0, ⟨[(5, .inl (.int .i64)), (6, .inl (.int .i64)), (7, .inr (.inr (.t (.hsl 0))))], [.inr 1]⟩)]⟩
/-- (*dynpos/dynposmake.Src).Fields, the loop of block 0 -/
def la_10_0 : LAnn := ⟨⟨[(0, .inr (.inr (.t (.ptr 0 0)))), (3, .inr (.inr (.t (.hsl 1)))), (4, .inl (.int .i64))], [.inl [.inl (.sl 1), .inl (.int .i64)], .inr 1]⟩,
  [(.exit 0, ⟨[(3, .inr (.inr (.t (.hsl 1))))], [.inl [.inl (.sl 1), .inl (.int .i64)], .inr 1]⟩)]⟩
/-- dynpos/dynposref04.Texts, the loop of block 0 -/
def la_11_0 : LAnn := ⟨⟨[(0, .inl (.sl 1)), (1, .inl (.sl 1)), (12, .inl (.int .i64)), (13, .inl (.int .i64))], []⟩,
  [(.exit 0, ⟨[], []⟩), (.ret, ⟨[(4, .inl .bool)], []⟩)]⟩
/-- dynpos/sentence.Sum, the loop of block 0 -/
def la_13_0 : LAnn := ⟨⟨[(3, .inl (.int .u8)), (6, .inl (.sl 1)), (7, .inl (.int .i64)), (8, .inl (.int .i64))], []⟩,
  [(.exit 0, ⟨[(3, .inl (.int .u8))], []⟩)]⟩
/-- dynpos/dynposlaw04.few, the loop of block 0 -/
def la_14_0 : LAnn := ⟨⟨[(3, .inl (.int .i64)), (8, .inl (.sl 1)), (9, .inl (.int .i64)), (10, .inl (.int .i64))], []⟩,
  [(.exit 0, ⟨[(3, .inl (.int .i64))], []⟩)]⟩
/-- dynpos/dynposref04.Format, the loop of block 0 -/
def la_17_0 : LAnn := ⟨⟨[(4, .inr (.inr (.t (.hsl 0)))), (13, .inl (.sl 1)), (14, .inl (.int .i64)), (15, .inl (.int .i64))], [.inr 1]⟩,
  [(.exit 0, ⟨[(4, .inr (.inr (.t (.hsl 0))))], [.inr 1]⟩)]⟩
/-- dynpos/dynposref04.Valid, the loop of block 0 -/
def la_19_0 : LAnn := ⟨⟨[(29, .inl (.sl 1)), (30, .inl (.int .i64)), (31, .inl (.int .i64))], []⟩,
  [(.exit 0, ⟨[], []⟩), (.ret, ⟨[(2, .inl .bool)], []⟩)]⟩
/-- (*dynpos/dynposmake.Src).Noise, the loop of block 0 -/
def la_22_0 : LAnn := ⟨⟨[(0, .inr (.inr (.t (.ptr 0 0)))), (5, .inr (.inr (.t (.hsl 1)))), (6, .inl (.int .i64))], [.inl [.inl (.sl 1), .inl (.int .i64)], .inr 1]⟩,
  [(.exit 0, ⟨[(5, .inr (.inr (.t (.hsl 1))))], [.inl [.inl (.sl 1), .inl (.int .i64)], .inr 1]⟩)]⟩
/-- dynpos/dynposref04.Sum, the loop of block 0 -/
def la_26_0 : LAnn := ⟨⟨[(3, .inl (.int .u8)), (6, .inl (.sl 1)), (7, .inl (.int .i64)), (8, .inl (.int .i64))], []⟩,
  [(.exit 0, ⟨[(3, .inl (.int .u8))], []⟩)]⟩
/-- dynpos/dynposref04.Fields, the loop of block 0 -/
def la_27_0 : LAnn := ⟨⟨[(0, .inl .str), (3, .inr (.inr (.t (.hsl 0)))), (4, .inl (.int .i64))], [.inr 1]⟩,
  [(.exit 0, ⟨[(3, .inr (.inr (.t (.hsl 0))))], [.inr 1]⟩)]⟩
/-- dynpos/sentence.field, the loop of block 0 -/
def la_34_0 : LAnn := ⟨⟨[(9, .inl (.sl 1)), (10, .inl (.int .i64)), (11, .inl (.int .i64))], []⟩,
  [(.exit 0, ⟨[], []⟩), (.ret, ⟨[(2, .inl .bool)], []⟩)]⟩
/-- dynpos/dynposref04.field, the loop of block 0 -/
def la_35_0 : LAnn := ⟨⟨[(0, .inl .str), (3, .inl (.int .i64))], []⟩,
  [(.exit 0, ⟨[], []⟩), (.ret, ⟨[(2, .inl .bool)], []⟩)]⟩
/-- dynpos/dynposref04.hex, the loop of block 0 -/
def la_40_0 : LAnn := ⟨⟨[(0, .inl (.int .u8)), (3, .inl (.int .i64))], []⟩,
  [(.exit 0, ⟨[], []⟩), (.ret, ⟨[(2, .inl (.int .i64))], []⟩)]⟩
/-- slices.IndexFunc[[]string,string], the loop of block 0 -/
def la_45_0 : LAnn := ⟨⟨[(0, .inl (.sl 1)), (1, .inr (.inr (.undef))), (7, .inl (.int .i64)), (8, .inl (.int .i64))], []⟩,
  [(.exit 0, ⟨[], []⟩), (.ret, ⟨[(4, .inl (.int .i64))], []⟩)]⟩

noncomputable def E : Env := ⟨Tryd.prog, [3, 4, 5, 6, 7, 8, 9, 10, 11, 12, 13, 14, 15, 16, 17, 18, 19, 20, 21, 22, 23, 24, 25, 26, 27, 28, 29, 30, 31, 32, 33, 34, 35, 36, 37, 38, 39, 40, 45], [(10, 0)], [], [(9, 0), (15, 1), (20, 1), (23, 0), (24, 0)], [(3, 0, la_3_0), (4, 2, la_4_2), (4, 0, la_4_0), (7, 2, la_7_2), (7, 0, la_7_0), (10, 0, la_10_0), (11, 0, la_11_0), (13, 0, la_13_0), (14, 0, la_14_0), (17, 0, la_17_0), (19, 0, la_19_0), (22, 0, la_22_0), (26, 0, la_26_0), (27, 0, la_27_0), (34, 0, la_34_0), (35, 0, la_35_0), (40, 0, la_40_0), (45, 0, la_45_0)], [], [], [(29, pSplit), (31, pJoin), (37, pCutPrefix), (38, pCutSuffix), (39, pIndexByte)]⟩

end Go.Proofs.YtclnapbghehlaaaDoor.Vm
