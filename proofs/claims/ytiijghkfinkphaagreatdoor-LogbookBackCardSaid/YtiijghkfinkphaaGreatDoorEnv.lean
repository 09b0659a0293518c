/- The annotations of the loops, by program. Nothing is claimed here. -/
import Derived.Test.YtiijghkfinkphaaGreatDoorVm4
import Derived.Test.YtiijghkfinkphaaGreatDoorProg
import Derived.Test.YtiijghkfinkphaaGreatDoorPrims
namespace Go.Proofs.YtiijghkfinkphaaGreatDoor.Vm

def la_3_0 : LAnn := ⟨⟨[(77, .inr (.inl [.str, .str, .str, .str, .str, .str])), (78, .inl (.int .i64))], []⟩,
  [(.exit 0, ⟨[], []⟩), (.ret, ⟨[(8, .inl .bool)], []⟩)]⟩
def la_8_0 : LAnn := ⟨⟨[(0, .inr (.inr (.t (.ptr 0 0)))), (4, .inr (.inr (.t (.ptr 1 0)))), (5, .inr (.inr (.t (.ptr 2 0)))), (6, .inl (.int .i64)), (7, .inl (.int .i64))], [.inl [.inl (.sl 1), .inl (.int .i64)], .inl [.inl (.sl 3), .inl (.int .u64)], .inl [.inl (.sl 3), .inl (.int .u64)]]⟩,
  [(.exit 0, ⟨[(4, .inr (.inr (.t (.ptr 1 0)))), (5, .inr (.inr (.t (.ptr 2 0))))], [.inl [.inl (.sl 1), .inl (.int .i64)], .inl [.inl (.sl 3), .inl (.int .u64)], .inl [.inl (.sl 3), .inl (.int .u64)]]⟩)]⟩
def la_12_2 : LAnn := ⟨⟨[(0, .inl .str), (2, .inr (.inr (.t (.ptr 0 0)))), (4, .inr (.inr (.t (.ptr 1 0)))), (5, .inl (.int .i64)), (6, .inl (.int .i64))], [.inl [.inl (.sl 3), .inl (.int .u64)], .inl [.inl (.sl 3), .inl (.int .u64)]]⟩,
  [(.exit 2, ⟨[(0, .inl .str), (2, .inr (.inr (.t (.ptr 0 0)))), (4, .inr (.inr (.t (.ptr 1 0)))), (5, .inl (.int .i64)), (6, .inl (.int .i64))], [.inl [.inl (.sl 3), .inl (.int .u64)], .inl [.inl (.sl 3), .inl (.int .u64)]]⟩)]⟩
def la_12_0 : LAnn := ⟨⟨[(0, .inl .str), (2, .inr (.inr (.t (.ptr 0 0)))), (4, .inr (.inr (.t (.ptr 1 0)))), (5, .inl (.int .i64))], [.inl [.inl (.sl 3), .inl (.int .u64)], .inl [.inl (.sl 3), .inl (.int .u64)]]⟩,
  [(.exit 0, ⟨[(0, .inl .str), (2, .inr (.inr (.t (.ptr 0 0)))), (4, .inr (.inr (.t (.ptr 1 0)))), (5, .inl (.int .i64))], [.inl [.inl (.sl 3), .inl (.int .u64)], .inl [.inl (.sl 3), .inl (.int .u64)]]⟩), (.ret, ⟨[(2, .inr (.inr (.t (.ptr 0 0)))), (3, .inl (.int .i64))], [.inl [.inl (.sl 3), .inl (.int .u64)]]⟩)]⟩
def la_14_0 : LAnn := ⟨⟨[(0, .inl (.sl 3)), (1, .inl (.sl 3)), (12, .inl (.int .i64)), (13, .inl (.int .i64))], []⟩,
  [(.exit 0, ⟨[], []⟩), (.ret, ⟨[(4, .inl .bool)], []⟩)]⟩
def la_15_0 : LAnn := ⟨⟨[(1, .inr (.inr (.t (.ptr 0 0)))), (3, .inl (.int .u64)), (12, .inl (.sl 3)), (13, .inl (.int .i64)), (14, .inl (.int .i64))], [.inl [.inl (.sl 3), .inl (.int .u64)]]⟩,
  [(.exit 0, ⟨[(1, .inr (.inr (.t (.ptr 0 0)))), (3, .inl (.int .u64))], [.inl [.inl (.sl 3), .inl (.int .u64)]]⟩), (.ret, ⟨[(2, .inl (.int .i64))], []⟩)]⟩
def la_19_0 : LAnn := ⟨⟨[(0, .inl (.sl 3)), (1, .inl (.sl 3)), (12, .inl (.int .i64)), (13, .inl (.int .i64))], []⟩,
  [(.exit 0, ⟨[], []⟩), (.ret, ⟨[(4, .inl .bool)], []⟩)]⟩
def la_21_0 : LAnn := ⟨⟨[(3, .inr (.inr (.t (.hsl 0)))), (14, .inl (.sl 1)), (15, .inl (.int .i64)), (16, .inl (.int .i64))], [.inr 1]⟩,
  [(.exit 0, ⟨[(3, .inr (.inr (.t (.hsl 0))))], [.inr 1]⟩)]⟩
def la_27_0 : LAnn := ⟨⟨[(0, .inr (.inr (.t (.ptr 0 0)))), (4, .inr (.inr (.t (.ptr 1 0)))), (5, .inr (.inr (.t (.ptr 2 0)))), (6, .inl (.int .i64))], [.inl [.inl (.sl 1), .inl (.int .i64)], .inl [.inl (.int .i64), .inl (.int .i64), .inl (.sl 1)], .inl [.inl (.int .i64), .inl (.int .i64), .inr (.t (.hsl 3))], .inr 1]⟩,
  [(.exit 0, ⟨[(4, .inr (.inr (.t (.ptr 1 0)))), (5, .inr (.inr (.t (.ptr 2 0))))], [.inl [.inl (.sl 1), .inl (.int .i64)], .inl [.inl (.int .i64), .inl (.int .i64), .inl (.sl 1)], .inl [.inl (.int .i64), .inl (.int .i64), .inr (.t (.hsl 3))], .inr 1]⟩)]⟩
def la_32_0 : LAnn := ⟨⟨[(0, .inl (.int .u64)), (8, .inl (.sl 1)), (9, .inl (.int .i64)), (10, .inl (.int .i64))], []⟩,
  [(.exit 0, ⟨[(0, .inl (.int .u64))], []⟩)]⟩
def la_35_0 : LAnn := ⟨⟨[(0, .inl (.sl 1)), (1, .inl (.sl 1)), (12, .inl (.int .i64)), (13, .inl (.int .i64))], []⟩,
  [(.exit 0, ⟨[], []⟩), (.ret, ⟨[(4, .inl .bool)], []⟩)]⟩
def la_39_0 : LAnn := ⟨⟨[(1, .inl (.int .i64)), (2, .inl (.int .i64)), (3, .inl (.int .i64)), (4, .inr (.inr (.t (.ptr 0 0)))), (13, .inr (.inr (.t (.hsl 1)))), (56, .inl (.sl 3)), (57, .inl (.int .i64)), (58, .inl (.int .i64))], [.inl [.inl (.sl 3), .inl (.int .u64)], .inr 3]⟩,
  [(.exit 0, ⟨[(13, .inr (.inr (.t (.hsl 0))))], [.inr 3]⟩)]⟩
def la_46_0 : LAnn := ⟨⟨[(1, .inr (.inr (.t (.ptr 0 0)))), (3, .inl (.int .u64)), (11, .inl (.sl 3)), (12, .inl (.int .i64)), (13, .inl (.int .i64))], [.inl [.inl (.sl 3), .inl (.int .u64)]]⟩,
  [(.exit 0, ⟨[(1, .inr (.inr (.t (.ptr 0 0)))), (3, .inl (.int .u64))], [.inl [.inl (.sl 3), .inl (.int .u64)]]⟩), (.ret, ⟨[(2, .inl (.int .i64))], []⟩)]⟩
def la_47_0 : LAnn := ⟨⟨[(29, .inl (.sl 1)), (30, .inl (.int .i64)), (31, .inl (.int .i64))], []⟩,
  [(.exit 0, ⟨[], []⟩), (.ret, ⟨[(2, .inl .bool)], []⟩)]⟩
def la_48_0 : LAnn := ⟨⟨[(0, .inl (.int .u64)), (1, .inl .str), (5, .inl (.int .i64))], []⟩,
  [(.exit 0, ⟨[(0, .inl (.int .u64))], []⟩)]⟩
def la_49_0 : LAnn := ⟨⟨[(3, .inl .str), (15, .inl (.sl 1)), (16, .inl (.int .i64)), (17, .inl (.int .i64))], []⟩,
  [(.exit 0, ⟨[(3, .inl .str)], []⟩)]⟩
def la_57_0 : LAnn := ⟨⟨[(0, .inl .str), (4, .inl .str), (5, .inl (.int .i64)), (6, .inl (.int .i64))], []⟩,
  [(.exit 0, ⟨[(0, .inl .str), (5, .inl (.int .i64))], []⟩), (.ret, ⟨[(2, .inl (.int .i64)), (3, .inl .bool)], []⟩)]⟩
def la_59_0 : LAnn := ⟨⟨[(0, .inl (.int .i64)), (7, .inl (.sl 1)), (8, .inl (.int .i64)), (9, .inl (.int .i64))], []⟩,
  [(.exit 0, ⟨[], []⟩), (.ret, ⟨[(4, .inl .bool)], []⟩)]⟩

noncomputable def E : Env := ⟨Tryz.prog, [3, 4, 5, 6, 7, 8, 9, 10, 11, 12, 13, 14, 15, 16, 17, 18, 19, 21, 23, 24, 25, 26, 27, 29, 30, 31, 32, 33, 34, 35, 36, 37, 39, 43, 44, 45, 46, 47, 48, 49, 50, 53, 54, 55, 56, 57, 58, 59, 60, 61, 67], [(39, 0)], [], [(6, 0), (10, 1), (50, 1), (56, 0)], [(3, 0, la_3_0), (8, 0, la_8_0), (12, 2, la_12_2), (12, 0, la_12_0), (14, 0, la_14_0), (15, 0, la_15_0), (19, 0, la_19_0), (21, 0, la_21_0), (27, 0, la_27_0), (32, 0, la_32_0), (35, 0, la_35_0), (39, 0, la_39_0), (46, 0, la_46_0), (47, 0, la_47_0), (48, 0, la_48_0), (49, 0, la_49_0), (57, 0, la_57_0), (59, 0, la_59_0)], [], [56], [(7, hBook 15 21 23), (11, hRead 17 23 29 30 31 32), (16, hAppend 15 37 30 31 21 32), (18, hDegr 39), (29, hParse 54 53 55 37 21), (33, hParseR 57 47 49), (43, .pure pItoa), (44, .pure pJoin), (45, .pure pFormatUint), (53, .pure pSplit), (54, .pure pTrimSuffix), (55, .pure pAtoi), (61, .pure pAt)], [], [], []⟩

end Go.Proofs.YtiijghkfinkphaaGreatDoor.Vm
