/- The annotations of the loops, by program. Nothing is claimed here. -/
import Derived.Test.YtbacfgghneknjaaVm4
import Derived.Test.YtbacfgghneknjaaProg
namespace Go.Proofs.Ytbacfgghneknjaa.Vm

/-- dynpos/dynposlaw13.ShareNearest, the loop of block 0 -/
def la_3_0 : LAnn := ⟨⟨[(4, .inl (.sl 3)), (9, .inl (.sl 1)), (10, .inl (.int .i64)), (12, .inl (.sl 1)), (90, .inl (.int .i64)), (91, .inl (.int .i64))], []⟩,
  [(.exit 0, ⟨[], []⟩), (.ret, ⟨[(2, .inl .bool)], []⟩)]⟩
/-- dynpos/dynposlaw13.ShareScales, the loop of block 2 -/
def la_4_2 : LAnn := ⟨⟨[(3, .inr (.inr (.t (.ptr 0 0)))), (4, .inr (.inr (.t (.hsl 1)))), (6, .inr (.inr (.t (.hsl 2)))), (7, .inl (.int .i64)), (50, .inl (.int .i64)), (51, .inl (.int .i64))], [.inl [.inl (.sl 1), .inl (.int .i64)], .inr 3, .inr 3]⟩,
  [(.exit 2, ⟨[(3, .inr (.inr (.t (.ptr 0 0)))), (4, .inr (.inr (.t (.hsl 1)))), (6, .inr (.inr (.t (.hsl 2)))), (7, .inl (.int .i64))], [.inl [.inl (.sl 1), .inl (.int .i64)], .inr 3, .inr 3]⟩)]⟩
/-- dynpos/dynposlaw13.ShareScales, the loop of block 0 -/
def la_4_0 : LAnn := ⟨⟨[(3, .inr (.inr (.t (.ptr 0 0)))), (4, .inr (.inr (.t (.hsl 1)))), (29, .inl (.int .i64)), (30, .inl (.int .i64))], [.inl [.inl (.sl 1), .inl (.int .i64)], .inr 3]⟩,
  [(.exit 0, ⟨[(3, .inr (.inr (.t (.ptr 0 0)))), (4, .inr (.inr (.t (.hsl 1))))], [.inl [.inl (.sl 1), .inl (.int .i64)], .inr 3]⟩)]⟩
/-- dynpos/dynposlaw13.ShareRanges, the loop of block 0 -/
def la_5_0 : LAnn := ⟨⟨[(3, .inr (.inr (.t (.ptr 0 0)))), (4, .inl (.sl 3)), (8, .inl (.int .i64)), (9, .inr (.inr (.t (.hsl 1)))), (42, .inl (.int .i64)), (43, .inl (.int .i64))], [.inl [.inl (.sl 1), .inl (.int .i64)], .inr 3]⟩,
  [(.exit 0, ⟨[(4, .inl (.sl 3)), (8, .inl (.int .i64)), (9, .inr (.inr (.t (.hsl 0))))], [.inr 3]⟩)]⟩
/-- dynpos/dynposlaw13.SharePrice, the loop of block 2 -/
def la_6_2 : LAnn := ⟨⟨[(21, .inl (.int .i64)), (24, .inl (.sl 1)), (25, .inl (.int .i64)), (133, .inl (.sl 1)), (134, .inl (.int .i64)), (135, .inl (.int .i64))], []⟩,
  [(.exit 2, ⟨[(24, .inl (.sl 1)), (25, .inl (.int .i64))], []⟩), (.ret, ⟨[(2, .inl .bool)], []⟩)]⟩
/-- dynpos/dynposlaw13.SharePrice, the loop of block 0 -/
def la_6_0 : LAnn := ⟨⟨[(3, .inr (.inr (.t (.ptr 0 0)))), (8, .inl (.int .i64)), (21, .inl (.int .i64)), (22, .inr (.inr (.t (.hsl 1)))), (23, .inl (.int .i64))], [.inl [.inl (.sl 1), .inl (.int .i64)], .inr 3]⟩,
  [(.exit 0, ⟨[(8, .inl (.int .i64)), (21, .inl (.int .i64)), (22, .inr (.inr (.t (.hsl 0))))], [.inr 3]⟩)]⟩
/-- dynpos/dynposlaw13.ShareExact, the loop of block 4 -/
def la_7_4 : LAnn := ⟨⟨[(2, .inl (.int .i64)), (3, .inl (.sl 1)), (9, .inr (.inr (.t (.ptr 0 0)))), (13, .inl (.sl 3)), (21, .inl (.int .i64)), (68, .inr (.inl [.sl 3, .sl 3, .sl 3])), (69, .inl (.int .i64)), (117, .inr (.inl [.int .i64, .int .i64, .int .i64])), (118, .inl (.int .i64)), (175, .inr (.inl [.sl 1, .sl 1, .sl 1])), (176, .inl (.int .i64))], [.inl [.inl (.sl 1), .inl (.int .i64)]]⟩,
  [(.exit 4, ⟨[(2, .inl (.int .i64)), (3, .inl (.sl 1)), (9, .inr (.inr (.t (.ptr 0 0)))), (13, .inl (.sl 3)), (68, .inr (.inl [.sl 3, .sl 3, .sl 3])), (69, .inl (.int .i64)), (117, .inr (.inl [.int .i64, .int .i64, .int .i64])), (118, .inl (.int .i64))], [.inl [.inl (.sl 1), .inl (.int .i64)]]⟩), (.ret, ⟨[(8, .inl .bool)], []⟩)]⟩
/-- dynpos/dynposlaw13.ShareExact, the loop of block 2 -/
def la_7_2 : LAnn := ⟨⟨[(2, .inl (.int .i64)), (3, .inl (.sl 1)), (9, .inr (.inr (.t (.ptr 0 0)))), (13, .inl (.sl 3)), (68, .inr (.inl [.sl 3, .sl 3, .sl 3])), (69, .inl (.int .i64)), (117, .inr (.inl [.int .i64, .int .i64, .int .i64])), (118, .inl (.int .i64))], [.inl [.inl (.sl 1), .inl (.int .i64)]]⟩,
  [(.exit 2, ⟨[(2, .inl (.int .i64)), (3, .inl (.sl 1)), (9, .inr (.inr (.t (.ptr 0 0)))), (68, .inr (.inl [.sl 3, .sl 3, .sl 3])), (69, .inl (.int .i64))], [.inl [.inl (.sl 1), .inl (.int .i64)]]⟩), (.ret, ⟨[(8, .inl .bool)], []⟩)]⟩
/-- dynpos/dynposlaw13.ShareExact, the loop of block 0 -/
def la_7_0 : LAnn := ⟨⟨[(2, .inl (.int .i64)), (3, .inl (.sl 1)), (9, .inr (.inr (.t (.ptr 0 0)))), (68, .inr (.inl [.sl 3, .sl 3, .sl 3])), (69, .inl (.int .i64))], [.inl [.inl (.sl 1), .inl (.int .i64)]]⟩,
  [(.exit 0, ⟨[], []⟩), (.ret, ⟨[(8, .inl .bool)], []⟩)]⟩
/-- dynpos/dynposlaw13.ShareLeast, the loop of block 2 -/
def la_8_2 : LAnn := ⟨⟨[(3, .inr (.inr (.t (.ptr 0 0)))), (4, .inl (.sl 3)), (5, .inl (.int .i64)), (9, .inl (.int .i64)), (14, .inr (.inr (.t (.hsl 1)))), (15, .inl (.int .i64))], [.inl [.inl (.sl 1), .inl (.int .i64)], .inr 1]⟩,
  [(.exit 2, ⟨[], []⟩), (.ret, ⟨[(2, .inl .bool)], []⟩)]⟩
/-- dynpos/dynposlaw13.ShareLeast, the loop of block 0 -/
def la_8_0 : LAnn := ⟨⟨[(3, .inr (.inr (.t (.ptr 0 0)))), (4, .inl (.sl 3)), (5, .inl (.int .i64)), (6, .inl (.sl 1)), (7, .inl (.int .i64)), (9, .inl (.int .i64)), (10, .inl (.int .i64)), (11, .inl (.int .i64)), (56, .inl (.sl 1)), (57, .inl (.int .i64)), (58, .inl (.int .i64))], [.inl [.inl (.sl 1), .inl (.int .i64)]]⟩,
  [(.exit 0, ⟨[(3, .inr (.inr (.t (.ptr 0 0)))), (4, .inl (.sl 3)), (5, .inl (.int .i64)), (6, .inl (.sl 1)), (7, .inl (.int .i64)), (9, .inl (.int .i64)), (10, .inl (.int .i64)), (11, .inl (.int .i64))], [.inl [.inl (.sl 1), .inl (.int .i64)]]⟩)]⟩
/-- (*dynpos/dynposmake.Src).Shares, the loop of block 0 -/
def la_10_0 : LAnn := ⟨⟨[(0, .inr (.inr (.t (.ptr 0 0)))), (5, .inr (.inr (.t (.hsl 1)))), (6, .inl (.int .i64))], [.inl [.inl (.sl 1), .inl (.int .i64)], .inr 3]⟩,
  [(.exit 0, ⟨[(5, .inr (.inr (.t (.hsl 1))))], [.inl [.inl (.sl 1), .inl (.int .i64)], .inr 3]⟩)]⟩
/-- dynpos/share.Reach, the loop of block 0 -/
def la_11_0 : LAnn := ⟨⟨[(2, .inl (.int .i64)), (3, .inl (.int .i64)), (13, .inl (.sl 3)), (14, .inl (.int .i64)), (15, .inl (.int .i64))], []⟩,
  [(.exit 0, ⟨[(2, .inl (.int .i64)), (3, .inl (.int .i64))], []⟩)]⟩
/-- dynpos/share.Divide, the loop of block 2 -/
def la_13_2 : LAnn := ⟨⟨[(1, .inl (.int .i64)), (10, .inl (.int .i64)), (11, .inl (.int .i64)), (17, .inr (.inr (.t (.hsl 0)))), (18, .inl (.int .i64)), (69, .inl (.sl 3)), (70, .inl (.int .i64)), (71, .inl (.int .i64))], [.inr 1]⟩,
  [(.exit 2, ⟨[(1, .inl (.int .i64)), (10, .inl (.int .i64)), (17, .inr (.inr (.t (.hsl 0))))], [.inr 1]⟩)]⟩
/-- dynpos/share.Divide, the loop of block 0 -/
def la_13_0 : LAnn := ⟨⟨[(0, .inl (.sl 3)), (1, .inl (.int .i64)), (10, .inl (.int .i64)), (11, .inl (.int .i64)), (12, .inl (.int .i64))], []⟩,
  [(.exit 0, ⟨[(0, .inl (.sl 3)), (1, .inl (.int .i64)), (10, .inl (.int .i64)), (11, .inl (.int .i64))], []⟩)]⟩
/-- dynpos/dynposref01.Ints, the loop of block 0 -/
def la_15_0 : LAnn := ⟨⟨[(0, .inl (.sl 1)), (1, .inl (.sl 1)), (12, .inl (.int .i64)), (13, .inl (.int .i64))], []⟩,
  [(.exit 0, ⟨[], []⟩), (.ret, ⟨[(4, .inl .bool)], []⟩)]⟩
/-- dynpos/share.Sum, the loop of block 1 -/
def la_16_1 : LAnn := ⟨⟨[(1, .inl (.sl 1)), (6, .inl (.int .i64)), (26, .inl (.sl 3)), (27, .inl (.int .i64)), (28, .inl (.int .i64))], []⟩,
  [(.exit 1, ⟨[(6, .inl (.int .i64))], []⟩)]⟩
/-- dynpos/dynposref13.Reach, the loop of block 0 -/
def la_17_0 : LAnn := ⟨⟨[(6, .inl (.int .i64)), (7, .inl (.int .i64)), (15, .inl (.sl 3)), (16, .inl (.int .i64)), (17, .inl (.int .i64))], []⟩,
  [(.exit 0, ⟨[(6, .inl (.int .i64)), (7, .inl (.int .i64))], []⟩)]⟩
/-- dynpos/share.Price, the loop of block 0 -/
def la_20_0 : LAnn := ⟨⟨[(1, .inl (.sl 1)), (4, .inl (.int .i64)), (5, .inl (.int .i64)), (7, .inl .bool), (8, .inl .bool), (17, .inl (.sl 3)), (18, .inl (.int .i64)), (19, .inl (.int .i64))], []⟩,
  [(.exit 0, ⟨[(4, .inl (.int .i64)), (5, .inl (.int .i64)), (7, .inl .bool), (8, .inl .bool)], []⟩)]⟩
/-- dynpos/share.Valid, the loop of block 0 -/
def la_22_0 : LAnn := ⟨⟨[(8, .inl (.sl 3)), (9, .inl (.int .i64)), (10, .inl (.int .i64))], []⟩,
  [(.exit 0, ⟨[], []⟩), (.ret, ⟨[(2, .inl (.int .i64))], []⟩)]⟩
/-- dynpos/dynposref13.Valid, the loop of block 0 -/
def la_23_0 : LAnn := ⟨⟨[(8, .inl (.sl 3)), (9, .inl (.int .i64)), (10, .inl (.int .i64))], []⟩,
  [(.exit 0, ⟨[], []⟩), (.ret, ⟨[(2, .inl (.int .i64))], []⟩)]⟩
/-- dynpos/dynposref13.Divide, the loop of block 4 -/
def la_25_4 : LAnn := ⟨⟨[(0, .inl (.sl 3)), (1, .inl (.int .i64)), (10, .inl (.int .i64)), (11, .inr (.inr (.t (.hsl 0)))), (14, .inl (.int .i64)), (15, .inl (.int .i64)), (56, .inl (.sl 3)), (57, .inl (.int .i64)), (58, .inl (.int .i64))], [.inr 1]⟩,
  [(.exit 4, ⟨[(0, .inl (.sl 3)), (1, .inl (.int .i64)), (10, .inl (.int .i64)), (11, .inr (.inr (.t (.hsl 0)))), (14, .inl (.int .i64)), (15, .inl (.int .i64))], [.inr 1]⟩)]⟩
/-- dynpos/dynposref13.Divide, the loop of block 2 -/
def la_25_2 : LAnn := ⟨⟨[(0, .inl (.sl 3)), (1, .inl (.int .i64)), (10, .inl (.int .i64)), (11, .inr (.inr (.t (.hsl 0)))), (14, .inl (.int .i64))], [.inr 1]⟩,
  [(.exit 2, ⟨[(1, .inl (.int .i64)), (10, .inl (.int .i64)), (11, .inr (.inr (.t (.hsl 0))))], [.inr 1]⟩)]⟩
/-- dynpos/dynposref13.Divide, the loop of block 0 -/
def la_25_0 : LAnn := ⟨⟨[(0, .inl (.sl 3)), (1, .inl (.int .i64)), (7, .inl (.int .i64)), (10, .inl (.int .i64)), (11, .inr (.inr (.t (.hsl 0)))), (38, .inl (.sl 3)), (39, .inl (.int .i64)), (40, .inl (.int .i64))], [.inr 1]⟩,
  [(.exit 0, ⟨[(0, .inl (.sl 3)), (1, .inl (.int .i64)), (7, .inl (.int .i64)), (10, .inl (.int .i64)), (11, .inr (.inr (.t (.hsl 0))))], [.inr 1]⟩)]⟩
/-- dynpos/dynposref13.Sum, the loop of block 0 -/
def la_26_0 : LAnn := ⟨⟨[(1, .inl (.sl 1)), (7, .inl (.int .i64)), (24, .inl (.sl 3)), (25, .inl (.int .i64)), (26, .inl (.int .i64))], []⟩,
  [(.exit 0, ⟨[(7, .inl (.int .i64))], []⟩)]⟩
/-- dynpos/dynposref13.Price, the loop of block 0 -/
def la_27_0 : LAnn := ⟨⟨[(1, .inl (.sl 1)), (7, .inl (.int .i64)), (8, .inl (.int .i64)), (9, .inl .bool), (10, .inl .bool), (24, .inl (.sl 3)), (25, .inl (.int .i64)), (26, .inl (.int .i64))], []⟩,
  [(.exit 0, ⟨[(7, .inl (.int .i64)), (8, .inl (.int .i64)), (9, .inl .bool), (10, .inl .bool)], []⟩)]⟩
/-- dynpos/share.Check, the loop of block 0 -/
def la_28_0 : LAnn := ⟨⟨[(0, .inl (.sl 3)), (1, .inl (.int .i64)), (2, .inl (.sl 1)), (7, .inl (.int .i64)), (8, .inl (.int .i64)), (10, .inl (.int .i64)), (26, .inl (.sl 1)), (27, .inl (.int .i64)), (28, .inl (.int .i64))], []⟩,
  [(.exit 0, ⟨[(0, .inl (.sl 3)), (1, .inl (.int .i64)), (2, .inl (.sl 1)), (7, .inl (.int .i64)), (8, .inl (.int .i64)), (10, .inl (.int .i64))], []⟩)]⟩
/-- dynpos/dynposref13.Check, the loop of block 4 -/
def la_29_4 : LAnn := ⟨⟨[(0, .inl (.sl 3)), (2, .inl (.sl 1)), (13, .inl (.int .i64)), (14, .inr (.inr (.t (.ptr 0 0)))), (48, .inl (.sl 3)), (49, .inl (.int .i64)), (50, .inl (.int .i64)), (55, .inl (.sl 3)), (56, .inl (.int .i64)), (57, .inl (.int .i64))], [.inl [.inl (.int .i64), .inl (.int .i64), .inl (.int .i64)]]⟩,
  [(.exit 4, ⟨[(0, .inl (.sl 3)), (2, .inl (.sl 1)), (48, .inl (.sl 3)), (49, .inl (.int .i64)), (50, .inl (.int .i64))], []⟩), (.ret, ⟨[(6, .inl .bool)], []⟩)]⟩
/-- dynpos/dynposref13.Check, the loop of block 2 -/
def la_29_2 : LAnn := ⟨⟨[(0, .inl (.sl 3)), (2, .inl (.sl 1)), (48, .inl (.sl 3)), (49, .inl (.int .i64)), (50, .inl (.int .i64))], []⟩,
  [(.exit 2, ⟨[], []⟩), (.ret, ⟨[(6, .inl .bool)], []⟩)]⟩
/-- dynpos/dynposref13.Check, the loop of block 0 -/
def la_29_0 : LAnn := ⟨⟨[(0, .inl (.sl 3)), (1, .inl (.int .i64)), (2, .inl (.sl 1)), (7, .inl (.int .i64)), (8, .inl (.int .i64)), (10, .inl (.int .i64)), (31, .inl (.sl 1)), (32, .inl (.int .i64)), (33, .inl (.int .i64))], []⟩,
  [(.exit 0, ⟨[(0, .inl (.sl 3)), (1, .inl (.int .i64)), (2, .inl (.sl 1)), (7, .inl (.int .i64)), (8, .inl (.int .i64)), (10, .inl (.int .i64))], []⟩)]⟩
/-- dynpos/share.priced, the loop of block 0 -/
def la_32_0 : LAnn := ⟨⟨[(1, .inl (.int .i64)), (4, .inr (.inr (.t (.hsl 0)))), (5, .inl (.int .i64)), (10, .inl (.sl 3)), (11, .inl (.int .i64)), (12, .inl (.int .i64))], [.inr 1]⟩,
  [(.exit 0, ⟨[(4, .inr (.inr (.t (.hsl 0)))), (5, .inl (.int .i64))], [.inr 1]⟩)]⟩
/-- dynpos/share.ranged, the loop of block 0 -/
def la_34_0 : LAnn := ⟨⟨[(1, .inl (.sl 1)), (17, .inl (.sl 3)), (18, .inl (.int .i64)), (19, .inl (.int .i64))], []⟩,
  [(.exit 0, ⟨[], []⟩), (.ret, ⟨[(4, .inl .bool)], []⟩)]⟩
/-- dynpos/dynposref13.inside, the loop of block 0 -/
def la_38_0 : LAnn := ⟨⟨[(1, .inl (.sl 1)), (12, .inl (.sl 3)), (13, .inl (.int .i64)), (14, .inl (.int .i64))], []⟩,
  [(.exit 0, ⟨[], []⟩), (.ret, ⟨[(4, .inl .bool)], []⟩)]⟩

noncomputable def E : Env := ⟨Try.prog, [3, 4, 5, 6, 7, 8, 9, 10, 11, 12, 13, 14, 15, 16, 17, 18, 19, 20, 21, 22, 23, 24, 25, 26, 27, 28, 29, 30, 31, 32, 33, 34, 35, 36, 37, 38, 39, 40], [(10, 0), (13, 0), (32, 0)], [], [(9, 0), (21, 1), (25, 0)], [(3, 0, la_3_0), (4, 2, la_4_2), (4, 0, la_4_0), (5, 0, la_5_0), (6, 2, la_6_2), (6, 0, la_6_0), (7, 4, la_7_4), (7, 2, la_7_2), (7, 0, la_7_0), (8, 2, la_8_2), (8, 0, la_8_0), (10, 0, la_10_0), (11, 0, la_11_0), (13, 2, la_13_2), (13, 0, la_13_0), (15, 0, la_15_0), (16, 1, la_16_1), (17, 0, la_17_0), (20, 0, la_20_0), (22, 0, la_22_0), (23, 0, la_23_0), (25, 4, la_25_4), (25, 2, la_25_2), (25, 0, la_25_0), (26, 0, la_26_0), (27, 0, la_27_0), (28, 0, la_28_0), (29, 4, la_29_4), (29, 2, la_29_2), (29, 0, la_29_0), (32, 0, la_32_0), (34, 0, la_34_0), (38, 0, la_38_0)], [], []⟩

end Go.Proofs.Ytbacfgghneknjaa.Vm
