/- The annotations of the loops, by program. Nothing is claimed here. -/
import Derived.Test.YtcnjaffogkkpnaaVm4
import Derived.Test.YtcnjaffogkkpnaaProg
namespace Go.Proofs.Ytcnjaffogkkpnaa.Vm

/-- dynpos/dynposlaw14.AllocateNothing, the loop of block 0 -/
def la_3_0 : LAnn := ⟨⟨[(4, .inr (.inr (.t (.ptr 0 0)))), (8, .inr (.inr (.t (.ptr 1 0)))), (10, .inr (.inr (.t (.ptr 2 0)))), (71, .inl (.int .i64)), (72, .inl (.int .i64))], [.inl [.inl (.int .i64), .inl (.int .i64), .inl (.sl 6)], .inl [.inl (.sl 2), .inl (.int .i64), .inl (.int .i64), .inl (.int .i64), .inl (.int .i64), .inl (.int .i64), .inl (.int .i64)], .inl [.inl (.sl 2), .inl (.int .i64), .inl (.int .i64), .inl (.int .i64), .inl (.int .i64), .inl (.int .i64), .inl (.int .i64)]]⟩,
  [(.exit 0, ⟨[(4, .inr (.inr (.t (.ptr 0 0)))), (8, .inr (.inr (.t (.ptr 1 0))))], [.inl [.inl (.int .i64), .inl (.int .i64), .inl (.sl 6)], .inl [.inl (.sl 2), .inl (.int .i64), .inl (.int .i64), .inl (.int .i64), .inl (.int .i64), .inl (.int .i64), .inl (.int .i64)]]⟩), (.ret, ⟨[(2, .inl .bool)], []⟩)]⟩
/-- dynpos/dynposlaw14.AllocateMonotone, the loop of block 0 -/
def la_4_0 : LAnn := ⟨⟨[(10, .inr (.inr (.t (.ptr 0 0)))), (12, .inr (.inr (.t (.ptr 1 0)))), (14, .inr (.inr (.t (.ptr 2 0)))), (103, .inl (.sl 6)), (104, .inl (.int .i64)), (105, .inl (.int .i64))], [.inl [.inl (.sl 2), .inl (.int .i64), .inl (.int .i64), .inl (.int .i64), .inl (.int .i64), .inl (.int .i64), .inl (.int .i64)], .inl [.inl (.sl 2), .inl (.int .i64), .inl (.int .i64), .inl (.int .i64), .inl (.int .i64), .inl (.int .i64), .inl (.int .i64)], .inl [.inl (.sl 2), .inl (.int .i64), .inl (.int .i64), .inl (.int .i64), .inl (.int .i64), .inl (.int .i64), .inl (.int .i64)]]⟩,
  [(.exit 0, ⟨[], []⟩), (.ret, ⟨[(2, .inl .bool)], []⟩)]⟩
/-- dynpos/dynposlaw14.AllocateRates, the loop of block 2 -/
def la_5_2 : LAnn := ⟨⟨[(4, .inr (.inr (.t (.ptr 0 0)))), (5, .inl (.sl 1)), (7, .inr (.inr (.t (.ptr 1 0)))), (8, .inl (.sl 2)), (16, .inr (.inr (.t (.ptr 2 0)))), (165, .inl (.int .i64)), (166, .inl (.int .i64))], [.inl [.inl (.int .i64), .inl (.int .i64), .inl (.sl 6)], .inl [.inl (.int .i64), .inl (.int .i64), .inl (.int .i64)], .inl [.inl (.int .i64), .inl (.int .i64), .inr (.t (.hsl 3))], .inr 6]⟩,
  [(.exit 2, ⟨[(4, .inr (.inr (.t (.ptr 0 0)))), (5, .inl (.sl 1)), (7, .inr (.inr (.t (.ptr 1 0)))), (8, .inl (.sl 2)), (16, .inr (.inr (.t (.ptr 2 0))))], [.inl [.inl (.int .i64), .inl (.int .i64), .inl (.sl 6)], .inl [.inl (.int .i64), .inl (.int .i64), .inl (.int .i64)], .inl [.inl (.int .i64), .inl (.int .i64), .inr (.t (.hsl 3))], .inr 6]⟩)]⟩
/-- dynpos/dynposlaw14.AllocateRates, the loop of block 0 -/
def la_5_0 : LAnn := ⟨⟨[(4, .inr (.inr (.t (.ptr 0 0)))), (5, .inl (.sl 1)), (7, .inr (.inr (.t (.ptr 1 0)))), (8, .inl (.sl 2)), (56, .inl (.sl 2)), (57, .inl (.int .i64)), (58, .inl (.int .i64))], [.inl [.inl (.int .i64), .inl (.int .i64), .inl (.sl 6)], .inl [.inl (.int .i64), .inl (.int .i64), .inl (.int .i64)]]⟩,
  [(.exit 0, ⟨[(4, .inr (.inr (.t (.ptr 0 0)))), (5, .inl (.sl 1)), (7, .inr (.inr (.t (.ptr 1 0)))), (8, .inl (.sl 2))], [.inl [.inl (.int .i64), .inl (.int .i64), .inl (.sl 6)], .inl [.inl (.int .i64), .inl (.int .i64), .inl (.int .i64)]]⟩), (.ret, ⟨[(2, .inl .bool)], []⟩)]⟩
/-- dynpos/dynposlaw14.AllocateStations, the loop of block 0 -/
def la_6_0 : LAnn := ⟨⟨[(3, .inr (.inr (.t (.ptr 0 0)))), (4, .inr (.inr (.t (.ptr 1 0)))), (5, .inl (.sl 1)), (9, .inr (.inr (.t (.ptr 2 0)))), (12, .inr (.inr (.t (.hsl 3)))), (91, .inl (.int .i64)), (92, .inl (.int .i64))], [.inl [.inl (.sl 1), .inl (.int .i64)], .inl [.inl (.int .i64), .inl (.int .i64), .inl (.sl 6)], .inl [.inl (.int .i64), .inl (.int .i64), .inl (.int .i64)], .inr 1]⟩,
  [(.exit 0, ⟨[(4, .inr (.inr (.t (.ptr 0 0)))), (5, .inl (.sl 1)), (9, .inr (.inr (.t (.ptr 1 0)))), (12, .inr (.inr (.t (.hsl 2))))], [.inl [.inl (.int .i64), .inl (.int .i64), .inl (.sl 6)], .inl [.inl (.int .i64), .inl (.int .i64), .inl (.int .i64)], .inr 1]⟩)]⟩
/-- dynpos/dynposlaw14.AllocateOptimal, the loop of block 2 -/
def la_7_2 : LAnn := ⟨⟨[(4, .inr (.inr (.t (.ptr 0 0)))), (5, .inl (.sl 1)), (6, .inl (.sl 2)), (7, .inr (.inr (.t (.ptr 1 0)))), (126, .inr (.inl [.int .i64, .int .i64])), (127, .inl (.int .i64))], [.inl [.inl (.int .i64), .inl (.int .i64), .inl (.sl 6)], .inl [.inl (.int .i64), .inl (.int .i64), .inl (.int .i64)]]⟩,
  [(.exit 2, ⟨[], []⟩), (.ret, ⟨[(2, .inl .bool)], []⟩)]⟩
/-- dynpos/dynposlaw14.AllocateOptimal, the loop of block 0 -/
def la_7_0 : LAnn := ⟨⟨[(4, .inr (.inr (.t (.ptr 0 0)))), (5, .inl (.sl 1)), (6, .inl (.sl 2)), (7, .inr (.inr (.t (.ptr 1 0)))), (8, .inr (.inr (.t (.ptr 2 0)))), (61, .inl (.sl 2)), (62, .inl (.int .i64)), (63, .inl (.int .i64))], [.inl [.inl (.int .i64), .inl (.int .i64), .inl (.sl 6)], .inl [.inl (.int .i64), .inl (.int .i64), .inl (.int .i64)], .inl [.inl (.sl 2), .inl (.int .i64), .inl (.int .i64), .inl (.int .i64), .inl (.int .i64), .inl (.int .i64), .inl (.int .i64)]]⟩,
  [(.exit 0, ⟨[(4, .inr (.inr (.t (.ptr 0 0)))), (5, .inl (.sl 1)), (6, .inl (.sl 2)), (7, .inr (.inr (.t (.ptr 1 0)))), (8, .inr (.inr (.t (.ptr 2 0))))], [.inl [.inl (.int .i64), .inl (.int .i64), .inl (.sl 6)], .inl [.inl (.int .i64), .inl (.int .i64), .inl (.int .i64)], .inl [.inl (.sl 2), .inl (.int .i64), .inl (.int .i64), .inl (.int .i64), .inl (.int .i64), .inl (.int .i64), .inl (.int .i64)]]⟩), (.ret, ⟨[(2, .inl .bool)], []⟩)]⟩
/-- dynpos/allocate.Divide, the loop of block 2 -/
def la_10_2 : LAnn := ⟨⟨[(4, .inr (.inr (.t (.ptr 0 0)))), (7, .inr (.inr (.t (.ptr 1 0)))), (8, .inr (.inr (.t (.ptr 2 0)))), (15, .inr (.inr (.t (.hsl 3)))), (19, .inl (.sl 1)), (22, .inr (.inr (.t (.ptr 4 0)))), (81, .inl (.int .i64)), (82, .inl (.int .i64))], [.inl [.inl (.int .i64), .inl (.int .i64), .inl (.sl 6)], .inl [.inl (.int .i64), .inl (.int .i64), .inl (.int .i64)], .inl [.inl (.sl 2), .inl (.int .i64), .inl (.int .i64), .inl (.int .i64), .inl (.int .i64), .inl (.int .i64), .inl (.int .i64)], .inr 1, .inl [.inr (.t (.hsl 5)), .inl (.int .i64), .inl (.int .i64), .inl (.int .i64), .inl (.int .i64), .inl (.int .i64), .inl (.int .i64)], .inr 2]⟩,
  [(.exit 2, ⟨[(4, .inr (.inr (.t (.ptr 0 0)))), (7, .inr (.inr (.t (.ptr 1 0)))), (8, .inr (.inr (.t (.ptr 2 0)))), (22, .inr (.inr (.t (.ptr 3 0))))], [.inl [.inl (.int .i64), .inl (.int .i64), .inl (.sl 6)], .inl [.inl (.int .i64), .inl (.int .i64), .inl (.int .i64)], .inl [.inl (.sl 2), .inl (.int .i64), .inl (.int .i64), .inl (.int .i64), .inl (.int .i64), .inl (.int .i64), .inl (.int .i64)], .inl [.inr (.t (.hsl 4)), .inl (.int .i64), .inl (.int .i64), .inl (.int .i64), .inl (.int .i64), .inl (.int .i64), .inl (.int .i64)], .inr 2]⟩)]⟩
/-- dynpos/allocate.Divide, the loop of block 0 -/
def la_10_0 : LAnn := ⟨⟨[(4, .inr (.inr (.t (.ptr 0 0)))), (7, .inr (.inr (.t (.ptr 1 0)))), (8, .inr (.inr (.t (.ptr 2 0)))), (10, .inr (.inr (.t (.ptr 3 0)))), (12, .inl (.sl 1)), (15, .inr (.inr (.t (.hsl 4)))), (55, .inl (.int .i64)), (56, .inl (.int .i64))], [.inl [.inl (.int .i64), .inl (.int .i64), .inl (.sl 6)], .inl [.inl (.int .i64), .inl (.int .i64), .inl (.int .i64)], .inl [.inl (.sl 2), .inl (.int .i64), .inl (.int .i64), .inl (.int .i64), .inl (.int .i64), .inl (.int .i64), .inl (.int .i64)], .inl [.inl (.sl 6), .inl (.sl 2)], .inr 1]⟩,
  [(.exit 0, ⟨[(4, .inr (.inr (.t (.ptr 0 0)))), (7, .inr (.inr (.t (.ptr 1 0)))), (8, .inr (.inr (.t (.ptr 2 0)))), (10, .inr (.inr (.t (.ptr 3 0)))), (15, .inr (.inr (.t (.hsl 4))))], [.inl [.inl (.int .i64), .inl (.int .i64), .inl (.sl 6)], .inl [.inl (.int .i64), .inl (.int .i64), .inl (.int .i64)], .inl [.inl (.sl 2), .inl (.int .i64), .inl (.int .i64), .inl (.int .i64), .inl (.int .i64), .inl (.int .i64), .inl (.int .i64)], .inl [.inl (.sl 6), .inl (.sl 2)], .inr 1]⟩)]⟩
/-- (*dynpos/dynposmake.Src).Thrusts, the loop of block 0 -/
def la_14_0 : LAnn := ⟨⟨[(0, .inr (.inr (.t (.ptr 0 0)))), (5, .inr (.inr (.t (.hsl 1)))), (8, .inl (.int .i64)), (9, .inl (.int .i64))], [.inl [.inl (.sl 1), .inl (.int .i64)], .inr 2]⟩,
  [(.exit 0, ⟨[(5, .inr (.inr (.t (.hsl 1))))], [.inl [.inl (.sl 1), .inl (.int .i64)], .inr 2]⟩)]⟩
/-- dynpos/dynposref11.Lateral, the loop of block 2 -/
def la_16_2 : LAnn := ⟨⟨[(1, .inr (.inr (.t (.ptr 0 0)))), (4, .inl (.int .i64)), (5, .inl (.int .i64))], [.inl [.inl (.int .i64), .inl (.int .i64), .inl (.int .i64), .inl (.int .i64), .inl (.int .i64), .inl (.sl 2)]]⟩,
  [(.exit 2, ⟨[(4, .inl (.int .i64)), (5, .inl (.int .i64))], []⟩)]⟩
/-- dynpos/dynposref11.Lateral, the loop of block 0 -/
def la_16_0 : LAnn := ⟨⟨[(1, .inr (.inr (.t (.ptr 0 0)))), (4, .inl (.int .i64)), (5, .inl (.int .i64))], [.inl [.inl (.int .i64), .inl (.int .i64), .inl (.int .i64), .inl (.int .i64), .inl (.int .i64), .inl (.sl 2)]]⟩,
  [(.exit 0, ⟨[(1, .inr (.inr (.t (.ptr 0 0)))), (4, .inl (.int .i64)), (5, .inl (.int .i64))], [.inl [.inl (.int .i64), .inl (.int .i64), .inl (.int .i64), .inl (.int .i64), .inl (.int .i64), .inl (.sl 2)]]⟩)]⟩
/-- dynpos/dynposref11.Longitudinal, the loop of block 2 -/
def la_17_2 : LAnn := ⟨⟨[(1, .inl (.int .i64)), (2, .inr (.inr (.t (.ptr 0 0)))), (6, .inl (.int .i64)), (7, .inl (.int .i64))], [.inl [.inl (.int .i64), .inl (.int .i64), .inl (.int .i64), .inl (.int .i64), .inl (.int .i64), .inl (.sl 2)]]⟩,
  [(.exit 2, ⟨[(6, .inl (.int .i64)), (7, .inl (.int .i64))], []⟩)]⟩
/-- dynpos/dynposref11.Longitudinal, the loop of block 0 -/
def la_17_0 : LAnn := ⟨⟨[(1, .inl (.int .i64)), (2, .inr (.inr (.t (.ptr 0 0)))), (6, .inl (.int .i64)), (7, .inl (.int .i64))], [.inl [.inl (.int .i64), .inl (.int .i64), .inl (.int .i64), .inl (.int .i64), .inl (.int .i64), .inl (.sl 2)]]⟩,
  [(.exit 0, ⟨[(1, .inl (.int .i64)), (2, .inr (.inr (.t (.ptr 0 0)))), (6, .inl (.int .i64)), (7, .inl (.int .i64))], [.inl [.inl (.int .i64), .inl (.int .i64), .inl (.int .i64), .inl (.int .i64), .inl (.int .i64), .inl (.sl 2)]]⟩)]⟩
/-- dynpos/allocate.Check, the loop of block 0 -/
def la_21_0 : LAnn := ⟨⟨[(8, .inr (.inr (.t (.ptr 0 0)))), (11, .inr (.inr (.t (.ptr 1 0)))), (15, .inr (.inr (.t (.hsl 2)))), (16, .inr (.inr (.t (.ptr 3 0)))), (56, .inl (.sl 2)), (57, .inl (.int .i64)), (58, .inl (.int .i64))], [.inl [.inl (.int .i64), .inl (.int .i64), .inl (.int .i64)], .inl [.inl (.sl 6), .inl (.sl 2)], .inr 1, .inl [.inr (.t (.hsl 4))], .inr 1]⟩,
  [(.exit 0, ⟨[(8, .inr (.inr (.t (.ptr 0 0)))), (11, .inr (.inr (.t (.ptr 1 0)))), (15, .inr (.inr (.t (.hsl 2)))), (16, .inr (.inr (.t (.ptr 3 0))))], [.inl [.inl (.int .i64), .inl (.int .i64), .inl (.int .i64)], .inl [.inl (.sl 6), .inl (.sl 2)], .inr 1, .inl [.inl (.sl 1)]]⟩)]⟩
/-- dynpos/dynposref11.Allowed, the loop of block 0 -/
def la_22_0 : LAnn := ⟨⟨[(1, .inl (.int .i64)), (2, .inl (.int .i64)), (70, .inl (.sl 2)), (71, .inl (.int .i64)), (72, .inl (.int .i64))], []⟩,
  [(.exit 0, ⟨[], []⟩), (.ret, ⟨[(6, .inl .bool)], []⟩)]⟩
/-- dynpos/dynposref12.Total, the loop of block 0 -/
def la_23_0 : LAnn := ⟨⟨[(2, .inr (.inr (.t (.ptr 0 0)))), (4, .inr (.inr (.t (.ptr 1 0)))), (7, .inr (.inr (.t (.ptr 2 0)))), (23, .inl (.sl 2)), (24, .inl (.int .i64)), (25, .inl (.int .i64))], [.inl [.inl (.int .i64), .inl (.int .i64), .inl (.sl 6)], .inl [.inl (.int .i64), .inl (.int .i64), .inl (.int .i64)], .inl [.inl (.int .i64), .inl (.int .i64), .inl (.int .i64)]]⟩,
  [(.exit 0, ⟨[(4, .inr (.inr (.t (.ptr 0 0)))), (7, .inr (.inr (.t (.ptr 1 0))))], [.inl [.inl (.int .i64), .inl (.int .i64), .inl (.int .i64)], .inl [.inl (.int .i64), .inl (.int .i64), .inl (.int .i64)]]⟩), (.ret, ⟨[(4, .inr (.inr (.t (.ptr 0 0)))), (5, .inl (.int .i64))], [.inl [.inl (.int .i64), .inl (.int .i64), .inl (.int .i64)]]⟩)]⟩
/-- dynpos/dynposref13.Reach, the loop of block 0 -/
def la_25_0 : LAnn := ⟨⟨[(6, .inl (.int .i64)), (7, .inl (.int .i64)), (15, .inl (.sl 3)), (16, .inl (.int .i64)), (17, .inl (.int .i64))], []⟩,
  [(.exit 0, ⟨[(6, .inl (.int .i64)), (7, .inl (.int .i64))], []⟩)]⟩
/-- (*dynpos/dynposmake.Src).Ship, the loop of block 0 -/
def la_26_0 : LAnn := ⟨⟨[(0, .inr (.inr (.t (.ptr 0 0)))), (4, .inr (.inr (.t (.ptr 1 0)))), (5, .inr (.inr (.t (.ptr 2 0)))), (6, .inl (.int .i64))], [.inl [.inl (.sl 1), .inl (.int .i64)], .inl [.inl (.int .i64), .inl (.int .i64), .inl (.sl 6)], .inl [.inl (.int .i64), .inl (.int .i64), .inr (.t (.hsl 3))], .inr 6]⟩,
  [(.exit 0, ⟨[(4, .inr (.inr (.t (.ptr 1 0)))), (5, .inr (.inr (.t (.ptr 2 0))))], [.inl [.inl (.sl 1), .inl (.int .i64)], .inl [.inl (.int .i64), .inl (.int .i64), .inl (.sl 6)], .inl [.inl (.int .i64), .inl (.int .i64), .inr (.t (.hsl 3))], .inr 6]⟩)]⟩
/-- (*dynpos/dynposmake.Src).Most, the loop of block 0 -/
def la_27_0 : LAnn := ⟨⟨[(0, .inr (.inr (.t (.ptr 0 0)))), (5, .inr (.inr (.t (.hsl 1)))), (8, .inl (.int .i64)), (9, .inl (.int .i64))], [.inl [.inl (.sl 1), .inl (.int .i64)], .inr 1]⟩,
  [(.exit 0, ⟨[(5, .inr (.inr (.t (.hsl 1))))], [.inl [.inl (.sl 1), .inl (.int .i64)], .inr 1]⟩)]⟩
/-- dynpos/share.Divide, the loop of block 2 -/
def la_30_2 : LAnn := ⟨⟨[(1, .inl (.int .i64)), (10, .inl (.int .i64)), (11, .inl (.int .i64)), (17, .inr (.inr (.t (.hsl 0)))), (18, .inl (.int .i64)), (69, .inl (.sl 3)), (70, .inl (.int .i64)), (71, .inl (.int .i64))], [.inr 1]⟩,
  [(.exit 2, ⟨[(1, .inl (.int .i64)), (10, .inl (.int .i64)), (17, .inr (.inr (.t (.hsl 0))))], [.inr 1]⟩)]⟩
/-- dynpos/share.Divide, the loop of block 0 -/
def la_30_0 : LAnn := ⟨⟨[(0, .inl (.sl 3)), (1, .inl (.int .i64)), (10, .inl (.int .i64)), (11, .inl (.int .i64)), (12, .inl (.int .i64))], []⟩,
  [(.exit 0, ⟨[(0, .inl (.sl 3)), (1, .inl (.int .i64)), (10, .inl (.int .i64)), (11, .inl (.int .i64))], []⟩)]⟩
/-- (dynpos/allocate.moment).laterals, the loop of block 0 -/
def la_31_0 : LAnn := ⟨⟨[(1, .inl (.int .i64)), (2, .inr (.inr (.t (.ptr 0 0)))), (5, .inr (.inr (.t (.hsl 1)))), (11, .inl (.sl 6)), (12, .inl (.int .i64)), (13, .inl (.int .i64))], [.inl [.inl (.sl 6), .inl (.sl 2)], .inr 3]⟩,
  [(.exit 0, ⟨[(5, .inr (.inr (.t (.hsl 0))))], [.inr 3]⟩)]⟩
/-- (dynpos/allocate.moment).surges, the loop of block 0 -/
def la_32_0 : LAnn := ⟨⟨[(1, .inl (.sl 1)), (2, .inr (.inr (.t (.ptr 0 0)))), (5, .inr (.inr (.t (.hsl 1)))), (11, .inl (.sl 6)), (12, .inl (.int .i64)), (13, .inl (.int .i64))], [.inl [.inl (.sl 6), .inl (.sl 2)], .inr 3]⟩,
  [(.exit 0, ⟨[(5, .inr (.inr (.t (.hsl 0))))], [.inr 3]⟩)]⟩
/-- dynpos/thruster.Total, the loop of block 1 -/
def la_33_1 : LAnn := ⟨⟨[(2, .inr (.inr (.t (.ptr 0 0)))), (4, .inr (.inr (.t (.ptr 1 0)))), (6, .inr (.inr (.t (.ptr 2 0)))), (24, .inl (.sl 2)), (25, .inl (.int .i64)), (26, .inl (.int .i64))], [.inl [.inl (.int .i64), .inl (.int .i64), .inl (.sl 6)], .inl [.inl (.int .i64), .inl (.int .i64), .inl (.int .i64)], .inl [.inl (.int .i64), .inl (.int .i64), .inl (.int .i64)]]⟩,
  [(.exit 1, ⟨[(4, .inr (.inr (.t (.ptr 0 0)))), (6, .inr (.inr (.t (.ptr 1 0))))], [.inl [.inl (.int .i64), .inl (.int .i64), .inl (.int .i64)], .inl [.inl (.int .i64), .inl (.int .i64), .inl (.int .i64)]]⟩), (.ret, ⟨[(4, .inr (.inr (.t (.ptr 0 0)))), (5, .inl (.int .i64))], [.inl [.inl (.int .i64), .inl (.int .i64), .inl (.int .i64)]]⟩)]⟩
/-- dynpos/dynposref14.Thrusts, the loop of block 0 -/
def la_35_0 : LAnn := ⟨⟨[(0, .inl (.sl 2)), (1, .inl (.sl 2)), (12, .inl (.int .i64)), (13, .inl (.int .i64))], []⟩,
  [(.exit 0, ⟨[], []⟩), (.ret, ⟨[(4, .inl .bool)], []⟩)]⟩
/-- dynpos/allocate.Check$1, the loop of block 0 -/
def la_40_0 : LAnn := ⟨⟨[(0, .inl (.int .i64)), (5, .inr (.inr (.t (.hsl 2)))), (11, .inl (.sl 6)), (12, .inl (.int .i64)), (13, .inl (.int .i64))], [.inl [.inl (.sl 1)], .inl [.inl (.sl 6), .inl (.sl 2)], .inr 1]⟩,
  [(.exit 0, ⟨[(5, .inr (.inr (.t (.hsl 2))))], [.inl [.inl (.sl 1)], .inl [.inl (.sl 6), .inl (.sl 2)], .inr 1]⟩)]⟩
/-- dynpos/share.Check, the loop of block 0 -/
def la_42_0 : LAnn := ⟨⟨[(0, .inl (.sl 3)), (1, .inl (.int .i64)), (2, .inl (.sl 1)), (7, .inl (.int .i64)), (8, .inl (.int .i64)), (10, .inl (.int .i64)), (26, .inl (.sl 1)), (27, .inl (.int .i64)), (28, .inl (.int .i64))], []⟩,
  [(.exit 0, ⟨[(0, .inl (.sl 3)), (1, .inl (.int .i64)), (2, .inl (.sl 1)), (7, .inl (.int .i64)), (8, .inl (.int .i64)), (10, .inl (.int .i64))], []⟩)]⟩
/-- dynpos/dynposref11.Valid, the loop of block 0 -/
def la_43_0 : LAnn := ⟨⟨[(60, .inl (.sl 2)), (61, .inl (.int .i64)), (62, .inl (.int .i64))], []⟩,
  [(.exit 0, ⟨[], []⟩), (.ret, ⟨[(2, .inl .bool)], []⟩)]⟩
/-- dynpos/dynposref12.Check, the loop of block 0 -/
def la_45_0 : LAnn := ⟨⟨[(36, .inl (.sl 6)), (37, .inl (.int .i64)), (38, .inl (.int .i64))], []⟩,
  [(.exit 0, ⟨[], []⟩), (.ret, ⟨[(2, .inl (.int .i64))], []⟩)]⟩
/-- dynpos/allocate.begin, the loop of block 3 -/
def la_47_3 : LAnn := ⟨⟨[(8, .inr (.inr (.t (.ptr 0 0)))), (11, .inr (.inr (.t (.ptr 1 0)))), (81, .inl (.sl 2)), (82, .inl (.int .i64)), (83, .inl (.int .i64))], [.inl [.inl (.sl 6), .inl (.sl 2)], .inl [.inr (.t (.hsl 2)), .inl (.sl 2)], .inr 6]⟩,
  [(.exit 3, ⟨[(8, .inr (.inr (.t (.ptr 0 0)))), (11, .inr (.inr (.t (.ptr 1 0))))], [.inl [.inl (.sl 6), .inl (.sl 2)], .inl [.inr (.t (.hsl 2)), .inl (.sl 2)], .inr 6]⟩), (.ret, ⟨[(8, .inr (.inr (.t (.ptr 0 0)))), (9, .inl (.int .i64))], [.inl [.inl (.sl 6), .inl (.sl 2)]]⟩)]⟩
/-- dynpos/allocate.begin, the loop of block 1 -/
def la_47_1 : LAnn := ⟨⟨[(1, .inl (.sl 1)), (2, .inl (.sl 2)), (8, .inr (.inr (.t (.ptr 0 0)))), (11, .inr (.inr (.t (.ptr 1 0)))), (62, .inl (.sl 6)), (63, .inl (.int .i64)), (64, .inl (.int .i64))], [.inl [.inl (.sl 6), .inl (.sl 2)], .inl [.inr (.t (.hsl 2)), .inl (.sl 2)], .inr 6]⟩,
  [(.exit 1, ⟨[(2, .inl (.sl 2)), (8, .inr (.inr (.t (.ptr 0 0)))), (11, .inr (.inr (.t (.ptr 1 0))))], [.inl [.inl (.sl 6), .inl (.sl 2)], .inl [.inr (.t (.hsl 2)), .inl (.sl 2)], .inr 6]⟩)]⟩
/-- dynpos/dynposref13.Valid, the loop of block 0 -/
def la_48_0 : LAnn := ⟨⟨[(8, .inl (.sl 3)), (9, .inl (.int .i64)), (10, .inl (.int .i64))], []⟩,
  [(.exit 0, ⟨[], []⟩), (.ret, ⟨[(2, .inl (.int .i64))], []⟩)]⟩
/-- (*dynpos/dynposmake.Src).Thruster, the loop of block 0 -/
def la_50_0 : LAnn := ⟨⟨[(0, .inr (.inr (.t (.ptr 0 0)))), (2, .inr (.inr (.t (.ptr 1 0)))), (3, .inr (.inr (.t (.ptr 2 0)))), (4, .inl (.int .i64))], [.inl [.inl (.sl 1), .inl (.int .i64)], .inl [.inl (.int .i64), .inl (.int .i64), .inl (.int .i64), .inl (.int .i64), .inl (.int .i64), .inl (.sl 2)], .inl [.inl (.int .i64), .inl (.int .i64), .inl (.int .i64), .inl (.int .i64), .inl (.int .i64), .inr (.t (.hsl 3))], .inr 2]⟩,
  [(.exit 0, ⟨[(2, .inr (.inr (.t (.ptr 1 0)))), (3, .inr (.inr (.t (.ptr 2 0))))], [.inl [.inl (.sl 1), .inl (.int .i64)], .inl [.inl (.int .i64), .inl (.int .i64), .inl (.int .i64), .inl (.int .i64), .inl (.int .i64), .inl (.sl 2)], .inl [.inl (.int .i64), .inl (.int .i64), .inl (.int .i64), .inl (.int .i64), .inl (.int .i64), .inr (.t (.hsl 3))], .inr 2]⟩)]⟩
/-- dynpos/share.Reach, the loop of block 0 -/
def la_51_0 : LAnn := ⟨⟨[(2, .inl (.int .i64)), (3, .inl (.int .i64)), (13, .inl (.sl 3)), (14, .inl (.int .i64)), (15, .inl (.int .i64))], []⟩,
  [(.exit 0, ⟨[(2, .inl (.int .i64)), (3, .inl (.int .i64))], []⟩)]⟩
/-- dynpos/share.priced, the loop of block 0 -/
def la_54_0 : LAnn := ⟨⟨[(1, .inl (.int .i64)), (4, .inr (.inr (.t (.hsl 0)))), (5, .inl (.int .i64)), (10, .inl (.sl 3)), (11, .inl (.int .i64)), (12, .inl (.int .i64))], [.inr 1]⟩,
  [(.exit 0, ⟨[(4, .inr (.inr (.t (.hsl 0)))), (5, .inl (.int .i64))], [.inr 1]⟩)]⟩
/-- dynpos/share.ranged, the loop of block 0 -/
def la_70_0 : LAnn := ⟨⟨[(1, .inl (.sl 1)), (17, .inl (.sl 3)), (18, .inl (.int .i64)), (19, .inl (.int .i64))], []⟩,
  [(.exit 0, ⟨[], []⟩), (.ret, ⟨[(4, .inl .bool)], []⟩)]⟩
/-- dynpos/share.Price, the loop of block 0 -/
def la_71_0 : LAnn := ⟨⟨[(1, .inl (.sl 1)), (4, .inl (.int .i64)), (5, .inl (.int .i64)), (7, .inl .bool), (8, .inl .bool), (17, .inl (.sl 3)), (18, .inl (.int .i64)), (19, .inl (.int .i64))], []⟩,
  [(.exit 0, ⟨[(4, .inl (.int .i64)), (5, .inl (.int .i64)), (7, .inl .bool), (8, .inl .bool)], []⟩)]⟩
/-- dynpos/share.Valid, the loop of block 0 -/
def la_79_0 : LAnn := ⟨⟨[(8, .inl (.sl 3)), (9, .inl (.int .i64)), (10, .inl (.int .i64))], []⟩,
  [(.exit 0, ⟨[], []⟩), (.ret, ⟨[(2, .inl (.int .i64))], []⟩)]⟩
/-- dynpos/sector.run, the loop of block 2 -/
def la_80_2 : LAnn := ⟨⟨[(0, .inr (.inr (.undef))), (2, .inl (.int .i64)), (3, .inl (.int .i64))], [.inl [.inr (.fn 81 [])], .inl [.inl (.int .i64), .inl (.int .i64), .inl (.int .i64), .inl (.int .i64), .inl (.int .i64), .inl (.sl 2)], .inl [.inr (.fn 84 [])], .inl [.inl (.int .i64), .inl (.int .i64), .inl (.int .i64), .inl (.int .i64), .inl (.int .i64), .inl (.sl 2)], .inl [.inl (.int .i64)]]⟩,
  [(.exit 2, ⟨[(2, .inl (.int .i64)), (3, .inl (.int .i64))], [.inl [.inr (.fn 81 [])], .inl [.inl (.int .i64), .inl (.int .i64), .inl (.int .i64), .inl (.int .i64), .inl (.int .i64), .inl (.sl 2)], .inl [.inr (.fn 84 [])], .inl [.inl (.int .i64), .inl (.int .i64), .inl (.int .i64), .inl (.int .i64), .inl (.int .i64), .inl (.sl 2)], .inl [.inl (.int .i64)]]⟩)]⟩
/-- dynpos/sector.run, the loop of block 0 -/
def la_80_0 : LAnn := ⟨⟨[(0, .inr (.inr (.undef))), (2, .inl (.int .i64)), (3, .inl (.int .i64))], [.inl [.inr (.fn 81 [])], .inl [.inl (.int .i64), .inl (.int .i64), .inl (.int .i64), .inl (.int .i64), .inl (.int .i64), .inl (.sl 2)], .inl [.inr (.fn 84 [])], .inl [.inl (.int .i64), .inl (.int .i64), .inl (.int .i64), .inl (.int .i64), .inl (.int .i64), .inl (.sl 2)], .inl [.inl (.int .i64)]]⟩,
  [(.exit 0, ⟨[(0, .inr (.inr (.undef))), (2, .inl (.int .i64)), (3, .inl (.int .i64))], [.inl [.inr (.fn 81 [])], .inl [.inl (.int .i64), .inl (.int .i64), .inl (.int .i64), .inl (.int .i64), .inl (.int .i64), .inl (.sl 2)], .inl [.inr (.fn 84 [])], .inl [.inl (.int .i64), .inl (.int .i64), .inl (.int .i64), .inl (.int .i64), .inl (.int .i64), .inl (.sl 2)], .inl [.inl (.int .i64)]]⟩)]⟩
/-- slices.IndexFunc[[]dynpos/api.Thruster,dynpos/api.Thruster], the loop of block 0 -/
def la_85_0 : LAnn := ⟨⟨[(0, .inl (.sl 6)), (1, .inr (.inr (.undef))), (7, .inl (.int .i64)), (8, .inl (.int .i64))], []⟩,
  [(.exit 0, ⟨[], []⟩), (.ret, ⟨[(4, .inl (.int .i64))], []⟩)]⟩
/-- slices.IndexFunc[[]int,int], the loop of block 0 -/
def la_90_0 : LAnn := ⟨⟨[(0, .inl (.sl 1)), (1, .inr (.inr (.undef))), (7, .inl (.int .i64)), (8, .inl (.int .i64))], [.inl [.inr (.fn 66 [])], .inl [.inl (.int .i64)], .inl [.inl (.int .i64)]]⟩,
  [(.exit 0, ⟨[], [.inl [.inr (.fn 66 [])], .inl [.inl (.int .i64)], .inl [.inl (.int .i64)]]⟩), (.ret, ⟨[(4, .inl (.int .i64))], [.inl [.inr (.fn 66 [])], .inl [.inl (.int .i64)], .inl [.inl (.int .i64)]]⟩)]⟩
/-- slices.IndexFunc[[]dynpos/api.Arc,dynpos/api.Arc], the loop of block 0 -/
def la_98_0 : LAnn := ⟨⟨[(0, .inl (.sl 2)), (1, .inr (.inr (.undef))), (7, .inl (.int .i64)), (8, .inl (.int .i64))], [.inl [.inr (.fn 88 [])], .inl [.inr (.fn 96 [])], .inl [.inl (.int .i64)], .inl [.inl (.int .i64)]]⟩,
  [(.exit 0, ⟨[], [.inl [.inr (.fn 88 [])], .inl [.inr (.fn 96 [])], .inl [.inl (.int .i64)], .inl [.inl (.int .i64)]]⟩), (.ret, ⟨[(4, .inl (.int .i64))], [.inl [.inr (.fn 88 [])], .inl [.inr (.fn 96 [])], .inl [.inl (.int .i64)], .inl [.inl (.int .i64)]]⟩)]⟩

noncomputable def E : Env := ⟨Try.prog, [3, 4, 5, 6, 7, 8, 9, 10, 11, 12, 13, 14, 15, 16, 17, 18, 19, 20, 21, 22, 23, 24, 25, 26, 27, 28, 29, 30, 31, 32, 33, 34, 35, 36, 37, 38, 39, 40, 41, 42, 43, 44, 45, 46, 47, 48, 49, 50, 51, 52, 53, 54, 55, 56, 57, 58, 59, 60, 61, 62, 63, 64, 65, 66, 67, 68, 69, 70, 71, 72, 73, 74, 75, 76, 77, 78, 79, 80, 81, 82, 83, 84, 85, 86, 87, 88, 89, 90, 91, 92, 93, 94, 95, 96, 97, 98, 99, 100, 101, 102, 103, 104, 105, 106, 107, 108], [(30, 0), (32, 0), (41, 0), (54, 0)], [], [(8, 0), (10, 1), (10, 2), (24, 1), (24, 2), (29, 1), (29, 2), (47, 1), (47, 2), (47, 3), (49, 1), (95, 0)], [(3, 0, la_3_0), (4, 0, la_4_0), (5, 2, la_5_2), (5, 0, la_5_0), (6, 0, la_6_0), (7, 2, la_7_2), (7, 0, la_7_0), (10, 2, la_10_2), (10, 0, la_10_0), (14, 0, la_14_0), (16, 2, la_16_2), (16, 0, la_16_0), (17, 2, la_17_2), (17, 0, la_17_0), (21, 0, la_21_0), (22, 0, la_22_0), (23, 0, la_23_0), (25, 0, la_25_0), (26, 0, la_26_0), (27, 0, la_27_0), (30, 2, la_30_2), (30, 0, la_30_0), (31, 0, la_31_0), (32, 0, la_32_0), (33, 1, la_33_1), (35, 0, la_35_0), (40, 0, la_40_0), (42, 0, la_42_0), (43, 0, la_43_0), (45, 0, la_45_0), (47, 3, la_47_3), (47, 1, la_47_1), (48, 0, la_48_0), (50, 0, la_50_0), (51, 0, la_51_0), (54, 0, la_54_0), (70, 0, la_70_0), (71, 0, la_71_0), (79, 0, la_79_0), (80, 2, la_80_2), (80, 0, la_80_0), (85, 0, la_85_0), (90, 0, la_90_0), (98, 0, la_98_0)], [], [41, 95]⟩

end Go.Proofs.Ytcnjaffogkkpnaa.Vm
