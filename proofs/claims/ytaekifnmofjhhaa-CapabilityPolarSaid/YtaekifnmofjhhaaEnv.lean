/- The annotations of the loops, by program. Nothing is claimed here. -/
import Derived.Test.YtaekifnmofjhhaaVm4
import Derived.Test.YtaekifnmofjhhaaProg
namespace Go.Proofs.Ytaekifnmofjhhaa.Vm

/-- dynpos/dynposlaw25.CapabilityReserves, the loop of block 0 -/
def la_3_0 : LAnn := ⟨⟨[(4, .inr (.inr (.t (.ptr 0 0)))), (5, .inl (.sl 1)), (6, .inr (.inr (.t (.ptr 1 0)))), (7, .inl (.int .i64)), (8, .inl (.int .i64))], [.inl [.inl (.int .i64), .inl (.int .i64), .inl (.sl 6)], .inl [.inl (.int .i64), .inl (.int .i64), .inl (.int .i64)]]⟩,
  [(.exit 0, ⟨[(4, .inr (.inr (.t (.ptr 0 0)))), (5, .inl (.sl 1)), (6, .inr (.inr (.t (.ptr 1 0)))), (7, .inl (.int .i64))], [.inl [.inl (.int .i64), .inl (.int .i64), .inl (.sl 6)], .inl [.inl (.int .i64), .inl (.int .i64), .inl (.int .i64)]]⟩), (.ret, ⟨[(2, .inl .bool)], []⟩)]⟩
/-- dynpos/dynposlaw25.CapabilityWithout, the loop of block 0 -/
def la_5_0 : LAnn := ⟨⟨[(3, .inr (.inr (.t (.ptr 0 0)))), (4, .inr (.inr (.t (.ptr 1 0)))), (5, .inl (.sl 1)), (6, .inl (.sl 1)), (7, .inl (.sl 1)), (40, .inl (.int .i64)), (41, .inl (.int .i64))], [.inl [.inl (.sl 1), .inl (.int .i64)], .inl [.inl (.int .i64), .inl (.int .i64), .inl (.sl 6)]]⟩,
  [(.exit 0, ⟨[(3, .inr (.inr (.t (.ptr 0 0)))), (4, .inr (.inr (.t (.ptr 1 0)))), (5, .inl (.sl 1)), (6, .inl (.sl 1)), (7, .inl (.sl 1))], [.inl [.inl (.sl 1), .inl (.int .i64)], .inl [.inl (.int .i64), .inl (.int .i64), .inl (.sl 6)]]⟩), (.ret, ⟨[(2, .inl .bool)], []⟩)]⟩
/-- dynpos/dynposlaw25.CapabilityPolar, the loop of block 0 -/
def la_7_0 : LAnn := ⟨⟨[(80, .inl (.sl 1)), (81, .inl (.int .i64)), (82, .inl (.int .i64))], []⟩,
  [(.exit 0, ⟨[], []⟩), (.ret, ⟨[(4, .inl .bool)], []⟩)]⟩
/-- (*dynpos/dynposmake.Src).Ship, the loop of block 0 -/
def la_10_0 : LAnn := ⟨⟨[(0, .inr (.inr (.t (.ptr 0 0)))), (4, .inr (.inr (.t (.ptr 1 0)))), (5, .inr (.inr (.t (.ptr 2 0)))), (6, .inl (.int .i64))], [.inl [.inl (.sl 1), .inl (.int .i64)], .inl [.inl (.int .i64), .inl (.int .i64), .inl (.sl 6)], .inl [.inl (.int .i64), .inl (.int .i64), .inr (.t (.hsl 3))], .inr 6]⟩,
  [(.exit 0, ⟨[(4, .inr (.inr (.t (.ptr 1 0)))), (5, .inr (.inr (.t (.ptr 2 0))))], [.inl [.inl (.sl 1), .inl (.int .i64)], .inl [.inl (.int .i64), .inl (.int .i64), .inl (.sl 6)], .inl [.inl (.int .i64), .inl (.int .i64), .inr (.t (.hsl 3))], .inr 6]⟩)]⟩
/-- (*dynpos/dynposmake.Src).Most, the loop of block 0 -/
def la_11_0 : LAnn := ⟨⟨[(0, .inr (.inr (.t (.ptr 0 0)))), (5, .inr (.inr (.t (.hsl 1)))), (8, .inl (.int .i64)), (9, .inl (.int .i64))], [.inl [.inl (.sl 1), .inl (.int .i64)], .inr 1]⟩,
  [(.exit 0, ⟨[(5, .inr (.inr (.t (.hsl 1))))], [.inl [.inl (.sl 1), .inl (.int .i64)], .inr 1]⟩)]⟩
/-- dynpos/capability.Reserve, the loop of block 0 -/
def la_13_0 : LAnn := ⟨⟨[(1, .inl (.sl 1)), (3, .inr (.inr (.t (.ptr 0 0)))), (5, .inr (.inr (.t (.ptr 1 0)))), (7, .inl (.int .i64)), (8, .inl (.int .i64))], [.inl [.inl (.int .i64), .inl (.int .i64), .inl (.sl 6)], .inl [.inl (.int .i64), .inl (.int .i64), .inl (.int .i64)]]⟩,
  [(.exit 0, ⟨[(7, .inl (.int .i64))], []⟩)]⟩
/-- (*dynpos/dynposmake.Src).Some, the loop of block 0 -/
def la_18_0 : LAnn := ⟨⟨[(0, .inr (.inr (.t (.ptr 0 0)))), (1, .inl (.int .i64)), (2, .inl (.int .i64)), (7, .inr (.inr (.t (.hsl 1)))), (8, .inl (.int .i64))], [.inl [.inl (.sl 1), .inl (.int .i64)], .inr 1]⟩,
  [(.exit 0, ⟨[(7, .inr (.inr (.t (.hsl 1))))], [.inl [.inl (.sl 1), .inl (.int .i64)], .inr 1]⟩)]⟩
/-- dynpos/capability.Without, the loop of block 0 -/
def la_19_0 : LAnn := ⟨⟨[(5, .inr (.inr (.t (.hsl 0)))), (10, .inl (.sl 1)), (11, .inl (.int .i64)), (12, .inl (.int .i64))], [.inr 1]⟩,
  [(.exit 0, ⟨[(5, .inr (.inr (.t (.hsl 0))))], [.inr 1]⟩)]⟩
/-- dynpos/dynposref01.Has, the loop of block 0 -/
def la_20_0 : LAnn := ⟨⟨[(1, .inl (.int .i64)), (7, .inl (.sl 1)), (8, .inl (.int .i64)), (9, .inl (.int .i64))], []⟩,
  [(.exit 0, ⟨[], []⟩), (.ret, ⟨[(4, .inl .bool)], []⟩)]⟩
/-- dynpos/dynposref01.Ints, the loop of block 0 -/
def la_21_0 : LAnn := ⟨⟨[(0, .inl (.sl 1)), (1, .inl (.sl 1)), (12, .inl (.int .i64)), (13, .inl (.int .i64))], []⟩,
  [(.exit 0, ⟨[], []⟩), (.ret, ⟨[(4, .inl .bool)], []⟩)]⟩
/-- dynpos/capability.Polar, the loop of block 0 -/
def la_22_0 : LAnn := ⟨⟨[(1, .inl (.sl 1)), (3, .inr (.inr (.t (.ptr 0 0)))), (5, .inr (.inr (.t (.ptr 1 0)))), (7, .inr (.inr (.t (.hsl 2)))), (8, .inl (.int .i64))], [.inl [.inl (.int .i64), .inl (.int .i64), .inl (.sl 6)], .inl [.inl (.int .i64)], .inr 1]⟩,
  [(.exit 0, ⟨[(7, .inr (.inr (.t (.hsl 0))))], [.inr 1]⟩)]⟩
/-- (*dynpos/dynposmake.Src).Thruster, the loop of block 0 -/
def la_25_0 : LAnn := ⟨⟨[(0, .inr (.inr (.t (.ptr 0 0)))), (2, .inr (.inr (.t (.ptr 1 0)))), (3, .inr (.inr (.t (.ptr 2 0)))), (4, .inl (.int .i64))], [.inl [.inl (.sl 1), .inl (.int .i64)], .inl [.inl (.int .i64), .inl (.int .i64), .inl (.int .i64), .inl (.int .i64), .inl (.int .i64), .inl (.sl 2)], .inl [.inl (.int .i64), .inl (.int .i64), .inl (.int .i64), .inl (.int .i64), .inl (.int .i64), .inr (.t (.hsl 3))], .inr 2]⟩,
  [(.exit 0, ⟨[(2, .inr (.inr (.t (.ptr 1 0)))), (3, .inr (.inr (.t (.ptr 2 0))))], [.inl [.inl (.sl 1), .inl (.int .i64)], .inl [.inl (.int .i64), .inl (.int .i64), .inl (.int .i64), .inl (.int .i64), .inl (.int .i64), .inl (.sl 2)], .inl [.inl (.int .i64), .inl (.int .i64), .inl (.int .i64), .inl (.int .i64), .inl (.int .i64), .inr (.t (.hsl 3))], .inr 2]⟩)]⟩
/-- dynpos/allocate.Divide, the loop of block 2 -/
def la_33_2 : LAnn := ⟨⟨[(4, .inr (.inr (.t (.ptr 0 0)))), (7, .inr (.inr (.t (.ptr 1 0)))), (8, .inr (.inr (.t (.ptr 2 0)))), (15, .inr (.inr (.t (.hsl 3)))), (19, .inl (.sl 1)), (22, .inr (.inr (.t (.ptr 4 0)))), (81, .inl (.int .i64)), (82, .inl (.int .i64))], [.inl [.inl (.int .i64), .inl (.int .i64), .inl (.sl 6)], .inl [.inl (.int .i64), .inl (.int .i64), .inl (.int .i64)], .inl [.inl (.sl 2), .inl (.int .i64), .inl (.int .i64), .inl (.int .i64), .inl (.int .i64), .inl (.int .i64), .inl (.int .i64)], .inr 1, .inl [.inr (.t (.hsl 5)), .inl (.int .i64), .inl (.int .i64), .inl (.int .i64), .inl (.int .i64), .inl (.int .i64), .inl (.int .i64)], .inr 2]⟩,
  [(.exit 2, ⟨[(4, .inr (.inr (.t (.ptr 0 0)))), (7, .inr (.inr (.t (.ptr 1 0)))), (8, .inr (.inr (.t (.ptr 2 0)))), (22, .inr (.inr (.t (.ptr 3 0))))], [.inl [.inl (.int .i64), .inl (.int .i64), .inl (.sl 6)], .inl [.inl (.int .i64), .inl (.int .i64), .inl (.int .i64)], .inl [.inl (.sl 2), .inl (.int .i64), .inl (.int .i64), .inl (.int .i64), .inl (.int .i64), .inl (.int .i64), .inl (.int .i64)], .inl [.inr (.t (.hsl 4)), .inl (.int .i64), .inl (.int .i64), .inl (.int .i64), .inl (.int .i64), .inl (.int .i64), .inl (.int .i64)], .inr 2]⟩)]⟩
/-- dynpos/allocate.Divide, the loop of block 0 -/
def la_33_0 : LAnn := ⟨⟨[(4, .inr (.inr (.t (.ptr 0 0)))), (7, .inr (.inr (.t (.ptr 1 0)))), (8, .inr (.inr (.t (.ptr 2 0)))), (10, .inr (.inr (.t (.ptr 3 0)))), (12, .inl (.sl 1)), (15, .inr (.inr (.t (.hsl 4)))), (55, .inl (.int .i64)), (56, .inl (.int .i64))], [.inl [.inl (.int .i64), .inl (.int .i64), .inl (.sl 6)], .inl [.inl (.int .i64), .inl (.int .i64), .inl (.int .i64)], .inl [.inl (.sl 2), .inl (.int .i64), .inl (.int .i64), .inl (.int .i64), .inl (.int .i64), .inl (.int .i64), .inl (.int .i64)], .inl [.inl (.sl 6), .inl (.sl 2)], .inr 1]⟩,
  [(.exit 0, ⟨[(4, .inr (.inr (.t (.ptr 0 0)))), (7, .inr (.inr (.t (.ptr 1 0)))), (8, .inr (.inr (.t (.ptr 2 0)))), (10, .inr (.inr (.t (.ptr 3 0)))), (15, .inr (.inr (.t (.hsl 4))))], [.inl [.inl (.int .i64), .inl (.int .i64), .inl (.sl 6)], .inl [.inl (.int .i64), .inl (.int .i64), .inl (.int .i64)], .inl [.inl (.sl 2), .inl (.int .i64), .inl (.int .i64), .inl (.int .i64), .inl (.int .i64), .inl (.int .i64), .inl (.int .i64)], .inl [.inl (.sl 6), .inl (.sl 2)], .inr 1]⟩)]⟩
/-- dynpos/quotient.Within, the loop of block 0 -/
def la_40_0 : LAnn := ⟨⟨[(0, .inl (.int .i64)), (7, .inl (.sl 1)), (8, .inl (.int .i64)), (9, .inl (.int .i64))], []⟩,
  [(.exit 0, ⟨[], []⟩), (.ret, ⟨[(4, .inl .bool)], []⟩)]⟩
/-- dynpos/share.Divide, the loop of block 2 -/
def la_46_2 : LAnn := ⟨⟨[(1, .inl (.int .i64)), (10, .inl (.int .i64)), (11, .inl (.int .i64)), (17, .inr (.inr (.t (.hsl 0)))), (18, .inl (.int .i64)), (69, .inl (.sl 3)), (70, .inl (.int .i64)), (71, .inl (.int .i64))], [.inr 1]⟩,
  [(.exit 2, ⟨[(1, .inl (.int .i64)), (10, .inl (.int .i64)), (17, .inr (.inr (.t (.hsl 0))))], [.inr 1]⟩)]⟩
/-- dynpos/share.Divide, the loop of block 0 -/
def la_46_0 : LAnn := ⟨⟨[(0, .inl (.sl 3)), (1, .inl (.int .i64)), (10, .inl (.int .i64)), (11, .inl (.int .i64)), (12, .inl (.int .i64))], []⟩,
  [(.exit 0, ⟨[(0, .inl (.sl 3)), (1, .inl (.int .i64)), (10, .inl (.int .i64)), (11, .inl (.int .i64))], []⟩)]⟩
/-- (dynpos/allocate.moment).laterals, the loop of block 0 -/
def la_47_0 : LAnn := ⟨⟨[(1, .inl (.int .i64)), (2, .inr (.inr (.t (.ptr 0 0)))), (5, .inr (.inr (.t (.hsl 1)))), (11, .inl (.sl 6)), (12, .inl (.int .i64)), (13, .inl (.int .i64))], [.inl [.inl (.sl 6), .inl (.sl 2)], .inr 3]⟩,
  [(.exit 0, ⟨[(5, .inr (.inr (.t (.hsl 0))))], [.inr 3]⟩)]⟩
/-- (dynpos/allocate.moment).surges, the loop of block 0 -/
def la_48_0 : LAnn := ⟨⟨[(1, .inl (.sl 1)), (2, .inr (.inr (.t (.ptr 0 0)))), (5, .inr (.inr (.t (.hsl 1)))), (11, .inl (.sl 6)), (12, .inl (.int .i64)), (13, .inl (.int .i64))], [.inl [.inl (.sl 6), .inl (.sl 2)], .inr 3]⟩,
  [(.exit 0, ⟨[(5, .inr (.inr (.t (.hsl 0))))], [.inr 3]⟩)]⟩
/-- dynpos/thruster.Total, the loop of block 1 -/
def la_49_1 : LAnn := ⟨⟨[(2, .inr (.inr (.t (.ptr 0 0)))), (4, .inr (.inr (.t (.ptr 1 0)))), (6, .inr (.inr (.t (.ptr 2 0)))), (24, .inl (.sl 2)), (25, .inl (.int .i64)), (26, .inl (.int .i64))], [.inl [.inl (.int .i64), .inl (.int .i64), .inl (.sl 6)], .inl [.inl (.int .i64), .inl (.int .i64), .inl (.int .i64)], .inl [.inl (.int .i64), .inl (.int .i64), .inl (.int .i64)]]⟩,
  [(.exit 1, ⟨[(4, .inr (.inr (.t (.ptr 0 0)))), (6, .inr (.inr (.t (.ptr 1 0))))], [.inl [.inl (.int .i64), .inl (.int .i64), .inl (.int .i64)], .inl [.inl (.int .i64), .inl (.int .i64), .inl (.int .i64)]]⟩), (.ret, ⟨[(4, .inr (.inr (.t (.ptr 0 0)))), (5, .inl (.int .i64))], [.inl [.inl (.int .i64), .inl (.int .i64), .inl (.int .i64)]]⟩)]⟩
/-- dynpos/allocate.begin, the loop of block 3 -/
def la_60_3 : LAnn := ⟨⟨[(8, .inr (.inr (.t (.ptr 0 0)))), (11, .inr (.inr (.t (.ptr 1 0)))), (81, .inl (.sl 2)), (82, .inl (.int .i64)), (83, .inl (.int .i64))], [.inl [.inl (.sl 6), .inl (.sl 2)], .inl [.inr (.t (.hsl 2)), .inl (.sl 2)], .inr 6]⟩,
  [(.exit 3, ⟨[(8, .inr (.inr (.t (.ptr 0 0)))), (11, .inr (.inr (.t (.ptr 1 0))))], [.inl [.inl (.sl 6), .inl (.sl 2)], .inl [.inr (.t (.hsl 2)), .inl (.sl 2)], .inr 6]⟩), (.ret, ⟨[(8, .inr (.inr (.t (.ptr 0 0)))), (9, .inl (.int .i64))], [.inl [.inl (.sl 6), .inl (.sl 2)]]⟩)]⟩
/-- dynpos/allocate.begin, the loop of block 1 -/
def la_60_1 : LAnn := ⟨⟨[(1, .inl (.sl 1)), (2, .inl (.sl 2)), (8, .inr (.inr (.t (.ptr 0 0)))), (11, .inr (.inr (.t (.ptr 1 0)))), (62, .inl (.sl 6)), (63, .inl (.int .i64)), (64, .inl (.int .i64))], [.inl [.inl (.sl 6), .inl (.sl 2)], .inl [.inr (.t (.hsl 2)), .inl (.sl 2)], .inr 6]⟩,
  [(.exit 1, ⟨[(2, .inl (.sl 2)), (8, .inr (.inr (.t (.ptr 0 0)))), (11, .inr (.inr (.t (.ptr 1 0))))], [.inl [.inl (.sl 6), .inl (.sl 2)], .inl [.inr (.t (.hsl 2)), .inl (.sl 2)], .inr 6]⟩)]⟩
/-- dynpos/share.Reach, the loop of block 0 -/
def la_61_0 : LAnn := ⟨⟨[(2, .inl (.int .i64)), (3, .inl (.int .i64)), (13, .inl (.sl 3)), (14, .inl (.int .i64)), (15, .inl (.int .i64))], []⟩,
  [(.exit 0, ⟨[(2, .inl (.int .i64)), (3, .inl (.int .i64))], []⟩)]⟩
/-- dynpos/share.priced, the loop of block 0 -/
def la_64_0 : LAnn := ⟨⟨[(1, .inl (.int .i64)), (4, .inr (.inr (.t (.hsl 0)))), (5, .inl (.int .i64)), (10, .inl (.sl 3)), (11, .inl (.int .i64)), (12, .inl (.int .i64))], [.inr 1]⟩,
  [(.exit 0, ⟨[(4, .inr (.inr (.t (.hsl 0)))), (5, .inl (.int .i64))], [.inr 1]⟩)]⟩
/-- slices.IndexFunc[[]dynpos/api.Thruster,dynpos/api.Thruster], the loop of block 0 -/
def la_72_0 : LAnn := ⟨⟨[(0, .inl (.sl 6)), (1, .inr (.inr (.undef))), (7, .inl (.int .i64)), (8, .inl (.int .i64))], []⟩,
  [(.exit 0, ⟨[], []⟩), (.ret, ⟨[(4, .inl (.int .i64))], []⟩)]⟩
/-- slices.IndexFunc[[]int,int], the loop of block 0 -/
def la_77_0 : LAnn := ⟨⟨[(0, .inl (.sl 1)), (1, .inr (.inr (.undef))), (7, .inl (.int .i64)), (8, .inl (.int .i64))], [.inl [.inr (.fn 56 [])], .inl [.inl (.int .i64)], .inl [.inl (.int .i64)]]⟩,
  [(.exit 0, ⟨[], [.inl [.inr (.fn 56 [])], .inl [.inl (.int .i64)], .inl [.inl (.int .i64)]]⟩), (.ret, ⟨[(4, .inl (.int .i64))], [.inl [.inr (.fn 56 [])], .inl [.inl (.int .i64)], .inl [.inl (.int .i64)]]⟩)]⟩
/-- dynpos/share.Valid, the loop of block 0 -/
def la_79_0 : LAnn := ⟨⟨[(8, .inl (.sl 3)), (9, .inl (.int .i64)), (10, .inl (.int .i64))], []⟩,
  [(.exit 0, ⟨[], []⟩), (.ret, ⟨[(2, .inl (.int .i64))], []⟩)]⟩
/-- dynpos/sector.run, the loop of block 2 -/
def la_80_2 : LAnn := ⟨⟨[(0, .inr (.inr (.undef))), (2, .inl (.int .i64)), (3, .inl (.int .i64))], [.inl [.inr (.fn 81 [])], .inl [.inl (.int .i64), .inl (.int .i64), .inl (.int .i64), .inl (.int .i64), .inl (.int .i64), .inl (.sl 2)], .inl [.inr (.fn 84 [])], .inl [.inl (.int .i64), .inl (.int .i64), .inl (.int .i64), .inl (.int .i64), .inl (.int .i64), .inl (.sl 2)], .inl [.inl (.int .i64)]]⟩,
  [(.exit 2, ⟨[(2, .inl (.int .i64)), (3, .inl (.int .i64))], [.inl [.inr (.fn 81 [])], .inl [.inl (.int .i64), .inl (.int .i64), .inl (.int .i64), .inl (.int .i64), .inl (.int .i64), .inl (.sl 2)], .inl [.inr (.fn 84 [])], .inl [.inl (.int .i64), .inl (.int .i64), .inl (.int .i64), .inl (.int .i64), .inl (.int .i64), .inl (.sl 2)], .inl [.inl (.int .i64)]]⟩)]⟩
/-- dynpos/sector.run, the loop of block 0 -/
def la_80_0 : LAnn := ⟨⟨[(0, .inr (.inr (.undef))), (2, .inl (.int .i64)), (3, .inl (.int .i64))], [.inl [.inr (.fn 81 [])], .inl [.inl (.int .i64), .inl (.int .i64), .inl (.int .i64), .inl (.int .i64), .inl (.int .i64), .inl (.sl 2)], .inl [.inr (.fn 84 [])], .inl [.inl (.int .i64), .inl (.int .i64), .inl (.int .i64), .inl (.int .i64), .inl (.int .i64), .inl (.sl 2)], .inl [.inl (.int .i64)]]⟩,
  [(.exit 0, ⟨[(0, .inr (.inr (.undef))), (2, .inl (.int .i64)), (3, .inl (.int .i64))], [.inl [.inr (.fn 81 [])], .inl [.inl (.int .i64), .inl (.int .i64), .inl (.int .i64), .inl (.int .i64), .inl (.int .i64), .inl (.sl 2)], .inl [.inr (.fn 84 [])], .inl [.inl (.int .i64), .inl (.int .i64), .inl (.int .i64), .inl (.int .i64), .inl (.int .i64), .inl (.sl 2)], .inl [.inl (.int .i64)]]⟩)]⟩
/-- slices.IndexFunc[[]dynpos/api.Arc,dynpos/api.Arc], the loop of block 0 -/
def la_85_0 : LAnn := ⟨⟨[(0, .inl (.sl 2)), (1, .inr (.inr (.undef))), (7, .inl (.int .i64)), (8, .inl (.int .i64))], [.inl [.inr (.fn 75 [])], .inl [.inr (.fn 89 [])], .inl [.inl (.int .i64)], .inl [.inl (.int .i64)]]⟩,
  [(.exit 0, ⟨[], [.inl [.inr (.fn 75 [])], .inl [.inr (.fn 89 [])], .inl [.inl (.int .i64)], .inl [.inl (.int .i64)]]⟩), (.ret, ⟨[(4, .inl (.int .i64))], [.inl [.inr (.fn 75 [])], .inl [.inr (.fn 89 [])], .inl [.inl (.int .i64)], .inl [.inl (.int .i64)]]⟩)]⟩

noncomputable def E : Env := ⟨Try.prog, [3, 4, 5, 6, 7, 8, 9, 10, 11, 12, 13, 14, 15, 16, 17, 18, 19, 20, 21, 22, 23, 24, 25, 26, 27, 28, 29, 30, 31, 32, 33, 34, 35, 36, 37, 38, 39, 40, 41, 42, 43, 44, 45, 46, 47, 48, 49, 50, 51, 52, 53, 54, 55, 56, 57, 58, 59, 60, 61, 62, 63, 64, 65, 66, 67, 68, 69, 70, 71, 72, 73, 74, 75, 76, 77, 78, 79, 80, 81, 82, 83, 84, 85, 86, 87, 88, 89, 90, 91, 92], [(34, 0), (46, 0), (48, 0), (64, 0)], [], [(9, 0), (19, 0), (19, 1), (22, 1), (23, 1), (33, 1), (33, 2), (45, 1), (45, 2), (60, 1), (60, 2), (60, 3), (88, 0)], [(3, 0, la_3_0), (5, 0, la_5_0), (7, 0, la_7_0), (10, 0, la_10_0), (11, 0, la_11_0), (13, 0, la_13_0), (18, 0, la_18_0), (19, 0, la_19_0), (20, 0, la_20_0), (21, 0, la_21_0), (22, 0, la_22_0), (25, 0, la_25_0), (33, 2, la_33_2), (33, 0, la_33_0), (40, 0, la_40_0), (46, 2, la_46_2), (46, 0, la_46_0), (47, 0, la_47_0), (48, 0, la_48_0), (49, 1, la_49_1), (60, 3, la_60_3), (60, 1, la_60_1), (61, 0, la_61_0), (64, 0, la_64_0), (72, 0, la_72_0), (77, 0, la_77_0), (79, 0, la_79_0), (80, 2, la_80_2), (80, 0, la_80_0), (85, 0, la_85_0)], [], [34, 88]⟩

end Go.Proofs.Ytaekifnmofjhhaa.Vm
