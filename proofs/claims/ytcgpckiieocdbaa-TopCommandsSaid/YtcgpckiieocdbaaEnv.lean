/- The annotations of the loops, by program. Nothing is claimed here. -/
import Derived.Test.YtcgpckiieocdbaaVm4
import Derived.Test.YtcgpckiieocdbaaProg
import Derived.Test.YtcgpckiieocdbaaPrims
namespace Go.Proofs.Ytcgpckiieocdbaa.Vm

/-- dynpos/dynpostop.TopCommands, the loop of block 6 -/
def la_3_6 : LAnn := ⟨⟨[(3, .inr (.inr (.t (.ptr 0 0)))), (4, .inr (.inr (.t (.ptr 1 0)))), (5, .inl (.sl 3)), (7, .inr (.inr (.hmap 2))), (8, .inl (.int .i64)), (9, .inl (.int .i64)), (10, .inl (.int .i64)), (12, .inl (.sl 1)), (98, .inl (.sl 3)), (99, .inl (.int .i64)), (100, .inl (.int .i64))], [.inl [.inl (.sl 1), .inl (.int .i64)], .inl [.inl (.int .i64), .inl (.sl 3)], .inr 1000001]⟩,
  [(.exit 6, ⟨[(3, .inr (.inr (.t (.ptr 0 0)))), (4, .inr (.inr (.t (.ptr 1 0)))), (5, .inl (.sl 3)), (7, .inr (.inr (.hmap 2))), (8, .inl (.int .i64)), (9, .inl (.int .i64)), (10, .inl (.int .i64))], [.inl [.inl (.sl 1), .inl (.int .i64)], .inl [.inl (.int .i64), .inl (.sl 3)], .inr 1000001]⟩), (.ret, ⟨[(2, .inl .bool)], []⟩)]⟩
/-- dynpos/dynpostop.TopCommands, the loop of block 4 -/
def la_3_4 : LAnn := ⟨⟨[(3, .inr (.inr (.t (.ptr 0 0)))), (4, .inr (.inr (.t (.ptr 1 0)))), (5, .inl (.sl 3)), (7, .inr (.inr (.hmap 2))), (8, .inl (.int .i64)), (9, .inl (.int .i64)), (10, .inl (.int .i64)), (11, .inl (.sl 2)), (12, .inr (.inr (.tsl 3))), (13, .inl (.int .i64)), (14, .inl (.int .i64)), (55, .inl (.int .i64)), (56, .inl (.int .i64))], [.inl [.inl (.sl 1), .inl (.int .i64)], .inl [.inl (.int .i64), .inl (.sl 3)], .inr 1000001, .inr 1000002]⟩,
  [(.exit 4, ⟨[(3, .inr (.inr (.t (.ptr 0 0)))), (4, .inr (.inr (.t (.ptr 1 0)))), (5, .inl (.sl 3)), (7, .inr (.inr (.hmap 2))), (8, .inl (.int .i64)), (9, .inl (.int .i64)), (10, .inl (.int .i64)), (11, .inl (.sl 2)), (12, .inr (.inr (.tsl 3))), (55, .inl (.int .i64)), (56, .inl (.int .i64))], [.inl [.inl (.sl 1), .inl (.int .i64)], .inl [.inl (.int .i64), .inl (.sl 3)], .inr 1000001, .inr 1000002]⟩)]⟩
/-- dynpos/dynpostop.TopCommands, the loop of block 2 -/
def la_3_2 : LAnn := ⟨⟨[(3, .inr (.inr (.t (.ptr 0 0)))), (4, .inr (.inr (.t (.ptr 1 0)))), (5, .inl (.sl 3)), (7, .inr (.inr (.hmap 2))), (8, .inl (.int .i64)), (9, .inl (.int .i64)), (10, .inl (.int .i64)), (11, .inl (.sl 2)), (12, .inr (.inr (.tsl 3))), (55, .inl (.int .i64)), (56, .inl (.int .i64))], [.inl [.inl (.sl 1), .inl (.int .i64)], .inl [.inl (.int .i64), .inl (.sl 3)], .inr 1000001, .inr 1000002]⟩,
  [(.exit 2, ⟨[(3, .inr (.inr (.t (.ptr 0 0)))), (4, .inr (.inr (.t (.ptr 1 0)))), (5, .inl (.sl 3)), (7, .inr (.inr (.hmap 2))), (8, .inl (.int .i64)), (9, .inl (.int .i64)), (10, .inl (.int .i64)), (12, .inr (.inr (.tsl 3)))], [.inl [.inl (.sl 1), .inl (.int .i64)], .inl [.inl (.int .i64), .inl (.sl 3)], .inr 1000001, .inr 1000002]⟩)]⟩
/-- dynpos/dynpostop.TopCommands, the loop of block 0 -/
def la_3_0 : LAnn := ⟨⟨[(3, .inr (.inr (.t (.ptr 0 0)))), (4, .inr (.inr (.t (.ptr 1 0)))), (5, .inl (.sl 3)), (7, .inr (.inr (.hmap 2))), (8, .inl (.int .i64)), (9, .inl (.int .i64)), (10, .inl (.int .i64))], [.inl [.inl (.sl 1), .inl (.int .i64)], .inl [.inl (.int .i64), .inl (.sl 3)], .inr 1000001]⟩,
  [(.exit 0, ⟨[], []⟩), (.ret, ⟨[(2, .inl .bool)], []⟩)]⟩
/-- (*dynpos/dynposmake.Src).Net, the loop of block 4 -/
def la_6_4 : LAnn := ⟨⟨[(0, .inr (.inr (.t (.ptr 0 0)))), (2, .inr (.inr (.t (.ptr 1 0)))), (3, .inr (.inr (.t (.ptr 2 0)))), (4, .inl (.int .i64)), (5, .inl (.int .i64)), (6, .inl (.int .i64))], [.inl [.inl (.sl 1), .inl (.int .i64)], .inl [.inl (.int .i64), .inl (.sl 3)], .inl [.inl (.int .i64), .inr (.t (.hsl 3))], .inr 3]⟩,
  [(.exit 4, ⟨[(0, .inr (.inr (.t (.ptr 0 0)))), (2, .inr (.inr (.t (.ptr 1 0)))), (3, .inr (.inr (.t (.ptr 2 0)))), (4, .inl (.int .i64)), (5, .inl (.int .i64))], [.inl [.inl (.sl 1), .inl (.int .i64)], .inl [.inl (.int .i64), .inl (.sl 3)], .inl [.inl (.int .i64), .inr (.t (.hsl 3))], .inr 3]⟩)]⟩
/-- (*dynpos/dynposmake.Src).Net, the loop of block 2 -/
def la_6_2 : LAnn := ⟨⟨[(0, .inr (.inr (.t (.ptr 0 0)))), (2, .inr (.inr (.t (.ptr 1 0)))), (3, .inr (.inr (.t (.ptr 2 0)))), (4, .inl (.int .i64)), (5, .inl (.int .i64))], [.inl [.inl (.sl 1), .inl (.int .i64)], .inl [.inl (.int .i64), .inl (.sl 3)], .inl [.inl (.int .i64), .inr (.t (.hsl 3))], .inr 3]⟩,
  [(.exit 2, ⟨[(0, .inr (.inr (.t (.ptr 0 0)))), (2, .inr (.inr (.t (.ptr 1 0)))), (3, .inr (.inr (.t (.ptr 2 0)))), (4, .inl (.int .i64))], [.inl [.inl (.sl 1), .inl (.int .i64)], .inl [.inl (.int .i64), .inl (.sl 3)], .inl [.inl (.int .i64), .inr (.t (.hsl 3))], .inr 3]⟩)]⟩
/-- (*dynpos/dynposmake.Src).Net, the loop of block 0 -/
def la_6_0 : LAnn := ⟨⟨[(0, .inr (.inr (.t (.ptr 0 0)))), (2, .inr (.inr (.t (.ptr 1 0)))), (3, .inr (.inr (.t (.ptr 2 0)))), (4, .inl (.int .i64))], [.inl [.inl (.sl 1), .inl (.int .i64)], .inl [.inl (.int .i64), .inl (.sl 3)], .inl [.inl (.int .i64), .inr (.t (.hsl 3))], .inr 3]⟩,
  [(.exit 0, ⟨[(2, .inr (.inr (.t (.ptr 1 0)))), (3, .inr (.inr (.t (.ptr 2 0))))], [.inl [.inl (.sl 1), .inl (.int .i64)], .inl [.inl (.int .i64), .inl (.sl 3)], .inl [.inl (.int .i64), .inr (.t (.hsl 3))], .inr 3]⟩)]⟩
/-- (*dynpos/dynposmake.Src).Cables, the loop of block 0 -/
def la_9_0 : LAnn := ⟨⟨[(5, .inr (.inr (.t (.hsl 1)))), (12, .inl (.sl 1)), (13, .inl (.int .i64)), (14, .inl (.int .i64))], [.inl [.inl (.sl 1), .inl (.int .i64)], .inr 2]⟩,
  [(.exit 0, ⟨[(5, .inr (.inr (.t (.hsl 1))))], [.inl [.inl (.sl 1), .inl (.int .i64)], .inr 2]⟩)]⟩
/-- dynpos/network.Copies, the loop of block 0 -/
def la_10_0 : LAnn := ⟨⟨[(1, .inl (.sl 2)), (2, .inl (.int .i64)), (3, .inl (.int .i64)), (4, .inr (.inr (.t (.ptr 0 0)))), (9, .inl (.int .i64)), (11, .inl (.int .i64))], [.inl [.inl (.int .i64), .inl (.sl 3)]]⟩,
  [(.exit 0, ⟨[(9, .inl (.int .i64))], []⟩)]⟩
/-- (*dynpos/dynposmake.Src).Some, the loop of block 0 -/
def la_16_0 : LAnn := ⟨⟨[(0, .inr (.inr (.t (.ptr 0 0)))), (1, .inl (.int .i64)), (2, .inl (.int .i64)), (7, .inr (.inr (.t (.hsl 1)))), (8, .inl (.int .i64))], [.inl [.inl (.sl 1), .inl (.int .i64)], .inr 1]⟩,
  [(.exit 0, ⟨[(7, .inr (.inr (.t (.hsl 1))))], [.inl [.inl (.sl 1), .inl (.int .i64)], .inr 1]⟩)]⟩
/-- (dynpos/failover.party).each, the loop of block 0, by closure 22 -/
def la_21_0_c22 : LAnn := ⟨⟨[(1, .inr (.inr (.undef))), (2, .inr (.inr (.t (.ptr 0 0)))), (4, .inr (.inr (.t (.ptr 1 0)))), (5, .inr (.inr (.t (.ptr 2 0)))), (15, .inl (.sl 3)), (16, .inl (.int .i64)), (17, .inl (.int .i64))], [.inl [.inl (.sl 3), .inl (.sl 1)], .inl [.inl (.sl 3), .inl (.sl 1)], .inl [.inr (.t (.hsl 3)), .inl (.sl 1)], .inr 3]⟩,
  [(.exit 0, ⟨[(4, .inr (.inr (.t (.ptr 0 0)))), (5, .inr (.inr (.t (.ptr 1 0))))], [.inl [.inl (.sl 3), .inl (.sl 1)], .inl [.inr (.t (.hsl 2)), .inl (.sl 1)], .inr 3]⟩)]⟩
/-- (dynpos/failover.party).each, the loop of block 0, by closure 34 -/
def la_21_0_c34 : LAnn := ⟨⟨[(1, .inr (.inr (.undef))), (2, .inr (.inr (.t (.ptr 2 0)))), (4, .inr (.inr (.t (.ptr 3 0)))), (5, .inr (.inr (.t (.ptr 4 0)))), (15, .inl (.sl 3)), (16, .inl (.int .i64)), (17, .inl (.int .i64))], [.inl [.inl (.sl 3), .inl (.sl 1)], .inl [.inl (.sl 3), .inl (.sl 1)], .inl [.inl (.sl 3), .inl (.sl 1)], .inl [.inl (.sl 3), .inl (.sl 1)], .inl [.inr (.t (.hsl 5)), .inl (.sl 1)], .inr 3]⟩,
  [(.exit 0, ⟨[(4, .inr (.inr (.t (.ptr 2 0)))), (5, .inr (.inr (.t (.ptr 3 0))))], [.inl [.inl (.sl 3), .inl (.sl 1)], .inl [.inl (.sl 3), .inl (.sl 1)], .inl [.inl (.sl 3), .inl (.sl 1)], .inl [.inr (.t (.hsl 4)), .inl (.sl 1)], .inr 3]⟩)]⟩
/-- (dynpos/failover.party).each, the loop of block 0, by closure 39 -/
def la_21_0_c39 : LAnn := ⟨⟨[(1, .inr (.inr (.undef))), (2, .inr (.inr (.t (.ptr 2 0)))), (4, .inr (.inr (.t (.ptr 3 0)))), (5, .inr (.inr (.t (.ptr 4 0)))), (15, .inl (.sl 3)), (16, .inl (.int .i64)), (17, .inl (.int .i64))], [.inl [.inl (.sl 3), .inl (.sl 1)], .inl [.inl (.int .i64)], .inl [.inl (.sl 3), .inl (.sl 1)], .inl [.inl (.sl 3), .inl (.sl 1)], .inl [.inr (.t (.hsl 5)), .inl (.sl 1)], .inr 3]⟩,
  [(.exit 0, ⟨[(4, .inr (.inr (.t (.ptr 2 0)))), (5, .inr (.inr (.t (.ptr 3 0))))], [.inl [.inl (.sl 3), .inl (.sl 1)], .inl [.inl (.int .i64)], .inl [.inl (.sl 3), .inl (.sl 1)], .inl [.inr (.t (.hsl 4)), .inl (.sl 1)], .inr 3]⟩)]⟩
/-- (dynpos/failover.party).elect, the loop of block 4 -/
def la_25_4 : LAnn := ⟨⟨[(1, .inl (.int .i64)), (3, .inr (.inr (.t (.ptr 0 0)))), (6, .inr (.inr (.t (.ptr 1 0)))), (9, .inr (.inr (.hmap 2))), (13, .inr (.inr (.t (.ptr 3 0)))), (15, .inl (.int .i64)), (16, .inl (.int .i64)), (62, .inl (.sl 1)), (63, .inl (.int .i64)), (64, .inl (.int .i64)), (94, .inl (.sl 1)), (95, .inl (.int .i64)), (96, .inl (.int .i64))], [.inl [.inl (.sl 3), .inl (.sl 1)], .inl [.inl (.sl 3), .inl (.sl 1)], .inr 1000001, .inl [.inr (.t (.hsl 4)), .inl (.sl 1)], .inr 3]⟩,
  [(.exit 4, ⟨[(1, .inl (.int .i64)), (3, .inr (.inr (.t (.ptr 0 0)))), (6, .inr (.inr (.t (.ptr 1 0)))), (9, .inr (.inr (.hmap 2))), (13, .inr (.inr (.t (.ptr 3 0)))), (15, .inl (.int .i64)), (62, .inl (.sl 1)), (63, .inl (.int .i64)), (64, .inl (.int .i64))], [.inl [.inl (.sl 3), .inl (.sl 1)], .inl [.inl (.sl 3), .inl (.sl 1)], .inr 1000001, .inl [.inr (.t (.hsl 4)), .inl (.sl 1)], .inr 3]⟩)]⟩
/-- (dynpos/failover.party).elect, the loop of block 2 -/
def la_25_2 : LAnn := ⟨⟨[(1, .inl (.int .i64)), (3, .inr (.inr (.t (.ptr 0 0)))), (6, .inr (.inr (.t (.ptr 1 0)))), (9, .inr (.inr (.hmap 2))), (13, .inr (.inr (.t (.ptr 3 0)))), (62, .inl (.sl 1)), (63, .inl (.int .i64)), (64, .inl (.int .i64))], [.inl [.inl (.sl 3), .inl (.sl 1)], .inl [.inl (.sl 3), .inl (.sl 1)], .inr 1000001, .inl [.inr (.t (.hsl 4)), .inl (.sl 1)], .inr 3]⟩,
  [(.exit 2, ⟨[(6, .inr (.inr (.t (.ptr 0 0)))), (13, .inr (.inr (.t (.ptr 1 0))))], [.inl [.inl (.sl 3), .inl (.sl 1)], .inl [.inr (.t (.hsl 2)), .inl (.sl 1)], .inr 3]⟩), (.ret, ⟨[(6, .inr (.inr (.t (.ptr 0 0)))), (7, .inl .bool)], [.inl [.inl (.sl 3), .inl (.sl 1)]]⟩)]⟩
/-- (dynpos/failover.party).elect, the loop of block 0 -/
def la_25_0 : LAnn := ⟨⟨[(1, .inl (.int .i64)), (3, .inr (.inr (.t (.ptr 0 0)))), (6, .inr (.inr (.t (.ptr 1 0)))), (8, .inl (.sl 1)), (9, .inr (.inr (.hmap 2))), (26, .inl (.int .i64)), (27, .inl (.int .i64))], [.inl [.inl (.sl 3), .inl (.sl 1)], .inl [.inl (.sl 3), .inl (.sl 1)], .inr 1000003]⟩,
  [(.exit 0, ⟨[(1, .inl (.int .i64)), (3, .inr (.inr (.t (.ptr 0 0)))), (6, .inr (.inr (.t (.ptr 1 0)))), (8, .inl (.sl 1)), (9, .inr (.inr (.hmap 2)))], [.inl [.inl (.sl 3), .inl (.sl 1)], .inl [.inl (.sl 3), .inl (.sl 1)], .inr 1000003]⟩)]⟩
/-- dynpos/network.whole, the loop of block 0 -/
def la_27_0 : LAnn := ⟨⟨[(1, .inl (.sl 2)), (2, .inl (.int .i64)), (7, .inr (.inr (.t (.hsl 0)))), (11, .inl (.sl 3)), (12, .inl (.int .i64)), (13, .inl (.int .i64))], [.inr 3]⟩,
  [(.exit 0, ⟨[(7, .inr (.inr (.t (.hsl 0))))], [.inr 3]⟩)]⟩
/-- dynpos/failover.Check, the loop of block 0 -/
def la_28_0 : LAnn := ⟨⟨[(1, .inl (.int .i64)), (15, .inl (.sl 3)), (16, .inl (.int .i64)), (17, .inl (.int .i64))], []⟩,
  [(.exit 0, ⟨[], []⟩), (.ret, ⟨[(4, .inl (.int .i64))], []⟩)]⟩
/-- (dynpos/failover.party).greatest, the loop of block 0 -/
def la_32_0 : LAnn := ⟨⟨[(2, .inr (.inr (.t (.ptr 0 0)))), (5, .inl (.int .i64)), (8, .inl (.sl 1)), (9, .inl (.int .i64)), (10, .inl (.int .i64))], [.inl [.inl (.sl 3), .inl (.sl 1)]]⟩,
  [(.exit 0, ⟨[(5, .inl (.int .i64))], []⟩)]⟩
/-- (dynpos/failover.party).hears, the loop of block 0 -/
def la_33_0 : LAnn := ⟨⟨[(1, .inl (.int .i64)), (2, .inr (.inr (.t (.ptr 0 0)))), (5, .inr (.inr (.t (.hsl 1)))), (9, .inl (.int .i64)), (10, .inl (.int .i64))], [.inl [.inl (.sl 3), .inl (.sl 1)], .inr 1]⟩,
  [(.exit 0, ⟨[(5, .inr (.inr (.t (.hsl 0))))], [.inr 1]⟩)]⟩
/-- (dynpos/failover.party).candidates, the loop of block 0 -/
def la_41_0 : LAnn := ⟨⟨[(1, .inl (.int .i64)), (2, .inl (.int .i64)), (3, .inr (.inr (.t (.ptr 0 0)))), (7, .inr (.inr (.t (.hsl 1)))), (11, .inl (.sl 3)), (12, .inl (.int .i64)), (13, .inl (.int .i64))], [.inl [.inl (.sl 3), .inl (.sl 1)], .inr 1]⟩,
  [(.exit 0, ⟨[(7, .inr (.inr (.t (.hsl 0))))], [.inr 1]⟩)]⟩
/-- slices.IndexFunc[[]int,int], the loop of block 0 -/
def la_42_0 : LAnn := ⟨⟨[(0, .inl (.sl 1)), (1, .inr (.inr (.undef))), (7, .inl (.int .i64)), (8, .inl (.int .i64))], [.inl [.inr (.fn 35 [])], .inl [.inl (.int .i64)], .inl [.inl (.sl 3), .inl (.sl 1)], .inl [.inl (.int .i64), .inl (.int .i64), .inl (.int .i64)], .inl [.inr (.fn 36 [])], .inl [.inr (.fn 43 [])], .inl [.inl (.sl 1)], .inl [.inr (.fn 47 [])], .inl [.inl (.int .i64), .inl (.sl 3)]]⟩,
  [(.exit 0, ⟨[], [.inl [.inr (.fn 35 [])], .inl [.inl (.int .i64)], .inl [.inl (.sl 3), .inl (.sl 1)], .inl [.inl (.int .i64), .inl (.int .i64), .inl (.int .i64)], .inl [.inr (.fn 36 [])], .inl [.inr (.fn 43 [])], .inl [.inl (.sl 1)], .inl [.inr (.fn 47 [])], .inl [.inl (.int .i64), .inl (.sl 3)]]⟩), (.ret, ⟨[(4, .inl (.int .i64))], [.inl [.inr (.fn 35 [])], .inl [.inl (.int .i64)], .inl [.inl (.sl 3), .inl (.sl 1)], .inl [.inl (.int .i64), .inl (.int .i64), .inl (.int .i64)], .inl [.inr (.fn 36 [])], .inl [.inr (.fn 43 [])], .inl [.inl (.sl 1)], .inl [.inr (.fn 47 [])], .inl [.inl (.int .i64), .inl (.sl 3)]]⟩)]⟩
/-- dynpos/network.Check, the loop of block 0 -/
def la_46_0 : LAnn := ⟨⟨[(1, .inr (.inr (.t (.ptr 0 0)))), (20, .inl (.sl 3)), (21, .inl (.int .i64)), (22, .inl (.int .i64))], [.inl [.inl (.int .i64), .inl (.sl 3)]]⟩,
  [(.exit 0, ⟨[], []⟩), (.ret, ⟨[(2, .inl (.int .i64))], []⟩)]⟩
/-- slices.Index[[]int,int], the loop of block 0 -/
def la_51_0 : LAnn := ⟨⟨[(0, .inl (.sl 1)), (1, .inl (.int .i64)), (7, .inl (.int .i64)), (8, .inl (.int .i64))], []⟩,
  [(.exit 0, ⟨[], []⟩), (.ret, ⟨[(4, .inl (.int .i64))], []⟩)]⟩
/-- slices.Index[[]dynpos/api.Part,dynpos/api.Part], the loop of block 0 -/
def la_53_0 : LAnn := ⟨⟨[(0, .inl (.sl 2)), (3, .inr (.inr (.t (.ptr 0 0)))), (7, .inl (.int .i64)), (8, .inl (.int .i64))], [.inl [.inl (.int .i64), .inl (.int .i64)]]⟩,
  [(.exit 0, ⟨[], []⟩), (.ret, ⟨[(4, .inl (.int .i64))], []⟩)]⟩
/-- slices.IndexFunc[[][]bool,[]bool], the loop of block 0 -/
def la_54_0 : LAnn := ⟨⟨[(0, .inl (.sl 1)), (1, .inr (.inr (.undef))), (7, .inl (.int .i64)), (8, .inl (.int .i64))], [.inl [.inr (.fn 50 [])], .inl [.inl (.sl 3)]]⟩,
  [(.exit 0, ⟨[], [.inl [.inr (.fn 50 [])], .inl [.inl (.sl 3)]]⟩), (.ret, ⟨[(4, .inl (.int .i64))], [.inl [.inr (.fn 50 [])], .inl [.inl (.sl 3)]]⟩)]⟩
/-- cmp.Or[int], the loop of block 0 -/
def la_55_0 : LAnn := ⟨⟨[(3, .inl (.int .i64)), (6, .inl (.sl 1)), (7, .inl (.int .i64)), (8, .inl (.int .i64))], []⟩,
  [(.exit 0, ⟨[(3, .inl (.int .i64))], []⟩), (.ret, ⟨[(2, .inl (.int .i64))], []⟩)]⟩

noncomputable def E : Env := ⟨Try.prog, [3, 4, 5, 6, 7, 8, 9, 10, 11, 12, 13, 14, 15, 16, 17, 18, 19, 20, 21, 22, 23, 24, 25, 26, 27, 28, 29, 30, 31, 32, 33, 34, 35, 36, 37, 38, 39, 40, 41, 42, 43, 44, 45, 46, 47, 48, 49, 50, 51, 52, 53, 54, 55, 56, 57], [(30, 0), (45, 0)], [], [(5, 0), (11, 1), (12, 0), (12, 1), (18, 0), (19, 0), (27, 1)], [(3, 6, la_3_6), (3, 4, la_3_4), (3, 2, la_3_2), (3, 0, la_3_0), (6, 4, la_6_4), (6, 2, la_6_2), (6, 0, la_6_0), (9, 0, la_9_0), (10, 0, la_10_0), (16, 0, la_16_0), (21, 23000, la_21_0_c22), (21, 35000, la_21_0_c34), (21, 40000, la_21_0_c39), (25, 4, la_25_4), (25, 2, la_25_2), (25, 0, la_25_0), (27, 0, la_27_0), (28, 0, la_28_0), (32, 0, la_32_0), (33, 0, la_33_0), (41, 0, la_41_0), (42, 0, la_42_0), (46, 0, la_46_0), (51, 0, la_51_0), (53, 0, la_53_0), (54, 0, la_54_0), (55, 0, la_55_0)], [], [30, 45], [(17, hReach 26 27)], [], [(25, 12, [(9, none)]), (3, 23, [(12, none)])], [(23, .clo 34), (24, .clo 39)]⟩

end Go.Proofs.Ytcgpckiieocdbaa.Vm
