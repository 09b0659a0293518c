/- The annotations of the loops, by program. Nothing is claimed here. -/
import Derived.Test.YthmhnnppikdafaaVm4
import Derived.Test.YthmhnnppikdafaaProg
namespace Go.Proofs.Ythmhnnppikdafaa.Vm

/-- dynpos/dynposlaw33.FailoverEpochs, the loop of block 2 -/
def la_3_2 : LAnn := ⟨⟨[(5, .inr (.inr (.t (.ptr 0 0)))), (6, .inl (.int .i64)), (7, .inl (.sl 3)), (8, .inl (.int .i64)), (9, .inl (.int .i64)), (10, .inl (.int .i64)), (11, .inl (.sl 3)), (13, .inl (.int .i64)), (14, .inr (.inr (.hmap 1))), (66, .inl (.sl 3)), (67, .inl (.int .i64)), (68, .inl (.int .i64))], [.inl [.inl (.sl 1), .inl (.int .i64)], .inr 1000001]⟩,
  [(.exit 2, ⟨[(5, .inr (.inr (.t (.ptr 0 0)))), (6, .inl (.int .i64)), (8, .inl (.int .i64)), (9, .inl (.int .i64)), (10, .inl (.int .i64)), (11, .inl (.sl 3))], [.inl [.inl (.sl 1), .inl (.int .i64)]]⟩), (.ret, ⟨[(4, .inl .bool)], []⟩)]⟩
/-- dynpos/dynposlaw33.FailoverEpochs, the loop of block 0 -/
def la_3_0 : LAnn := ⟨⟨[(5, .inr (.inr (.t (.ptr 0 0)))), (6, .inl (.int .i64)), (7, .inl (.sl 3)), (8, .inl (.int .i64)), (9, .inl (.int .i64)), (10, .inl (.int .i64))], [.inl [.inl (.sl 1), .inl (.int .i64)]]⟩,
  [(.exit 0, ⟨[(8, .inl (.int .i64))], []⟩), (.ret, ⟨[(4, .inl .bool)], []⟩)]⟩
/-- dynpos/dynposlaw33.FailoverLives, the loop of block 2 -/
def la_4_2 : LAnn := ⟨⟨[(6, .inl (.sl 3)), (7, .inl (.int .i64)), (8, .inl (.int .i64)), (11, .inl (.int .i64)), (12, .inl (.sl 1)), (13, .inl (.int .i64))], []⟩,
  [(.exit 2, ⟨[(6, .inl (.sl 3)), (8, .inl (.int .i64)), (11, .inl (.int .i64)), (12, .inl (.sl 1)), (13, .inl (.int .i64))], []⟩), (.ret, ⟨[(4, .inl .bool)], []⟩)]⟩
/-- dynpos/dynposlaw33.FailoverLives, the loop of block 0 -/
def la_4_0 : LAnn := ⟨⟨[(1, .inl (.int .u8)), (6, .inl (.sl 3)), (7, .inl (.int .i64)), (8, .inl (.int .i64)), (31, .inl (.sl 3)), (32, .inl (.int .i64)), (33, .inl (.int .i64))], []⟩,
  [(.exit 0, ⟨[(1, .inl (.int .u8)), (6, .inl (.sl 3)), (7, .inl (.int .i64)), (8, .inl (.int .i64))], []⟩)]⟩
/-- dynpos/dynposlaw33.FailoverFences, the loop of block 0 -/
def la_5_0 : LAnn := ⟨⟨[(3, .inl (.int .i64)), (13, .inl (.sl 1)), (14, .inl (.int .i64)), (15, .inl (.int .i64))], []⟩,
  [(.exit 0, ⟨[], []⟩), (.ret, ⟨[(2, .inl .bool)], []⟩)]⟩
/-- dynpos/dynposlaw33.FailoverOne, the loop of block 2 -/
def la_6_2 : LAnn := ⟨⟨[(3, .inr (.inr (.t (.ptr 0 0)))), (5, .inl (.int .i64)), (6, .inl (.int .i64)), (7, .inl (.sl 1)), (8, .inl (.sl 3)), (10, .inl (.int .i64)), (52, .inl (.sl 3)), (53, .inl (.int .i64)), (54, .inl (.int .i64))], [.inl [.inl (.sl 1), .inl (.int .i64)]]⟩,
  [(.exit 2, ⟨[(3, .inr (.inr (.t (.ptr 0 0)))), (5, .inl (.int .i64)), (6, .inl (.int .i64)), (8, .inl (.sl 3)), (10, .inl (.int .i64))], [.inl [.inl (.sl 1), .inl (.int .i64)]]⟩)]⟩
/-- dynpos/dynposlaw33.FailoverOne, the loop of block 0 -/
def la_6_0 : LAnn := ⟨⟨[(3, .inr (.inr (.t (.ptr 0 0)))), (4, .inl (.sl 3)), (5, .inl (.int .i64)), (6, .inl (.int .i64))], [.inl [.inl (.sl 1), .inl (.int .i64)]]⟩,
  [(.exit 0, ⟨[], []⟩), (.ret, ⟨[(2, .inl .bool)], []⟩)]⟩
/-- dynpos/dynposlaw33.FailoverMinority, the loop of block 0 -/
def la_7_0 : LAnn := ⟨⟨[(5, .inl (.sl 3)), (6, .inl (.sl 1)), (7, .inl (.sl 3)), (44, .inl (.sl 3)), (45, .inl (.int .i64)), (46, .inl (.int .i64))], []⟩,
  [(.exit 0, ⟨[], []⟩), (.ret, ⟨[(2, .inl .bool)], []⟩)]⟩
/-- dynpos/dynposlaw33.sane, the loop of block 2 -/
def la_8_2 : LAnn := ⟨⟨[(1, .inl (.sl 3)), (2, .inl (.int .i64)), (4, .inl (.sl 3)), (5, .inl (.int .i64)), (6, .inl (.int .i64))], []⟩,
  [(.exit 2, ⟨[(1, .inl (.sl 3)), (2, .inl (.int .i64)), (4, .inl (.sl 3)), (5, .inl (.int .i64))], []⟩), (.ret, ⟨[(0, .inl .bool)], []⟩)]⟩
/-- dynpos/dynposlaw33.sane, the loop of block 0 -/
def la_8_0 : LAnn := ⟨⟨[(1, .inl (.sl 3)), (2, .inl (.int .i64)), (3, .inl (.int .i64))], []⟩,
  [(.exit 0, ⟨[(1, .inl (.sl 3)), (2, .inl (.int .i64))], []⟩), (.ret, ⟨[(0, .inl .bool)], []⟩)]⟩
/-- (*dynpos/dynposmake.Src).Reach, the loop of block 2 -/
def la_14_2 : LAnn := ⟨⟨[(0, .inr (.inr (.t (.ptr 0 0)))), (1, .inl (.int .i64)), (5, .inr (.inr (.tsl 1))), (6, .inl (.int .i64)), (7, .inl (.int .i64)), (11, .inl (.int .i64)), (12, .inl (.int .i64))], [.inl [.inl (.sl 1), .inl (.int .i64)], .inr 1000002]⟩,
  [(.exit 2, ⟨[(0, .inr (.inr (.t (.ptr 0 0)))), (1, .inl (.int .i64)), (5, .inr (.inr (.tsl 1))), (11, .inl (.int .i64)), (12, .inl (.int .i64))], [.inl [.inl (.sl 1), .inl (.int .i64)], .inr 1000002]⟩)]⟩
/-- (*dynpos/dynposmake.Src).Reach, the loop of block 0 -/
def la_14_0 : LAnn := ⟨⟨[(0, .inr (.inr (.t (.ptr 0 0)))), (1, .inl (.int .i64)), (5, .inr (.inr (.tsl 1))), (11, .inl (.int .i64)), (12, .inl (.int .i64))], [.inl [.inl (.sl 1), .inl (.int .i64)], .inr 1000002]⟩,
  [(.exit 0, ⟨[(5, .inr (.inr (.tsl 1)))], [.inl [.inl (.sl 1), .inl (.int .i64)], .inr 1000002]⟩)]⟩
/-- (*dynpos/dynposmake.Src).Elected, the loop of block 0 -/
def la_15_0 : LAnn := ⟨⟨[(0, .inr (.inr (.t (.ptr 0 0)))), (1, .inl (.int .i64)), (6, .inl (.sl 3)), (8, .inl (.int .i64))], [.inl [.inl (.sl 1), .inl (.int .i64)]]⟩,
  [(.exit 0, ⟨[(1, .inl (.int .i64)), (6, .inl (.sl 3))], [.inl [.inl (.sl 1), .inl (.int .i64)]]⟩)]⟩
/-- dynpos/dynposlaw33.full, the loop of block 2 -/
def la_17_2 : LAnn := ⟨⟨[(0, .inl (.int .i64)), (3, .inr (.inr (.tsl 0))), (4, .inl (.int .i64)), (5, .inl (.int .i64)), (9, .inl (.int .i64)), (10, .inl (.int .i64))], [.inr 1000002]⟩,
  [(.exit 2, ⟨[(0, .inl (.int .i64)), (3, .inr (.inr (.tsl 0))), (9, .inl (.int .i64)), (10, .inl (.int .i64))], [.inr 1000002]⟩)]⟩
/-- dynpos/dynposlaw33.full, the loop of block 0 -/
def la_17_0 : LAnn := ⟨⟨[(0, .inl (.int .i64)), (3, .inr (.inr (.tsl 0))), (9, .inl (.int .i64)), (10, .inl (.int .i64))], [.inr 1000002]⟩,
  [(.exit 0, ⟨[(3, .inr (.inr (.tsl 0)))], [.inr 1000002]⟩)]⟩
/-- dynpos/dynposlaw33.active, the loop of block 0 -/
def la_18_0 : LAnn := ⟨⟨[(3, .inl (.int .i64)), (6, .inl (.sl 3)), (7, .inl (.int .i64)), (8, .inl (.int .i64))], []⟩,
  [(.exit 0, ⟨[(3, .inl (.int .i64))], []⟩)]⟩
/-- dynpos/dynposlaw33.leader, the loop of block 0 -/
def la_19_0 : LAnn := ⟨⟨[(5, .inl (.sl 3)), (6, .inl (.int .i64)), (7, .inl (.int .i64))], []⟩,
  [(.exit 0, ⟨[], []⟩), (.ret, ⟨[(2, .inl (.int .i64))], []⟩)]⟩
/-- (*dynpos/dynposmake.Src).Controllers, the loop of block 0 -/
def la_23_0 : LAnn := ⟨⟨[(0, .inr (.inr (.t (.ptr 0 0)))), (1, .inl (.int .i64)), (5, .inr (.inr (.t (.hsl 1)))), (11, .inl (.int .i64)), (12, .inl (.int .i64))], [.inl [.inl (.sl 1), .inl (.int .i64)], .inr 3]⟩,
  [(.exit 0, ⟨[(5, .inr (.inr (.t (.hsl 1))))], [.inl [.inl (.sl 1), .inl (.int .i64)], .inr 3]⟩)]⟩
/-- (dynpos/failover.party).each, the loop of block 0, by closure 29 -/
def la_28_0_c29 : LAnn := ⟨⟨[(1, .inr (.inr (.undef))), (2, .inr (.inr (.t (.ptr 0 0)))), (4, .inr (.inr (.t (.ptr 1 0)))), (5, .inr (.inr (.t (.ptr 2 0)))), (15, .inl (.sl 3)), (16, .inl (.int .i64)), (17, .inl (.int .i64))], [.inl [.inl (.sl 3), .inl (.sl 1)], .inl [.inl (.sl 3), .inl (.sl 1)], .inl [.inr (.t (.hsl 3)), .inl (.sl 1)], .inr 3]⟩,
  [(.exit 0, ⟨[(4, .inr (.inr (.t (.ptr 0 0)))), (5, .inr (.inr (.t (.ptr 1 0))))], [.inl [.inl (.sl 3), .inl (.sl 1)], .inl [.inr (.t (.hsl 2)), .inl (.sl 1)], .inr 3]⟩)]⟩
/-- (dynpos/failover.party).each, the loop of block 0, by closure 42 -/
def la_28_0_c42 : LAnn := ⟨⟨[(1, .inr (.inr (.undef))), (2, .inr (.inr (.t (.ptr 2 0)))), (4, .inr (.inr (.t (.ptr 3 0)))), (5, .inr (.inr (.t (.ptr 4 0)))), (15, .inl (.sl 3)), (16, .inl (.int .i64)), (17, .inl (.int .i64))], [.inl [.inl (.sl 3), .inl (.sl 1)], .inl [.inl (.sl 3), .inl (.sl 1)], .inl [.inl (.sl 3), .inl (.sl 1)], .inl [.inl (.sl 3), .inl (.sl 1)], .inl [.inr (.t (.hsl 5)), .inl (.sl 1)], .inr 3]⟩,
  [(.exit 0, ⟨[(4, .inr (.inr (.t (.ptr 2 0)))), (5, .inr (.inr (.t (.ptr 3 0))))], [.inl [.inl (.sl 3), .inl (.sl 1)], .inl [.inl (.sl 3), .inl (.sl 1)], .inl [.inl (.sl 3), .inl (.sl 1)], .inl [.inr (.t (.hsl 4)), .inl (.sl 1)], .inr 3]⟩)]⟩
/-- (dynpos/failover.party).each, the loop of block 0, by closure 47 -/
def la_28_0_c47 : LAnn := ⟨⟨[(1, .inr (.inr (.undef))), (2, .inr (.inr (.t (.ptr 2 0)))), (4, .inr (.inr (.t (.ptr 3 0)))), (5, .inr (.inr (.t (.ptr 4 0)))), (15, .inl (.sl 3)), (16, .inl (.int .i64)), (17, .inl (.int .i64))], [.inl [.inl (.sl 3), .inl (.sl 1)], .inl [.inl (.int .i64)], .inl [.inl (.sl 3), .inl (.sl 1)], .inl [.inl (.sl 3), .inl (.sl 1)], .inl [.inr (.t (.hsl 5)), .inl (.sl 1)], .inr 3]⟩,
  [(.exit 0, ⟨[(4, .inr (.inr (.t (.ptr 2 0)))), (5, .inr (.inr (.t (.ptr 3 0))))], [.inl [.inl (.sl 3), .inl (.sl 1)], .inl [.inl (.int .i64)], .inl [.inl (.sl 3), .inl (.sl 1)], .inl [.inr (.t (.hsl 4)), .inl (.sl 1)], .inr 3]⟩)]⟩
/-- (dynpos/failover.party).elect, the loop of block 4 -/
def la_32_4 : LAnn := ⟨⟨[(1, .inl (.int .i64)), (3, .inr (.inr (.t (.ptr 0 0)))), (6, .inr (.inr (.t (.ptr 1 0)))), (9, .inr (.inr (.hmap 2))), (13, .inr (.inr (.t (.ptr 3 0)))), (15, .inl (.int .i64)), (16, .inl (.int .i64)), (62, .inl (.sl 1)), (63, .inl (.int .i64)), (64, .inl (.int .i64)), (94, .inl (.sl 1)), (95, .inl (.int .i64)), (96, .inl (.int .i64))], [.inl [.inl (.sl 3), .inl (.sl 1)], .inl [.inl (.sl 3), .inl (.sl 1)], .inr 1000001, .inl [.inr (.t (.hsl 4)), .inl (.sl 1)], .inr 3]⟩,
  [(.exit 4, ⟨[(1, .inl (.int .i64)), (3, .inr (.inr (.t (.ptr 0 0)))), (6, .inr (.inr (.t (.ptr 1 0)))), (9, .inr (.inr (.hmap 2))), (13, .inr (.inr (.t (.ptr 3 0)))), (15, .inl (.int .i64)), (62, .inl (.sl 1)), (63, .inl (.int .i64)), (64, .inl (.int .i64))], [.inl [.inl (.sl 3), .inl (.sl 1)], .inl [.inl (.sl 3), .inl (.sl 1)], .inr 1000001, .inl [.inr (.t (.hsl 4)), .inl (.sl 1)], .inr 3]⟩)]⟩
/-- (dynpos/failover.party).elect, the loop of block 2 -/
def la_32_2 : LAnn := ⟨⟨[(1, .inl (.int .i64)), (3, .inr (.inr (.t (.ptr 0 0)))), (6, .inr (.inr (.t (.ptr 1 0)))), (9, .inr (.inr (.hmap 2))), (13, .inr (.inr (.t (.ptr 3 0)))), (62, .inl (.sl 1)), (63, .inl (.int .i64)), (64, .inl (.int .i64))], [.inl [.inl (.sl 3), .inl (.sl 1)], .inl [.inl (.sl 3), .inl (.sl 1)], .inr 1000001, .inl [.inr (.t (.hsl 4)), .inl (.sl 1)], .inr 3]⟩,
  [(.exit 2, ⟨[(6, .inr (.inr (.t (.ptr 0 0)))), (13, .inr (.inr (.t (.ptr 1 0))))], [.inl [.inl (.sl 3), .inl (.sl 1)], .inl [.inr (.t (.hsl 2)), .inl (.sl 1)], .inr 3]⟩), (.ret, ⟨[(6, .inr (.inr (.t (.ptr 0 0)))), (7, .inl .bool)], [.inl [.inl (.sl 3), .inl (.sl 1)]]⟩)]⟩
/-- (dynpos/failover.party).elect, the loop of block 0 -/
def la_32_0 : LAnn := ⟨⟨[(1, .inl (.int .i64)), (3, .inr (.inr (.t (.ptr 0 0)))), (6, .inr (.inr (.t (.ptr 1 0)))), (8, .inl (.sl 1)), (9, .inr (.inr (.hmap 2))), (26, .inl (.int .i64)), (27, .inl (.int .i64))], [.inl [.inl (.sl 3), .inl (.sl 1)], .inl [.inl (.sl 3), .inl (.sl 1)], .inr 1000003]⟩,
  [(.exit 0, ⟨[(1, .inl (.int .i64)), (3, .inr (.inr (.t (.ptr 0 0)))), (6, .inr (.inr (.t (.ptr 1 0)))), (8, .inl (.sl 1)), (9, .inr (.inr (.hmap 2)))], [.inl [.inl (.sl 3), .inl (.sl 1)], .inl [.inl (.sl 3), .inl (.sl 1)], .inr 1000003]⟩)]⟩
/-- dynpos/dynposref33.Tick, the loop of block 18 -/
def la_34_18 : LAnn := ⟨⟨[(0, .inl (.sl 3)), (2, .inl (.int .i64)), (22, .inl (.sl 3)), (29, .inr (.inr (.t (.hsl 0)))), (30, .inl (.int .i64)), (32, .inl (.int .i64)), (206, .inl (.sl 1)), (207, .inl (.int .i64)), (208, .inl (.int .i64)), (234, .inl (.sl 1)), (235, .inl (.int .i64)), (236, .inl (.int .i64))], [.inr 3]⟩,
  [(.exit 18, ⟨[(0, .inl (.sl 3)), (2, .inl (.int .i64)), (22, .inl (.sl 3)), (29, .inr (.inr (.t (.hsl 0)))), (30, .inl (.int .i64)), (32, .inl (.int .i64)), (206, .inl (.sl 1)), (207, .inl (.int .i64)), (208, .inl (.int .i64))], [.inr 3]⟩)]⟩
/-- dynpos/dynposref33.Tick, the loop of block 16 -/
def la_34_16 : LAnn := ⟨⟨[(0, .inl (.sl 3)), (2, .inl (.int .i64)), (22, .inl (.sl 3)), (29, .inr (.inr (.t (.hsl 0)))), (30, .inl (.int .i64)), (31, .inl (.sl 1)), (32, .inl (.int .i64)), (206, .inl (.sl 1)), (207, .inl (.int .i64)), (208, .inl (.int .i64)), (218, .inl (.sl 1)), (219, .inl (.int .i64)), (220, .inl (.int .i64))], [.inr 3]⟩,
  [(.exit 16, ⟨[(0, .inl (.sl 3)), (2, .inl (.int .i64)), (22, .inl (.sl 3)), (29, .inr (.inr (.t (.hsl 0)))), (30, .inl (.int .i64)), (31, .inl (.sl 1)), (32, .inl (.int .i64)), (206, .inl (.sl 1)), (207, .inl (.int .i64)), (208, .inl (.int .i64))], [.inr 3]⟩)]⟩
/-- dynpos/dynposref33.Tick, the loop of block 14 -/
def la_34_14 : LAnn := ⟨⟨[(0, .inl (.sl 3)), (2, .inl (.int .i64)), (22, .inl (.sl 3)), (29, .inr (.inr (.t (.hsl 0)))), (206, .inl (.sl 1)), (207, .inl (.int .i64)), (208, .inl (.int .i64))], [.inr 3]⟩,
  [(.exit 14, ⟨[(29, .inr (.inr (.t (.hsl 0))))], [.inr 3]⟩), (.ret, ⟨[(8, .inl (.sl 3)), (9, .inl (.int .i64))], []⟩)]⟩
/-- dynpos/dynposref33.Tick, the loop of block 12 -/
def la_34_12 : LAnn := ⟨⟨[(0, .inl (.sl 3)), (1, .inl (.sl 1)), (2, .inl (.int .i64)), (22, .inl (.sl 3)), (24, .inr (.inr (.tsl 0))), (25, .inl (.sl 1)), (26, .inl (.int .i64)), (172, .inl (.int .i64)), (173, .inl (.int .i64)), (180, .inl (.sl 1)), (181, .inl (.int .i64)), (182, .inl (.int .i64))], [.inr 1000002]⟩,
  [(.exit 12, ⟨[(0, .inl (.sl 3)), (1, .inl (.sl 1)), (2, .inl (.int .i64)), (22, .inl (.sl 3)), (24, .inr (.inr (.tsl 0))), (25, .inl (.sl 1)), (172, .inl (.int .i64)), (173, .inl (.int .i64))], [.inr 1000002]⟩)]⟩
/-- dynpos/dynposref33.Tick, the loop of block 10 -/
def la_34_10 : LAnn := ⟨⟨[(0, .inl (.sl 3)), (1, .inl (.sl 1)), (2, .inl (.int .i64)), (22, .inl (.sl 3)), (24, .inr (.inr (.tsl 0))), (25, .inl (.sl 1)), (172, .inl (.int .i64)), (173, .inl (.int .i64))], [.inr 1000002]⟩,
  [(.exit 10, ⟨[(0, .inl (.sl 3)), (2, .inl (.int .i64)), (22, .inl (.sl 3)), (24, .inr (.inr (.tsl 0)))], [.inr 1000002]⟩)]⟩
/-- dynpos/dynposref33.Tick, the loop of block 8 -/
def la_34_8 : LAnn := ⟨⟨[(0, .inl (.sl 3)), (1, .inl (.sl 1)), (2, .inl (.int .i64)), (3, .inl (.int .i64)), (15, .inl (.sl 3)), (22, .inr (.inr (.t (.hsl 0)))), (149, .inl (.int .i64)), (150, .inl (.int .i64))], [.inr 3]⟩,
  [(.exit 8, ⟨[(0, .inl (.sl 3)), (1, .inl (.sl 1)), (2, .inl (.int .i64)), (3, .inl (.int .i64)), (22, .inr (.inr (.t (.hsl 0))))], [.inr 3]⟩)]⟩
/-- dynpos/dynposref33.Tick, the loop of block 6 -/
def la_34_6 : LAnn := ⟨⟨[(0, .inl (.sl 3)), (1, .inl (.sl 1)), (2, .inl (.int .i64)), (3, .inl (.int .i64)), (11, .inl (.sl 3)), (15, .inr (.inr (.t (.hsl 0)))), (16, .inl (.int .i64)), (17, .inr (.inr (.t (.ptr 1 0)))), (19, .inl .bool), (80, .inl (.sl 3)), (81, .inl (.int .i64)), (82, .inl (.int .i64)), (109, .inl (.sl 1)), (110, .inl (.int .i64)), (111, .inl (.int .i64))], [.inr 3, .inl [.inl (.int .i64), .inl (.int .i64), .inl (.int .i64)]]⟩,
  [(.exit 6, ⟨[(0, .inl (.sl 3)), (1, .inl (.sl 1)), (2, .inl (.int .i64)), (3, .inl (.int .i64)), (11, .inl (.sl 3)), (15, .inr (.inr (.t (.hsl 0)))), (16, .inl (.int .i64)), (19, .inl .bool), (80, .inl (.sl 3)), (81, .inl (.int .i64)), (82, .inl (.int .i64))], [.inr 3]⟩)]⟩
/-- dynpos/dynposref33.Tick, the loop of block 4 -/
def la_34_4 : LAnn := ⟨⟨[(0, .inl (.sl 3)), (1, .inl (.sl 1)), (2, .inl (.int .i64)), (3, .inl (.int .i64)), (11, .inl (.sl 3)), (15, .inr (.inr (.t (.hsl 0)))), (80, .inl (.sl 3)), (81, .inl (.int .i64)), (82, .inl (.int .i64))], [.inr 3]⟩,
  [(.exit 4, ⟨[(0, .inl (.sl 3)), (1, .inl (.sl 1)), (2, .inl (.int .i64)), (3, .inl (.int .i64)), (15, .inr (.inr (.t (.hsl 0))))], [.inr 3]⟩)]⟩
/-- dynpos/dynposref33.Tick, the loop of block 2 -/
def la_34_2 : LAnn := ⟨⟨[(0, .inl (.sl 3)), (1, .inl (.sl 1)), (2, .inl (.int .i64)), (3, .inl (.int .i64)), (11, .inr (.inr (.t (.hsl 0)))), (12, .inl (.int .i64)), (48, .inl (.int .i64)), (49, .inl (.int .i64)), (55, .inl (.sl 1)), (56, .inl (.int .i64)), (57, .inl (.int .i64))], [.inr 3]⟩,
  [(.exit 2, ⟨[(0, .inl (.sl 3)), (1, .inl (.sl 1)), (2, .inl (.int .i64)), (3, .inl (.int .i64)), (11, .inr (.inr (.t (.hsl 0)))), (48, .inl (.int .i64)), (49, .inl (.int .i64))], [.inr 3]⟩)]⟩
/-- dynpos/dynposref33.Tick, the loop of block 0 -/
def la_34_0 : LAnn := ⟨⟨[(0, .inl (.sl 3)), (1, .inl (.sl 1)), (2, .inl (.int .i64)), (3, .inl (.int .i64)), (11, .inr (.inr (.t (.hsl 0)))), (48, .inl (.int .i64)), (49, .inl (.int .i64))], [.inr 3]⟩,
  [(.exit 0, ⟨[(0, .inl (.sl 3)), (1, .inl (.sl 1)), (2, .inl (.int .i64)), (3, .inl (.int .i64)), (11, .inr (.inr (.t (.hsl 0))))], [.inr 3]⟩)]⟩
/-- (dynpos/failover.party).hears, the loop of block 0 -/
def la_36_0 : LAnn := ⟨⟨[(1, .inl (.int .i64)), (2, .inr (.inr (.t (.ptr 0 0)))), (5, .inr (.inr (.t (.hsl 1)))), (9, .inl (.int .i64)), (10, .inl (.int .i64))], [.inl [.inl (.sl 3), .inl (.sl 1)], .inr 1]⟩,
  [(.exit 0, ⟨[(5, .inr (.inr (.t (.hsl 0))))], [.inr 1]⟩)]⟩
/-- dynpos/failover.Check, the loop of block 0 -/
def la_39_0 : LAnn := ⟨⟨[(1, .inl (.int .i64)), (15, .inl (.sl 3)), (16, .inl (.int .i64)), (17, .inl (.int .i64))], []⟩,
  [(.exit 0, ⟨[], []⟩), (.ret, ⟨[(4, .inl (.int .i64))], []⟩)]⟩
/-- (dynpos/failover.party).greatest, the loop of block 0 -/
def la_41_0 : LAnn := ⟨⟨[(2, .inr (.inr (.t (.ptr 0 0)))), (5, .inl (.int .i64)), (8, .inl (.sl 1)), (9, .inl (.int .i64)), (10, .inl (.int .i64))], [.inl [.inl (.sl 3), .inl (.sl 1)]]⟩,
  [(.exit 0, ⟨[(5, .inl (.int .i64))], []⟩)]⟩
/-- (dynpos/failover.party).candidates, the loop of block 0 -/
def la_49_0 : LAnn := ⟨⟨[(1, .inl (.int .i64)), (2, .inl (.int .i64)), (3, .inr (.inr (.t (.ptr 0 0)))), (7, .inr (.inr (.t (.hsl 1)))), (11, .inl (.sl 3)), (12, .inl (.int .i64)), (13, .inl (.int .i64))], [.inl [.inl (.sl 3), .inl (.sl 1)], .inr 1]⟩,
  [(.exit 0, ⟨[(7, .inr (.inr (.t (.hsl 0))))], [.inr 1]⟩)]⟩
/-- slices.IndexFunc[[]int,int], the loop of block 0 -/
def la_50_0 : LAnn := ⟨⟨[(0, .inl (.sl 1)), (1, .inr (.inr (.undef))), (7, .inl (.int .i64)), (8, .inl (.int .i64))], [.inl [.inr (.fn 43 [])], .inl [.inl (.int .i64)], .inl [.inl (.sl 3), .inl (.sl 1)], .inl [.inl (.int .i64), .inl (.int .i64), .inl (.int .i64)], .inl [.inr (.fn 44 [])], .inl [.inr (.fn 51 [])], .inl [.inl (.sl 1)]]⟩,
  [(.exit 0, ⟨[], [.inl [.inr (.fn 43 [])], .inl [.inl (.int .i64)], .inl [.inl (.sl 3), .inl (.sl 1)], .inl [.inl (.int .i64), .inl (.int .i64), .inl (.int .i64)], .inl [.inr (.fn 44 [])], .inl [.inr (.fn 51 [])], .inl [.inl (.sl 1)]]⟩), (.ret, ⟨[(4, .inl (.int .i64))], [.inl [.inr (.fn 43 [])], .inl [.inl (.int .i64)], .inl [.inl (.sl 3), .inl (.sl 1)], .inl [.inl (.int .i64), .inl (.int .i64), .inl (.int .i64)], .inl [.inr (.fn 44 [])], .inl [.inr (.fn 51 [])], .inl [.inl (.sl 1)]]⟩)]⟩
/-- dynpos/dynposref33.Heard, the loop of block 0 -/
def la_56_0 : LAnn := ⟨⟨[(1, .inl (.sl 1)), (2, .inl (.int .i64)), (7, .inr (.inr (.t (.hsl 0)))), (33, .inl (.sl 3)), (34, .inl (.int .i64)), (35, .inl (.int .i64))], [.inr 1]⟩,
  [(.exit 0, ⟨[(7, .inr (.inr (.t (.hsl 0))))], [.inr 1]⟩)]⟩
/-- dynpos/dynposref33.hears, the loop of block 0 -/
def la_58_0 : LAnn := ⟨⟨[(0, .inl (.sl 3)), (12, .inl (.sl 1)), (13, .inl (.int .i64)), (14, .inl (.int .i64))], []⟩,
  [(.exit 0, ⟨[], []⟩), (.ret, ⟨[(6, .inl .bool)], []⟩)]⟩
/-- dynpos/dynposref33.candidates, the loop of block 0 -/
def la_59_0 : LAnn := ⟨⟨[(0, .inl (.sl 3)), (1, .inl (.sl 1)), (2, .inl (.int .i64)), (3, .inl (.int .i64)), (9, .inr (.inr (.t (.hsl 0)))), (12, .inl (.sl 3)), (13, .inl (.int .i64)), (14, .inl (.int .i64))], [.inr 1]⟩,
  [(.exit 0, ⟨[(9, .inr (.inr (.t (.hsl 0))))], [.inr 1]⟩)]⟩
/-- dynpos/dynposref33.has, the loop of block 0 -/
def la_60_0 : LAnn := ⟨⟨[(1, .inl (.int .i64)), (7, .inl (.sl 1)), (8, .inl (.int .i64)), (9, .inl (.int .i64))], []⟩,
  [(.exit 0, ⟨[], []⟩), (.ret, ⟨[(4, .inl .bool)], []⟩)]⟩
/-- slices.Index[[]int,int], the loop of block 0 -/
def la_63_0 : LAnn := ⟨⟨[(0, .inl (.sl 1)), (1, .inl (.int .i64)), (7, .inl (.int .i64)), (8, .inl (.int .i64))], []⟩,
  [(.exit 0, ⟨[], []⟩), (.ret, ⟨[(4, .inl (.int .i64))], []⟩)]⟩
/-- dynpos/dynposref33.Check, the loop of block 0 -/
def la_64_0 : LAnn := ⟨⟨[(1, .inl (.int .i64)), (11, .inl (.sl 3)), (12, .inl (.int .i64)), (13, .inl (.int .i64))], []⟩,
  [(.exit 0, ⟨[], []⟩), (.ret, ⟨[(4, .inl (.int .i64))], []⟩)]⟩
/-- dynpos/dynposref33.square, the loop of block 0 -/
def la_65_0 : LAnn := ⟨⟨[(1, .inl (.int .i64)), (11, .inl (.sl 1)), (12, .inl (.int .i64)), (13, .inl (.int .i64))], []⟩,
  [(.exit 0, ⟨[], []⟩), (.ret, ⟨[(4, .inl .bool)], []⟩)]⟩
/-- slices.IndexFunc[[][]bool,[]bool], the loop of block 0 -/
def la_66_0 : LAnn := ⟨⟨[(0, .inl (.sl 1)), (1, .inr (.inr (.undef))), (7, .inl (.int .i64)), (8, .inl (.int .i64))], [.inl [.inr (.fn 62 [])], .inl [.inl (.sl 3)]]⟩,
  [(.exit 0, ⟨[], [.inl [.inr (.fn 62 [])], .inl [.inl (.sl 3)]]⟩), (.ret, ⟨[(4, .inl (.int .i64))], [.inl [.inr (.fn 62 [])], .inl [.inl (.sl 3)]]⟩)]⟩

noncomputable def E : Env := ⟨Try.prog, [3, 4, 5, 6, 7, 8, 9, 10, 11, 12, 13, 14, 15, 16, 17, 18, 19, 20, 21, 22, 23, 24, 25, 26, 27, 28, 29, 30, 31, 32, 33, 34, 35, 36, 37, 38, 39, 40, 41, 42, 43, 44, 45, 46, 47, 48, 49, 50, 51, 52, 53, 54, 55, 56, 57, 58, 59, 60, 61, 62, 63, 64, 65, 66], [(38, 0), (53, 0)], [], [(9, 0), (12, 1), (13, 0), (13, 1), (22, 0), (22, 1), (24, 0), (25, 0), (26, 0), (34, 0), (34, 1), (37, 1), (56, 0), (56, 1), (59, 0), (59, 1)], [(3, 2, la_3_2), (3, 0, la_3_0), (4, 2, la_4_2), (4, 0, la_4_0), (5, 0, la_5_0), (6, 2, la_6_2), (6, 0, la_6_0), (7, 0, la_7_0), (8, 2, la_8_2), (8, 0, la_8_0), (14, 2, la_14_2), (14, 0, la_14_0), (15, 0, la_15_0), (17, 2, la_17_2), (17, 0, la_17_0), (18, 0, la_18_0), (19, 0, la_19_0), (23, 0, la_23_0), (28, 30000, la_28_0_c29), (28, 43000, la_28_0_c42), (28, 48000, la_28_0_c47), (32, 4, la_32_4), (32, 2, la_32_2), (32, 0, la_32_0), (34, 18, la_34_18), (34, 16, la_34_16), (34, 14, la_34_14), (34, 12, la_34_12), (34, 10, la_34_10), (34, 8, la_34_8), (34, 6, la_34_6), (34, 4, la_34_4), (34, 2, la_34_2), (34, 0, la_34_0), (36, 0, la_36_0), (39, 0, la_39_0), (41, 0, la_41_0), (49, 0, la_49_0), (50, 0, la_50_0), (56, 0, la_56_0), (58, 0, la_58_0), (59, 0, la_59_0), (60, 0, la_60_0), (63, 0, la_63_0), (64, 0, la_64_0), (65, 0, la_65_0), (66, 0, la_66_0)], [], [38, 53], [], [], [(14, 10, [(5, none)]), (17, 10, [(3, none)]), (32, 12, [(9, none)]), (34, 14, [(11, none)]), (34, 29, [(15, none)]), (34, 36, [(22, none)]), (34, 50, [(24, none)])], [(30, .clo 42), (31, .clo 47)]⟩

end Go.Proofs.Ythmhnnppikdafaa.Vm
