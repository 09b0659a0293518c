/- The annotations of the loops, by program. Nothing is claimed here. -/
import Derived.Test.YtiagcaefhjibjaaVm4
import Derived.Test.YtiagcaefhjibjaaProg
namespace Go.Proofs.Ytiagcaefhjibjaa.Vm

/-- dynpos/dynposlaw28.StatusExact, the loop of block 14 -/
def la_3_14 : LAnn := ⟨⟨[(3, .inl (.int .i64)), (7, .inl .bool), (8, .inl .bool), (19, .inr (.inr (.t (.ptr 0 0)))), (42, .inr (.inr (.t (.ptr 1 0)))), (172, .inr (.inl [.int .i64, .int .i64, .int .i64, .int .i64, .int .i64, .int .i64, .int .i64, .int .i64, .int .i64, .int .i64])), (173, .inl (.int .i64)), (179, .inr (.inl [.int .i64, .int .i64])), (180, .inl (.int .i64))], [.inl [.inl (.sl 1), .inl (.int .i64)], .inl [.inl (.int .i64), .inl (.int .i64), .inl (.int .i64), .inl (.int .i64), .inl (.int .i64)]]⟩,
  [(.exit 14, ⟨[(3, .inl (.int .i64)), (7, .inl .bool), (8, .inl .bool), (19, .inr (.inr (.t (.ptr 0 0)))), (172, .inr (.inl [.int .i64, .int .i64, .int .i64, .int .i64, .int .i64, .int .i64, .int .i64, .int .i64, .int .i64, .int .i64])), (173, .inl (.int .i64))], [.inl [.inl (.sl 1), .inl (.int .i64)]]⟩), (.ret, ⟨[(18, .inl .bool)], []⟩)]⟩
/-- dynpos/dynposlaw28.StatusExact, the loop of block 12 -/
def la_3_12 : LAnn := ⟨⟨[(3, .inl (.int .i64)), (7, .inl .bool), (8, .inl .bool), (19, .inr (.inr (.t (.ptr 0 0)))), (172, .inr (.inl [.int .i64, .int .i64, .int .i64, .int .i64, .int .i64, .int .i64, .int .i64, .int .i64, .int .i64, .int .i64])), (173, .inl (.int .i64))], [.inl [.inl (.sl 1), .inl (.int .i64)]]⟩,
  [(.exit 12, ⟨[], []⟩), (.ret, ⟨[(18, .inl .bool)], []⟩)]⟩
/-- dynpos/dynposlaw28.StatusExact, the loop of block 10 -/
def la_3_10 : LAnn := ⟨⟨[(3, .inl (.int .i64)), (4, .inl (.int .i64)), (7, .inl .bool), (8, .inl .bool), (15, .inr (.inr (.t (.ptr 0 0)))), (19, .inr (.inr (.t (.ptr 1 0)))), (34, .inl (.sl 1)), (135, .inr (.inl [.sl 1, .sl 1])), (136, .inl (.int .i64)), (142, .inr (.inl [.int .i64, .int .i64])), (143, .inl (.int .i64))], [.inl [.inl (.int .i64), .inl (.int .i64), .inl (.int .i64), .inl (.int .i64), .inl (.int .i64)], .inl [.inl (.sl 1), .inl (.int .i64)]]⟩,
  [(.exit 10, ⟨[(3, .inl (.int .i64)), (4, .inl (.int .i64)), (7, .inl .bool), (8, .inl .bool), (15, .inr (.inr (.t (.ptr 0 0)))), (19, .inr (.inr (.t (.ptr 1 0)))), (135, .inr (.inl [.sl 1, .sl 1])), (136, .inl (.int .i64))], [.inl [.inl (.int .i64), .inl (.int .i64), .inl (.int .i64), .inl (.int .i64), .inl (.int .i64)], .inl [.inl (.sl 1), .inl (.int .i64)]]⟩), (.ret, ⟨[(18, .inl .bool)], []⟩)]⟩
/-- dynpos/dynposlaw28.StatusExact, the loop of block 8 -/
def la_3_8 : LAnn := ⟨⟨[(3, .inl (.int .i64)), (4, .inl (.int .i64)), (7, .inl .bool), (8, .inl .bool), (15, .inr (.inr (.t (.ptr 0 0)))), (19, .inr (.inr (.t (.ptr 1 0)))), (135, .inr (.inl [.sl 1, .sl 1])), (136, .inl (.int .i64))], [.inl [.inl (.int .i64), .inl (.int .i64), .inl (.int .i64), .inl (.int .i64), .inl (.int .i64)], .inl [.inl (.sl 1), .inl (.int .i64)]]⟩,
  [(.exit 8, ⟨[(3, .inl (.int .i64)), (7, .inl .bool), (8, .inl .bool), (15, .inr (.inr (.t (.ptr 0 0)))), (19, .inr (.inr (.t (.ptr 1 0))))], [.inl [.inl (.int .i64), .inl (.int .i64), .inl (.int .i64), .inl (.int .i64), .inl (.int .i64)], .inl [.inl (.sl 1), .inl (.int .i64)]]⟩), (.ret, ⟨[(18, .inl .bool)], []⟩)]⟩
/-- dynpos/dynposlaw28.StatusExact, the loop of block 6 -/
def la_3_6 : LAnn := ⟨⟨[(2, .inl (.int .i64)), (3, .inl (.int .i64)), (4, .inl (.int .i64)), (5, .inl (.sl 1)), (7, .inl .bool), (8, .inl .bool), (15, .inr (.inr (.t (.ptr 0 0)))), (19, .inr (.inr (.t (.ptr 1 0)))), (22, .inr (.inr (.t (.ptr 2 0)))), (24, .inl (.int .i64)), (26, .inl (.int .i64)), (63, .inr (.inl [.int .i64, .int .i64, .int .i64, .int .i64])), (64, .inl (.int .i64)), (70, .inr (.inl [.int .i64, .int .i64])), (71, .inl (.int .i64)), (84, .inr (.inl [.int .i64, .int .i64])), (85, .inl (.int .i64)), (91, .inr (.inl [.int .i64, .int .i64])), (92, .inl (.int .i64))], [.inl [.inl (.int .i64), .inl (.int .i64), .inl (.int .i64), .inl (.int .i64), .inl (.int .i64)], .inl [.inl (.sl 1), .inl (.int .i64)], .inl [.inl (.int .i64), .inl (.int .i64)]]⟩,
  [(.exit 6, ⟨[(2, .inl (.int .i64)), (3, .inl (.int .i64)), (4, .inl (.int .i64)), (5, .inl (.sl 1)), (7, .inl .bool), (8, .inl .bool), (15, .inr (.inr (.t (.ptr 0 0)))), (19, .inr (.inr (.t (.ptr 1 0)))), (22, .inr (.inr (.t (.ptr 2 0)))), (24, .inl (.int .i64)), (63, .inr (.inl [.int .i64, .int .i64, .int .i64, .int .i64])), (64, .inl (.int .i64)), (70, .inr (.inl [.int .i64, .int .i64])), (71, .inl (.int .i64)), (84, .inr (.inl [.int .i64, .int .i64])), (85, .inl (.int .i64))], [.inl [.inl (.int .i64), .inl (.int .i64), .inl (.int .i64), .inl (.int .i64), .inl (.int .i64)], .inl [.inl (.sl 1), .inl (.int .i64)], .inl [.inl (.int .i64), .inl (.int .i64)]]⟩), (.ret, ⟨[(18, .inl .bool)], []⟩)]⟩
/-- dynpos/dynposlaw28.StatusExact, the loop of block 4 -/
def la_3_4 : LAnn := ⟨⟨[(2, .inl (.int .i64)), (3, .inl (.int .i64)), (4, .inl (.int .i64)), (5, .inl (.sl 1)), (7, .inl .bool), (8, .inl .bool), (15, .inr (.inr (.t (.ptr 0 0)))), (19, .inr (.inr (.t (.ptr 1 0)))), (22, .inr (.inr (.t (.ptr 2 0)))), (24, .inl (.int .i64)), (63, .inr (.inl [.int .i64, .int .i64, .int .i64, .int .i64])), (64, .inl (.int .i64)), (70, .inr (.inl [.int .i64, .int .i64])), (71, .inl (.int .i64)), (84, .inr (.inl [.int .i64, .int .i64])), (85, .inl (.int .i64))], [.inl [.inl (.int .i64), .inl (.int .i64), .inl (.int .i64), .inl (.int .i64), .inl (.int .i64)], .inl [.inl (.sl 1), .inl (.int .i64)], .inl [.inl (.int .i64), .inl (.int .i64)]]⟩,
  [(.exit 4, ⟨[(2, .inl (.int .i64)), (3, .inl (.int .i64)), (4, .inl (.int .i64)), (5, .inl (.sl 1)), (7, .inl .bool), (8, .inl .bool), (15, .inr (.inr (.t (.ptr 0 0)))), (19, .inr (.inr (.t (.ptr 1 0)))), (22, .inr (.inr (.t (.ptr 2 0)))), (63, .inr (.inl [.int .i64, .int .i64, .int .i64, .int .i64])), (64, .inl (.int .i64)), (70, .inr (.inl [.int .i64, .int .i64])), (71, .inl (.int .i64))], [.inl [.inl (.int .i64), .inl (.int .i64), .inl (.int .i64), .inl (.int .i64), .inl (.int .i64)], .inl [.inl (.sl 1), .inl (.int .i64)], .inl [.inl (.int .i64), .inl (.int .i64)]]⟩), (.ret, ⟨[(18, .inl .bool)], []⟩)]⟩
/-- dynpos/dynposlaw28.StatusExact, the loop of block 2 -/
def la_3_2 : LAnn := ⟨⟨[(2, .inl (.int .i64)), (3, .inl (.int .i64)), (4, .inl (.int .i64)), (5, .inl (.sl 1)), (7, .inl .bool), (8, .inl .bool), (15, .inr (.inr (.t (.ptr 0 0)))), (19, .inr (.inr (.t (.ptr 1 0)))), (22, .inr (.inr (.t (.ptr 2 0)))), (63, .inr (.inl [.int .i64, .int .i64, .int .i64, .int .i64])), (64, .inl (.int .i64)), (70, .inr (.inl [.int .i64, .int .i64])), (71, .inl (.int .i64))], [.inl [.inl (.int .i64), .inl (.int .i64), .inl (.int .i64), .inl (.int .i64), .inl (.int .i64)], .inl [.inl (.sl 1), .inl (.int .i64)], .inl [.inl (.int .i64), .inl (.int .i64)]]⟩,
  [(.exit 2, ⟨[(2, .inl (.int .i64)), (3, .inl (.int .i64)), (4, .inl (.int .i64)), (5, .inl (.sl 1)), (7, .inl .bool), (8, .inl .bool), (15, .inr (.inr (.t (.ptr 0 0)))), (19, .inr (.inr (.t (.ptr 1 0)))), (63, .inr (.inl [.int .i64, .int .i64, .int .i64, .int .i64])), (64, .inl (.int .i64))], [.inl [.inl (.int .i64), .inl (.int .i64), .inl (.int .i64), .inl (.int .i64), .inl (.int .i64)], .inl [.inl (.sl 1), .inl (.int .i64)]]⟩), (.ret, ⟨[(18, .inl .bool)], []⟩)]⟩
/-- dynpos/dynposlaw28.StatusExact, the loop of block 0 -/
def la_3_0 : LAnn := ⟨⟨[(2, .inl (.int .i64)), (3, .inl (.int .i64)), (4, .inl (.int .i64)), (5, .inl (.sl 1)), (7, .inl .bool), (8, .inl .bool), (15, .inr (.inr (.t (.ptr 0 0)))), (19, .inr (.inr (.t (.ptr 1 0)))), (63, .inr (.inl [.int .i64, .int .i64, .int .i64, .int .i64])), (64, .inl (.int .i64))], [.inl [.inl (.int .i64), .inl (.int .i64), .inl (.int .i64), .inl (.int .i64), .inl (.int .i64)], .inl [.inl (.sl 1), .inl (.int .i64)]]⟩,
  [(.exit 0, ⟨[(3, .inl (.int .i64)), (4, .inl (.int .i64)), (5, .inl (.sl 1)), (7, .inl .bool), (8, .inl .bool), (15, .inr (.inr (.t (.ptr 0 0)))), (19, .inr (.inr (.t (.ptr 1 0))))], [.inl [.inl (.int .i64), .inl (.int .i64), .inl (.int .i64), .inl (.int .i64), .inl (.int .i64)], .inl [.inl (.sl 1), .inl (.int .i64)]]⟩), (.ret, ⟨[(18, .inl .bool)], []⟩)]⟩
/-- dynpos/dynposlaw28.StatusNever, the loop of block 2 -/
def la_4_2 : LAnn := ⟨⟨[(6, .inl (.sl 1)), (7, .inl (.int .i64)), (8, .inl (.sl 1)), (10, .inl (.int .i64)), (11, .inl (.int .i64)), (39, .inl (.int .i64)), (40, .inl (.int .i64))], []⟩,
  [(.exit 2, ⟨[(6, .inl (.sl 1)), (7, .inl (.int .i64)), (8, .inl (.sl 1)), (39, .inl (.int .i64)), (40, .inl (.int .i64))], []⟩), (.ret, ⟨[(4, .inl .bool)], []⟩)]⟩
/-- dynpos/dynposlaw28.StatusNever, the loop of block 0 -/
def la_4_0 : LAnn := ⟨⟨[(6, .inl (.sl 1)), (7, .inl (.int .i64)), (8, .inl (.sl 1)), (39, .inl (.int .i64)), (40, .inl (.int .i64))], []⟩,
  [(.exit 0, ⟨[], []⟩), (.ret, ⟨[(4, .inl .bool)], []⟩)]⟩
/-- dynpos/dynposlaw28.StatusSteps, the loop of block 0 -/
def la_5_0 : LAnn := ⟨⟨[(6, .inl (.sl 1)), (8, .inl (.sl 1)), (10, .inl (.int .i64)), (39, .inl (.int .i64)), (40, .inl (.int .i64))], []⟩,
  [(.exit 0, ⟨[], []⟩), (.ret, ⟨[(4, .inl .bool)], []⟩)]⟩
/-- dynpos/dynposlaw28.StatusReaches, the loop of block 2 -/
def la_6_2 : LAnn := ⟨⟨[(5, .inl (.int .i64)), (8, .inl (.sl 1)), (41, .inl (.int .i64)), (42, .inl (.int .i64))], []⟩,
  [(.exit 2, ⟨[], []⟩), (.ret, ⟨[(4, .inl .bool)], []⟩)]⟩
/-- dynpos/dynposlaw28.StatusReaches, the loop of block 0 -/
def la_6_0 : LAnn := ⟨⟨[(5, .inl (.int .i64)), (6, .inr (.inr (.t (.hsl 0)))), (24, .inl (.int .i64)), (25, .inl (.int .i64))], [.inr 1]⟩,
  [(.exit 0, ⟨[(5, .inl (.int .i64)), (6, .inr (.inr (.t (.hsl 0))))], [.inr 1]⟩)]⟩
/-- dynpos/dynposlaw28.levels, the loop of block 0 -/
def la_19_0 : LAnn := ⟨⟨[(0, .inr (.inr (.t (.ptr 0 0)))), (5, .inr (.inr (.t (.hsl 1)))), (6, .inl (.int .i64))], [.inl [.inl (.sl 1), .inl (.int .i64)], .inr 1]⟩,
  [(.exit 0, ⟨[(5, .inr (.inr (.t (.hsl 1))))], [.inl [.inl (.sl 1), .inl (.int .i64)], .inr 1]⟩)]⟩
/-- dynpos/status.Run, the loop of block 0 -/
def la_20_0 : LAnn := ⟨⟨[(1, .inl (.int .i64)), (6, .inr (.inr (.t (.ptr 0 0)))), (7, .inr (.inr (.t (.hsl 1)))), (16, .inl (.sl 1)), (17, .inl (.int .i64)), (18, .inl (.int .i64))], [.inl [.inl (.int .i64), .inl (.int .i64)], .inr 1]⟩,
  [(.exit 0, ⟨[(7, .inr (.inr (.t (.hsl 0))))], [.inr 1]⟩), (.ret, ⟨[(4, .inl (.sl 1)), (5, .inl (.int .i64))], []⟩)]⟩
/-- dynpos/dynposref28.Run, the loop of block 0 -/
def la_21_0 : LAnn := ⟨⟨[(1, .inl (.int .i64)), (6, .inr (.inr (.t (.ptr 0 0)))), (7, .inr (.inr (.t (.hsl 1)))), (16, .inl (.sl 1)), (17, .inl (.int .i64)), (18, .inl (.int .i64))], [.inl [.inl (.int .i64), .inl (.int .i64)], .inr 1]⟩,
  [(.exit 0, ⟨[(7, .inr (.inr (.t (.hsl 0))))], [.inr 1]⟩), (.ret, ⟨[(4, .inl (.sl 1)), (5, .inl (.int .i64))], []⟩)]⟩
/-- dynpos/dynposref01.Ints, the loop of block 0 -/
def la_22_0 : LAnn := ⟨⟨[(0, .inl (.sl 1)), (1, .inl (.sl 1)), (12, .inl (.int .i64)), (13, .inl (.int .i64))], []⟩,
  [(.exit 0, ⟨[], []⟩), (.ret, ⟨[(4, .inl .bool)], []⟩)]⟩

noncomputable def E : Env := ⟨Try.prog, [3, 4, 5, 6, 7, 8, 9, 10, 11, 12, 13, 14, 15, 16, 17, 18, 19, 20, 21, 22, 23, 24, 25, 26, 27, 28, 29, 30, 31], [], [], [(10, 0), (20, 0), (21, 0), (31, 1)], [(3, 14, la_3_14), (3, 12, la_3_12), (3, 10, la_3_10), (3, 8, la_3_8), (3, 6, la_3_6), (3, 4, la_3_4), (3, 2, la_3_2), (3, 0, la_3_0), (4, 2, la_4_2), (4, 0, la_4_0), (5, 0, la_5_0), (6, 2, la_6_2), (6, 0, la_6_0), (19, 0, la_19_0), (20, 0, la_20_0), (21, 0, la_21_0), (22, 0, la_22_0)], []⟩

end Go.Proofs.Ytiagcaefhjibjaa.Vm
