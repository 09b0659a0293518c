/- The annotations of the loops, by program. Nothing is claimed here. -/
import Derived.Test.YtphcfpphnmpcbaaVm4
import Derived.Test.YtphcfpphnmpcbaaProg
namespace Go.Proofs.Ytphcfpphnmpcbaa.Vm

/-- dynpos/dynposlaw12.ThrusterPower, the loop of block 0 -/
def la_4_0 : LAnn := ⟨⟨[(4, .inr (.inr (.t (.ptr 0 0)))), (5, .inl (.int .i64)), (6, .inl (.int .i64)), (7, .inl (.int .i64)), (8, .inl (.int .i64))], [.inl [.inl (.int .i64), .inl (.int .i64), .inl (.int .i64), .inl (.int .i64), .inl (.int .i64), .inl (.sl 2)]]⟩,
  [(.exit 0, ⟨[(4, .inr (.inr (.t (.ptr 0 0)))), (5, .inl (.int .i64)), (6, .inl (.int .i64)), (7, .inl (.int .i64)), (8, .inl (.int .i64))], [.inl [.inl (.int .i64), .inl (.int .i64), .inl (.int .i64), .inl (.int .i64), .inl (.int .i64), .inl (.sl 2)]]⟩)]⟩
/-- dynpos/dynposlaw12.ThrusterSums, the loop of block 0 -/
def la_5_0 : LAnn := ⟨⟨[(4, .inr (.inr (.t (.ptr 0 0)))), (5, .inl (.sl 2)), (6, .inr (.inr (.t (.hsl 1)))), (7, .inr (.inr (.t (.ptr 2 0)))), (25, .inl (.sl 2)), (26, .inl (.int .i64)), (27, .inl (.int .i64))], [.inl [.inl (.int .i64), .inl (.int .i64), .inl (.sl 6)], .inr 2, .inl [.inl (.int .i64), .inl (.int .i64), .inl (.int .i64)]]⟩,
  [(.exit 0, ⟨[(4, .inr (.inr (.t (.ptr 0 0)))), (5, .inl (.sl 2)), (6, .inr (.inr (.t (.hsl 1)))), (7, .inr (.inr (.t (.ptr 2 0))))], [.inl [.inl (.int .i64), .inl (.int .i64), .inl (.sl 6)], .inr 2, .inl [.inl (.int .i64), .inl (.int .i64), .inl (.int .i64)]]⟩)]⟩
/-- (*dynpos/dynposmake.Src).Thruster, the loop of block 0 -/
def la_7_0 : LAnn := ⟨⟨[(0, .inr (.inr (.t (.ptr 0 0)))), (2, .inr (.inr (.t (.ptr 1 0)))), (3, .inr (.inr (.t (.ptr 2 0)))), (4, .inl (.int .i64))], [.inl [.inl (.sl 1), .inl (.int .i64)], .inl [.inl (.int .i64), .inl (.int .i64), .inl (.int .i64), .inl (.int .i64), .inl (.int .i64), .inl (.sl 2)], .inl [.inl (.int .i64), .inl (.int .i64), .inl (.int .i64), .inl (.int .i64), .inl (.int .i64), .inr (.t (.hsl 3))], .inr 2]⟩,
  [(.exit 0, ⟨[(2, .inr (.inr (.t (.ptr 1 0)))), (3, .inr (.inr (.t (.ptr 2 0))))], [.inl [.inl (.sl 1), .inl (.int .i64)], .inl [.inl (.int .i64), .inl (.int .i64), .inl (.int .i64), .inl (.int .i64), .inl (.int .i64), .inl (.sl 2)], .inl [.inl (.int .i64), .inl (.int .i64), .inl (.int .i64), .inl (.int .i64), .inl (.int .i64), .inr (.t (.hsl 3))], .inr 2]⟩)]⟩
/-- (*dynpos/dynposmake.Src).Ship, the loop of block 0 -/
def la_15_0 : LAnn := ⟨⟨[(0, .inr (.inr (.t (.ptr 0 0)))), (4, .inr (.inr (.t (.ptr 1 0)))), (5, .inr (.inr (.t (.ptr 2 0)))), (6, .inl (.int .i64))], [.inl [.inl (.sl 1), .inl (.int .i64)], .inl [.inl (.int .i64), .inl (.int .i64), .inl (.sl 6)], .inl [.inl (.int .i64), .inl (.int .i64), .inr (.t (.hsl 3))], .inr 6]⟩,
  [(.exit 0, ⟨[(4, .inr (.inr (.t (.ptr 1 0)))), (5, .inr (.inr (.t (.ptr 2 0))))], [.inl [.inl (.sl 1), .inl (.int .i64)], .inl [.inl (.int .i64), .inl (.int .i64), .inl (.sl 6)], .inl [.inl (.int .i64), .inl (.int .i64), .inr (.t (.hsl 3))], .inr 6]⟩)]⟩
/-- (*dynpos/dynposmake.Src).Thrusts, the loop of block 0 -/
def la_16_0 : LAnn := ⟨⟨[(0, .inr (.inr (.t (.ptr 0 0)))), (5, .inr (.inr (.t (.hsl 1)))), (8, .inl (.int .i64)), (9, .inl (.int .i64))], [.inl [.inl (.sl 1), .inl (.int .i64)], .inr 2]⟩,
  [(.exit 0, ⟨[(5, .inr (.inr (.t (.hsl 1))))], [.inl [.inl (.sl 1), .inl (.int .i64)], .inr 2]⟩)]⟩
/-- dynpos/thruster.Total, the loop of block 1 -/
def la_17_1 : LAnn := ⟨⟨[(2, .inr (.inr (.t (.ptr 0 0)))), (4, .inr (.inr (.t (.ptr 1 0)))), (6, .inr (.inr (.t (.ptr 2 0)))), (24, .inl (.sl 2)), (25, .inl (.int .i64)), (26, .inl (.int .i64))], [.inl [.inl (.int .i64), .inl (.int .i64), .inl (.sl 6)], .inl [.inl (.int .i64), .inl (.int .i64), .inl (.int .i64)], .inl [.inl (.int .i64), .inl (.int .i64), .inl (.int .i64)]]⟩,
  [(.exit 1, ⟨[(4, .inr (.inr (.t (.ptr 0 0)))), (6, .inr (.inr (.t (.ptr 1 0))))], [.inl [.inl (.int .i64), .inl (.int .i64), .inl (.int .i64)], .inl [.inl (.int .i64), .inl (.int .i64), .inl (.int .i64)]]⟩), (.ret, ⟨[(4, .inr (.inr (.t (.ptr 0 0)))), (5, .inl (.int .i64))], [.inl [.inl (.int .i64), .inl (.int .i64), .inl (.int .i64)]]⟩)]⟩
/-- dynpos/arith.Root, the loop of block 0 -/
def la_22_0 : LAnn := ⟨⟨[(0, .inl (.int .i64)), (4, .inl (.int .i64)), (5, .inl (.int .i64))], []⟩,
  [(.exit 0, ⟨[(4, .inl (.int .i64))], []⟩)]⟩
/-- slices.IndexFunc[[]dynpos/api.Arc,dynpos/api.Arc], the loop of block 0 -/
def la_36_0 : LAnn := ⟨⟨[(0, .inl (.sl 2)), (1, .inr (.inr (.undef))), (7, .inl (.int .i64)), (8, .inl (.int .i64))], []⟩,
  [(.exit 0, ⟨[], []⟩), (.ret, ⟨[(4, .inl (.int .i64))], []⟩)]⟩
/-- slices.IndexFunc[[]dynpos/api.Thruster,dynpos/api.Thruster], the loop of block 0 -/
def la_39_0 : LAnn := ⟨⟨[(0, .inl (.sl 6)), (1, .inr (.inr (.undef))), (7, .inl (.int .i64)), (8, .inl (.int .i64))], []⟩,
  [(.exit 0, ⟨[], []⟩), (.ret, ⟨[(4, .inl (.int .i64))], []⟩)]⟩

noncomputable def E : Env := ⟨Try.prog, [3, 4, 5, 6, 7, 8, 9, 10, 11, 12, 13, 14, 15, 16, 17, 18, 19, 20, 21, 22, 23, 24, 25, 26, 27, 28, 29, 30, 31, 32, 33, 34, 35, 36, 37, 38, 39, 40], [], [], [(6, 0), (13, 1), (21, 0)], [(4, 0, la_4_0), (5, 0, la_5_0), (7, 0, la_7_0), (15, 0, la_15_0), (16, 0, la_16_0), (17, 1, la_17_1), (22, 0, la_22_0), (36, 0, la_36_0), (39, 0, la_39_0)], [], [21]⟩

end Go.Proofs.Ytphcfpphnmpcbaa.Vm
