/- The annotations of the loops, by program. Nothing is claimed here. -/
import Derived.Test.YtldeniedmbgnaaaVm4
import Derived.Test.YtldeniedmbgnaaaProg
namespace Go.Proofs.Ytldeniedmbgnaaa.Vm

/-- dynpos/dynposlaw11.SectorMirror, the loop of block 0 -/
def la_3_0 : LAnn := ⟨⟨[(3, .inr (.inr (.t (.ptr 0 0)))), (4, .inr (.inr (.t (.ptr 1 0)))), (5, .inr (.inr (.t (.ptr 2 0)))), (24, .inl (.sl 2)), (25, .inl (.int .i64)), (26, .inl (.int .i64))], [.inl [.inl (.sl 1), .inl (.int .i64)], .inl [.inl (.int .i64), .inl (.int .i64), .inl (.int .i64), .inl (.int .i64), .inl (.int .i64), .inl (.sl 2)], .inl [.inl (.int .i64), .inl (.int .i64), .inl (.int .i64), .inl (.int .i64), .inl (.int .i64), .inr (.t (.hsl 3))], .inr 2]⟩,
  [(.exit 0, ⟨[(3, .inr (.inr (.t (.ptr 0 0)))), (4, .inr (.inr (.t (.ptr 1 0)))), (5, .inr (.inr (.t (.ptr 2 0))))], [.inl [.inl (.sl 1), .inl (.int .i64)], .inl [.inl (.int .i64), .inl (.int .i64), .inl (.int .i64), .inl (.int .i64), .inl (.int .i64), .inl (.sl 2)], .inl [.inl (.int .i64), .inl (.int .i64), .inl (.int .i64), .inl (.int .i64), .inl (.int .i64), .inr (.t (.hsl 3))], .inr 2]⟩)]⟩
/-- dynpos/dynposlaw11.SectorExact, the loop of block 4 -/
def la_4_4 : LAnn := ⟨⟨[(151, .inr (.inl [.int .i64, .int .i64, .int .i64, .int .i64, .int .i64, .int .i64, .int .i64, .int .i64, .int .i64, .int .i64, .int .i64, .int .i64])), (152, .inl (.int .i64))], []⟩,
  [(.exit 4, ⟨[], []⟩), (.ret, ⟨[(16, .inl .bool)], []⟩)]⟩
/-- dynpos/dynposlaw11.SectorExact, the loop of block 2 -/
def la_4_2 : LAnn := ⟨⟨[(2, .inl (.int .i64)), (3, .inl (.int .i64)), (4, .inl (.int .i64)), (5, .inl (.int .i64)), (6, .inl (.int .i64)), (7, .inl (.int .i64)), (17, .inr (.inr (.t (.ptr 0 0)))), (20, .inr (.inr (.t (.ptr 1 0)))), (46, .inr (.inl [.int .i64, .int .i64, .int .i64, .int .i64, .int .i64, .sl 2, .int .i64, .int .i64, .int .i64, .int .i64, .int .i64, .sl 2, .int .i64, .int .i64, .int .i64, .int .i64, .int .i64, .sl 2])), (47, .inl (.int .i64)), (87, .inr (.inl [.int .i64, .int .i64, .int .i64, .int .i64, .int .i64, .int .i64, .int .i64, .int .i64])), (88, .inl (.int .i64))], [.inl [.inl (.sl 1), .inl (.int .i64)], .inl [.inl (.int .i64), .inl (.int .i64), .inl (.int .i64), .inl (.int .i64), .inl (.int .i64), .inl (.sl 2)]]⟩,
  [(.exit 2, ⟨[(2, .inl (.int .i64)), (3, .inl (.int .i64)), (4, .inl (.int .i64)), (5, .inl (.int .i64)), (6, .inl (.int .i64)), (7, .inl (.int .i64)), (17, .inr (.inr (.t (.ptr 0 0)))), (46, .inr (.inl [.int .i64, .int .i64, .int .i64, .int .i64, .int .i64, .sl 2, .int .i64, .int .i64, .int .i64, .int .i64, .int .i64, .sl 2, .int .i64, .int .i64, .int .i64, .int .i64, .int .i64, .sl 2])), (47, .inl (.int .i64))], [.inl [.inl (.sl 1), .inl (.int .i64)]]⟩), (.ret, ⟨[(16, .inl .bool)], []⟩)]⟩
/-- dynpos/dynposlaw11.SectorExact, the loop of block 0 -/
def la_4_0 : LAnn := ⟨⟨[(2, .inl (.int .i64)), (3, .inl (.int .i64)), (4, .inl (.int .i64)), (5, .inl (.int .i64)), (6, .inl (.int .i64)), (7, .inl (.int .i64)), (17, .inr (.inr (.t (.ptr 0 0)))), (46, .inr (.inl [.int .i64, .int .i64, .int .i64, .int .i64, .int .i64, .sl 2, .int .i64, .int .i64, .int .i64, .int .i64, .int .i64, .sl 2, .int .i64, .int .i64, .int .i64, .int .i64, .int .i64, .sl 2])), (47, .inl (.int .i64))], [.inl [.inl (.sl 1), .inl (.int .i64)]]⟩,
  [(.exit 0, ⟨[(4, .inl (.int .i64)), (5, .inl (.int .i64)), (6, .inl (.int .i64)), (7, .inl (.int .i64)), (17, .inr (.inr (.t (.ptr 0 0))))], [.inl [.inl (.sl 1), .inl (.int .i64)]]⟩), (.ret, ⟨[(16, .inl .bool)], []⟩)]⟩
/-- dynpos/dynposlaw11.SectorRanges, the loop of block 2 -/
def la_5_2 : LAnn := ⟨⟨[(3, .inr (.inr (.t (.ptr 0 0)))), (4, .inr (.inr (.t (.ptr 1 0)))), (5, .inl (.int .i64)), (6, .inl (.int .i64)), (7, .inl (.int .i64)), (8, .inl (.int .i64)), (10, .inl (.int .i64)), (11, .inl (.int .i64))], [.inl [.inl (.sl 1), .inl (.int .i64)], .inl [.inl (.int .i64), .inl (.int .i64), .inl (.int .i64), .inl (.int .i64), .inl (.int .i64), .inl (.sl 2)]]⟩,
  [(.exit 2, ⟨[(3, .inr (.inr (.t (.ptr 0 0)))), (4, .inr (.inr (.t (.ptr 1 0)))), (5, .inl (.int .i64)), (6, .inl (.int .i64)), (7, .inl (.int .i64))], [.inl [.inl (.sl 1), .inl (.int .i64)], .inl [.inl (.int .i64), .inl (.int .i64), .inl (.int .i64), .inl (.int .i64), .inl (.int .i64), .inl (.sl 2)]]⟩), (.ret, ⟨[(2, .inl .bool)], []⟩)]⟩
/-- dynpos/dynposlaw11.SectorRanges, the loop of block 0 -/
def la_5_0 : LAnn := ⟨⟨[(3, .inr (.inr (.t (.ptr 0 0)))), (4, .inr (.inr (.t (.ptr 1 0)))), (5, .inl (.int .i64)), (6, .inl (.int .i64)), (7, .inl (.int .i64))], [.inl [.inl (.sl 1), .inl (.int .i64)], .inl [.inl (.int .i64), .inl (.int .i64), .inl (.int .i64), .inl (.int .i64), .inl (.int .i64), .inl (.sl 2)]]⟩,
  [(.exit 0, ⟨[], []⟩), (.ret, ⟨[(2, .inl .bool)], []⟩)]⟩
/-- dynpos/dynposlaw11.SectorSmaller, the loop of block 0 -/
def la_6_0 : LAnn := ⟨⟨[(3, .inr (.inr (.t (.ptr 0 0)))), (4, .inr (.inr (.t (.ptr 1 0)))), (7, .inr (.inr (.t (.ptr 2 0)))), (8, .inl (.int .i64)), (9, .inl (.int .i64)), (62, .inr (.inl [.int .i64, .int .i64, .int .i64, .int .i64, .int .i64, .sl 2, .int .i64, .int .i64, .int .i64, .int .i64, .int .i64, .sl 2])), (63, .inl (.int .i64))], [.inl [.inl (.sl 1), .inl (.int .i64)], .inl [.inl (.int .i64), .inl (.int .i64), .inl (.int .i64), .inl (.int .i64), .inl (.int .i64), .inl (.sl 2)], .inl [.inl (.int .i64), .inl (.int .i64), .inl (.int .i64), .inl (.int .i64), .inl (.int .i64), .inl (.sl 2)]]⟩,
  [(.exit 0, ⟨[(4, .inr (.inr (.t (.ptr 0 0)))), (7, .inr (.inr (.t (.ptr 1 0))))], [.inl [.inl (.int .i64), .inl (.int .i64), .inl (.int .i64), .inl (.int .i64), .inl (.int .i64), .inl (.sl 2)], .inl [.inl (.int .i64), .inl (.int .i64), .inl (.int .i64), .inl (.int .i64), .inl (.int .i64), .inl (.sl 2)]]⟩), (.ret, ⟨[(2, .inl .bool)], []⟩)]⟩
/-- (*dynpos/dynposmake.Src).Thruster, the loop of block 0 -/
def la_9_0 : LAnn := ⟨⟨[(0, .inr (.inr (.t (.ptr 0 0)))), (2, .inr (.inr (.t (.ptr 1 0)))), (3, .inr (.inr (.t (.ptr 2 0)))), (4, .inl (.int .i64))], [.inl [.inl (.sl 1), .inl (.int .i64)], .inl [.inl (.int .i64), .inl (.int .i64), .inl (.int .i64), .inl (.int .i64), .inl (.int .i64), .inl (.sl 2)], .inl [.inl (.int .i64), .inl (.int .i64), .inl (.int .i64), .inl (.int .i64), .inl (.int .i64), .inr (.t (.hsl 3))], .inr 2]⟩,
  [(.exit 0, ⟨[(2, .inr (.inr (.t (.ptr 1 0)))), (3, .inr (.inr (.t (.ptr 2 0))))], [.inl [.inl (.sl 1), .inl (.int .i64)], .inl [.inl (.int .i64), .inl (.int .i64), .inl (.int .i64), .inl (.int .i64), .inl (.int .i64), .inl (.sl 2)], .inl [.inl (.int .i64), .inl (.int .i64), .inl (.int .i64), .inl (.int .i64), .inl (.int .i64), .inr (.t (.hsl 3))], .inr 2]⟩)]⟩
/-- dynpos/dynposref11.Valid, the loop of block 0 -/
def la_17_0 : LAnn := ⟨⟨[(60, .inl (.sl 2)), (61, .inl (.int .i64)), (62, .inl (.int .i64))], []⟩,
  [(.exit 0, ⟨[], []⟩), (.ret, ⟨[(2, .inl .bool)], []⟩)]⟩
/-- dynpos/dynposref11.Lateral, the loop of block 2 -/
def la_18_2 : LAnn := ⟨⟨[(1, .inr (.inr (.t (.ptr 0 0)))), (4, .inl (.int .i64)), (5, .inl (.int .i64))], [.inl [.inl (.int .i64), .inl (.int .i64), .inl (.int .i64), .inl (.int .i64), .inl (.int .i64), .inl (.sl 2)]]⟩,
  [(.exit 2, ⟨[(4, .inl (.int .i64)), (5, .inl (.int .i64))], []⟩)]⟩
/-- dynpos/dynposref11.Lateral, the loop of block 0 -/
def la_18_0 : LAnn := ⟨⟨[(1, .inr (.inr (.t (.ptr 0 0)))), (4, .inl (.int .i64)), (5, .inl (.int .i64))], [.inl [.inl (.int .i64), .inl (.int .i64), .inl (.int .i64), .inl (.int .i64), .inl (.int .i64), .inl (.sl 2)]]⟩,
  [(.exit 0, ⟨[(1, .inr (.inr (.t (.ptr 0 0)))), (4, .inl (.int .i64)), (5, .inl (.int .i64))], [.inl [.inl (.int .i64), .inl (.int .i64), .inl (.int .i64), .inl (.int .i64), .inl (.int .i64), .inl (.sl 2)]]⟩)]⟩
/-- dynpos/dynposref11.Allowed, the loop of block 0 -/
def la_21_0 : LAnn := ⟨⟨[(1, .inl (.int .i64)), (2, .inl (.int .i64)), (70, .inl (.sl 2)), (71, .inl (.int .i64)), (72, .inl (.int .i64))], []⟩,
  [(.exit 0, ⟨[], []⟩), (.ret, ⟨[(6, .inl .bool)], []⟩)]⟩
/-- dynpos/dynposref11.Longitudinal, the loop of block 2 -/
def la_22_2 : LAnn := ⟨⟨[(1, .inl (.int .i64)), (2, .inr (.inr (.t (.ptr 0 0)))), (6, .inl (.int .i64)), (7, .inl (.int .i64))], [.inl [.inl (.int .i64), .inl (.int .i64), .inl (.int .i64), .inl (.int .i64), .inl (.int .i64), .inl (.sl 2)]]⟩,
  [(.exit 2, ⟨[(6, .inl (.int .i64)), (7, .inl (.int .i64))], []⟩)]⟩
/-- dynpos/dynposref11.Longitudinal, the loop of block 0 -/
def la_22_0 : LAnn := ⟨⟨[(1, .inl (.int .i64)), (2, .inr (.inr (.t (.ptr 0 0)))), (6, .inl (.int .i64)), (7, .inl (.int .i64))], [.inl [.inl (.int .i64), .inl (.int .i64), .inl (.int .i64), .inl (.int .i64), .inl (.int .i64), .inl (.sl 2)]]⟩,
  [(.exit 0, ⟨[(1, .inl (.int .i64)), (2, .inr (.inr (.t (.ptr 0 0)))), (6, .inl (.int .i64)), (7, .inl (.int .i64))], [.inl [.inl (.int .i64), .inl (.int .i64), .inl (.int .i64), .inl (.int .i64), .inl (.int .i64), .inl (.sl 2)]]⟩)]⟩
/-- dynpos/dynposref11.Rated, the loop of block 0 -/
def la_24_0 : LAnn := ⟨⟨[(0, .inl (.int .i64)), (1, .inl (.int .i64)), (2, .inl (.int .i64)), (3, .inl (.int .i64)), (18, .inr (.inl [.int .i64, .int .i64, .int .i64, .int .i64])), (19, .inl (.int .i64))], []⟩,
  [(.exit 0, ⟨[(0, .inl (.int .i64)), (1, .inl (.int .i64)), (2, .inl (.int .i64)), (3, .inl (.int .i64))], []⟩), (.ret, ⟨[(8, .inl (.int .i64)), (9, .inl (.int .i64))], []⟩)]⟩
/-- dynpos/sector.run, the loop of block 2 -/
def la_28_2 : LAnn := ⟨⟨[(0, .inr (.inr (.undef))), (2, .inl (.int .i64)), (3, .inl (.int .i64))], [.inl [.inr (.fn 29 [])], .inl [.inl (.int .i64), .inl (.int .i64), .inl (.int .i64), .inl (.int .i64), .inl (.int .i64), .inl (.sl 2)], .inl [.inr (.fn 31 [])], .inl [.inl (.int .i64), .inl (.int .i64), .inl (.int .i64), .inl (.int .i64), .inl (.int .i64), .inl (.sl 2)], .inl [.inl (.int .i64)]]⟩,
  [(.exit 2, ⟨[(2, .inl (.int .i64)), (3, .inl (.int .i64))], [.inl [.inr (.fn 29 [])], .inl [.inl (.int .i64), .inl (.int .i64), .inl (.int .i64), .inl (.int .i64), .inl (.int .i64), .inl (.sl 2)], .inl [.inr (.fn 31 [])], .inl [.inl (.int .i64), .inl (.int .i64), .inl (.int .i64), .inl (.int .i64), .inl (.int .i64), .inl (.sl 2)], .inl [.inl (.int .i64)]]⟩)]⟩
/-- dynpos/sector.run, the loop of block 0 -/
def la_28_0 : LAnn := ⟨⟨[(0, .inr (.inr (.undef))), (2, .inl (.int .i64)), (3, .inl (.int .i64))], [.inl [.inr (.fn 29 [])], .inl [.inl (.int .i64), .inl (.int .i64), .inl (.int .i64), .inl (.int .i64), .inl (.int .i64), .inl (.sl 2)], .inl [.inr (.fn 31 [])], .inl [.inl (.int .i64), .inl (.int .i64), .inl (.int .i64), .inl (.int .i64), .inl (.int .i64), .inl (.sl 2)], .inl [.inl (.int .i64)]]⟩,
  [(.exit 0, ⟨[(0, .inr (.inr (.undef))), (2, .inl (.int .i64)), (3, .inl (.int .i64))], [.inl [.inr (.fn 29 [])], .inl [.inl (.int .i64), .inl (.int .i64), .inl (.int .i64), .inl (.int .i64), .inl (.int .i64), .inl (.sl 2)], .inl [.inr (.fn 31 [])], .inl [.inl (.int .i64), .inl (.int .i64), .inl (.int .i64), .inl (.int .i64), .inl (.int .i64), .inl (.sl 2)], .inl [.inl (.int .i64)]]⟩)]⟩
/-- slices.IndexFunc[[]dynpos/api.Arc,dynpos/api.Arc], the loop of block 0 -/
def la_42_0 : LAnn := ⟨⟨[(0, .inl (.sl 2)), (1, .inr (.inr (.undef))), (7, .inl (.int .i64)), (8, .inl (.int .i64))], [.inl [.inr (.fn 34 [])], .inl [.inr (.fn 40 [])], .inl [.inl (.int .i64)], .inl [.inl (.int .i64)]]⟩,
  [(.exit 0, ⟨[], [.inl [.inr (.fn 34 [])], .inl [.inr (.fn 40 [])], .inl [.inl (.int .i64)], .inl [.inl (.int .i64)]]⟩), (.ret, ⟨[(4, .inl (.int .i64))], [.inl [.inr (.fn 34 [])], .inl [.inr (.fn 40 [])], .inl [.inl (.int .i64)], .inl [.inl (.int .i64)]]⟩)]⟩

noncomputable def E : Env := ⟨Try.prog, [3, 4, 5, 6, 7, 8, 9, 10, 11, 12, 13, 14, 15, 16, 17, 18, 19, 20, 21, 22, 23, 24, 25, 26, 27, 28, 29, 30, 31, 32, 33, 34, 35, 36, 37, 38, 39, 40, 41, 42, 43, 44, 45, 46, 47, 48, 49, 50, 51, 52, 53, 54, 55, 56, 57, 58, 59, 60, 61, 62, 63], [], [], [(8, 0), (27, 1)], [(3, 0, la_3_0), (4, 4, la_4_4), (4, 2, la_4_2), (4, 0, la_4_0), (5, 2, la_5_2), (5, 0, la_5_0), (6, 0, la_6_0), (9, 0, la_9_0), (17, 0, la_17_0), (18, 2, la_18_2), (18, 0, la_18_0), (21, 0, la_21_0), (22, 2, la_22_2), (22, 0, la_22_0), (24, 0, la_24_0), (28, 2, la_28_2), (28, 0, la_28_0), (42, 0, la_42_0)], []⟩

end Go.Proofs.Ytldeniedmbgnaaa.Vm
