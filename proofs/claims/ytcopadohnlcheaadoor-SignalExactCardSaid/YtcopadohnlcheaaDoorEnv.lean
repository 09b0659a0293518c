/- The annotations of the loops, by program. Nothing is claimed here. -/
import Derived.Test.YtcopadohnlcheaaDoorVm4
import Derived.Test.YtcopadohnlcheaaDoorProg
import Derived.Test.YtcopadohnlcheaaDoorPrims
namespace Go.Proofs.YtcopadohnlcheaaDoor.Vm

/-- dynpos/dynposlaw06.SignalKinds, the loop of block 0 -/
def la_3_0 : LAnn := ⟨⟨[(4, .inr (.inr (.t (.ptr 0 0)))), (5, .inr (.inr (.t (.ptr 1 0)))), (7, .inl (.int .i64))], [.inl [.inl (.int .i64), .inl (.int .i64), .inl (.int .i64), .inl (.int .i64), .inl (.int .i64), .inl (.int .i64)], .inl [.inl (.sl 1)]]⟩,
  [(.exit 0, ⟨[(4, .inr (.inr (.t (.ptr 0 0))))], [.inl [.inl (.int .i64), .inl (.int .i64), .inl (.int .i64), .inl (.int .i64), .inl (.int .i64), .inl (.int .i64)]]⟩), (.ret, ⟨[(2, .inl .bool)], []⟩)]⟩
/-- dynpos/dynposlaw06.SignalExact, the loop of block 6 -/
def la_4_6 : LAnn := ⟨⟨[(4, .inl (.int .i64)), (147, .inr (.inl [.str, .str, .str, .str])), (148, .inl (.int .i64))], []⟩,
  [(.exit 6, ⟨[(4, .inl (.int .i64))], []⟩), (.ret, ⟨[(10, .inl .bool)], []⟩)]⟩
/-- dynpos/dynposlaw06.SignalExact, the loop of block 4 -/
def la_4_4 : LAnn := ⟨⟨[(3, .inl .str), (4, .inl (.int .i64)), (7, .inr (.inr (.t (.ptr 0 0)))), (13, .inr (.inr (.t (.ptr 1 0)))), (65, .inr (.inl [.int .i64, .int .i64, .int .i64, .int .i64, .int .i64, .int .i64, .int .i64, .int .i64, .int .i64, .int .i64, .int .i64, .int .i64, .int .i64, .int .i64, .int .i64, .int .i64, .int .i64, .int .i64])), (66, .inl (.int .i64)), (117, .inr (.inl [.sl 1, .sl 1, .sl 1])), (118, .inl (.int .i64))], [.inl [.inl (.sl 1)], .inl [.inl (.sl 1), .inl (.int .i64)]]⟩,
  [(.exit 4, ⟨[(3, .inl .str), (4, .inl (.int .i64)), (7, .inr (.inr (.t (.ptr 0 0)))), (13, .inr (.inr (.t (.ptr 1 0)))), (65, .inr (.inl [.int .i64, .int .i64, .int .i64, .int .i64, .int .i64, .int .i64, .int .i64, .int .i64, .int .i64, .int .i64, .int .i64, .int .i64, .int .i64, .int .i64, .int .i64, .int .i64, .int .i64, .int .i64])), (66, .inl (.int .i64))], [.inl [.inl (.sl 1)], .inl [.inl (.sl 1), .inl (.int .i64)]]⟩), (.ret, ⟨[(10, .inl .bool)], []⟩)]⟩
/-- dynpos/dynposlaw06.SignalExact, the loop of block 2 -/
def la_4_2 : LAnn := ⟨⟨[(3, .inl .str), (4, .inl (.int .i64)), (7, .inr (.inr (.t (.ptr 0 0)))), (13, .inr (.inr (.t (.ptr 1 0)))), (65, .inr (.inl [.int .i64, .int .i64, .int .i64, .int .i64, .int .i64, .int .i64, .int .i64, .int .i64, .int .i64, .int .i64, .int .i64, .int .i64, .int .i64, .int .i64, .int .i64, .int .i64, .int .i64, .int .i64])), (66, .inl (.int .i64))], [.inl [.inl (.sl 1)], .inl [.inl (.sl 1), .inl (.int .i64)]]⟩,
  [(.exit 2, ⟨[(3, .inl .str), (4, .inl (.int .i64)), (13, .inr (.inr (.t (.ptr 0 0))))], [.inl [.inl (.sl 1), .inl (.int .i64)]]⟩), (.ret, ⟨[(10, .inl .bool)], []⟩)]⟩
/-- dynpos/dynposlaw06.SignalExact, the loop of block 0 -/
def la_4_0 : LAnn := ⟨⟨[(0, .inl (.sl 1)), (3, .inl .str), (4, .inl (.int .i64)), (6, .inr (.inr (.t (.ptr 0 0)))), (7, .inr (.inr (.t (.ptr 1 0)))), (45, .inl (.sl 1)), (46, .inl (.int .i64)), (47, .inl (.int .i64))], [.inl [.inl (.int .i64), .inl (.int .i64), .inl (.int .i64), .inl (.int .i64), .inl (.int .i64), .inl (.int .i64)], .inl [.inl (.sl 1)]]⟩,
  [(.exit 0, ⟨[(0, .inl (.sl 1)), (3, .inl .str), (4, .inl (.int .i64)), (6, .inr (.inr (.t (.ptr 0 0)))), (7, .inr (.inr (.t (.ptr 1 0))))], [.inl [.inl (.int .i64), .inl (.int .i64), .inl (.int .i64), .inl (.int .i64), .inl (.int .i64), .inl (.int .i64)], .inl [.inl (.sl 1)]]⟩), (.ret, ⟨[(10, .inl .bool)], []⟩)]⟩
/-- dynpos/dynposref06.Write, the loop of block 0 -/
def la_12_0 : LAnn := ⟨⟨[(1, .inr (.inr (.t (.ptr 0 0)))), (2, .inr (.inr (.t (.ptr 1 0)))), (4, .inr (.inr (.t (.hsl 2)))), (27, .inl (.sl 1)), (28, .inl (.int .i64)), (29, .inl (.int .i64))], [.inl [.inl (.int .i64), .inl (.int .i64), .inl (.int .i64), .inl (.int .i64), .inl (.int .i64), .inl (.int .i64)], .inl [.inl (.sl 1)], .inr 1]⟩,
  [(.exit 0, ⟨[(2, .inr (.inr (.t (.ptr 0 0)))), (4, .inr (.inr (.t (.hsl 1))))], [.inl [.inl (.sl 1)], .inr 1]⟩)]⟩
/-- dynpos/signal.Valid, the loop of block 0 -/
def la_13_0 : LAnn := ⟨⟨[(4, .inl (.sl 2)), (45, .inl (.sl 1)), (46, .inl (.int .i64)), (47, .inl (.int .i64))], []⟩,
  [(.exit 0, ⟨[], []⟩), (.ret, ⟨[(2, .inl .bool)], []⟩)]⟩
/-- dynpos/signal.Read, the loop of block 0 -/
def la_18_0 : LAnn := ⟨⟨[(1, .inr (.inr (.t (.ptr 0 0)))), (2, .inr (.inr (.t (.ptr 1 0)))), (4, .inr (.inr (.t (.ptr 2 0)))), (23, .inl (.sl 1)), (24, .inl (.int .i64)), (25, .inl (.int .i64))], [.inl [.inl (.sl 1)], .inl [.inl (.int .i64), .inl (.int .i64), .inl (.int .i64), .inl (.int .i64), .inl (.int .i64), .inl (.int .i64)], .inl [.inl (.int .i64), .inl (.int .i64), .inl (.int .i64), .inl (.int .i64), .inl (.int .i64)]]⟩,
  [(.exit 0, ⟨[(1, .inr (.inr (.t (.ptr 0 0)))), (2, .inr (.inr (.t (.ptr 1 0)))), (4, .inr (.inr (.t (.ptr 2 0))))], [.inl [.inl (.sl 1)], .inl [.inl (.int .i64), .inl (.int .i64), .inl (.int .i64), .inl (.int .i64), .inl (.int .i64), .inl (.int .i64)], .inl [.inl (.int .i64), .inl (.int .i64), .inl (.int .i64), .inl (.int .i64), .inl (.int .i64)]]⟩), (.ret, ⟨[(2, .inr (.inr (.t (.ptr 0 0)))), (3, .inl (.int .i64))], [.inl [.inl (.int .i64), .inl (.int .i64), .inl (.int .i64), .inl (.int .i64), .inl (.int .i64), .inl (.int .i64)]]⟩)]⟩
/-- dynpos/dynposref06.Read, the loop of block 2 -/
def la_19_2 : LAnn := ⟨⟨[(1, .inr (.inr (.t (.ptr 0 0)))), (2, .inr (.inr (.t (.ptr 1 0)))), (4, .inl (.int .i64)), (5, .inr (.inr (.t (.hsl 2)))), (33, .inl (.sl 1)), (34, .inl (.int .i64)), (35, .inl (.int .i64))], [.inl [.inl (.sl 1)], .inl [.inl (.int .i64), .inl (.int .i64), .inl (.int .i64), .inl (.int .i64), .inl (.int .i64), .inl (.int .i64)], .inr 1]⟩,
  [(.exit 2, ⟨[(1, .inr (.inr (.t (.ptr 0 0)))), (2, .inr (.inr (.t (.ptr 1 0)))), (4, .inl (.int .i64)), (5, .inr (.inr (.t (.hsl 2))))], [.inl [.inl (.sl 1)], .inl [.inl (.int .i64), .inl (.int .i64), .inl (.int .i64), .inl (.int .i64), .inl (.int .i64), .inl (.int .i64)], .inr 1]⟩), (.ret, ⟨[(2, .inr (.inr (.t (.ptr 0 0)))), (3, .inl (.int .i64))], [.inl [.inl (.int .i64), .inl (.int .i64), .inl (.int .i64), .inl (.int .i64), .inl (.int .i64), .inl (.int .i64)]]⟩)]⟩
/-- dynpos/dynposref06.Read, the loop of block 0 -/
def la_19_0 : LAnn := ⟨⟨[(1, .inr (.inr (.t (.ptr 0 0)))), (2, .inr (.inr (.t (.ptr 1 0)))), (4, .inl (.int .i64))], [.inl [.inl (.sl 1)], .inl [.inl (.int .i64), .inl (.int .i64), .inl (.int .i64), .inl (.int .i64), .inl (.int .i64), .inl (.int .i64)]]⟩,
  [(.exit 0, ⟨[(2, .inr (.inr (.t (.ptr 0 0))))], [.inl [.inl (.int .i64), .inl (.int .i64), .inl (.int .i64), .inl (.int .i64), .inl (.int .i64), .inl (.int .i64)]]⟩), (.ret, ⟨[(2, .inr (.inr (.t (.ptr 0 0)))), (3, .inl (.int .i64))], [.inl [.inl (.int .i64), .inl (.int .i64), .inl (.int .i64), .inl (.int .i64), .inl (.int .i64), .inl (.int .i64)]]⟩)]⟩
/-- dynpos/dynposref06.Number, the loop of block 0 -/
def la_22_0 : LAnn := ⟨⟨[(0, .inl .str), (4, .inl .str), (5, .inl (.int .i64)), (6, .inl (.int .i64))], []⟩,
  [(.exit 0, ⟨[(0, .inl .str), (5, .inl (.int .i64))], []⟩), (.ret, ⟨[(2, .inl (.int .i64)), (3, .inl .bool)], []⟩)]⟩
/-- dynpos/dynposref06.Text, the loop of block 0 -/
def la_23_0 : LAnn := ⟨⟨[(0, .inl (.int .i64)), (3, .inl .str), (4, .inl .str)], []⟩,
  [(.exit 0, ⟨[(3, .inl .str), (4, .inl .str)], []⟩)]⟩
/-- dynpos/dynposref04.Format, the loop of block 0 -/
def la_24_0 : LAnn := ⟨⟨[(4, .inr (.inr (.t (.hsl 0)))), (13, .inl (.sl 1)), (14, .inl (.int .i64)), (15, .inl (.int .i64))], [.inr 1]⟩,
  [(.exit 0, ⟨[(4, .inr (.inr (.t (.hsl 0))))], [.inr 1]⟩)]⟩
/-- dynpos/signal.write, the loop of block 0 -/
def la_28_0 : LAnn := ⟨⟨[(2, .inr (.inr (.t (.ptr 0 0)))), (4, .inr (.inr (.t (.hsl 1)))), (31, .inl (.sl 1)), (32, .inl (.int .i64)), (33, .inl (.int .i64))], [.inl [.inl (.sl 1)], .inr 1]⟩,
  [(.exit 0, ⟨[(2, .inr (.inr (.t (.ptr 0 0)))), (4, .inr (.inr (.t (.hsl 1))))], [.inl [.inl (.sl 1)], .inr 1]⟩)]⟩
/-- dynpos/dynposref04.Texts, the loop of block 0 -/
def la_29_0 : LAnn := ⟨⟨[(0, .inl (.sl 1)), (1, .inl (.sl 1)), (12, .inl (.int .i64)), (13, .inl (.int .i64))], []⟩,
  [(.exit 0, ⟨[], []⟩), (.ret, ⟨[(4, .inl .bool)], []⟩)]⟩
/-- slices.IndexFunc[[]dynpos/signal.form,dynpos/signal.form], the loop of block 0 -/
def la_38_0 : LAnn := ⟨⟨[(0, .inl (.sl 2)), (1, .inr (.inr (.undef))), (7, .inl (.int .i64)), (8, .inl (.int .i64))], [.inl [.inr (.fn 39 [])], .inl [.inl (.sl 1)]]⟩,
  [(.exit 0, ⟨[], [.inl [.inr (.fn 39 [])], .inl [.inl (.sl 1)]]⟩), (.ret, ⟨[(4, .inl (.int .i64))], [.inl [.inr (.fn 39 [])], .inl [.inl (.sl 1)]]⟩)]⟩
/-- slices.Equal[[]string,string], the loop of block 0 -/
def la_40_0 : LAnn := ⟨⟨[(0, .inl (.sl 1)), (1, .inl (.sl 1)), (12, .inl (.int .i64)), (13, .inl (.int .i64))], []⟩,
  [(.exit 0, ⟨[], []⟩), (.ret, ⟨[(4, .inl .bool)], []⟩)]⟩
/-- dynpos/dynposref04.Valid, the loop of block 0 -/
def la_43_0 : LAnn := ⟨⟨[(29, .inl (.sl 1)), (30, .inl (.int .i64)), (31, .inl (.int .i64))], []⟩,
  [(.exit 0, ⟨[], []⟩), (.ret, ⟨[(2, .inl .bool)], []⟩)]⟩
/-- dynpos/dynposref04.Sum, the loop of block 0 -/
def la_44_0 : LAnn := ⟨⟨[(3, .inl (.int .u8)), (6, .inl (.sl 1)), (7, .inl (.int .i64)), (8, .inl (.int .i64))], []⟩,
  [(.exit 0, ⟨[(3, .inl (.int .u8))], []⟩)]⟩
/-- dynpos/dynposref04.hex, the loop of block 0 -/
def la_45_0 : LAnn := ⟨⟨[(0, .inl (.int .u8)), (3, .inl (.int .i64))], []⟩,
  [(.exit 0, ⟨[], []⟩), (.ret, ⟨[(2, .inl (.int .i64))], []⟩)]⟩
/-- dynpos/dynposref04.Fields, the loop of block 0 -/
def la_46_0 : LAnn := ⟨⟨[(0, .inl .str), (3, .inr (.inr (.t (.hsl 0)))), (4, .inl (.int .i64))], [.inr 1]⟩,
  [(.exit 0, ⟨[(3, .inr (.inr (.t (.hsl 0))))], [.inr 1]⟩)]⟩
/-- dynpos/sentence.field, the loop of block 0 -/
def la_49_0 : LAnn := ⟨⟨[(9, .inl (.sl 1)), (10, .inl (.int .i64)), (11, .inl (.int .i64))], []⟩,
  [(.exit 0, ⟨[], []⟩), (.ret, ⟨[(2, .inl .bool)], []⟩)]⟩
/-- dynpos/dynposref04.field, the loop of block 0 -/
def la_53_0 : LAnn := ⟨⟨[(0, .inl .str), (3, .inl (.int .i64))], []⟩,
  [(.exit 0, ⟨[], []⟩), (.ret, ⟨[(2, .inl .bool)], []⟩)]⟩
/-- slices.IndexFunc[[]string,string], the loop of block 0 -/
def la_54_0 : LAnn := ⟨⟨[(0, .inl (.sl 1)), (1, .inr (.inr (.undef))), (7, .inl (.int .i64)), (8, .inl (.int .i64))], []⟩,
  [(.exit 0, ⟨[], []⟩), (.ret, ⟨[(4, .inl (.int .i64))], []⟩)]⟩

noncomputable def E : Env := ⟨Tryd.prog, [3, 4, 5, 6, 7, 8, 9, 10, 11, 12, 13, 14, 15, 16, 17, 18, 19, 20, 21, 22, 23, 24, 25, 26, 27, 28, 29, 30, 31, 32, 33, 34, 35, 36, 37, 38, 39, 40, 41, 42, 43, 44, 45, 46, 47, 48, 49, 53, 54, 55], [], [], [(7, 0), (16, 1), (25, 0), (27, 1)], [(3, 0, la_3_0), (4, 6, la_4_6), (4, 4, la_4_4), (4, 2, la_4_2), (4, 0, la_4_0), (12, 0, la_12_0), (13, 0, la_13_0), (18, 0, la_18_0), (19, 2, la_19_2), (19, 0, la_19_0), (22, 0, la_22_0), (23, 0, la_23_0), (24, 0, la_24_0), (28, 0, la_28_0), (29, 0, la_29_0), (38, 0, la_38_0), (40, 0, la_40_0), (43, 0, la_43_0), (44, 0, la_44_0), (45, 0, la_45_0), (46, 0, la_46_0), (49, 0, la_49_0), (53, 0, la_53_0), (54, 0, la_54_0)], [], [], [(41, pItoa), (42, pAtoi), (55, pIndexByte)]⟩

end Go.Proofs.YtcopadohnlcheaaDoor.Vm
