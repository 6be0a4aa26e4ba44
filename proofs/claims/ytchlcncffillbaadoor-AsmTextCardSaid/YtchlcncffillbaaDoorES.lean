/- What the functions of the packages isa and asm compute, as plain Lean: the table of the opcodes, and what is told of it. -/
import Derived.Test.YtchlcncffillbaaDoorE0
import Derived.Test.YtchlcncffillbaaDoorP2
namespace Go.Proofs.YtchlcncffillbaaDoor.P
open Go.RowKit Go.Proofs.YtchlcncffillbaaDoorW.PrintWords Go.Proofs.YtchlcncffillbaaDoorW.PrintLast Go.Proofs.YtchlcncffillbaaDoorW.PrintMore

def theRows : List S76 := (isa_rows.f 20).getD []
theorem rows_eq : isa_rows.f 20 = some theRows := by kernel_rfl
theorem rows_length : theRows.length = 30 := by kernel_rfl

def rowOf (n : Nat) : S76 := rd_T76 theRows n

theorem find_lt (n : Nat) (h : n < 30) : isa_find.f 20 n = some ((rowOf n).f0, (rowOf n).f1, (rowOf n).f2, (rowOf n).f3, (rowOf n).f4, (rowOf n).f5, true) := by
  unfold isa_find.f
  rw [rows_eq, Option.bind_some, rows_length, if_neg (by unfold wrap64; omega), if_pos (by omega), if_pos (by omega)]
  rfl
theorem find_ge (a : Int) (h : 30 ≤ a) (h' : a ≤ 255) : isa_find.f 20 a = some (⟨#[]⟩, ⟨#[]⟩, 0, 0, ⟨#[]⟩, ⟨#[]⟩, false) := by
  unfold isa_find.f
  rw [rows_eq, Option.bind_some, rows_length, if_pos (by unfold wrap64; omega)]

theorem findC_lt (n : Nat) (h : n < 30) (w : World) : Calls Tryd.prog 37 #[.int .u8 n] w fun e w' =>
    e = .returned (.tuple #[.agg #[.string (rowOf n).f0, .string (rowOf n).f1, .int .i64 (rowOf n).f2, .int .i64 (rowOf n).f3, .string (rowOf n).f4, .string (rowOf n).f5], .bool true]) ∧ Below w.heap.size w w' :=
  isa_find.calls 20 n _ _ _ _ _ _ _ w (find_lt n h)
theorem findC_ge (a : Int) (h : 30 ≤ a) (h' : a ≤ 255) (w : World) : Calls Tryd.prog 37 #[.int .u8 a] w fun e w' =>
    e = .returned (.tuple #[.agg #[.string ⟨#[]⟩, .string ⟨#[]⟩, .int .i64 0, .int .i64 0, .string ⟨#[]⟩, .string ⟨#[]⟩], .bool false]) ∧ Below w.heap.size w w' :=
  isa_find.calls 20 a _ _ _ _ _ _ _ w (find_ge a h h')

end Go.Proofs.YtchlcncffillbaaDoor.P
