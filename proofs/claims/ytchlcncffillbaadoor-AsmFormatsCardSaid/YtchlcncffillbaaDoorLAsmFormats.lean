/- AsmFormats, as plain Lean. -/
import Derived.Test.YtchlcncffillbaaDoorP15
import Derived.Test.YtchlcncffillbaaDoorLW
namespace Go.Proofs.YtchlcncffillbaaDoor.L
open Go.RowKit Go.Proofs.YtchlcncffillbaaDoor.P Go.Proofs.YtchlcncffillbaaDoor.F Go.Proofs.YtchlcncffillbaaDoorW.PrintWords Go.Proofs.YtchlcncffillbaaDoorW.PrintLast Go.Proofs.YtchlcncffillbaaDoorW.PrintMore
theorem AsmFormats (l : List S48) (ok : ∀ x ∈ l, okI x) : ∃ k, ontimelaw05_AsmFormats.f k l = some true := by
  refine Tells.ex (f := fun k => ontimelaw05_AsmFormats.f k l) ?_
  have ho := op_of_ok ok
  unfold ontimelaw05_AsmFormats.f
  refine Tells.bind awake_true ?_
  refine Tells.pos rfl ?_
  by_cases h : (l.length : Int) > 40
  · refine Tells.pos h ?_
    exact Tells.const
  · refine Tells.neg h ?_
    rw [asm_format l (by omega) ho]
    simp only [Option.bind_some]
    refine Tells.bind (valid_eq l (by omega) ho) ?_
    by_cases hv : l.all vS = true
    · rw [if_pos hv, if_pos hv]
      refine Tells.neg (by decide) ?_
      refine Tells.pos rfl ?_
      refine Tells.bind (format_eq l (by omega) (List.all_eq_true.1 hv)) ?_
      refine Tells.of ?_
      simp
    · rw [if_neg hv, if_neg hv]
      refine Tells.pos rfl ?_
      refine Tells.pos rfl ?_
      refine Tells.of ?_
      simp [toList_data]
end Go.Proofs.YtchlcncffillbaaDoor.L
