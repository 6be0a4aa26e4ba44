/- AsmParses, as plain Lean. -/
import Derived.Test.YtchlcncffillbaaDoorP16
import Derived.Test.YtchlcncffillbaaDoorLL
namespace Go.Proofs.YtchlcncffillbaaDoor.L
open Go.RowKit Go.Proofs.YtchlcncffillbaaDoor.P Go.Proofs.YtchlcncffillbaaDoor.F Go.Proofs.YtchlcncffillbaaDoorW.PrintWords Go.Proofs.YtchlcncffillbaaDoorW.PrintLast Go.Proofs.YtchlcncffillbaaDoorW.PrintMore
theorem AsmParses (s : ByteArray) : ∃ k, ontimelaw05_AsmParses.f k s = some true := by
  refine Tells.ex (f := fun k => ontimelaw05_AsmParses.f k s) ?_
  rw [← B_data s]
  generalize s.data.toList = l
  unfold ontimelaw05_AsmParses.f
  refine Tells.bind awake_true ?_
  refine Tells.pos rfl ?_
  by_cases h : ((B l).size : Int) > 600
  · refine Tells.pos h ?_
    exact Tells.const
  · refine Tells.neg h ?_
    rw [B_size] at h
    have hp := parseS_len l
    refine Tells.bind (asm_parse l (by omega)) ?_
    refine Tells.bind (ref_parse l (by omega)) ?_
    refine Tells.bind (same_self _ (by omega)) ?_
    refine Tells.pos rfl ?_
    refine Tells.pos rfl ?_
    exact Tells.of (by simp)
end Go.Proofs.YtchlcncffillbaaDoor.L
