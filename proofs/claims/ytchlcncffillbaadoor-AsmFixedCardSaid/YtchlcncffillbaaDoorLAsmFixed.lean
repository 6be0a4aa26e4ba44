/- AsmFixed, as plain Lean. -/
import Derived.Test.YtchlcncffillbaaDoorP19
import Derived.Test.YtchlcncffillbaaDoorLL
namespace Go.Proofs.YtchlcncffillbaaDoor.L
set_option linter.unusedVariables false
set_option linter.unusedSimpArgs false
open Go.RowKit Go.Proofs.YtchlcncffillbaaDoor.P Go.Proofs.YtchlcncffillbaaDoor.F Go.Proofs.YtchlcncffillbaaDoorW.PrintWords Go.Proofs.YtchlcncffillbaaDoorW.PrintLast Go.Proofs.YtchlcncffillbaaDoorW.PrintMore

theorem parseS_small (s : List UInt8) (hs : s.length ≤ 65536) : parseS s = parseL (splitC 10 [] s) [] 1 := by
  unfold parseS
  rw [if_neg (by omega)]
theorem AsmFixed (s : ByteArray) : ∃ k, ontimelaw05_AsmFixed.f k s = some true := by
  refine Tells.ex (f := fun k => ontimelaw05_AsmFixed.f k s) ?_
  rw [← B_data s]
  generalize s.data.toList = l
  unfold ontimelaw05_AsmFixed.f
  refine Tells.bind awake_true ?_
  refine Tells.pos (by first | rfl | trivial) ?_
  by_cases h : ((B l).size : Int) > 600
  · refine Tells.pos h ?_
    exact Tells.const
  · refine Tells.neg h ?_
    rw [B_size] at h
    have hE := parseS_small l (by omega)
    obtain ⟨hv, hlen⟩ := parseL_valid (splitC 10 [] l) [] 1 (by simp)
    have hend := parseL_end (splitC 10 [] l) [] 1
    have hsl := (splitC_len 10 l []).1
    rw [← hE] at hv hlen hend
    refine Tells.bind (asm_parse l (by omega)) ?_
    generalize parseS l = r at *
    obtain ⟨m, at_, e⟩ := r
    simp only [List.length_nil, Nat.zero_add] at *
    rcases hend with ⟨he, ha⟩ | ⟨he, hm, ha, _⟩
    · refine Tells.pos he ?_
      have hop : ∀ x ∈ m, isOp x = true := fun x hx => by
        obtain ⟨h0, h1, _⟩ := vS_op (hv x hx)
        unfold isOp
        simp only [Bool.and_eq_true, decide_eq_true_eq]
        omega
      have hall : m.all vS = true := List.all_eq_true.2 hv
      have hF : asm_Format.f m = some (textS m, 0) := by rw [asm_format m (by omega) hop, if_pos hall]
      have htl := textL_len m hv
      have hT : parseS (textL m) = (m, 0, 0) := parse_text m hv (by omega) (by omega)
      rw [hF]
      simp only [Option.bind_some]
      refine Tells.bind (a := (m, 0, 0)) (by have := asm_parse (textL m) (by omega); rw [hT] at this; exact this) ?_
      simp only [hF, Option.bind_some]
      refine Tells.pos (by first | rfl | trivial) ?_
      refine Tells.pos (by first | rfl | trivial) ?_
      refine Tells.pos (by first | rfl | trivial) ?_
      refine Tells.bind (same_self _ (by omega)) ?_
      refine Tells.pos (by first | rfl | trivial) ?_
      refine Tells.pos (by first | rfl | trivial) ?_
      refine Tells.bind (valid_eq m (by omega) hop) ?_
      rw [if_pos hall]
      exact Tells.const
    · refine Tells.neg (by rcases he with he | he <;> simp [he]) ?_
      refine Tells.pos (by rw [hm]; rfl) ?_
      exact Tells.of (by simp; omega)
end Go.Proofs.YtchlcncffillbaaDoor.L
