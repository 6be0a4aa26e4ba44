/- AsmJoins, as plain Lean. -/
import Derived.Test.YtchlcncffillbaaDoorP20
import Derived.Test.YtchlcncffillbaaDoorLL
namespace Go.Proofs.YtchlcncffillbaaDoor.L
set_option linter.unusedVariables false
set_option linter.unusedSimpArgs false
open Go.RowKit Go.Proofs.YtchlcncffillbaaDoor.P Go.Proofs.YtchlcncffillbaaDoor.F Go.Proofs.YtchlcncffillbaaDoorW.PrintWords Go.Proofs.YtchlcncffillbaaDoorW.PrintLast Go.Proofs.YtchlcncffillbaaDoorW.PrintMore

theorem AsmJoins (l : List S48) (ok : ∀ x ∈ l, okI x) (s : ByteArray) : ∃ k, ontimelaw05_AsmJoins.f k l s = some true := by
  refine Tells.ex (f := fun k => ontimelaw05_AsmJoins.f k l s) ?_
  have ho := op_of_ok ok
  rw [← B_data s]
  generalize s.data.toList = t
  unfold ontimelaw05_AsmJoins.f
  refine Tells.bind awake_true ?_
  refine Tells.pos rfl ?_
  have j0 : ∀ bb : Bool, (bb = false → l.length ≤ 30 ∧ t.length ≤ 300) → Tells (fun k => ontimelaw05_AsmJoins.j0 k l (B t) bb) true := by
    intro bb hb
    refine Tells.succ ?_
    simp only [ontimelaw05_AsmJoins.j0]
    cases bb
    · obtain ⟨h1, h2⟩ := hb rfl
      refine Tells.neg (by decide) ?_
      rw [asm_format l (by omega) ho]
      simp only [Option.bind_some]
      by_cases hall : l.all vS = true
      · rw [if_pos hall]
        have hv := List.all_eq_true.1 hall
        have htl := textL_len l hv
        refine Tells.pos rfl ?_
        have e1 : parseS t = parseL (splitC 10 [] t) [] 1 := by unfold parseS; rw [if_neg (by omega)]
        have hsl := (splitC_len 10 t []).1
        have e2 : parseS (textL l ++ t) = parseL (splitC 10 [] t) l (1 + l.length) := by
          unfold parseS
          rw [if_neg (by rw [List.length_append]; omega), splitC_text l t hv, parseL_lines l _ [] 1 hv (by simp; omega), List.nil_append]
        have e3 := parseL_shift l l.length (splitC 10 [] t) [] 1 (by simp only [List.length_nil]; omega)
        rw [List.append_nil] at e3
        have hend := parseL_end (splitC 10 [] t) [] 1
        obtain ⟨_, hlen⟩ := parseL_valid (splitC 10 [] t) [] 1 (by simp)
        refine Tells.bind (asm_parse t (by omega)) ?_
        have ets : textS l ++ B t = B (textL l ++ t) := B_append _ _
        have ets2 : (textS l).size = (textL l).length := B_size _
        refine Tells.pos (by show (textS l).size + (B t).size ≤ _; rw [ets2, B_size]; omega) ?_
        show Tells (fun k => (asm_Parse.f k (textS l ++ B t)).bind _) true
        rw [ets]
        refine Tells.bind (asm_parse _ (by rw [List.length_append]; omega)) ?_
        rw [e1, e2, e3]
        generalize parseL (splitC 10 [] t) [] 1 = r at *
        obtain ⟨m, at_, e⟩ := r
        simp only [List.length_nil, Nat.zero_add] at *
        rcases hend with ⟨he, ha⟩ | ⟨he, hm, ha, hb'⟩
        · subst he
          refine Tells.pos rfl ?_
          refine Tells.pos rfl ?_
          refine Tells.pos rfl ?_
          refine Tells.pos (by first | omega | (simp; omega)) ?_
          simp only [List.nil_append]
          refine Tells.pos (by omega) ?_
          refine Tells.bind (same_self _ (by simp only [if_true, List.length_append]; omega)) ?_
          exact Tells.const
        · have hne : ¬ e = 0 := by rcases he with he | he <;> simp [he]
          refine Tells.neg hne ?_
          simp only [if_neg hne]
          refine Tells.pos trivial ?_
          refine Tells.pos ?_ ?_
          · rw [w64 ⟨by omega, by omega⟩]
          · exact Tells.of rfl
      · rw [if_neg hall]
        refine Tells.neg (by decide) ?_
        exact Tells.const
    · refine Tells.pos (by first | rfl | trivial) ?_
      exact Tells.const
  by_cases h : (l.length : Int) > 30
  · refine Tells.pos h ?_
    exact j0 true (fun h => by cases h)
  · refine Tells.neg h ?_
    refine j0 _ (fun hd => ?_)
    have := of_decide_eq_false hd
    rw [B_size] at this
    exact ⟨by omega, by omega⟩
end Go.Proofs.YtchlcncffillbaaDoor.L
