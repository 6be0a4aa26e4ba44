/- AsmComments, as plain Lean. -/
import Derived.Test.YtchlcncffillbaaDoorP18
import Derived.Test.YtchlcncffillbaaDoorLL
namespace Go.Proofs.YtchlcncffillbaaDoor.L
set_option linter.unusedVariables false
set_option linter.unusedSimpArgs false
open Go.RowKit Go.Proofs.YtchlcncffillbaaDoor.P Go.Proofs.YtchlcncffillbaaDoor.F Go.Proofs.YtchlcncffillbaaDoorW.PrintWords Go.Proofs.YtchlcncffillbaaDoorW.PrintLast Go.Proofs.YtchlcncffillbaaDoorW.PrintMore

theorem plainer_l0 (s : List UInt8) (hs : s.length ≤ 100000) : ∀ (d i : Nat) (out : List UInt8) (sk : Bool), i + d = s.length → out.length ≤ i →
    Tells (fun k => ontimelaw05_plainer.l0 k (B s) (B out) sk i) (B (out ++ plainL sk (s.drop i))) := by
  intro d
  induction d with
  | zero =>
    intro i out sk hi ho
    refine Tells.succ ?_
    simp only [ontimelaw05_plainer.l0]
    refine Tells.neg (by rw [B_size]; omega) ?_
    rw [List.drop_eq_nil_of_le (by omega)]
    refine Tells.of ?_
    simp [plainL]
  | succ d ih =>
    intro i out sk hi ho
    have hlt : i < s.length := by omega
    have hd : s.drop i = s[i] :: s.drop (i + 1) := List.drop_eq_getElem_cons hlt
    have hbt := B_bt s i hlt
    have hex : (B s).extract i (i + 1) = B [s[i]] := by rw [B_extract, hd, Nat.add_sub_cancel_left]; rfl
    rw [hd]
    generalize s[i] = c at *
    have c10 : ((c.toNat : Int) = 10) ↔ c = 10 := ⟨fun h => UInt8.toNat_inj.1 (by rw [show (10 : UInt8).toNat = 10 from rfl]; omega), fun h => by rw [h]; rfl⟩
    have c59 : ((c.toNat : Int) = 59) ↔ c = 59 := ⟨fun h => UInt8.toNat_inj.1 (by rw [show (59 : UInt8).toNat = 59 from rfl]; omega), fun h => by rw [h]; rfl⟩
    have j1 : ∀ s1 : Bool, s1 = (if c = 59 then true else sk) → Tells (fun k => ontimelaw05_plainer.j1 k (B s) (B out) s1 i) (B (out ++ plainL sk (c :: s.drop (i + 1)))) := by
      intro s1 h1
      refine Tells.succ ?_
      simp only [ontimelaw05_plainer.j1, hbt, w64n i (by omega), Int.toNat_natCast, hex]
      refine Tells.pos (by omega) ?_
      refine Tells.pos (by rw [B_size]; omega) ?_
      unfold plainL
      by_cases h10 : c = 10
      · refine Tells.pos (c10.2 h10) ?_
        rw [if_pos h10, h10]
        refine Tells.pos (by omega) ?_
        refine Tells.pos (by rw [B_size]; omega) ?_
        refine Tells.pos (by rw [B_size, B_size]; simp only [List.length_cons, List.length_nil]; omega) ?_
        rw [B_append]
        have := ih (i + 1) (out ++ [10]) false (by omega) (by simp only [List.length_append, List.length_cons, List.length_nil]; omega)
        simpa only [List.append_assoc, List.cons_append, List.nil_append] using this
      · refine Tells.neg (fun h => h10 (c10.1 h)) ?_
        rw [if_neg h10]
        by_cases h59 : c = 59
        · rw [if_pos h59] at h1 ⊢
          refine Tells.pos h1 ?_
          rw [h1]
          exact ih (i + 1) out true (by omega) (by omega)
        · rw [if_neg h59] at h1 ⊢
          subst h1
          cases s1
          · refine Tells.neg (by decide) ?_
            rw [if_neg (by decide)]
            refine Tells.pos (by omega) ?_
            refine Tells.pos (by rw [B_size]; omega) ?_
            refine Tells.pos (by rw [B_size, B_size]; simp only [List.length_cons, List.length_nil]; omega) ?_
            rw [B_append]
            have := ih (i + 1) (out ++ [c]) false (by omega) (by simp only [List.length_append, List.length_cons, List.length_nil]; omega)
            simpa only [List.append_assoc, List.cons_append, List.nil_append] using this
          · refine Tells.pos rfl ?_
            rw [if_pos rfl]
            exact ih (i + 1) out true (by omega) (by omega)
    refine Tells.succ ?_
    simp only [ontimelaw05_plainer.l0, hbt]
    refine Tells.pos (by rw [B_size]; omega) ?_
    refine Tells.pos (by omega) ?_
    by_cases h59 : c = 59
    · refine Tells.pos (c59.2 h59) ?_
      exact j1 true (by rw [if_pos h59])
    · refine Tells.neg (fun h => h59 (c59.1 h)) ?_
      exact j1 sk (by rw [if_neg h59])
theorem plainer_eq (s : List UInt8) (hs : s.length ≤ 100000) : Tells (fun k => ontimelaw05_plainer.f k (B s)) (B (plainL false s)) := by
  have := plainer_l0 s hs s.length 0 [] false (by omega) (by simp)
  simp only [List.nil_append, List.drop_zero] at this
  exact this

theorem comments_l0 (s : List UInt8) (hs : s.length ≤ 400) : ∀ (d i : Nat) (out : List UInt8), i + d = s.length → out.length ≤ 14 * i → out ++ moreL (s.drop i) = moreL s →
    Tells (fun k => ontimelaw05_AsmComments.l0 k (B s) (B out) i) true := by
  intro d
  induction d with
  | zero =>
    intro i out hi ho hm
    refine Tells.succ ?_
    simp only [ontimelaw05_AsmComments.l0]
    refine Tells.neg (by rw [B_size]; omega) ?_
    rw [List.drop_eq_nil_of_le (by omega)] at hm
    have hm : out = moreL s := by simpa [moreL] using hm
    subst hm
    have l1 := plainL_len s false
    have l2 := moreL_len s
    have e1 : parseS (plainL false s) = parseS s := parseS_congr (by omega) (by omega) (plain_split s false [] [] rfl (by simp) (by simp))
    have e2 : parseS (moreL s) = parseS s := parseS_congr (by omega) (by omega) (more_split s [])
    have hl := parseS_len s
    refine Tells.bind (asm_parse s (by omega)) ?_
    refine Tells.bind (plainer_eq s (by omega)) ?_
    refine Tells.bind (asm_parse _ (by omega)) ?_
    refine Tells.bind (asm_parse _ (by omega)) ?_
    rw [e1, e2]
    refine Tells.pos rfl ?_
    refine Tells.pos rfl ?_
    refine Tells.pos rfl ?_
    refine Tells.pos rfl ?_
    refine Tells.bind (same_self _ (by omega)) ?_
    refine Tells.pos rfl ?_
    refine Tells.bind (same_self _ (by omega)) ?_
    exact Tells.const
  | succ d ih =>
    intro i out hi ho hm
    have hlt : i < s.length := by omega
    have hd : s.drop i = s[i] :: s.drop (i + 1) := List.drop_eq_getElem_cons hlt
    have hbt := B_bt s i hlt
    have hex : (B s).extract i (i + 1) = B [s[i]] := by rw [B_extract, hd, Nat.add_sub_cancel_left]; rfl
    rw [hd] at hm
    generalize s[i] = c at *
    have c10 : ((c.toNat : Int) = 10) ↔ c = 10 := ⟨fun h => UInt8.toNat_inj.1 (by rw [show (10 : UInt8).toNat = 10 from rfl]; omega), fun h => by rw [h]; rfl⟩
    refine Tells.succ ?_
    simp only [ontimelaw05_AsmComments.l0, hbt, w64n i (by omega), Int.toNat_natCast, hex, show (⟨#[32, 59, 32, 115, 116, 32, 114, 49, 32, 114, 50, 32, 51]⟩ : ByteArray) = B more13 from rfl, B_append]
    refine Tells.pos (by rw [B_size]; omega) ?_
    refine Tells.pos (by omega) ?_
    have hb : (B [c]).size = 1 := by rw [B_size]; rfl
    have hmo : more13.length = 13 := rfl
    rw [show moreL (c :: s.drop (i + 1)) = if c = 10 then more13 ++ 10 :: moreL (s.drop (i + 1)) else c :: moreL (s.drop (i + 1)) from rfl] at hm
    by_cases h10 : c = 10
    · refine Tells.pos (c10.2 h10) ?_
      rw [if_pos h10] at hm
      refine Tells.pos (by rw [B_size]; omega) ?_
      refine Tells.pos (by omega) ?_
      refine Tells.pos (by rw [B_size]; omega) ?_
      refine Tells.pos (by rw [hb, B_size, List.length_append]; omega) ?_
      refine ih (i + 1) _ (by omega) (by simp only [List.length_append, List.length_cons, List.length_nil]; omega) ?_
      rw [← hm, h10]
      simp only [List.append_assoc, List.cons_append, List.nil_append]
    · refine Tells.neg (fun h => h10 (c10.1 h)) ?_
      rw [if_neg h10] at hm
      refine Tells.pos (by omega) ?_
      refine Tells.pos (by rw [B_size]; omega) ?_
      refine Tells.pos (by rw [hb, B_size]; omega) ?_
      refine ih (i + 1) _ (by omega) (by simp only [List.length_append, List.length_cons, List.length_nil]; omega) ?_
      rw [← hm]
      simp only [List.append_assoc, List.cons_append, List.nil_append]

theorem AsmComments (s : ByteArray) : ∃ k, ontimelaw05_AsmComments.f k s = some true := by
  refine Tells.ex (f := fun k => ontimelaw05_AsmComments.f k s) ?_
  rw [← B_data s]
  generalize s.data.toList = l
  unfold ontimelaw05_AsmComments.f
  refine Tells.bind awake_true ?_
  refine Tells.pos rfl ?_
  by_cases h : ((B l).size : Int) > 400
  · refine Tells.pos h ?_
    exact Tells.const
  · refine Tells.neg h ?_
    rw [B_size] at h
    exact comments_l0 l (by omega) l.length 0 [] (by omega) (by simp) (by simp)
end Go.Proofs.YtchlcncffillbaaDoor.L
