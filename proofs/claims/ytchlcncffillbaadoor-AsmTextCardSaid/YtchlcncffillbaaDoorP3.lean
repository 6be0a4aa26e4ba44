-- Printed for this claim by a program (wip/pp/patch_print.py); Lean checks it.
import Derived.Test.YtchlcncffillbaaDoorP0
namespace Go.Proofs.YtchlcncffillbaaDoor.P
open Go.RowKit Go.Proofs.YtchlcncffillbaaDoorW.PrintWords Go.Proofs.YtchlcncffillbaaDoorW.PrintLast Go.Proofs.YtchlcncffillbaaDoorW.PrintMore
attribute [local go_sem] max2_int min2_int max_two min_two max_three min_three max_four min_four   -- for this text's walks alone
set_option linter.unusedVariables false
set_option linter.unusedSimpArgs false

/-! ### ontimeref05_Shape: function 47 -/
mutual
def ontimeref05_Shape.j0 : Nat → Int → Bool → Option (ByteArray)
 | 0, _, _ => none
 | k + 1, x0, x8 => if x8 = true then (some (⟨#[97, 98, 99]⟩ : ByteArray)) else (if x0 = 14 then (ontimeref05_Shape.j1 k x0 (x0 == 14)) else (if x0 = 22 then (ontimeref05_Shape.j1 k x0 (x0 == 22)) else (if x0 = 23 then (ontimeref05_Shape.j1 k x0 (x0 == 23)) else (if x0 = 25 then (ontimeref05_Shape.j1 k x0 (x0 == 25)) else (if x0 = 26 then (ontimeref05_Shape.j1 k x0 (x0 == 26)) else (ontimeref05_Shape.j1 k x0 (x0 == 27)))))))
def ontimeref05_Shape.j1 : Nat → Int → Bool → Option (ByteArray)
 | 0, _, _ => none
 | k + 1, x9, x10 => if x10 = true then (some (⟨#[97, 105]⟩ : ByteArray)) else (if x9 = 15 then (ontimeref05_Shape.j2 k x9 (x9 == 15)) else (if x9 = 16 then (ontimeref05_Shape.j2 k x9 (x9 == 16)) else (if x9 = 17 then (ontimeref05_Shape.j2 k x9 (x9 == 17)) else (if x9 = 18 then (ontimeref05_Shape.j2 k x9 (x9 == 18)) else (if x9 = 19 then (ontimeref05_Shape.j2 k x9 (x9 == 19)) else (if x9 = 20 then (ontimeref05_Shape.j2 k x9 (x9 == 20)) else (ontimeref05_Shape.j2 k x9 (x9 == 21))))))))
def ontimeref05_Shape.j2 : Nat → Int → Bool → Option (ByteArray)
 | 0, _, _ => none
 | k + 1, x9, x17 => if x17 = true then (some (⟨#[97, 98, 105]⟩ : ByteArray)) else (if x9 = 24 then (some (⟨#[105]⟩ : ByteArray)) else (if x9 = 28 then (some (⟨#[105]⟩ : ByteArray)) else (if x9 = 29 then (some (⟨#[105]⟩ : ByteArray)) else (some (⟨#[]⟩ : ByteArray)))))
end
def ontimeref05_Shape.f (k : Nat) (a0 : Int) : Option (ByteArray) := if a0 ≥ 2 then (ontimeref05_Shape.j0 k a0 (decide (a0 ≤ 13))) else (ontimeref05_Shape.j0 k a0 false)
theorem ontimeref05_Shape.mono_l : ∀ k, (∀ y0 y1, LeO (ontimeref05_Shape.j0 k y0 y1) (ontimeref05_Shape.j0 (k + 1) y0 y1)) ∧ (∀ y0 y1, LeO (ontimeref05_Shape.j1 k y0 y1) (ontimeref05_Shape.j1 (k + 1) y0 y1)) ∧ (∀ y0 y1, LeO (ontimeref05_Shape.j2 k y0 y1) (ontimeref05_Shape.j2 (k + 1) y0 y1))
 | 0 => ⟨fun _ _ r h => by simp [ontimeref05_Shape.j0] at h, fun _ _ r h => by simp [ontimeref05_Shape.j1] at h, fun _ _ r h => by simp [ontimeref05_Shape.j2] at h⟩
 | k + 1 => by
  obtain ⟨ih0, ih1, ih2⟩ := ontimeref05_Shape.mono_l k
  refine ⟨?_, ?_, ?_⟩
  · intro y0 y1
    unfold ontimeref05_Shape.j0
    repeat' first
    | (with_reducible exact ih0 _ _)
    | (with_reducible exact ih1 _ _)
    | (with_reducible exact ih2 _ _)
    | (with_reducible exact LeO.refl _)
    | (with_reducible exact LeO.none _)
    | (with_reducible refine LeO.ite ?_ ?_)
    | (with_reducible refine LeO.bind ?_ (fun _ => ?_))
    | exact ih0 _ _
    | exact ih1 _ _
    | exact ih2 _ _
    | exact LeO.none _
    | refine LeO.ite ?_ ?_
    | refine LeO.bind ?_ (fun _ => ?_)
  · intro y0 y1
    unfold ontimeref05_Shape.j1
    repeat' first
    | (with_reducible exact ih0 _ _)
    | (with_reducible exact ih1 _ _)
    | (with_reducible exact ih2 _ _)
    | (with_reducible exact LeO.refl _)
    | (with_reducible exact LeO.none _)
    | (with_reducible refine LeO.ite ?_ ?_)
    | (with_reducible refine LeO.bind ?_ (fun _ => ?_))
    | exact ih0 _ _
    | exact ih1 _ _
    | exact ih2 _ _
    | exact LeO.none _
    | refine LeO.ite ?_ ?_
    | refine LeO.bind ?_ (fun _ => ?_)
  · intro y0 y1
    unfold ontimeref05_Shape.j2
    repeat' first
    | (with_reducible exact ih0 _ _)
    | (with_reducible exact ih1 _ _)
    | (with_reducible exact ih2 _ _)
    | (with_reducible exact LeO.refl _)
    | (with_reducible exact LeO.none _)
    | (with_reducible refine LeO.ite ?_ ?_)
    | (with_reducible refine LeO.bind ?_ (fun _ => ?_))
    | exact ih0 _ _
    | exact ih1 _ _
    | exact ih2 _ _
    | exact LeO.none _
    | refine LeO.ite ?_ ?_
    | refine LeO.bind ?_ (fun _ => ?_)
theorem ontimeref05_Shape.mono : ∀ a0 k, LeO (ontimeref05_Shape.f k a0) (ontimeref05_Shape.f (k + 1) a0) := by
 intro a0 k
 obtain ⟨ih0, ih1, ih2⟩ := ontimeref05_Shape.mono_l k
 unfold ontimeref05_Shape.f
 repeat' first
  | (with_reducible exact ih0 _ _)
  | (with_reducible exact ih1 _ _)
  | (with_reducible exact ih2 _ _)
  | (with_reducible exact LeO.refl _)
  | (with_reducible exact LeO.none _)
  | (with_reducible refine LeO.ite ?_ ?_)
  | (with_reducible refine LeO.bind ?_ (fun _ => ?_))
  | exact ih0 _ _
  | exact ih1 _ _
  | exact ih2 _ _
  | exact LeO.none _
  | refine LeO.ite ?_ ?_
  | refine LeO.bind ?_ (fun _ => ?_)
set_option maxHeartbeats 8000000 in
set_option maxRecDepth 100000 in
theorem ontimeref05_Shape.calls (k : Nat) (a0 : Int) (r : ByteArray) (w : World) (h : ontimeref05_Shape.f k a0 = some r) :
 Calls Tryd.prog 47 #[.int .u8 a0] w fun e w' => e = .returned (.string r) ∧ Drawn0 w w' := by
 have H : (if a0 ≥ 2 then (ontimeref05_Shape.j0 k a0 (decide (a0 ≤ 13))) else (ontimeref05_Shape.j0 k a0 false)) = some r := h
 clear h
 have HC2 := Aside0.mk H
 clear H
 go_enter Tryd.func47, Tryd.ntmps47
 go_upto_region 1 with (fail)
 go_cut [8] (fun v8 wc => ∃ (kq : Nat) (x8_1 : Bool), v8 = .bool x8_1 ∧ Aside0 (ontimeref05_Shape.j0 kq a0 x8_1 = some r) ∧ Aside0 (kq ≤ k) ∧ Drawn0 w wc)
 case first =>
  have H := HC2.out
  clear HC2
  by_cases c3 : a0 ≥ 2
  · rw [if_pos c3] at H
    have c3b0 : decide (2 ≤ a0) = true := decide_eq_true c3
    clear c3
    (first | rw [c3b0] | (simp only [i64_w, i32_w]; rw [c3b0]) | skip)
    have H' := Aside0.mk H
    clear H
    go_wp2
    go_meet
    case rel => exact ⟨_, (decide (a0 ≤ 13)), (by first | rfl | (simp; done) | (simp [*]; done)), H', ⟨by first | omega | exact Nat.le_refl _⟩, by repeat (first | exact Drawn0.refl _ | apply Drawn0.step)⟩
  · rw [if_neg c3] at H
    have c3b0 : decide (2 ≤ a0) = false := decide_eq_false c3
    clear c3
    (first | rw [c3b0] | (simp only [i64_w, i32_w]; rw [c3b0]) | skip)
    have H' := Aside0.mk H
    clear H
    go_wp2
    go_meet
    case rel => exact ⟨_, (false), (by first | rfl | (simp; done) | (simp [*]; done)), H', ⟨by first | omega | exact Nat.le_refl _⟩, by repeat (first | exact Drawn0.refl _ | apply Drawn0.step)⟩
 case rest =>
  clear HC2
  try clear p2
  try clear c3
  try clear c3b0
  obtain ⟨kq, x8_1, rfl, HA, HJ1, ⟨mc1, rfl⟩⟩ := hcut
  cases kq with
  | zero => exact absurd HA.out (by simp [ontimeref05_Shape.j0])
  | succ kj1 =>
   have H := HA.out
   clear HA
   simp only [ontimeref05_Shape.j0] at H
   by_cases c4 : x8_1 = true
   · subst c4
     have H1 : (some (⟨#[97, 98, 99]⟩ : ByteArray)) = some r := by rw [if_pos rfl] at H; exact H
     clear H
     have H := H1
     clear H1
     obtain rfl := Option.some.inj H
     go_wp2
     go_ret
     exact ⟨by first | rfl | (simp; done) | (simp [*]; done), by repeat (first | exact Drawn0.refl _ | apply Drawn0.step)⟩
   · replace c4 := Bool.eq_false_iff.mpr c4
     subst c4
     have H1 : (if a0 = 14 then (ontimeref05_Shape.j1 kj1 a0 (a0 == 14)) else (if a0 = 22 then (ontimeref05_Shape.j1 kj1 a0 (a0 == 22)) else (if a0 = 23 then (ontimeref05_Shape.j1 kj1 a0 (a0 == 23)) else (if a0 = 25 then (ontimeref05_Shape.j1 kj1 a0 (a0 == 25)) else (if a0 = 26 then (ontimeref05_Shape.j1 kj1 a0 (a0 == 26)) else (ontimeref05_Shape.j1 kj1 a0 (a0 == 27))))))) = some r := by rw [if_neg (show ¬ (false = true) by decide)] at H; exact H
     clear H
     have H := H1
     clear H1
     have HC5 := Aside0.mk H
     clear H
     go_upto_if 10 with (fail)
     go_cut [10] (fun v10 wc => ∃ (kq : Nat) (x10_4 : Bool), v10 = .bool x10_4 ∧ Aside0 (ontimeref05_Shape.j1 kq a0 x10_4 = some r) ∧ Aside0 (kq ≤ kj1) ∧ Drawn0 w wc)
     case first =>
      have H := HC5.out
      clear HC5
      by_cases c6 : a0 = 14
      · rw [if_pos c6] at H
        have c6b0 : (a0 == 14) = true := beq_iff_eq.mpr c6
        have c6b1 : (a0 != 14) = false := bne_eq_false_iff_eq.mpr c6
        clear c6
        (first | rw [c6b0] | (simp only [i64_w, i32_w]; rw [c6b0]) | skip)
        have H' := Aside0.mk H
        clear H
        go_wp2
        go_meet
        case rel => exact ⟨_, ((a0 == 14)), (by first | rfl | (simp; done) | (simp [*]; done)), H', ⟨by have := HJ1.out; first | omega | exact Nat.le_refl _⟩, by repeat (first | exact Drawn0.refl _ | apply Drawn0.step)⟩
      · rw [if_neg c6] at H
        have c6b0 : (a0 == 14) = false := beq_eq_false_iff_ne.mpr c6
        have c6b1 : (a0 != 14) = true := bne_iff_ne.mpr c6
        (first | rw [c6b0] | (simp only [i64_w, i32_w]; rw [c6b0]) | skip)
        by_cases c7 : a0 = 22
        · rw [if_pos c7] at H
          have c7b0 : (a0 == 22) = true := beq_iff_eq.mpr c7
          have c7b1 : (a0 != 22) = false := bne_eq_false_iff_eq.mpr c7
          clear c7
          have H' := Aside0.mk H
          clear H
          go_wp2
          go_meet
          case rel => exact ⟨_, ((a0 == 22)), (by first | rfl | (simp; done) | (simp [*]; done)), H', ⟨by have := HJ1.out; first | omega | exact Nat.le_refl _⟩, by repeat (first | exact Drawn0.refl _ | apply Drawn0.step)⟩
        · rw [if_neg c7] at H
          have c7b0 : (a0 == 22) = false := beq_eq_false_iff_ne.mpr c7
          have c7b1 : (a0 != 22) = true := bne_iff_ne.mpr c7
          by_cases c8 : a0 = 23
          · rw [if_pos c8] at H
            have c8b0 : (a0 == 23) = true := beq_iff_eq.mpr c8
            have c8b1 : (a0 != 23) = false := bne_eq_false_iff_eq.mpr c8
            clear c8
            have H' := Aside0.mk H
            clear H
            go_wp2
            go_meet
            case rel => exact ⟨_, ((a0 == 23)), (by first | rfl | (simp; done) | (simp [*]; done)), H', ⟨by have := HJ1.out; first | omega | exact Nat.le_refl _⟩, by repeat (first | exact Drawn0.refl _ | apply Drawn0.step)⟩
          · rw [if_neg c8] at H
            have c8b0 : (a0 == 23) = false := beq_eq_false_iff_ne.mpr c8
            have c8b1 : (a0 != 23) = true := bne_iff_ne.mpr c8
            by_cases c9 : a0 = 25
            · rw [if_pos c9] at H
              have c9b0 : (a0 == 25) = true := beq_iff_eq.mpr c9
              have c9b1 : (a0 != 25) = false := bne_eq_false_iff_eq.mpr c9
              clear c9
              have H' := Aside0.mk H
              clear H
              go_wp2
              go_meet
              case rel => exact ⟨_, ((a0 == 25)), (by first | rfl | (simp; done) | (simp [*]; done)), H', ⟨by have := HJ1.out; first | omega | exact Nat.le_refl _⟩, by repeat (first | exact Drawn0.refl _ | apply Drawn0.step)⟩
            · rw [if_neg c9] at H
              have c9b0 : (a0 == 25) = false := beq_eq_false_iff_ne.mpr c9
              have c9b1 : (a0 != 25) = true := bne_iff_ne.mpr c9
              by_cases c10 : a0 = 26
              · rw [if_pos c10] at H
                have c10b0 : (a0 == 26) = true := beq_iff_eq.mpr c10
                have c10b1 : (a0 != 26) = false := bne_eq_false_iff_eq.mpr c10
                clear c10
                have H' := Aside0.mk H
                clear H
                go_wp2
                go_meet
                case rel => exact ⟨_, ((a0 == 26)), (by first | rfl | (simp; done) | (simp [*]; done)), H', ⟨by have := HJ1.out; first | omega | exact Nat.le_refl _⟩, by repeat (first | exact Drawn0.refl _ | apply Drawn0.step)⟩
              · rw [if_neg c10] at H
                have c10b0 : (a0 == 26) = false := beq_eq_false_iff_ne.mpr c10
                have c10b1 : (a0 != 26) = true := bne_iff_ne.mpr c10
                have H' := Aside0.mk H
                clear H
                go_wp2
                go_meet
                case rel => exact ⟨_, ((a0 == 27)), (by first | rfl | (simp; done) | (simp [*]; done)), H', ⟨by have := HJ1.out; first | omega | exact Nat.le_refl _⟩, by repeat (first | exact Drawn0.refl _ | apply Drawn0.step)⟩
     case rest =>
      clear HC5
      try clear c1
      try clear p2
      try clear c3
      try clear c3b0
      try clear c4
      try clear c6
      try clear c6b0
      try clear c6b1
      try clear c7
      try clear c7b0
      try clear c7b1
      try clear c8
      try clear c8b0
      try clear c8b1
      try clear c9
      try clear c9b0
      try clear c9b1
      try clear c10
      try clear c10b0
      try clear c10b1
      try clear p2
      obtain ⟨kq, x10_4, rfl, HA, HJ4, ⟨mc4, rfl⟩⟩ := hcut
      cases kq with
      | zero => exact absurd HA.out (by simp [ontimeref05_Shape.j1])
      | succ kj4 =>
       have H := HA.out
       clear HA
       simp only [ontimeref05_Shape.j1] at H
       by_cases c11 : x10_4 = true
       · subst c11
         have H1 : (some (⟨#[97, 105]⟩ : ByteArray)) = some r := by rw [if_pos rfl] at H; exact H
         clear H
         have H := H1
         clear H1
         obtain rfl := Option.some.inj H
         go_wp2
         go_ret
         exact ⟨by first | rfl | (simp; done) | (simp [*]; done), by repeat (first | exact Drawn0.refl _ | apply Drawn0.step)⟩
       · replace c11 := Bool.eq_false_iff.mpr c11
         subst c11
         have H1 : (if a0 = 15 then (ontimeref05_Shape.j2 kj4 a0 (a0 == 15)) else (if a0 = 16 then (ontimeref05_Shape.j2 kj4 a0 (a0 == 16)) else (if a0 = 17 then (ontimeref05_Shape.j2 kj4 a0 (a0 == 17)) else (if a0 = 18 then (ontimeref05_Shape.j2 kj4 a0 (a0 == 18)) else (if a0 = 19 then (ontimeref05_Shape.j2 kj4 a0 (a0 == 19)) else (if a0 = 20 then (ontimeref05_Shape.j2 kj4 a0 (a0 == 20)) else (ontimeref05_Shape.j2 kj4 a0 (a0 == 21)))))))) = some r := by rw [if_neg (show ¬ (false = true) by decide)] at H; exact H
         clear H
         have H := H1
         clear H1
         have HC12 := Aside0.mk H
         clear H
         go_upto_if 17 with (fail)
         go_cut [17] (fun v17 wc => ∃ (kq : Nat) (x17_11 : Bool), v17 = .bool x17_11 ∧ Aside0 (ontimeref05_Shape.j2 kq a0 x17_11 = some r) ∧ Aside0 (kq ≤ kj4) ∧ Drawn0 w wc)
         case first =>
          have H := HC12.out
          clear HC12
          by_cases c13 : a0 = 15
          · rw [if_pos c13] at H
            have c13b0 : (a0 == 15) = true := beq_iff_eq.mpr c13
            have c13b1 : (a0 != 15) = false := bne_eq_false_iff_eq.mpr c13
            clear c13
            (first | rw [c13b0] | (simp only [i64_w, i32_w]; rw [c13b0]) | skip)
            have H' := Aside0.mk H
            clear H
            go_wp2
            go_meet
            case rel => exact ⟨_, ((a0 == 15)), (by first | rfl | (simp; done) | (simp [*]; done)), H', ⟨by have := HJ1.out; have := HJ4.out; first | omega | exact Nat.le_refl _⟩, by repeat (first | exact Drawn0.refl _ | apply Drawn0.step)⟩
          · rw [if_neg c13] at H
            have c13b0 : (a0 == 15) = false := beq_eq_false_iff_ne.mpr c13
            have c13b1 : (a0 != 15) = true := bne_iff_ne.mpr c13
            (first | rw [c13b0] | (simp only [i64_w, i32_w]; rw [c13b0]) | skip)
            by_cases c14 : a0 = 16
            · rw [if_pos c14] at H
              have c14b0 : (a0 == 16) = true := beq_iff_eq.mpr c14
              have c14b1 : (a0 != 16) = false := bne_eq_false_iff_eq.mpr c14
              clear c14
              have H' := Aside0.mk H
              clear H
              go_wp2
              go_meet
              case rel => exact ⟨_, ((a0 == 16)), (by first | rfl | (simp; done) | (simp [*]; done)), H', ⟨by have := HJ1.out; have := HJ4.out; first | omega | exact Nat.le_refl _⟩, by repeat (first | exact Drawn0.refl _ | apply Drawn0.step)⟩
            · rw [if_neg c14] at H
              have c14b0 : (a0 == 16) = false := beq_eq_false_iff_ne.mpr c14
              have c14b1 : (a0 != 16) = true := bne_iff_ne.mpr c14
              by_cases c15 : a0 = 17
              · rw [if_pos c15] at H
                have c15b0 : (a0 == 17) = true := beq_iff_eq.mpr c15
                have c15b1 : (a0 != 17) = false := bne_eq_false_iff_eq.mpr c15
                clear c15
                have H' := Aside0.mk H
                clear H
                go_wp2
                go_meet
                case rel => exact ⟨_, ((a0 == 17)), (by first | rfl | (simp; done) | (simp [*]; done)), H', ⟨by have := HJ1.out; have := HJ4.out; first | omega | exact Nat.le_refl _⟩, by repeat (first | exact Drawn0.refl _ | apply Drawn0.step)⟩
              · rw [if_neg c15] at H
                have c15b0 : (a0 == 17) = false := beq_eq_false_iff_ne.mpr c15
                have c15b1 : (a0 != 17) = true := bne_iff_ne.mpr c15
                by_cases c16 : a0 = 18
                · rw [if_pos c16] at H
                  have c16b0 : (a0 == 18) = true := beq_iff_eq.mpr c16
                  have c16b1 : (a0 != 18) = false := bne_eq_false_iff_eq.mpr c16
                  clear c16
                  have H' := Aside0.mk H
                  clear H
                  go_wp2
                  go_meet
                  case rel => exact ⟨_, ((a0 == 18)), (by first | rfl | (simp; done) | (simp [*]; done)), H', ⟨by have := HJ1.out; have := HJ4.out; first | omega | exact Nat.le_refl _⟩, by repeat (first | exact Drawn0.refl _ | apply Drawn0.step)⟩
                · rw [if_neg c16] at H
                  have c16b0 : (a0 == 18) = false := beq_eq_false_iff_ne.mpr c16
                  have c16b1 : (a0 != 18) = true := bne_iff_ne.mpr c16
                  by_cases c17 : a0 = 19
                  · rw [if_pos c17] at H
                    have c17b0 : (a0 == 19) = true := beq_iff_eq.mpr c17
                    have c17b1 : (a0 != 19) = false := bne_eq_false_iff_eq.mpr c17
                    clear c17
                    have H' := Aside0.mk H
                    clear H
                    go_wp2
                    go_meet
                    case rel => exact ⟨_, ((a0 == 19)), (by first | rfl | (simp; done) | (simp [*]; done)), H', ⟨by have := HJ1.out; have := HJ4.out; first | omega | exact Nat.le_refl _⟩, by repeat (first | exact Drawn0.refl _ | apply Drawn0.step)⟩
                  · rw [if_neg c17] at H
                    have c17b0 : (a0 == 19) = false := beq_eq_false_iff_ne.mpr c17
                    have c17b1 : (a0 != 19) = true := bne_iff_ne.mpr c17
                    by_cases c18 : a0 = 20
                    · rw [if_pos c18] at H
                      have c18b0 : (a0 == 20) = true := beq_iff_eq.mpr c18
                      have c18b1 : (a0 != 20) = false := bne_eq_false_iff_eq.mpr c18
                      clear c18
                      have H' := Aside0.mk H
                      clear H
                      go_wp2
                      go_meet
                      case rel => exact ⟨_, ((a0 == 20)), (by first | rfl | (simp; done) | (simp [*]; done)), H', ⟨by have := HJ1.out; have := HJ4.out; first | omega | exact Nat.le_refl _⟩, by repeat (first | exact Drawn0.refl _ | apply Drawn0.step)⟩
                    · rw [if_neg c18] at H
                      have c18b0 : (a0 == 20) = false := beq_eq_false_iff_ne.mpr c18
                      have c18b1 : (a0 != 20) = true := bne_iff_ne.mpr c18
                      have H' := Aside0.mk H
                      clear H
                      go_wp2
                      go_meet
                      case rel => exact ⟨_, ((a0 == 21)), (by first | rfl | (simp; done) | (simp [*]; done)), H', ⟨by have := HJ1.out; have := HJ4.out; first | omega | exact Nat.le_refl _⟩, by repeat (first | exact Drawn0.refl _ | apply Drawn0.step)⟩
         case rest =>
          clear HC12
          try clear c1
          try clear p2
          try clear c3
          try clear c3b0
          try clear c4
          try clear c6
          try clear c6b0
          try clear c6b1
          try clear c7
          try clear c7b0
          try clear c7b1
          try clear c8
          try clear c8b0
          try clear c8b1
          try clear c9
          try clear c9b0
          try clear c9b1
          try clear c10
          try clear c10b0
          try clear c10b1
          try clear c11
          try clear c13
          try clear c13b0
          try clear c13b1
          try clear c14
          try clear c14b0
          try clear c14b1
          try clear c15
          try clear c15b0
          try clear c15b1
          try clear c16
          try clear c16b0
          try clear c16b1
          try clear c17
          try clear c17b0
          try clear c17b1
          try clear c18
          try clear c18b0
          try clear c18b1
          try clear p2
          obtain ⟨kq, x17_11, rfl, HA, HJ11, ⟨mc11, rfl⟩⟩ := hcut
          cases kq with
          | zero => exact absurd HA.out (by simp [ontimeref05_Shape.j2])
          | succ kj11 =>
           have H := HA.out
           clear HA
           simp only [ontimeref05_Shape.j2] at H
           by_cases c19 : x17_11 = true
           · subst c19
             have H1 : (some (⟨#[97, 98, 105]⟩ : ByteArray)) = some r := by rw [if_pos rfl] at H; exact H
             clear H
             have H := H1
             clear H1
             obtain rfl := Option.some.inj H
             go_wp2
             go_ret
             exact ⟨by first | rfl | (simp; done) | (simp [*]; done), by repeat (first | exact Drawn0.refl _ | apply Drawn0.step)⟩
           · replace c19 := Bool.eq_false_iff.mpr c19
             subst c19
             have H1 : (if a0 = 24 then (some (⟨#[105]⟩ : ByteArray)) else (if a0 = 28 then (some (⟨#[105]⟩ : ByteArray)) else (if a0 = 29 then (some (⟨#[105]⟩ : ByteArray)) else (some (⟨#[]⟩ : ByteArray))))) = some r := by rw [if_neg (show ¬ (false = true) by decide)] at H; exact H
             clear H
             have H := H1
             clear H1
             by_cases c20 : a0 = 24
             · rw [if_pos c20] at H
               have c20b0 : (a0 == 24) = true := beq_iff_eq.mpr c20
               have c20b1 : (a0 != 24) = false := bne_eq_false_iff_eq.mpr c20
               clear c20
               obtain rfl := Option.some.inj H
               go_wp2
               go_ret
               exact ⟨by first | rfl | (simp; done) | (simp [*]; done), by repeat (first | exact Drawn0.refl _ | apply Drawn0.step)⟩
             · rw [if_neg c20] at H
               have c20b0 : (a0 == 24) = false := beq_eq_false_iff_ne.mpr c20
               have c20b1 : (a0 != 24) = true := bne_iff_ne.mpr c20
               by_cases c21 : a0 = 28
               · rw [if_pos c21] at H
                 have c21b0 : (a0 == 28) = true := beq_iff_eq.mpr c21
                 have c21b1 : (a0 != 28) = false := bne_eq_false_iff_eq.mpr c21
                 clear c21
                 obtain rfl := Option.some.inj H
                 go_wp2
                 go_ret
                 exact ⟨by first | rfl | (simp; done) | (simp [*]; done), by repeat (first | exact Drawn0.refl _ | apply Drawn0.step)⟩
               · rw [if_neg c21] at H
                 have c21b0 : (a0 == 28) = false := beq_eq_false_iff_ne.mpr c21
                 have c21b1 : (a0 != 28) = true := bne_iff_ne.mpr c21
                 by_cases c22 : a0 = 29
                 · rw [if_pos c22] at H
                   have c22b0 : (a0 == 29) = true := beq_iff_eq.mpr c22
                   have c22b1 : (a0 != 29) = false := bne_eq_false_iff_eq.mpr c22
                   clear c22
                   obtain rfl := Option.some.inj H
                   go_wp2
                   go_ret
                   exact ⟨by first | rfl | (simp; done) | (simp [*]; done), by repeat (first | exact Drawn0.refl _ | apply Drawn0.step)⟩
                 · rw [if_neg c22] at H
                   have c22b0 : (a0 == 29) = false := beq_eq_false_iff_ne.mpr c22
                   have c22b1 : (a0 != 29) = true := bne_iff_ne.mpr c22
                   obtain rfl := Option.some.inj H
                   go_wp2
                   go_ret
                   exact ⟨by first | rfl | (simp; done) | (simp [*]; done), by repeat (first | exact Drawn0.refl _ | apply Drawn0.step)⟩

/-! ### ontimeref05_Decimal: function 48 -/
def ontimeref05_Decimal.f : Nat → Int → Option (ByteArray)
 | 0, _ => none
 | k + 1, a0 => if a0 < 0 then ((ontimeref05_Decimal.f k (wrap64 (-a0))).bind fun t168 => (if 1 + t168.size ≤ 9223372036854775807 then (some ((⟨#[45]⟩ : ByteArray) ++ t168)) else (none))) else (if 0 ≤ (Int.tmod a0 10) then (if (Int.tmod a0 10) ≤ (wrap64 ((Int.tmod a0 10) + 1)) then (if (wrap64 ((Int.tmod a0 10) + 1)) ≤ 10 then (if a0 < 10 then (some ((⟨#[48, 49, 50, 51, 52, 53, 54, 55, 56, 57]⟩ : ByteArray).extract ((Int.tmod a0 10) : Int).toNat ((wrap64 ((Int.tmod a0 10) + 1)) : Int).toNat)) else ((ontimeref05_Decimal.f k (wrap64 (Int.tdiv a0 10))).bind fun t169 => (if t169.size + ((⟨#[48, 49, 50, 51, 52, 53, 54, 55, 56, 57]⟩ : ByteArray).extract ((Int.tmod a0 10) : Int).toNat ((wrap64 ((Int.tmod a0 10) + 1)) : Int).toNat).size ≤ 9223372036854775807 then (some (t169 ++ ((⟨#[48, 49, 50, 51, 52, 53, 54, 55, 56, 57]⟩ : ByteArray).extract ((Int.tmod a0 10) : Int).toNat ((wrap64 ((Int.tmod a0 10) + 1)) : Int).toNat))) else (none)))) else (none)) else (none)) else (none))
theorem ontimeref05_Decimal.mono_l : ∀ k, (∀ y0, LeO (ontimeref05_Decimal.f k y0) (ontimeref05_Decimal.f (k + 1) y0))
 | 0 => fun _ r h => by simp [ontimeref05_Decimal.f] at h
 | k + 1 => by
  have ih0 := ontimeref05_Decimal.mono_l k
  · intro y0
    unfold ontimeref05_Decimal.f
    repeat' first
    | (with_reducible exact ih0 _)
    | (with_reducible exact LeO.refl _)
    | (with_reducible exact LeO.none _)
    | (with_reducible refine LeO.ite ?_ ?_)
    | (with_reducible refine LeO.bind ?_ (fun _ => ?_))
    | exact ih0 _
    | exact LeO.none _
    | refine LeO.ite ?_ ?_
    | refine LeO.bind ?_ (fun _ => ?_)
theorem ontimeref05_Decimal.mono : ∀ a0 k, LeO (ontimeref05_Decimal.f k a0) (ontimeref05_Decimal.f (k + 1) a0) := by
 intro a0 k
 have ih0 := ontimeref05_Decimal.mono_l k
 exact ih0 a0
set_option maxHeartbeats 8000000 in
set_option maxRecDepth 100000 in
theorem ontimeref05_Decimal.calls (k : Nat) : ∀ (a0 : Int) (r : ByteArray) (w : World) (h : ontimeref05_Decimal.f k a0 = some r),
 Calls Tryd.prog 48 #[.int .i64 a0] w fun e w' => e = .returned (.string r) ∧ Drawn0 w w' := by
 induction k using Nat.strongRecOn with
 | _ k ih =>
 intro a0 r w h
 cases k with
 | zero => exact absurd h (by simp [ontimeref05_Decimal.f])
 | succ k =>
 simp only [ontimeref05_Decimal.f] at h
 have H : (if a0 < 0 then ((ontimeref05_Decimal.f k (wrap64 (-a0))).bind fun t168 => (if 1 + t168.size ≤ 9223372036854775807 then (some ((⟨#[45]⟩ : ByteArray) ++ t168)) else (none))) else (if 0 ≤ (Int.tmod a0 10) then (if (Int.tmod a0 10) ≤ (wrap64 ((Int.tmod a0 10) + 1)) then (if (wrap64 ((Int.tmod a0 10) + 1)) ≤ 10 then (if a0 < 10 then (some ((⟨#[48, 49, 50, 51, 52, 53, 54, 55, 56, 57]⟩ : ByteArray).extract ((Int.tmod a0 10) : Int).toNat ((wrap64 ((Int.tmod a0 10) + 1)) : Int).toNat)) else ((ontimeref05_Decimal.f k (wrap64 (Int.tdiv a0 10))).bind fun t169 => (if t169.size + ((⟨#[48, 49, 50, 51, 52, 53, 54, 55, 56, 57]⟩ : ByteArray).extract ((Int.tmod a0 10) : Int).toNat ((wrap64 ((Int.tmod a0 10) + 1)) : Int).toNat).size ≤ 9223372036854775807 then (some (t169 ++ ((⟨#[48, 49, 50, 51, 52, 53, 54, 55, 56, 57]⟩ : ByteArray).extract ((Int.tmod a0 10) : Int).toNat ((wrap64 ((Int.tmod a0 10) + 1)) : Int).toNat))) else (none)))) else (none)) else (none)) else (none))) = some r := h
 clear h
 by_cases c2 : a0 < 0
 · rw [if_pos c2] at H
   have c2b0 : decide (a0 < 0) = true := decide_eq_true c2
   clear c2
   replace H := Option.bind_eq_some_iff.mp H
   obtain ⟨t168, A30, H⟩ := H
   replace H : (if 1 + t168.size ≤ 9223372036854775807 then (some ((⟨#[45]⟩ : ByteArray) ++ t168)) else (none)) = some r := H
   have A3 := Aside0.mk A30
   clear A30
   by_cases c4 : 1 + t168.size ≤ 9223372036854775807
   · rw [if_pos c4] at H
     have c4b0 := eq_true c4
     have c4b1 : decide (1 + t168.size ≤ 9223372036854775807) = true := decide_eq_true c4
     try have c4b2 : (9223372036854775807 < 1 + t168.size) = False := eq_false (Nat.not_lt.2 c4)
     obtain rfl := Option.some.inj H
     go_enter Tryd.func48, Tryd.ntmps48
     go_wp2_with (first | ((with_reducible refine gate_callee (f := 48) rfl ?_); refine goesL_ (some 8) rfl rfl Tryd.func48 (by kernel_rfl) rfl #[.int .i64 (wrap64 (-a0))] rfl (by (try simp only [List.map_toArray, List.map_cons, List.map_nil]); first | done | rfl | (simp only [List.length_drop, List.length_take]; rfl)) ?_; (with_reducible refine (ih k (by omega) (wrap64 (-a0)) t168 _ A3.out).mono ?_); rintro e w' ⟨rfl, ⟨nd, rfl⟩⟩; refine ⟨_, rfl, ?_⟩))
     go_ret
     exact ⟨by first | rfl | (simp; done) | (simp [*]; done), by repeat (first | exact Drawn0.refl _ | apply Drawn0.step)⟩
   · rw [if_neg c4] at H
     exact absurd H (by simp)
 · rw [if_neg c2] at H
   have c2b0 : decide (a0 < 0) = false := decide_eq_false c2
   clear c2
   obtain ⟨ji5, hji5⟩ : ∃ j_ : Int, (Int.tmod a0 10) = j_ := ⟨_, rfl⟩
   replace H : (if 0 ≤ (ji5) then (if (ji5) ≤ (wrap64 ((ji5) + 1)) then (if (wrap64 ((ji5) + 1)) ≤ 10 then (if a0 < 10 then (some ((⟨#[48, 49, 50, 51, 52, 53, 54, 55, 56, 57]⟩ : ByteArray).extract ((ji5) : Int).toNat ((wrap64 ((ji5) + 1)) : Int).toNat)) else ((ontimeref05_Decimal.f k (wrap64 (Int.tdiv a0 10))).bind fun t169 => (if t169.size + ((⟨#[48, 49, 50, 51, 52, 53, 54, 55, 56, 57]⟩ : ByteArray).extract ((ji5) : Int).toNat ((wrap64 ((ji5) + 1)) : Int).toNat).size ≤ 9223372036854775807 then (some (t169 ++ ((⟨#[48, 49, 50, 51, 52, 53, 54, 55, 56, 57]⟩ : ByteArray).extract ((ji5) : Int).toNat ((wrap64 ((ji5) + 1)) : Int).toNat))) else (none)))) else (none)) else (none)) else (none)) = some r := by first | (rw [hji5] at H; exact H) | (simp only [hji5] at H ⊢; exact H)
   by_cases c6 : 0 ≤ (ji5)
   · rw [if_pos c6] at H
     have c6b0 := eq_true c6
     have c6b1 : decide (0 ≤ (ji5)) = true := decide_eq_true c6
     clear c6
     by_cases c7 : (ji5) ≤ (wrap64 ((ji5) + 1))
     · rw [if_pos c7] at H
       have c7b0 := eq_true c7
       have c7b1 : decide ((ji5) ≤ (wrap64 ((ji5) + 1))) = true := decide_eq_true c7
       by_cases c8 : (wrap64 ((ji5) + 1)) ≤ 10
       · rw [if_pos c8] at H
         have c8b0 := eq_true c8
         have c8b1 : decide ((wrap64 ((ji5) + 1)) ≤ 10) = true := decide_eq_true c8
         by_cases c9 : a0 < 10
         · rw [if_pos c9] at H
           have c9b0 : decide (a0 < 10) = true := decide_eq_true c9
           clear c9
           obtain rfl := Option.some.inj H
           go_enter Tryd.func48, Tryd.ntmps48
           go_wp2
           go_ret
           exact ⟨by first | rfl | (simp; done) | (simp only [← hji5] <;> (first | rfl | simp)) | (simp [*]; done), by repeat (first | exact Drawn0.refl _ | apply Drawn0.step)⟩
         · rw [if_neg c9] at H
           have c9b0 : decide (a0 < 10) = false := decide_eq_false c9
           clear c9
           replace H := Option.bind_eq_some_iff.mp H
           obtain ⟨t169, A100, H⟩ := H
           replace H : (if t169.size + ((⟨#[48, 49, 50, 51, 52, 53, 54, 55, 56, 57]⟩ : ByteArray).extract ((ji5) : Int).toNat ((wrap64 ((ji5) + 1)) : Int).toNat).size ≤ 9223372036854775807 then (some (t169 ++ ((⟨#[48, 49, 50, 51, 52, 53, 54, 55, 56, 57]⟩ : ByteArray).extract ((ji5) : Int).toNat ((wrap64 ((ji5) + 1)) : Int).toNat))) else (none)) = some r := H
           have A10 := Aside0.mk A100
           clear A100
           by_cases c11 : t169.size + ((⟨#[48, 49, 50, 51, 52, 53, 54, 55, 56, 57]⟩ : ByteArray).extract ((ji5) : Int).toNat ((wrap64 ((ji5) + 1)) : Int).toNat).size ≤ 9223372036854775807
           · rw [if_pos c11] at H
             have c11b0 := eq_true c11
             have c11b1 : decide (t169.size + ((⟨#[48, 49, 50, 51, 52, 53, 54, 55, 56, 57]⟩ : ByteArray).extract ((ji5) : Int).toNat ((wrap64 ((ji5) + 1)) : Int).toNat).size ≤ 9223372036854775807) = true := decide_eq_true c11
             try have c11b2 : (9223372036854775807 < t169.size + ((⟨#[48, 49, 50, 51, 52, 53, 54, 55, 56, 57]⟩ : ByteArray).extract ((ji5) : Int).toNat ((wrap64 ((ji5) + 1)) : Int).toNat).size) = False := eq_false (Nat.not_lt.2 c11)
             obtain rfl := Option.some.inj H
             go_enter Tryd.func48, Tryd.ntmps48
             go_wp2_with (first | ((with_reducible refine gate_callee (f := 48) rfl ?_); refine goesL_ (some 21) rfl rfl Tryd.func48 (by kernel_rfl) rfl #[.int .i64 (wrap64 (Int.tdiv a0 10))] rfl (by (try simp only [List.map_toArray, List.map_cons, List.map_nil]); first | done | rfl | (simp only [List.length_drop, List.length_take]; rfl)) ?_; (with_reducible refine (ih k (by omega) (wrap64 (Int.tdiv a0 10)) t169 _ A10.out).mono ?_); rintro e w' ⟨rfl, ⟨nd, rfl⟩⟩; refine ⟨_, rfl, ?_⟩))
             go_ret
             exact ⟨by first | rfl | (simp; done) | (simp only [← hji5] <;> (first | rfl | simp)) | (simp [*]; done), by repeat (first | exact Drawn0.refl _ | apply Drawn0.step)⟩
           · rw [if_neg c11] at H
             exact absurd H (by simp)
       · rw [if_neg c8] at H
         exact absurd H (by simp)
     · rw [if_neg c7] at H
       exact absurd H (by simp)
   · rw [if_neg c6] at H
     exact absurd H (by simp)

end Go.Proofs.YtchlcncffillbaaDoor.P
