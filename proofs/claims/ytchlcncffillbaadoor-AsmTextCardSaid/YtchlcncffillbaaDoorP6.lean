-- Printed for this claim by a program (wip/pp/patch_print.py); Lean checks it.
import Derived.Test.YtchlcncffillbaaDoorP0
namespace Go.Proofs.YtchlcncffillbaaDoor.P
open Go.RowKit Go.Proofs.YtchlcncffillbaaDoorW.PrintWords Go.Proofs.YtchlcncffillbaaDoorW.PrintLast Go.Proofs.YtchlcncffillbaaDoorW.PrintMore
attribute [local go_sem] max2_int min2_int max_two min_two max_three min_three max_four min_four   -- for this text's walks alone
set_option linter.unusedVariables false
set_option linter.unusedSimpArgs false

/-! ### ontimeref04_Format: function 70 -/
mutual
def ontimeref04_Format.j0 : Nat → Int → Bool → Option (ByteArray × Int × Int × Bool)
 | 0, _, _ => none
 | k + 1, x0, x11 => if x11 = true then (some ((⟨#[65, 66, 67]⟩ : ByteArray), 1, 0, true)) else (if x0 = 0 then (ontimeref04_Format.j1 k x0 (x0 == 0)) else (ontimeref04_Format.j1 k x0 (x0 == 1)))
def ontimeref04_Format.j1 : Nat → Int → Bool → Option (ByteArray × Int × Int × Bool)
 | 0, _, _ => none
 | k + 1, x12, x13 => if x13 = true then (some ((⟨#[]⟩ : ByteArray), 1, 0, true)) else (if x12 = 14 then (some ((⟨#[65]⟩ : ByteArray), (-131072), 131071, true)) else (if x12 = 15 then (ontimeref04_Format.j2 k x12 (x12 == 15)) else (if x12 = 18 then (ontimeref04_Format.j2 k x12 (x12 == 18)) else (if x12 = 19 then (ontimeref04_Format.j2 k x12 (x12 == 19)) else (if x12 = 20 then (ontimeref04_Format.j2 k x12 (x12 == 20)) else (ontimeref04_Format.j2 k x12 (x12 == 21)))))))
def ontimeref04_Format.j2 : Nat → Int → Bool → Option (ByteArray × Int × Int × Bool)
 | 0, _, _ => none
 | k + 1, x12, x18 => if x18 = true then (some ((⟨#[65, 66]⟩ : ByteArray), (-131072), 131071, true)) else (if x12 = 16 then (some ((⟨#[65, 66]⟩ : ByteArray), 0, 31, true)) else (if x12 = 17 then (some ((⟨#[65, 66]⟩ : ByteArray), 0, 16383, true)) else (if x12 = 22 then (ontimeref04_Format.j3 k x12 (x12 == 22)) else (ontimeref04_Format.j3 k x12 (x12 == 23)))))
def ontimeref04_Format.j3 : Nat → Int → Bool → Option (ByteArray × Int × Int × Bool)
 | 0, _, _ => none
 | k + 1, x12, x28 => if x28 = true then (some ((⟨#[65]⟩ : ByteArray), (-131072), 131071, true)) else (if x12 = 24 then (some ((⟨#[]⟩ : ByteArray), (-131072), 131071, true)) else (if x12 = 25 then (some ((⟨#[65]⟩ : ByteArray), 1, 131071, true)) else (if x12 = 26 then (ontimeref04_Format.j4 k x12 (x12 == 26)) else (ontimeref04_Format.j4 k x12 (x12 == 27)))))
def ontimeref04_Format.j4 : Nat → Int → Bool → Option (ByteArray × Int × Int × Bool)
 | 0, _, _ => none
 | k + 1, x12, x35 => if x35 = true then (some ((⟨#[65]⟩ : ByteArray), 0, 7, true)) else (if x12 = 28 then (some ((⟨#[]⟩ : ByteArray), 0, 3, true)) else (if x12 = 29 then (some ((⟨#[]⟩ : ByteArray), 0, 3, true)) else (some ((⟨#[]⟩ : ByteArray), 1, 0, false))))
end
def ontimeref04_Format.f (k : Nat) (a0 : Int) : Option (ByteArray × Int × Int × Bool) := if a0 ≥ 2 then (ontimeref04_Format.j0 k a0 (decide (a0 ≤ 13))) else (ontimeref04_Format.j0 k a0 false)
theorem ontimeref04_Format.mono_l : ∀ k, (∀ y0 y1, LeO (ontimeref04_Format.j0 k y0 y1) (ontimeref04_Format.j0 (k + 1) y0 y1)) ∧ (∀ y0 y1, LeO (ontimeref04_Format.j1 k y0 y1) (ontimeref04_Format.j1 (k + 1) y0 y1)) ∧ (∀ y0 y1, LeO (ontimeref04_Format.j2 k y0 y1) (ontimeref04_Format.j2 (k + 1) y0 y1)) ∧ (∀ y0 y1, LeO (ontimeref04_Format.j3 k y0 y1) (ontimeref04_Format.j3 (k + 1) y0 y1)) ∧ (∀ y0 y1, LeO (ontimeref04_Format.j4 k y0 y1) (ontimeref04_Format.j4 (k + 1) y0 y1))
 | 0 => ⟨fun _ _ r h => by simp [ontimeref04_Format.j0] at h, fun _ _ r h => by simp [ontimeref04_Format.j1] at h, fun _ _ r h => by simp [ontimeref04_Format.j2] at h, fun _ _ r h => by simp [ontimeref04_Format.j3] at h, fun _ _ r h => by simp [ontimeref04_Format.j4] at h⟩
 | k + 1 => by
  obtain ⟨ih0, ih1, ih2, ih3, ih4⟩ := ontimeref04_Format.mono_l k
  refine ⟨?_, ?_, ?_, ?_, ?_⟩
  · intro y0 y1
    unfold ontimeref04_Format.j0
    repeat' first
    | (with_reducible exact ih0 _ _)
    | (with_reducible exact ih1 _ _)
    | (with_reducible exact ih2 _ _)
    | (with_reducible exact ih3 _ _)
    | (with_reducible exact ih4 _ _)
    | (with_reducible exact LeO.refl _)
    | (with_reducible exact LeO.none _)
    | (with_reducible refine LeO.ite ?_ ?_)
    | (with_reducible refine LeO.bind ?_ (fun _ => ?_))
    | exact ih0 _ _
    | exact ih1 _ _
    | exact ih2 _ _
    | exact ih3 _ _
    | exact ih4 _ _
    | exact LeO.none _
    | refine LeO.ite ?_ ?_
    | refine LeO.bind ?_ (fun _ => ?_)
  · intro y0 y1
    unfold ontimeref04_Format.j1
    repeat' first
    | (with_reducible exact ih0 _ _)
    | (with_reducible exact ih1 _ _)
    | (with_reducible exact ih2 _ _)
    | (with_reducible exact ih3 _ _)
    | (with_reducible exact ih4 _ _)
    | (with_reducible exact LeO.refl _)
    | (with_reducible exact LeO.none _)
    | (with_reducible refine LeO.ite ?_ ?_)
    | (with_reducible refine LeO.bind ?_ (fun _ => ?_))
    | exact ih0 _ _
    | exact ih1 _ _
    | exact ih2 _ _
    | exact ih3 _ _
    | exact ih4 _ _
    | exact LeO.none _
    | refine LeO.ite ?_ ?_
    | refine LeO.bind ?_ (fun _ => ?_)
  · intro y0 y1
    unfold ontimeref04_Format.j2
    repeat' first
    | (with_reducible exact ih0 _ _)
    | (with_reducible exact ih1 _ _)
    | (with_reducible exact ih2 _ _)
    | (with_reducible exact ih3 _ _)
    | (with_reducible exact ih4 _ _)
    | (with_reducible exact LeO.refl _)
    | (with_reducible exact LeO.none _)
    | (with_reducible refine LeO.ite ?_ ?_)
    | (with_reducible refine LeO.bind ?_ (fun _ => ?_))
    | exact ih0 _ _
    | exact ih1 _ _
    | exact ih2 _ _
    | exact ih3 _ _
    | exact ih4 _ _
    | exact LeO.none _
    | refine LeO.ite ?_ ?_
    | refine LeO.bind ?_ (fun _ => ?_)
  · intro y0 y1
    unfold ontimeref04_Format.j3
    repeat' first
    | (with_reducible exact ih0 _ _)
    | (with_reducible exact ih1 _ _)
    | (with_reducible exact ih2 _ _)
    | (with_reducible exact ih3 _ _)
    | (with_reducible exact ih4 _ _)
    | (with_reducible exact LeO.refl _)
    | (with_reducible exact LeO.none _)
    | (with_reducible refine LeO.ite ?_ ?_)
    | (with_reducible refine LeO.bind ?_ (fun _ => ?_))
    | exact ih0 _ _
    | exact ih1 _ _
    | exact ih2 _ _
    | exact ih3 _ _
    | exact ih4 _ _
    | exact LeO.none _
    | refine LeO.ite ?_ ?_
    | refine LeO.bind ?_ (fun _ => ?_)
  · intro y0 y1
    unfold ontimeref04_Format.j4
    repeat' first
    | (with_reducible exact ih0 _ _)
    | (with_reducible exact ih1 _ _)
    | (with_reducible exact ih2 _ _)
    | (with_reducible exact ih3 _ _)
    | (with_reducible exact ih4 _ _)
    | (with_reducible exact LeO.refl _)
    | (with_reducible exact LeO.none _)
    | (with_reducible refine LeO.ite ?_ ?_)
    | (with_reducible refine LeO.bind ?_ (fun _ => ?_))
    | exact ih0 _ _
    | exact ih1 _ _
    | exact ih2 _ _
    | exact ih3 _ _
    | exact ih4 _ _
    | exact LeO.none _
    | refine LeO.ite ?_ ?_
    | refine LeO.bind ?_ (fun _ => ?_)
theorem ontimeref04_Format.mono : ∀ a0 k, LeO (ontimeref04_Format.f k a0) (ontimeref04_Format.f (k + 1) a0) := by
 intro a0 k
 obtain ⟨ih0, ih1, ih2, ih3, ih4⟩ := ontimeref04_Format.mono_l k
 unfold ontimeref04_Format.f
 repeat' first
  | (with_reducible exact ih0 _ _)
  | (with_reducible exact ih1 _ _)
  | (with_reducible exact ih2 _ _)
  | (with_reducible exact ih3 _ _)
  | (with_reducible exact ih4 _ _)
  | (with_reducible exact LeO.refl _)
  | (with_reducible exact LeO.none _)
  | (with_reducible refine LeO.ite ?_ ?_)
  | (with_reducible refine LeO.bind ?_ (fun _ => ?_))
  | exact ih0 _ _
  | exact ih1 _ _
  | exact ih2 _ _
  | exact ih3 _ _
  | exact ih4 _ _
  | exact LeO.none _
  | refine LeO.ite ?_ ?_
  | refine LeO.bind ?_ (fun _ => ?_)
set_option maxHeartbeats 8000000 in
set_option maxRecDepth 100000 in
theorem ontimeref04_Format.calls (k : Nat) (a0 : Int) (r1 : ByteArray) (r2 : Int) (r3 : Int) (r4 : Bool) (w : World) (h : ontimeref04_Format.f k a0 = some (r1, r2, r3, r4)) :
 Calls Tryd.prog 70 #[.int .u8 a0] w fun e w' => e = .returned (.tuple #[.string r1, .int .i64 r2, .int .i64 r3, .bool r4]) ∧ Drawn0 w w' := by
 have H : (if a0 ≥ 2 then (ontimeref04_Format.j0 k a0 (decide (a0 ≤ 13))) else (ontimeref04_Format.j0 k a0 false)) = some (r1, r2, r3, r4) := h
 clear h
 have HC2 := Aside0.mk H
 clear H
 go_enter Tryd.func70, Tryd.ntmps70
 go_upto_region 1 with (fail)
 go_cut [11] (fun v11 wc => ∃ (kq : Nat) (x11_1 : Bool), v11 = .bool x11_1 ∧ Aside0 (ontimeref04_Format.j0 kq a0 x11_1 = some (r1, r2, r3, r4)) ∧ Aside0 (kq ≤ k) ∧ Drawn0 w wc)
 case first =>
  have H := HC2.out
  clear HC2
  by_cases c3 : a0 ≥ 2
  · rw [if_pos c3] at H
    have c3b0 : decide (2 ≤ a0) = true := decide_eq_true c3
    clear c3
    (first | rw [c3b0] | (simp only [i64_w, i32_w]; rw [c3b0]) | skip)
    have H' := Aside0.mk H
    clear H
    go_wp2
    go_meet
    case rel => exact ⟨_, (decide (a0 ≤ 13)), (by first | rfl | (simp; done) | (simp [*]; done)), H', ⟨by first | omega | exact Nat.le_refl _⟩, by repeat (first | exact Drawn0.refl _ | apply Drawn0.step)⟩
  · rw [if_neg c3] at H
    have c3b0 : decide (2 ≤ a0) = false := decide_eq_false c3
    clear c3
    (first | rw [c3b0] | (simp only [i64_w, i32_w]; rw [c3b0]) | skip)
    have H' := Aside0.mk H
    clear H
    go_wp2
    go_meet
    case rel => exact ⟨_, (false), (by first | rfl | (simp; done) | (simp [*]; done)), H', ⟨by first | omega | exact Nat.le_refl _⟩, by repeat (first | exact Drawn0.refl _ | apply Drawn0.step)⟩
 case rest =>
  clear HC2
  try clear p2
  try clear c3
  try clear c3b0
  obtain ⟨kq, x11_1, rfl, HA, HJ1, ⟨mc1, rfl⟩⟩ := hcut
  cases kq with
  | zero => exact absurd HA.out (by simp [ontimeref04_Format.j0])
  | succ kj1 =>
   have H := HA.out
   clear HA
   simp only [ontimeref04_Format.j0] at H
   by_cases c4 : x11_1 = true
   · subst c4
     have H1 : (some ((⟨#[65, 66, 67]⟩ : ByteArray), 1, 0, true)) = some (r1, r2, r3, r4) := by rw [if_pos rfl] at H; exact H
     clear H
     have H := H1
     clear H1
     simp only [Option.some.injEq, Prod.mk.injEq] at H
     obtain ⟨rfl, rfl, rfl, rfl⟩ := H
     go_wp2
     refine bodyPost_ret (results_list (rs := [.tmp 2, .tmp 3, .tmp 4, .tmp 5]) rfl (by simp) (.tmp (.tmp (.tmp (.tmp .nil))))) rfl ?_
     exact ⟨by first | rfl | (simp; done) | (simp [*]; done), by repeat (first | exact Drawn0.refl _ | apply Drawn0.step)⟩
   · replace c4 := Bool.eq_false_iff.mpr c4
     subst c4
     have H1 : (if a0 = 0 then (ontimeref04_Format.j1 kj1 a0 (a0 == 0)) else (ontimeref04_Format.j1 kj1 a0 (a0 == 1))) = some (r1, r2, r3, r4) := by rw [if_neg (show ¬ (false = true) by decide)] at H; exact H
     clear H
     have H := H1
     clear H1
     have HC5 := Aside0.mk H
     clear H
     go_upto_if 13 with (fail)
     go_cut [13] (fun v13 wc => ∃ (kq : Nat) (x13_4 : Bool), v13 = .bool x13_4 ∧ Aside0 (ontimeref04_Format.j1 kq a0 x13_4 = some (r1, r2, r3, r4)) ∧ Aside0 (kq ≤ kj1) ∧ Drawn0 w wc)
     case first =>
      have H := HC5.out
      clear HC5
      by_cases c6 : a0 = 0
      · rw [if_pos c6] at H
        have c6b0 : (a0 == 0) = true := beq_iff_eq.mpr c6
        have c6b1 : (a0 != 0) = false := bne_eq_false_iff_eq.mpr c6
        clear c6
        (first | rw [c6b0] | (simp only [i64_w, i32_w]; rw [c6b0]) | skip)
        have H' := Aside0.mk H
        clear H
        go_wp2
        go_meet
        case rel => exact ⟨_, ((a0 == 0)), (by first | rfl | (simp; done) | (simp [*]; done)), H', ⟨by have := HJ1.out; first | omega | exact Nat.le_refl _⟩, by repeat (first | exact Drawn0.refl _ | apply Drawn0.step)⟩
      · rw [if_neg c6] at H
        have c6b0 : (a0 == 0) = false := beq_eq_false_iff_ne.mpr c6
        have c6b1 : (a0 != 0) = true := bne_iff_ne.mpr c6
        (first | rw [c6b0] | (simp only [i64_w, i32_w]; rw [c6b0]) | skip)
        have H' := Aside0.mk H
        clear H
        go_wp2
        go_meet
        case rel => exact ⟨_, ((a0 == 1)), (by first | rfl | (simp; done) | (simp [*]; done)), H', ⟨by have := HJ1.out; first | omega | exact Nat.le_refl _⟩, by repeat (first | exact Drawn0.refl _ | apply Drawn0.step)⟩
     case rest =>
      clear HC5
      try clear c1
      try clear p2
      try clear c3
      try clear c3b0
      try clear c4
      try clear c6
      try clear c6b0
      try clear c6b1
      try clear p2
      obtain ⟨kq, x13_4, rfl, HA, HJ4, ⟨mc4, rfl⟩⟩ := hcut
      cases kq with
      | zero => exact absurd HA.out (by simp [ontimeref04_Format.j1])
      | succ kj4 =>
       have H := HA.out
       clear HA
       simp only [ontimeref04_Format.j1] at H
       by_cases c7 : x13_4 = true
       · subst c7
         have H1 : (some ((⟨#[]⟩ : ByteArray), 1, 0, true)) = some (r1, r2, r3, r4) := by rw [if_pos rfl] at H; exact H
         clear H
         have H := H1
         clear H1
         simp only [Option.some.injEq, Prod.mk.injEq] at H
         obtain ⟨rfl, rfl, rfl, rfl⟩ := H
         go_wp2
         refine bodyPost_ret (results_list (rs := [.tmp 2, .tmp 3, .tmp 4, .tmp 5]) rfl (by simp) (.tmp (.tmp (.tmp (.tmp .nil))))) rfl ?_
         exact ⟨by first | rfl | (simp; done) | (simp [*]; done), by repeat (first | exact Drawn0.refl _ | apply Drawn0.step)⟩
       · replace c7 := Bool.eq_false_iff.mpr c7
         subst c7
         have H1 : (if a0 = 14 then (some ((⟨#[65]⟩ : ByteArray), (-131072), 131071, true)) else (if a0 = 15 then (ontimeref04_Format.j2 kj4 a0 (a0 == 15)) else (if a0 = 18 then (ontimeref04_Format.j2 kj4 a0 (a0 == 18)) else (if a0 = 19 then (ontimeref04_Format.j2 kj4 a0 (a0 == 19)) else (if a0 = 20 then (ontimeref04_Format.j2 kj4 a0 (a0 == 20)) else (ontimeref04_Format.j2 kj4 a0 (a0 == 21))))))) = some (r1, r2, r3, r4) := by rw [if_neg (show ¬ (false = true) by decide)] at H; exact H
         clear H
         have H := H1
         clear H1
         by_cases c8 : a0 = 14
         · rw [if_pos c8] at H
           have c8b0 : (a0 == 14) = true := beq_iff_eq.mpr c8
           have c8b1 : (a0 != 14) = false := bne_eq_false_iff_eq.mpr c8
           clear c8
           simp only [Option.some.injEq, Prod.mk.injEq] at H
           obtain ⟨rfl, rfl, rfl, rfl⟩ := H
           go_wp2
           refine bodyPost_ret (results_list (rs := [.tmp 2, .tmp 3, .tmp 4, .tmp 5]) rfl (by simp) (.tmp (.tmp (.tmp (.tmp .nil))))) rfl ?_
           exact ⟨by first | rfl | (simp; done) | (simp [*]; done), by repeat (first | exact Drawn0.refl _ | apply Drawn0.step)⟩
         · rw [if_neg c8] at H
           have c8b0 : (a0 == 14) = false := beq_eq_false_iff_ne.mpr c8
           have c8b1 : (a0 != 14) = true := bne_iff_ne.mpr c8
           have HC9 := Aside0.mk H
           clear H
           go_upto_if 18 with (fail)
           go_cut [18] (fun v18 wc => ∃ (kq : Nat) (x18_8 : Bool), v18 = .bool x18_8 ∧ Aside0 (ontimeref04_Format.j2 kq a0 x18_8 = some (r1, r2, r3, r4)) ∧ Aside0 (kq ≤ kj4) ∧ Drawn0 w wc)
           case first =>
            have H := HC9.out
            clear HC9
            by_cases c10 : a0 = 15
            · rw [if_pos c10] at H
              have c10b0 : (a0 == 15) = true := beq_iff_eq.mpr c10
              have c10b1 : (a0 != 15) = false := bne_eq_false_iff_eq.mpr c10
              clear c10
              (first | rw [c10b0] | (simp only [i64_w, i32_w]; rw [c10b0]) | skip)
              have H' := Aside0.mk H
              clear H
              go_wp2
              go_meet
              case rel => exact ⟨_, ((a0 == 15)), (by first | rfl | (simp; done) | (simp [*]; done)), H', ⟨by have := HJ1.out; have := HJ4.out; first | omega | exact Nat.le_refl _⟩, by repeat (first | exact Drawn0.refl _ | apply Drawn0.step)⟩
            · rw [if_neg c10] at H
              have c10b0 : (a0 == 15) = false := beq_eq_false_iff_ne.mpr c10
              have c10b1 : (a0 != 15) = true := bne_iff_ne.mpr c10
              (first | rw [c10b0] | (simp only [i64_w, i32_w]; rw [c10b0]) | skip)
              by_cases c11 : a0 = 18
              · rw [if_pos c11] at H
                have c11b0 : (a0 == 18) = true := beq_iff_eq.mpr c11
                have c11b1 : (a0 != 18) = false := bne_eq_false_iff_eq.mpr c11
                clear c11
                have H' := Aside0.mk H
                clear H
                go_wp2
                go_meet
                case rel => exact ⟨_, ((a0 == 18)), (by first | rfl | (simp; done) | (simp [*]; done)), H', ⟨by have := HJ1.out; have := HJ4.out; first | omega | exact Nat.le_refl _⟩, by repeat (first | exact Drawn0.refl _ | apply Drawn0.step)⟩
              · rw [if_neg c11] at H
                have c11b0 : (a0 == 18) = false := beq_eq_false_iff_ne.mpr c11
                have c11b1 : (a0 != 18) = true := bne_iff_ne.mpr c11
                by_cases c12 : a0 = 19
                · rw [if_pos c12] at H
                  have c12b0 : (a0 == 19) = true := beq_iff_eq.mpr c12
                  have c12b1 : (a0 != 19) = false := bne_eq_false_iff_eq.mpr c12
                  clear c12
                  have H' := Aside0.mk H
                  clear H
                  go_wp2
                  go_meet
                  case rel => exact ⟨_, ((a0 == 19)), (by first | rfl | (simp; done) | (simp [*]; done)), H', ⟨by have := HJ1.out; have := HJ4.out; first | omega | exact Nat.le_refl _⟩, by repeat (first | exact Drawn0.refl _ | apply Drawn0.step)⟩
                · rw [if_neg c12] at H
                  have c12b0 : (a0 == 19) = false := beq_eq_false_iff_ne.mpr c12
                  have c12b1 : (a0 != 19) = true := bne_iff_ne.mpr c12
                  by_cases c13 : a0 = 20
                  · rw [if_pos c13] at H
                    have c13b0 : (a0 == 20) = true := beq_iff_eq.mpr c13
                    have c13b1 : (a0 != 20) = false := bne_eq_false_iff_eq.mpr c13
                    clear c13
                    have H' := Aside0.mk H
                    clear H
                    go_wp2
                    go_meet
                    case rel => exact ⟨_, ((a0 == 20)), (by first | rfl | (simp; done) | (simp [*]; done)), H', ⟨by have := HJ1.out; have := HJ4.out; first | omega | exact Nat.le_refl _⟩, by repeat (first | exact Drawn0.refl _ | apply Drawn0.step)⟩
                  · rw [if_neg c13] at H
                    have c13b0 : (a0 == 20) = false := beq_eq_false_iff_ne.mpr c13
                    have c13b1 : (a0 != 20) = true := bne_iff_ne.mpr c13
                    have H' := Aside0.mk H
                    clear H
                    go_wp2
                    go_meet
                    case rel => exact ⟨_, ((a0 == 21)), (by first | rfl | (simp; done) | (simp [*]; done)), H', ⟨by have := HJ1.out; have := HJ4.out; first | omega | exact Nat.le_refl _⟩, by repeat (first | exact Drawn0.refl _ | apply Drawn0.step)⟩
           case rest =>
            clear HC9
            try clear c1
            try clear p2
            try clear c3
            try clear c3b0
            try clear c4
            try clear c6
            try clear c6b0
            try clear c6b1
            try clear c7
            try clear c8
            try clear c8b0
            try clear c8b1
            try clear c10
            try clear c10b0
            try clear c10b1
            try clear c11
            try clear c11b0
            try clear c11b1
            try clear c12
            try clear c12b0
            try clear c12b1
            try clear c13
            try clear c13b0
            try clear c13b1
            try clear p2
            obtain ⟨kq, x18_8, rfl, HA, HJ8, ⟨mc8, rfl⟩⟩ := hcut
            cases kq with
            | zero => exact absurd HA.out (by simp [ontimeref04_Format.j2])
            | succ kj8 =>
             have H := HA.out
             clear HA
             simp only [ontimeref04_Format.j2] at H
             by_cases c14 : x18_8 = true
             · subst c14
               have H1 : (some ((⟨#[65, 66]⟩ : ByteArray), (-131072), 131071, true)) = some (r1, r2, r3, r4) := by rw [if_pos rfl] at H; exact H
               clear H
               have H := H1
               clear H1
               simp only [Option.some.injEq, Prod.mk.injEq] at H
               obtain ⟨rfl, rfl, rfl, rfl⟩ := H
               go_wp2
               refine bodyPost_ret (results_list (rs := [.tmp 2, .tmp 3, .tmp 4, .tmp 5]) rfl (by simp) (.tmp (.tmp (.tmp (.tmp .nil))))) rfl ?_
               exact ⟨by first | rfl | (simp; done) | (simp [*]; done), by repeat (first | exact Drawn0.refl _ | apply Drawn0.step)⟩
             · replace c14 := Bool.eq_false_iff.mpr c14
               subst c14
               have H1 : (if a0 = 16 then (some ((⟨#[65, 66]⟩ : ByteArray), 0, 31, true)) else (if a0 = 17 then (some ((⟨#[65, 66]⟩ : ByteArray), 0, 16383, true)) else (if a0 = 22 then (ontimeref04_Format.j3 kj8 a0 (a0 == 22)) else (ontimeref04_Format.j3 kj8 a0 (a0 == 23))))) = some (r1, r2, r3, r4) := by rw [if_neg (show ¬ (false = true) by decide)] at H; exact H
               clear H
               have H := H1
               clear H1
               by_cases c15 : a0 = 16
               · rw [if_pos c15] at H
                 have c15b0 : (a0 == 16) = true := beq_iff_eq.mpr c15
                 have c15b1 : (a0 != 16) = false := bne_eq_false_iff_eq.mpr c15
                 clear c15
                 simp only [Option.some.injEq, Prod.mk.injEq] at H
                 obtain ⟨rfl, rfl, rfl, rfl⟩ := H
                 go_wp2
                 refine bodyPost_ret (results_list (rs := [.tmp 2, .tmp 3, .tmp 4, .tmp 5]) rfl (by simp) (.tmp (.tmp (.tmp (.tmp .nil))))) rfl ?_
                 exact ⟨by first | rfl | (simp; done) | (simp [*]; done), by repeat (first | exact Drawn0.refl _ | apply Drawn0.step)⟩
               · rw [if_neg c15] at H
                 have c15b0 : (a0 == 16) = false := beq_eq_false_iff_ne.mpr c15
                 have c15b1 : (a0 != 16) = true := bne_iff_ne.mpr c15
                 by_cases c16 : a0 = 17
                 · rw [if_pos c16] at H
                   have c16b0 : (a0 == 17) = true := beq_iff_eq.mpr c16
                   have c16b1 : (a0 != 17) = false := bne_eq_false_iff_eq.mpr c16
                   clear c16
                   simp only [Option.some.injEq, Prod.mk.injEq] at H
                   obtain ⟨rfl, rfl, rfl, rfl⟩ := H
                   go_wp2
                   refine bodyPost_ret (results_list (rs := [.tmp 2, .tmp 3, .tmp 4, .tmp 5]) rfl (by simp) (.tmp (.tmp (.tmp (.tmp .nil))))) rfl ?_
                   exact ⟨by first | rfl | (simp; done) | (simp [*]; done), by repeat (first | exact Drawn0.refl _ | apply Drawn0.step)⟩
                 · rw [if_neg c16] at H
                   have c16b0 : (a0 == 17) = false := beq_eq_false_iff_ne.mpr c16
                   have c16b1 : (a0 != 17) = true := bne_iff_ne.mpr c16
                   have HC17 := Aside0.mk H
                   clear H
                   go_upto_if 28 with (fail)
                   go_cut [28] (fun v28 wc => ∃ (kq : Nat) (x28_16 : Bool), v28 = .bool x28_16 ∧ Aside0 (ontimeref04_Format.j3 kq a0 x28_16 = some (r1, r2, r3, r4)) ∧ Aside0 (kq ≤ kj8) ∧ Drawn0 w wc)
                   case first =>
                    have H := HC17.out
                    clear HC17
                    by_cases c18 : a0 = 22
                    · rw [if_pos c18] at H
                      have c18b0 : (a0 == 22) = true := beq_iff_eq.mpr c18
                      have c18b1 : (a0 != 22) = false := bne_eq_false_iff_eq.mpr c18
                      clear c18
                      (first | rw [c18b0] | (simp only [i64_w, i32_w]; rw [c18b0]) | skip)
                      have H' := Aside0.mk H
                      clear H
                      go_wp2
                      go_meet
                      case rel => exact ⟨_, ((a0 == 22)), (by first | rfl | (simp; done) | (simp [*]; done)), H', ⟨by have := HJ1.out; have := HJ4.out; have := HJ8.out; first | omega | exact Nat.le_refl _⟩, by repeat (first | exact Drawn0.refl _ | apply Drawn0.step)⟩
                    · rw [if_neg c18] at H
                      have c18b0 : (a0 == 22) = false := beq_eq_false_iff_ne.mpr c18
                      have c18b1 : (a0 != 22) = true := bne_iff_ne.mpr c18
                      (first | rw [c18b0] | (simp only [i64_w, i32_w]; rw [c18b0]) | skip)
                      have H' := Aside0.mk H
                      clear H
                      go_wp2
                      go_meet
                      case rel => exact ⟨_, ((a0 == 23)), (by first | rfl | (simp; done) | (simp [*]; done)), H', ⟨by have := HJ1.out; have := HJ4.out; have := HJ8.out; first | omega | exact Nat.le_refl _⟩, by repeat (first | exact Drawn0.refl _ | apply Drawn0.step)⟩
                   case rest =>
                    clear HC17
                    try clear c1
                    try clear p2
                    try clear c3
                    try clear c3b0
                    try clear c4
                    try clear c6
                    try clear c6b0
                    try clear c6b1
                    try clear c7
                    try clear c8
                    try clear c8b0
                    try clear c8b1
                    try clear c10
                    try clear c10b0
                    try clear c10b1
                    try clear c11
                    try clear c11b0
                    try clear c11b1
                    try clear c12
                    try clear c12b0
                    try clear c12b1
                    try clear c13
                    try clear c13b0
                    try clear c13b1
                    try clear c14
                    try clear c15
                    try clear c15b0
                    try clear c15b1
                    try clear c16
                    try clear c16b0
                    try clear c16b1
                    try clear c18
                    try clear c18b0
                    try clear c18b1
                    try clear p2
                    obtain ⟨kq, x28_16, rfl, HA, HJ16, ⟨mc16, rfl⟩⟩ := hcut
                    cases kq with
                    | zero => exact absurd HA.out (by simp [ontimeref04_Format.j3])
                    | succ kj16 =>
                     have H := HA.out
                     clear HA
                     simp only [ontimeref04_Format.j3] at H
                     by_cases c19 : x28_16 = true
                     · subst c19
                       have H1 : (some ((⟨#[65]⟩ : ByteArray), (-131072), 131071, true)) = some (r1, r2, r3, r4) := by rw [if_pos rfl] at H; exact H
                       clear H
                       have H := H1
                       clear H1
                       simp only [Option.some.injEq, Prod.mk.injEq] at H
                       obtain ⟨rfl, rfl, rfl, rfl⟩ := H
                       go_wp2
                       refine bodyPost_ret (results_list (rs := [.tmp 2, .tmp 3, .tmp 4, .tmp 5]) rfl (by simp) (.tmp (.tmp (.tmp (.tmp .nil))))) rfl ?_
                       exact ⟨by first | rfl | (simp; done) | (simp [*]; done), by repeat (first | exact Drawn0.refl _ | apply Drawn0.step)⟩
                     · replace c19 := Bool.eq_false_iff.mpr c19
                       subst c19
                       have H1 : (if a0 = 24 then (some ((⟨#[]⟩ : ByteArray), (-131072), 131071, true)) else (if a0 = 25 then (some ((⟨#[65]⟩ : ByteArray), 1, 131071, true)) else (if a0 = 26 then (ontimeref04_Format.j4 kj16 a0 (a0 == 26)) else (ontimeref04_Format.j4 kj16 a0 (a0 == 27))))) = some (r1, r2, r3, r4) := by rw [if_neg (show ¬ (false = true) by decide)] at H; exact H
                       clear H
                       have H := H1
                       clear H1
                       by_cases c20 : a0 = 24
                       · rw [if_pos c20] at H
                         have c20b0 : (a0 == 24) = true := beq_iff_eq.mpr c20
                         have c20b1 : (a0 != 24) = false := bne_eq_false_iff_eq.mpr c20
                         clear c20
                         simp only [Option.some.injEq, Prod.mk.injEq] at H
                         obtain ⟨rfl, rfl, rfl, rfl⟩ := H
                         go_wp2
                         refine bodyPost_ret (results_list (rs := [.tmp 2, .tmp 3, .tmp 4, .tmp 5]) rfl (by simp) (.tmp (.tmp (.tmp (.tmp .nil))))) rfl ?_
                         exact ⟨by first | rfl | (simp; done) | (simp [*]; done), by repeat (first | exact Drawn0.refl _ | apply Drawn0.step)⟩
                       · rw [if_neg c20] at H
                         have c20b0 : (a0 == 24) = false := beq_eq_false_iff_ne.mpr c20
                         have c20b1 : (a0 != 24) = true := bne_iff_ne.mpr c20
                         by_cases c21 : a0 = 25
                         · rw [if_pos c21] at H
                           have c21b0 : (a0 == 25) = true := beq_iff_eq.mpr c21
                           have c21b1 : (a0 != 25) = false := bne_eq_false_iff_eq.mpr c21
                           clear c21
                           simp only [Option.some.injEq, Prod.mk.injEq] at H
                           obtain ⟨rfl, rfl, rfl, rfl⟩ := H
                           go_wp2
                           refine bodyPost_ret (results_list (rs := [.tmp 2, .tmp 3, .tmp 4, .tmp 5]) rfl (by simp) (.tmp (.tmp (.tmp (.tmp .nil))))) rfl ?_
                           exact ⟨by first | rfl | (simp; done) | (simp [*]; done), by repeat (first | exact Drawn0.refl _ | apply Drawn0.step)⟩
                         · rw [if_neg c21] at H
                           have c21b0 : (a0 == 25) = false := beq_eq_false_iff_ne.mpr c21
                           have c21b1 : (a0 != 25) = true := bne_iff_ne.mpr c21
                           have HC22 := Aside0.mk H
                           clear H
                           go_upto_if 35 with (fail)
                           go_cut [35] (fun v35 wc => ∃ (kq : Nat) (x35_21 : Bool), v35 = .bool x35_21 ∧ Aside0 (ontimeref04_Format.j4 kq a0 x35_21 = some (r1, r2, r3, r4)) ∧ Aside0 (kq ≤ kj16) ∧ Drawn0 w wc)
                           case first =>
                            have H := HC22.out
                            clear HC22
                            by_cases c23 : a0 = 26
                            · rw [if_pos c23] at H
                              have c23b0 : (a0 == 26) = true := beq_iff_eq.mpr c23
                              have c23b1 : (a0 != 26) = false := bne_eq_false_iff_eq.mpr c23
                              clear c23
                              (first | rw [c23b0] | (simp only [i64_w, i32_w]; rw [c23b0]) | skip)
                              have H' := Aside0.mk H
                              clear H
                              go_wp2
                              go_meet
                              case rel => exact ⟨_, ((a0 == 26)), (by first | rfl | (simp; done) | (simp [*]; done)), H', ⟨by have := HJ1.out; have := HJ4.out; have := HJ8.out; have := HJ16.out; first | omega | exact Nat.le_refl _⟩, by repeat (first | exact Drawn0.refl _ | apply Drawn0.step)⟩
                            · rw [if_neg c23] at H
                              have c23b0 : (a0 == 26) = false := beq_eq_false_iff_ne.mpr c23
                              have c23b1 : (a0 != 26) = true := bne_iff_ne.mpr c23
                              (first | rw [c23b0] | (simp only [i64_w, i32_w]; rw [c23b0]) | skip)
                              have H' := Aside0.mk H
                              clear H
                              go_wp2
                              go_meet
                              case rel => exact ⟨_, ((a0 == 27)), (by first | rfl | (simp; done) | (simp [*]; done)), H', ⟨by have := HJ1.out; have := HJ4.out; have := HJ8.out; have := HJ16.out; first | omega | exact Nat.le_refl _⟩, by repeat (first | exact Drawn0.refl _ | apply Drawn0.step)⟩
                           case rest =>
                            clear HC22
                            try clear c1
                            try clear c2
                            try clear p2
                            try clear c3
                            try clear c3b0
                            try clear c4
                            try clear c6
                            try clear c6b0
                            try clear c6b1
                            try clear c7
                            try clear c8
                            try clear c8b0
                            try clear c8b1
                            try clear c10
                            try clear c10b0
                            try clear c10b1
                            try clear c11
                            try clear c11b0
                            try clear c11b1
                            try clear c12
                            try clear c12b0
                            try clear c12b1
                            try clear c13
                            try clear c13b0
                            try clear c13b1
                            try clear c14
                            try clear c15
                            try clear c15b0
                            try clear c15b1
                            try clear c16
                            try clear c16b0
                            try clear c16b1
                            try clear c18
                            try clear c18b0
                            try clear c18b1
                            try clear c19
                            try clear c20
                            try clear c20b0
                            try clear c20b1
                            try clear c21
                            try clear c21b0
                            try clear c21b1
                            try clear c23
                            try clear c23b0
                            try clear c23b1
                            try clear p2
                            obtain ⟨kq, x35_21, rfl, HA, HJ21, ⟨mc21, rfl⟩⟩ := hcut
                            cases kq with
                            | zero => exact absurd HA.out (by simp [ontimeref04_Format.j4])
                            | succ kj21 =>
                             have H := HA.out
                             clear HA
                             simp only [ontimeref04_Format.j4] at H
                             by_cases c24 : x35_21 = true
                             · subst c24
                               have H1 : (some ((⟨#[65]⟩ : ByteArray), 0, 7, true)) = some (r1, r2, r3, r4) := by rw [if_pos rfl] at H; exact H
                               clear H
                               have H := H1
                               clear H1
                               simp only [Option.some.injEq, Prod.mk.injEq] at H
                               obtain ⟨rfl, rfl, rfl, rfl⟩ := H
                               go_wp2
                               refine bodyPost_ret (results_list (rs := [.tmp 2, .tmp 3, .tmp 4, .tmp 5]) rfl (by simp) (.tmp (.tmp (.tmp (.tmp .nil))))) rfl ?_
                               exact ⟨by first | rfl | (simp; done) | (simp [*]; done), by repeat (first | exact Drawn0.refl _ | apply Drawn0.step)⟩
                             · replace c24 := Bool.eq_false_iff.mpr c24
                               subst c24
                               have H1 : (if a0 = 28 then (some ((⟨#[]⟩ : ByteArray), 0, 3, true)) else (if a0 = 29 then (some ((⟨#[]⟩ : ByteArray), 0, 3, true)) else (some ((⟨#[]⟩ : ByteArray), 1, 0, false)))) = some (r1, r2, r3, r4) := by rw [if_neg (show ¬ (false = true) by decide)] at H; exact H
                               clear H
                               have H := H1
                               clear H1
                               by_cases c25 : a0 = 28
                               · rw [if_pos c25] at H
                                 have c25b0 : (a0 == 28) = true := beq_iff_eq.mpr c25
                                 have c25b1 : (a0 != 28) = false := bne_eq_false_iff_eq.mpr c25
                                 clear c25
                                 simp only [Option.some.injEq, Prod.mk.injEq] at H
                                 obtain ⟨rfl, rfl, rfl, rfl⟩ := H
                                 go_wp2
                                 refine bodyPost_ret (results_list (rs := [.tmp 2, .tmp 3, .tmp 4, .tmp 5]) rfl (by simp) (.tmp (.tmp (.tmp (.tmp .nil))))) rfl ?_
                                 exact ⟨by first | rfl | (simp; done) | (simp [*]; done), by repeat (first | exact Drawn0.refl _ | apply Drawn0.step)⟩
                               · rw [if_neg c25] at H
                                 have c25b0 : (a0 == 28) = false := beq_eq_false_iff_ne.mpr c25
                                 have c25b1 : (a0 != 28) = true := bne_iff_ne.mpr c25
                                 by_cases c26 : a0 = 29
                                 · rw [if_pos c26] at H
                                   have c26b0 : (a0 == 29) = true := beq_iff_eq.mpr c26
                                   have c26b1 : (a0 != 29) = false := bne_eq_false_iff_eq.mpr c26
                                   clear c26
                                   simp only [Option.some.injEq, Prod.mk.injEq] at H
                                   obtain ⟨rfl, rfl, rfl, rfl⟩ := H
                                   go_wp2
                                   refine bodyPost_ret (results_list (rs := [.tmp 2, .tmp 3, .tmp 4, .tmp 5]) rfl (by simp) (.tmp (.tmp (.tmp (.tmp .nil))))) rfl ?_
                                   exact ⟨by first | rfl | (simp; done) | (simp [*]; done), by repeat (first | exact Drawn0.refl _ | apply Drawn0.step)⟩
                                 · rw [if_neg c26] at H
                                   have c26b0 : (a0 == 29) = false := beq_eq_false_iff_ne.mpr c26
                                   have c26b1 : (a0 != 29) = true := bne_iff_ne.mpr c26
                                   simp only [Option.some.injEq, Prod.mk.injEq] at H
                                   obtain ⟨rfl, rfl, rfl, rfl⟩ := H
                                   go_wp2
                                   refine bodyPost_ret (results_list (rs := [.tmp 2, .tmp 3, .tmp 4, .tmp 5]) rfl (by simp) (.tmp (.tmp (.tmp (.tmp .nil))))) rfl ?_
                                   exact ⟨by first | rfl | (simp; done) | (simp [*]; done), by repeat (first | exact Drawn0.refl _ | apply Drawn0.step)⟩

/-! ### ontimeref04_reg: function 71 -/
def ontimeref04_reg.f (a0 : Int) (a1 : Bool) : Option (Bool) := if a1 = true then (if a0 ≥ 0 then (some (decide (a0 < 16))) else (some false)) else (some (a0 == 0))
set_option maxHeartbeats 8000000 in
set_option maxRecDepth 100000 in
theorem ontimeref04_reg.calls (a0 : Int) (a1 : Bool) (r : Bool) (w : World) (h : ontimeref04_reg.f a0 a1 = some r) :
 Calls Tryd.prog 71 #[.int .i64 a0, .bool a1] w fun e w' => e = .returned (.bool r) ∧ Drawn0 w w' := by
 have H : (if a1 = true then (if a0 ≥ 0 then (some (decide (a0 < 16))) else (some false)) else (some (a0 == 0))) = some r := h
 clear h
 by_cases c3 : a1 = true
 · subst c3
   have H1 : (if a0 ≥ 0 then (some (decide (a0 < 16))) else (some false)) = some r := by rw [if_pos rfl] at H; exact H
   clear H
   have H := H1
   clear H1
   by_cases c4 : a0 ≥ 0
   · rw [if_pos c4] at H
     have c4b0 : decide (0 ≤ a0) = true := decide_eq_true c4
     clear c4
     obtain rfl := Option.some.inj H
     go_enter Tryd.func71, Tryd.ntmps71
     go_wp2
     go_ret
     exact ⟨by first | rfl | (simp; done) | (simp [*]; done), by repeat (first | exact Drawn0.refl _ | apply Drawn0.step)⟩
   · rw [if_neg c4] at H
     have c4b0 : decide (0 ≤ a0) = false := decide_eq_false c4
     clear c4
     obtain rfl := Option.some.inj H
     go_enter Tryd.func71, Tryd.ntmps71
     go_wp2
     go_ret
     exact ⟨by first | rfl | (simp; done) | (simp [*]; done), by repeat (first | exact Drawn0.refl _ | apply Drawn0.step)⟩
 · replace c3 := Bool.eq_false_iff.mpr c3
   subst c3
   have H1 : (some (a0 == 0)) = some r := by rw [if_neg (show ¬ (false = true) by decide)] at H; exact H
   clear H
   have H := H1
   clear H1
   obtain rfl := Option.some.inj H
   go_enter Tryd.func71, Tryd.ntmps71
   go_wp2
   go_ret
   exact ⟨by first | rfl | (simp; done) | (simp [*]; done), by repeat (first | exact Drawn0.refl _ | apply Drawn0.step)⟩

end Go.Proofs.YtchlcncffillbaaDoor.P
