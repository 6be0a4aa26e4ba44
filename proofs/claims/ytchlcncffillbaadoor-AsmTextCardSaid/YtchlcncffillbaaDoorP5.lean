-- Printed for this claim by a program (wip/pp/patch_print.py); Lean checks it.
import Derived.Test.YtchlcncffillbaaDoorP0
import Derived.Test.YtchlcncffillbaaDoorP3
namespace Go.Proofs.YtchlcncffillbaaDoor.P
open Go.RowKit Go.Proofs.YtchlcncffillbaaDoorW.PrintWords Go.Proofs.YtchlcncffillbaaDoorW.PrintLast Go.Proofs.YtchlcncffillbaaDoorW.PrintMore
attribute [local go_sem] max2_int min2_int max_two min_two max_three min_three max_four min_four   -- for this text's walks alone
set_option linter.unusedVariables false
set_option linter.unusedSimpArgs false

/-! ### ontimeref05_number: function 55 -/
mutual
def ontimeref05_number.j0 : Nat → ByteArray → Int → Int → Bool → Option (Int × Bool)
 | 0, _, _, _, _ => none
 | k + 1, x0, x4, x5, x15 => if x15 = true then (ontimeref05_number.j1 k x0 1 (-1)) else (ontimeref05_number.j1 k x0 x4 x5)
def ontimeref05_number.j1 : Nat → ByteArray → Int → Int → Option (Int × Bool)
 | 0, _, _, _ => none
 | k + 1, x0, x4, x5 => if (x0.size : Int) = x4 then (ontimeref05_number.j2 k x0 x4 x5 true) else (ontimeref05_number.j2 k x0 x4 x5 (decide ((x0.size : Int) > 8)))
def ontimeref05_number.j2 : Nat → ByteArray → Int → Int → Bool → Option (Int × Bool)
 | 0, _, _, _, _ => none
 | k + 1, x0, x4, x5, x24 => if x24 = true then (some (0, false)) else (ontimeref05_number.l0 k x0 x5 0 x4)
def ontimeref05_number.l0 : Nat → ByteArray → Int → Int → Int → Option (Int × Bool)
 | 0, _, _, _, _ => none
 | k + 1, x0, x5, x6, x7 => if x7 < (x0.size : Int) then (if 0 ≤ x7 then (if (bt x0 x7) < 48 then (some (0, false)) else (if (bt x0 x7) > 57 then (some (0, false)) else (ontimeref05_number.l0 k x0 x5 (wrap64 ((wrap64 (10 * x6)) + (((bt x0 x7) - 48) % 256))) (wrap64 (x7 + 1))))) else (none)) else ((ontimeref05_Decimal.f k (wrap64 (x5 * x6))).bind fun t190 => (some (wrap64 (x5 * x6), (t190.toList == x0.toList))))
end
def ontimeref05_number.f (k : Nat) (a0 : ByteArray) : Option (Int × Bool) := if (a0.size : Int) > 0 then (if 0 < (a0.size : Int) then (ontimeref05_number.j0 k a0 0 1 ((bt a0 0) == 45)) else (none)) else (ontimeref05_number.j0 k a0 0 1 false)
theorem ontimeref05_number.mono_l : ∀ k, (∀ y0 y1 y2 y3, LeO (ontimeref05_number.j0 k y0 y1 y2 y3) (ontimeref05_number.j0 (k + 1) y0 y1 y2 y3)) ∧ (∀ y0 y1 y2, LeO (ontimeref05_number.j1 k y0 y1 y2) (ontimeref05_number.j1 (k + 1) y0 y1 y2)) ∧ (∀ y0 y1 y2 y3, LeO (ontimeref05_number.j2 k y0 y1 y2 y3) (ontimeref05_number.j2 (k + 1) y0 y1 y2 y3)) ∧ (∀ y0 y1 y2 y3, LeO (ontimeref05_number.l0 k y0 y1 y2 y3) (ontimeref05_number.l0 (k + 1) y0 y1 y2 y3))
 | 0 => ⟨fun _ _ _ _ r h => by simp [ontimeref05_number.j0] at h, fun _ _ _ r h => by simp [ontimeref05_number.j1] at h, fun _ _ _ _ r h => by simp [ontimeref05_number.j2] at h, fun _ _ _ _ r h => by simp [ontimeref05_number.l0] at h⟩
 | k + 1 => by
  obtain ⟨ih0, ih1, ih2, ih3⟩ := ontimeref05_number.mono_l k
  refine ⟨?_, ?_, ?_, ?_⟩
  · intro y0 y1 y2 y3
    unfold ontimeref05_number.j0
    repeat' first
    | (with_reducible exact ih0 _ _ _ _)
    | (with_reducible exact ih1 _ _ _)
    | (with_reducible exact ih2 _ _ _ _)
    | (with_reducible exact ih3 _ _ _ _)
    | (with_reducible exact ontimeref05_Decimal.mono _ _)
    | (with_reducible exact LeO.refl _)
    | (with_reducible exact LeO.none _)
    | (with_reducible refine LeO.ite ?_ ?_)
    | (with_reducible refine LeO.bind ?_ (fun _ => ?_))
    | exact ih0 _ _ _ _
    | exact ih1 _ _ _
    | exact ih2 _ _ _ _
    | exact ih3 _ _ _ _
    | exact ontimeref05_Decimal.mono _ _
    | exact LeO.none _
    | refine LeO.ite ?_ ?_
    | refine LeO.bind ?_ (fun _ => ?_)
  · intro y0 y1 y2
    unfold ontimeref05_number.j1
    repeat' first
    | (with_reducible exact ih0 _ _ _ _)
    | (with_reducible exact ih1 _ _ _)
    | (with_reducible exact ih2 _ _ _ _)
    | (with_reducible exact ih3 _ _ _ _)
    | (with_reducible exact ontimeref05_Decimal.mono _ _)
    | (with_reducible exact LeO.refl _)
    | (with_reducible exact LeO.none _)
    | (with_reducible refine LeO.ite ?_ ?_)
    | (with_reducible refine LeO.bind ?_ (fun _ => ?_))
    | exact ih0 _ _ _ _
    | exact ih1 _ _ _
    | exact ih2 _ _ _ _
    | exact ih3 _ _ _ _
    | exact ontimeref05_Decimal.mono _ _
    | exact LeO.none _
    | refine LeO.ite ?_ ?_
    | refine LeO.bind ?_ (fun _ => ?_)
  · intro y0 y1 y2 y3
    unfold ontimeref05_number.j2
    repeat' first
    | (with_reducible exact ih0 _ _ _ _)
    | (with_reducible exact ih1 _ _ _)
    | (with_reducible exact ih2 _ _ _ _)
    | (with_reducible exact ih3 _ _ _ _)
    | (with_reducible exact ontimeref05_Decimal.mono _ _)
    | (with_reducible exact LeO.refl _)
    | (with_reducible exact LeO.none _)
    | (with_reducible refine LeO.ite ?_ ?_)
    | (with_reducible refine LeO.bind ?_ (fun _ => ?_))
    | exact ih0 _ _ _ _
    | exact ih1 _ _ _
    | exact ih2 _ _ _ _
    | exact ih3 _ _ _ _
    | exact ontimeref05_Decimal.mono _ _
    | exact LeO.none _
    | refine LeO.ite ?_ ?_
    | refine LeO.bind ?_ (fun _ => ?_)
  · intro y0 y1 y2 y3
    unfold ontimeref05_number.l0
    repeat' first
    | (with_reducible exact ih0 _ _ _ _)
    | (with_reducible exact ih1 _ _ _)
    | (with_reducible exact ih2 _ _ _ _)
    | (with_reducible exact ih3 _ _ _ _)
    | (with_reducible exact ontimeref05_Decimal.mono _ _)
    | (with_reducible exact LeO.refl _)
    | (with_reducible exact LeO.none _)
    | (with_reducible refine LeO.ite ?_ ?_)
    | (with_reducible refine LeO.bind ?_ (fun _ => ?_))
    | exact ih0 _ _ _ _
    | exact ih1 _ _ _
    | exact ih2 _ _ _ _
    | exact ih3 _ _ _ _
    | exact ontimeref05_Decimal.mono _ _
    | exact LeO.none _
    | refine LeO.ite ?_ ?_
    | refine LeO.bind ?_ (fun _ => ?_)
theorem ontimeref05_number.mono : ∀ a0 k, LeO (ontimeref05_number.f k a0) (ontimeref05_number.f (k + 1) a0) := by
 intro a0 k
 obtain ⟨ih0, ih1, ih2, ih3⟩ := ontimeref05_number.mono_l k
 unfold ontimeref05_number.f
 repeat' first
  | (with_reducible exact ih0 _ _ _ _)
  | (with_reducible exact ih1 _ _ _)
  | (with_reducible exact ih2 _ _ _ _)
  | (with_reducible exact ih3 _ _ _ _)
  | (with_reducible exact ontimeref05_Decimal.mono _ _)
  | (with_reducible exact LeO.refl _)
  | (with_reducible exact LeO.none _)
  | (with_reducible refine LeO.ite ?_ ?_)
  | (with_reducible refine LeO.bind ?_ (fun _ => ?_))
  | exact ih0 _ _ _ _
  | exact ih1 _ _ _
  | exact ih2 _ _ _ _
  | exact ih3 _ _ _ _
  | exact ontimeref05_Decimal.mono _ _
  | exact LeO.none _
  | refine LeO.ite ?_ ?_
  | refine LeO.bind ?_ (fun _ => ?_)
set_option maxHeartbeats 8000000 in
set_option maxRecDepth 100000 in
theorem ontimeref05_number.calls (k : Nat) (a0 : ByteArray) (r1 : Int) (r2 : Bool) (w : World) (h : ontimeref05_number.f k a0 = some (r1, r2)) :
 Calls Tryd.prog 55 #[.string a0] w fun e w' => e = .returned (.tuple #[.int .i64 r1, .bool r2]) ∧ Drawn0 w w' := by
 have H : (if (a0.size : Int) > 0 then (if 0 < (a0.size : Int) then (ontimeref05_number.j0 k a0 0 1 ((bt a0 0) == 45)) else (none)) else (ontimeref05_number.j0 k a0 0 1 false)) = some (r1, r2) := h
 clear h
 have HC2 := Aside0.mk H
 clear H
 go_enter Tryd.func55, Tryd.ntmps55
 go_upto_region 2 with (fail)
 go_cut [15] (fun v15 wc => ∃ (kq : Nat) (x15_1 : Bool), v15 = .bool x15_1 ∧ Aside0 (ontimeref05_number.j0 kq a0 0 1 x15_1 = some (r1, r2)) ∧ Aside0 (kq ≤ k) ∧ Drawn0 w wc)
 case first =>
  have H := HC2.out
  clear HC2
  by_cases c3 : (a0.size : Int) > 0
  · rw [if_pos c3] at H
    have c3b0 : decide (0 < (a0.size : Int)) = true := decide_eq_true c3
    have c3b1 : decide (0 < a0.size) = true := decide_eq_true (by omega)
    clear c3
    (first | rw [c3b0] | (simp only [i64_w, i32_w]; rw [c3b0]) | skip)
    by_cases c4 : 0 < (a0.size : Int)
    · rw [if_pos c4] at H
      have c4b0 : decide (0 < (a0.size : Int)) = true := decide_eq_true c4
      have c4b1 : decide (0 < a0.size) = true := decide_eq_true (by omega)
      clear c4
      have H' := Aside0.mk H
      clear H
      have p5 : 0 ≤ (0 : Int) := (by omega)
      have q5 : 0 < a0.size := (by have : (0 : Int) < (a0.size : Int) := of_decide_eq_true (by first | (with_reducible assumption) | assumption); omega)
      have hx5 : ∀ h : 0 < a0.size, ((a0[0]'h).toNat : Int) = bt a0 0 := bt_at a0 0
      clear p5
      have qi5 : (0 < (a0.size : Int)) = True := eq_true (of_decide_eq_true (by first | (with_reducible assumption) | assumption))
      replace q5 := eq_true q5
      go_wp2
      go_meet
      case rel => exact ⟨_, (((bt a0 0) == 45)), (by first | rfl | (simp; done) | (simp [*]; done)), H', ⟨by first | omega | exact Nat.le_refl _⟩, by repeat (first | exact Drawn0.refl _ | apply Drawn0.step)⟩
    · rw [if_neg c4] at H
      exact absurd H (by simp)
  · rw [if_neg c3] at H
    have c3b0 : decide (0 < (a0.size : Int)) = false := decide_eq_false c3
    have c3b1 : decide (0 < a0.size) = false := decide_eq_false (by omega)
    clear c3
    (first | rw [c3b0] | (simp only [i64_w, i32_w]; rw [c3b0]) | skip)
    have H' := Aside0.mk H
    clear H
    go_wp2
    go_meet
    case rel => exact ⟨_, (false), (by first | rfl | (simp; done) | (simp [*]; done)), H', ⟨by first | omega | exact Nat.le_refl _⟩, by repeat (first | exact Drawn0.refl _ | apply Drawn0.step)⟩
 case rest =>
  clear HC2
  try clear p2
  try clear c3
  try clear c3b0
  try clear c3b1
  try clear c4
  try clear c4b0
  try clear c4b1
  try clear c5
  try clear p5
  try clear q5
  try clear hx5
  try clear qi5
  try clear p5
  try clear q5
  obtain ⟨kq, x15_1, rfl, HA, HJ1, ⟨mc1, rfl⟩⟩ := hcut
  cases kq with
  | zero => exact absurd HA.out (by simp [ontimeref05_number.j0])
  | succ kj1 =>
   have H := HA.out
   clear HA
   simp only [ontimeref05_number.j0] at H
   have HC6 := Aside0.mk H
   clear H
   go_upto_if 15 with (fail)
   go_cut [4, 5] (fun v4 v5 wc => ∃ (kq : Nat) (x4_5 : Int) (x5_5 : Int), v4 = .int .i64 x4_5 ∧ v5 = .int .i64 x5_5 ∧ Aside0 (ontimeref05_number.j1 kq a0 x4_5 x5_5 = some (r1, r2)) ∧ Aside0 (kq ≤ kj1) ∧ Drawn0 w wc)
   case first =>
    have H := HC6.out
    clear HC6
    by_cases c7 : x15_1 = true
    · subst c7
      have H1 : (ontimeref05_number.j1 kj1 a0 1 (-1)) = some (r1, r2) := by rw [if_pos rfl] at H; exact H
      clear H
      have H := H1
      clear H1
      have H' := Aside0.mk H
      clear H
      go_wp2
      go_meet
      case rel => exact ⟨_, (1), ((-1)), (by first | rfl | (simp; done) | (simp [*]; done)), (by first | rfl | (simp; done) | (simp [*]; done)), H', ⟨by have := HJ1.out; first | omega | exact Nat.le_refl _⟩, by repeat (first | exact Drawn0.refl _ | apply Drawn0.step)⟩
    · replace c7 := Bool.eq_false_iff.mpr c7
      subst c7
      have H1 : (ontimeref05_number.j1 kj1 a0 0 1) = some (r1, r2) := by rw [if_neg (show ¬ (false = true) by decide)] at H; exact H
      clear H
      have H := H1
      clear H1
      have H' := Aside0.mk H
      clear H
      go_wp2
      go_meet
      case rel => exact ⟨_, (0), (1), (by first | rfl | (simp; done) | (simp [*]; done)), (by first | rfl | (simp; done) | (simp [*]; done)), H', ⟨by have := HJ1.out; first | omega | exact Nat.le_refl _⟩, by repeat (first | exact Drawn0.refl _ | apply Drawn0.step)⟩
   case rest =>
    clear HC6
    try clear c1
    try clear p2
    try clear c3
    try clear c3b0
    try clear c3b1
    try clear c4
    try clear c4b0
    try clear c4b1
    try clear c5
    try clear p5
    try clear q5
    try clear hx5
    try clear qi5
    try clear c7
    try clear p2
    try clear p5
    try clear q5
    obtain ⟨kq, x4_5, x5_5, rfl, rfl, HA, HJ5, ⟨mc5, rfl⟩⟩ := hcut
    cases kq with
    | zero => exact absurd HA.out (by simp [ontimeref05_number.j1])
    | succ kj5 =>
     have H := HA.out
     clear HA
     simp only [ontimeref05_number.j1] at H
     have HC8 := Aside0.mk H
     clear H
     go_upto_region 4 with (fail)
     go_cut [24] (fun v24 wc => ∃ (kq : Nat) (x24_7 : Bool), v24 = .bool x24_7 ∧ Aside0 (ontimeref05_number.j2 kq a0 x4_5 x5_5 x24_7 = some (r1, r2)) ∧ Aside0 (kq ≤ kj5) ∧ Drawn0 w wc)
     case first =>
      have H := HC8.out
      clear HC8
      by_cases c9 : (a0.size : Int) = x4_5
      · rw [if_pos c9] at H
        have c9b0 : ((a0.size : Int) == x4_5) = true := beq_iff_eq.mpr c9
        have c9b1 : ((a0.size : Int) != x4_5) = false := bne_eq_false_iff_eq.mpr c9
        clear c9
        (first | rw [c9b0] | (simp only [i64_w, i32_w]; rw [c9b0]) | skip)
        have H' := Aside0.mk H
        clear H
        go_wp2
        go_meet
        case rel => exact ⟨_, (true), (by first | rfl | (simp; done) | (simp [*]; done)), H', ⟨by have := HJ1.out; have := HJ5.out; first | omega | exact Nat.le_refl _⟩, by repeat (first | exact Drawn0.refl _ | apply Drawn0.step)⟩
      · rw [if_neg c9] at H
        have c9b0 : ((a0.size : Int) == x4_5) = false := beq_eq_false_iff_ne.mpr c9
        have c9b1 : ((a0.size : Int) != x4_5) = true := bne_iff_ne.mpr c9
        (first | rw [c9b0] | (simp only [i64_w, i32_w]; rw [c9b0]) | skip)
        have H' := Aside0.mk H
        clear H
        go_wp2
        go_meet
        case rel => exact ⟨_, (decide ((a0.size : Int) > 8)), (by first | rfl | (simp; done) | (simp [*]; done)), H', ⟨by have := HJ1.out; have := HJ5.out; first | omega | exact Nat.le_refl _⟩, by repeat (first | exact Drawn0.refl _ | apply Drawn0.step)⟩
     case rest =>
      clear HC8
      try clear c1
      try clear p2
      try clear c3
      try clear c3b0
      try clear c3b1
      try clear c4
      try clear c4b0
      try clear c4b1
      try clear c5
      try clear p5
      try clear q5
      try clear hx5
      try clear qi5
      try clear c7
      try clear c9
      try clear c9b0
      try clear c9b1
      try clear p2
      try clear p5
      try clear q5
      obtain ⟨kq, x24_7, rfl, HA, HJ7, ⟨mc7, rfl⟩⟩ := hcut
      cases kq with
      | zero => exact absurd HA.out (by simp [ontimeref05_number.j2])
      | succ kj7 =>
       have H := HA.out
       clear HA
       simp only [ontimeref05_number.j2] at H
       by_cases c10 : x24_7 = true
       · subst c10
         have H1 : (some (0, false)) = some (r1, r2) := by rw [if_pos rfl] at H; exact H
         clear H
         have H := H1
         clear H1
         simp only [Option.some.injEq, Prod.mk.injEq] at H
         obtain ⟨rfl, rfl⟩ := H
         go_wp2
         go_ret2
         exact ⟨by first | rfl | (simp; done) | (simp [*]; done), by repeat (first | exact Drawn0.refl _ | apply Drawn0.step)⟩
       · replace c10 := Bool.eq_false_iff.mpr c10
         subst c10
         have H1 : (ontimeref05_number.l0 kj7 a0 x5_5 0 x4_5) = some (r1, r2) := by rw [if_neg (show ¬ (false = true) by decide)] at H; exact H
         clear H
         have H := H1
         clear H1
         have H' := Aside0.mk H
         clear H
         go_wp2
         go_loopg [6, 7] kj7 (fun kq v6 v7 w' => ∃ (x6_4 : Int) (x7_4 : Int), v6 = .int .i64 x6_4 ∧ v7 = .int .i64 x7_4 ∧ Aside0 (ontimeref05_number.l0 kq a0 x5_5 x6_4 x7_4 = some (r1, r2)) ∧ Aside0 (kq ≤ kj7) ∧ Drawn0 w w')
         case atStart => exact ⟨(0), (x4_5), (by first | rfl | (simp; done) | (simp [*]; done)), (by first | rfl | (simp; done) | (simp [*]; done)), H', ⟨Nat.le_refl _⟩, by repeat (first | exact Drawn0.refl _ | apply Drawn0.step)⟩
         case round =>
          clear H'
          try clear c1
          try clear p2
          try clear c3
          try clear c3b0
          try clear c3b1
          try clear c4
          try clear c4b0
          try clear c4b1
          try clear c5
          try clear p5
          try clear q5
          try clear hx5
          try clear qi5
          try clear c7
          try clear c9
          try clear c9b0
          try clear c9b1
          try clear c10
          try clear p2
          try clear p5
          try clear q5
          obtain ⟨x6_4, x7_4, rfl, rfl, HA, HK4, ⟨m4, rfl⟩⟩ := hrel
          cases gk with
          | zero => exact absurd HA.out (by simp [ontimeref05_number.l0])
          | succ k4 =>
           have H := HA.out
           clear HA
           simp only [ontimeref05_number.l0] at H
           by_cases c11 : x7_4 < (a0.size : Int)
           · rw [if_pos c11] at H
             have c11b0 : decide (x7_4 < (a0.size : Int)) = true := decide_eq_true c11
             clear c11
             by_cases c12 : 0 ≤ x7_4
             · rw [if_pos c12] at H
               have c12b0 : decide (0 ≤ x7_4) = true := decide_eq_true c12
               clear c12
               by_cases c14 : (bt a0 x7_4) < 48
               · rw [if_pos c14] at H
                 have c14b0 : decide ((bt a0 x7_4) < 48) = true := decide_eq_true c14
                 clear c14
                 simp only [Option.some.injEq, Prod.mk.injEq] at H
                 obtain ⟨rfl, rfl⟩ := H
                 have p13 : 0 ≤ (x7_4 : Int) := of_decide_eq_true (by first | (with_reducible assumption) | assumption)
                 have q13 : x7_4 < (a0.size : Int) := of_decide_eq_true (by first | (with_reducible assumption) | assumption)
                 have hx13 := bt_at a0 x7_4
                 replace p13 := eq_true p13
                 replace q13 := eq_true q13
                 go_wp2
                 go_ret2
                 exact ⟨by first | rfl | (simp; done) | (simp [*]; done), by repeat (first | exact Drawn0.refl _ | apply Drawn0.step)⟩
               · rw [if_neg c14] at H
                 have c14b0 : decide ((bt a0 x7_4) < 48) = false := decide_eq_false c14
                 clear c14
                 by_cases c16 : (bt a0 x7_4) > 57
                 · rw [if_pos c16] at H
                   have c16b0 : decide (57 < (bt a0 x7_4)) = true := decide_eq_true c16
                   clear c16
                   simp only [Option.some.injEq, Prod.mk.injEq] at H
                   obtain ⟨rfl, rfl⟩ := H
                   have p13 : 0 ≤ (x7_4 : Int) := of_decide_eq_true (by first | (with_reducible assumption) | assumption)
                   have q13 : x7_4 < (a0.size : Int) := of_decide_eq_true (by first | (with_reducible assumption) | assumption)
                   have hx13 := bt_at a0 x7_4
                   replace p13 := eq_true p13
                   replace q13 := eq_true q13
                   have p15 : 0 ≤ (x7_4 : Int) := of_decide_eq_true (by first | (with_reducible assumption) | assumption)
                   have q15 : x7_4 < (a0.size : Int) := of_decide_eq_true (by first | (with_reducible assumption) | assumption)
                   have hx15 := bt_at a0 x7_4
                   replace p15 := eq_true p15
                   replace q15 := eq_true q15
                   go_wp2
                   go_ret2
                   exact ⟨by first | rfl | (simp; done) | (simp [*]; done), by repeat (first | exact Drawn0.refl _ | apply Drawn0.step)⟩
                 · rw [if_neg c16] at H
                   have c16b0 : decide (57 < (bt a0 x7_4)) = false := decide_eq_false c16
                   clear c16
                   have H' := Aside0.mk H
                   clear H
                   have p13 : 0 ≤ (x7_4 : Int) := of_decide_eq_true (by first | (with_reducible assumption) | assumption)
                   have q13 : x7_4 < (a0.size : Int) := of_decide_eq_true (by first | (with_reducible assumption) | assumption)
                   have hx13 := bt_at a0 x7_4
                   replace p13 := eq_true p13
                   replace q13 := eq_true q13
                   have p15 : 0 ≤ (x7_4 : Int) := of_decide_eq_true (by first | (with_reducible assumption) | assumption)
                   have q15 : x7_4 < (a0.size : Int) := of_decide_eq_true (by first | (with_reducible assumption) | assumption)
                   have hx15 := bt_at a0 x7_4
                   replace p15 := eq_true p15
                   replace q15 := eq_true q15
                   have p17 : 0 ≤ (x7_4 : Int) := of_decide_eq_true (by first | (with_reducible assumption) | assumption)
                   have q17 : x7_4 < (a0.size : Int) := of_decide_eq_true (by first | (with_reducible assumption) | assumption)
                   have hx17 := bt_at a0 x7_4
                   replace p17 := eq_true p17
                   replace q17 := eq_true q17
                   go_wp2
                   go_roundg k4
                   case measure => have := HJ1.out; have := HJ5.out; have := HJ7.out; have := HK4.out; omega
                   case rel => exact ⟨(wrap64 ((wrap64 (10 * x6_4)) + (((bt a0 x7_4) - 48) % 256))), (wrap64 (x7_4 + 1)), (by first | rfl | (simp; done) | (simp [*]; done)), (by first | rfl | (simp; done) | (simp [*]; done)), H', ⟨by have := HJ1.out; have := HJ5.out; have := HJ7.out; have := HK4.out; omega⟩, by repeat (first | exact Drawn0.refl _ | apply Drawn0.step)⟩
             · rw [if_neg c12] at H
               exact absurd H (by simp)
           · rw [if_neg c11] at H
             have c11b0 : decide (x7_4 < (a0.size : Int)) = false := decide_eq_false c11
             clear c11
             replace H := Option.bind_eq_some_iff.mp H
             obtain ⟨t190, A180, H⟩ := H
             replace H : (some (wrap64 (x5_5 * x6_4), (t190.toList == a0.toList))) = some (r1, r2) := H
             have A18 := Aside0.mk A180
             clear A180
             simp only [Option.some.injEq, Prod.mk.injEq] at H
             obtain ⟨rfl, rfl⟩ := H
             go_wp2_with (first | ((with_reducible refine gate_callee (f := 48) rfl ?_); refine goesL_ (some 56) rfl rfl Tryd.func48 (by kernel_rfl) rfl #[.int .i64 (wrap64 (x5_5 * x6_4))] rfl (by (try simp only [List.map_toArray, List.map_cons, List.map_nil]); first | done | rfl | (simp only [List.length_drop, List.length_take]; rfl)) ?_; (with_reducible refine (ontimeref05_Decimal.calls k4 (wrap64 (x5_5 * x6_4)) t190 _ A18.out).mono ?_); rintro e w' ⟨rfl, ⟨nd, rfl⟩⟩; refine ⟨_, rfl, ?_⟩))
             go_ret2
             exact ⟨by first | rfl | (simp; done) | (simp [*]; done), by repeat (first | exact Drawn0.refl _ | apply Drawn0.step)⟩

/-! ### ontimeref05_register: function 54 -/
def ontimeref05_register.f (k : Nat) (a0 : ByteArray) : Option (Int × Bool) := if (a0.size : Int) < 2 then (some (0, false)) else (if 0 < (a0.size : Int) then (if (bt a0 0) = 114 then (if 1 < (a0.size : Int) then (if (bt a0 1) = 45 then (some (0, false)) else (if 1 ≤ (a0.size : Int) then ((ontimeref05_number.f k (a0.extract 1 a0.size)).bind fun bt191 => (some (bt191.1, bt191.2))) else (none))) else (none)) else (some (0, false))) else (none))
theorem ontimeref05_register.mono : ∀ a0 k, LeO (ontimeref05_register.f k a0) (ontimeref05_register.f (k + 1) a0) := by
 intro a0 k
 unfold ontimeref05_register.f
 repeat' first
  | (with_reducible exact ontimeref05_number.mono _ _)
  | (with_reducible exact LeO.refl _)
  | (with_reducible exact LeO.none _)
  | (with_reducible refine LeO.ite ?_ ?_)
  | (with_reducible refine LeO.bind ?_ (fun _ => ?_))
  | exact ontimeref05_number.mono _ _
  | exact LeO.none _
  | refine LeO.ite ?_ ?_
  | refine LeO.bind ?_ (fun _ => ?_)
set_option maxHeartbeats 8000000 in
set_option maxRecDepth 100000 in
theorem ontimeref05_register.calls (k : Nat) (a0 : ByteArray) (r1 : Int) (r2 : Bool) (w : World) (h : ontimeref05_register.f k a0 = some (r1, r2)) :
 Calls Tryd.prog 54 #[.string a0] w fun e w' => e = .returned (.tuple #[.int .i64 r1, .bool r2]) ∧ Drawn0 w w' := by
 have H : (if (a0.size : Int) < 2 then (some (0, false)) else (if 0 < (a0.size : Int) then (if (bt a0 0) = 114 then (if 1 < (a0.size : Int) then (if (bt a0 1) = 45 then (some (0, false)) else (if 1 ≤ (a0.size : Int) then ((ontimeref05_number.f k (a0.extract 1 a0.size)).bind fun bt191 => (some (bt191.1, bt191.2))) else (none))) else (none)) else (some (0, false))) else (none))) = some (r1, r2) := h
 clear h
 by_cases c2 : (a0.size : Int) < 2
 · rw [if_pos c2] at H
   have c2b0 : decide ((a0.size : Int) < 2) = true := decide_eq_true c2
   have c2b1 : decide (a0.size < 2) = true := decide_eq_true (by omega)
   clear c2
   simp only [Option.some.injEq, Prod.mk.injEq] at H
   obtain ⟨rfl, rfl⟩ := H
   go_enter Tryd.func54, Tryd.ntmps54
   go_wp2
   go_ret2
   exact ⟨by first | rfl | (simp; done) | (simp [*]; done), by repeat (first | exact Drawn0.refl _ | apply Drawn0.step)⟩
 · rw [if_neg c2] at H
   have c2b0 : decide ((a0.size : Int) < 2) = false := decide_eq_false c2
   have c2b1 : decide (a0.size < 2) = false := decide_eq_false (by omega)
   clear c2
   by_cases c3 : 0 < (a0.size : Int)
   · rw [if_pos c3] at H
     have c3b0 : decide (0 < (a0.size : Int)) = true := decide_eq_true c3
     have c3b1 : decide (0 < a0.size) = true := decide_eq_true (by omega)
     clear c3
     by_cases c5 : (bt a0 0) = 114
     · rw [if_pos c5] at H
       have c5b0 : ((bt a0 0) == 114) = true := beq_iff_eq.mpr c5
       have c5b1 : ((bt a0 0) != 114) = false := bne_eq_false_iff_eq.mpr c5
       clear c5
       by_cases c6 : 1 < (a0.size : Int)
       · rw [if_pos c6] at H
         have c6b0 : decide (1 < (a0.size : Int)) = true := decide_eq_true c6
         have c6b1 : decide (1 < a0.size) = true := decide_eq_true (by omega)
         clear c6
         by_cases c8 : (bt a0 1) = 45
         · rw [if_pos c8] at H
           have c8b0 : ((bt a0 1) == 45) = true := beq_iff_eq.mpr c8
           have c8b1 : ((bt a0 1) != 45) = false := bne_eq_false_iff_eq.mpr c8
           clear c8
           simp only [Option.some.injEq, Prod.mk.injEq] at H
           obtain ⟨rfl, rfl⟩ := H
           have p4 : 0 ≤ (0 : Int) := (by omega)
           have q4 : 0 < a0.size := (by have : (0 : Int) < (a0.size : Int) := of_decide_eq_true (by first | (with_reducible assumption) | assumption); omega)
           have hx4 : ∀ h : 0 < a0.size, ((a0[0]'h).toNat : Int) = bt a0 0 := bt_at a0 0
           clear p4
           have qi4 : (0 < (a0.size : Int)) = True := eq_true (of_decide_eq_true (by first | (with_reducible assumption) | assumption))
           replace q4 := eq_true q4
           have p7 : 0 ≤ (1 : Int) := (by omega)
           have q7 : 1 < a0.size := (by have : (1 : Int) < (a0.size : Int) := of_decide_eq_true (by first | (with_reducible assumption) | assumption); omega)
           have hx7 : ∀ h : 1 < a0.size, ((a0[1]'h).toNat : Int) = bt a0 1 := bt_at a0 1
           clear p7
           have qi7 : (1 < (a0.size : Int)) = True := eq_true (of_decide_eq_true (by first | (with_reducible assumption) | assumption))
           replace q7 := eq_true q7
           go_enter Tryd.func54, Tryd.ntmps54
           go_wp2
           go_ret2
           exact ⟨by first | rfl | (simp; done) | (simp [*]; done), by repeat (first | exact Drawn0.refl _ | apply Drawn0.step)⟩
         · rw [if_neg c8] at H
           have c8b0 : ((bt a0 1) == 45) = false := beq_eq_false_iff_ne.mpr c8
           have c8b1 : ((bt a0 1) != 45) = true := bne_iff_ne.mpr c8
           by_cases c9 : 1 ≤ (a0.size : Int)
           · rw [if_pos c9] at H
             have c9b0 := eq_true c9
             have c9b1 : decide (1 ≤ (a0.size : Int)) = true := decide_eq_true c9
             clear c9
             replace H := Option.bind_eq_some_iff.mp H
             obtain ⟨⟨t191, t192⟩, A100, H⟩ := H
             replace H : (some (t191, t192)) = some (r1, r2) := H
             have A10 := Aside0.mk A100
             clear A100
             simp only [Option.some.injEq, Prod.mk.injEq] at H
             obtain ⟨rfl, rfl⟩ := H
             have p4 : 0 ≤ (0 : Int) := (by omega)
             have q4 : 0 < a0.size := (by have : (0 : Int) < (a0.size : Int) := of_decide_eq_true (by first | (with_reducible assumption) | assumption); omega)
             have hx4 : ∀ h : 0 < a0.size, ((a0[0]'h).toNat : Int) = bt a0 0 := bt_at a0 0
             clear p4
             have qi4 : (0 < (a0.size : Int)) = True := eq_true (of_decide_eq_true (by first | (with_reducible assumption) | assumption))
             replace q4 := eq_true q4
             have p7 : 0 ≤ (1 : Int) := (by omega)
             have q7 : 1 < a0.size := (by have : (1 : Int) < (a0.size : Int) := of_decide_eq_true (by first | (with_reducible assumption) | assumption); omega)
             have hx7 : ∀ h : 1 < a0.size, ((a0[1]'h).toNat : Int) = bt a0 1 := bt_at a0 1
             clear p7
             have qi7 : (1 < (a0.size : Int)) = True := eq_true (of_decide_eq_true (by first | (with_reducible assumption) | assumption))
             replace q7 := eq_true q7
             go_enter Tryd.func54, Tryd.ntmps54
             go_wp2_with (first | ((with_reducible refine gate_callee (f := 55) rfl ?_); refine goesL_ (some 19) rfl rfl Tryd.func55 (by kernel_rfl) rfl #[.string (a0.extract 1 a0.size)] rfl (by (try simp only [List.map_toArray, List.map_cons, List.map_nil]); first | done | rfl | (simp only [List.length_drop, List.length_take]; rfl)) ?_; (with_reducible refine (ontimeref05_number.calls k (a0.extract 1 a0.size) t191 t192 _ A10.out).mono ?_); rintro e w' ⟨rfl, ⟨nd, rfl⟩⟩; refine ⟨_, rfl, ?_⟩))
             go_ret2
             exact ⟨by first | rfl | (simp; done) | (simp [*]; done), by repeat (first | exact Drawn0.refl _ | apply Drawn0.step)⟩
           · rw [if_neg c9] at H
             exact absurd H (by simp)
       · rw [if_neg c6] at H
         exact absurd H (by simp)
     · rw [if_neg c5] at H
       have c5b0 : ((bt a0 0) == 114) = false := beq_eq_false_iff_ne.mpr c5
       have c5b1 : ((bt a0 0) != 114) = true := bne_iff_ne.mpr c5
       simp only [Option.some.injEq, Prod.mk.injEq] at H
       obtain ⟨rfl, rfl⟩ := H
       have p4 : 0 ≤ (0 : Int) := (by omega)
       have q4 : 0 < a0.size := (by have : (0 : Int) < (a0.size : Int) := of_decide_eq_true (by first | (with_reducible assumption) | assumption); omega)
       have hx4 : ∀ h : 0 < a0.size, ((a0[0]'h).toNat : Int) = bt a0 0 := bt_at a0 0
       clear p4
       have qi4 : (0 < (a0.size : Int)) = True := eq_true (of_decide_eq_true (by first | (with_reducible assumption) | assumption))
       replace q4 := eq_true q4
       go_enter Tryd.func54, Tryd.ntmps54
       go_wp2
       go_ret2
       exact ⟨by first | rfl | (simp; done) | (simp [*]; done), by repeat (first | exact Drawn0.refl _ | apply Drawn0.step)⟩
   · rw [if_neg c3] at H
     exact absurd H (by simp)

end Go.Proofs.YtchlcncffillbaaDoor.P
