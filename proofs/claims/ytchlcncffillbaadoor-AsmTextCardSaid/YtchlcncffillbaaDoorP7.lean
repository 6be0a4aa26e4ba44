-- Printed for this claim by a program (wip/pp/patch_print.py); Lean checks it.
import Derived.Test.YtchlcncffillbaaDoorP0
import Derived.Test.YtchlcncffillbaaDoorP6
namespace Go.Proofs.YtchlcncffillbaaDoor.P
open Go.RowKit Go.Proofs.YtchlcncffillbaaDoorW.PrintWords Go.Proofs.YtchlcncffillbaaDoorW.PrintLast Go.Proofs.YtchlcncffillbaaDoorW.PrintMore
attribute [local go_sem] max2_int min2_int max_two min_two max_three min_three max_four min_four   -- for this text's walks alone
set_option linter.unusedVariables false
set_option linter.unusedSimpArgs false

/-! ### ontimeref04_Valid: function 56 -/
def ontimeref04_Valid.j0 : Nat → Int → Int → Bool → Int → Int → Int → Int → Int → Option (Bool)
 | 0, _, _, _, _, _, _, _, _ => none
 | k + 1, x4, x5, x43, x194000, x194001, x194002, x194003, x194004 => if x43 = true then (some false) else (if x4 > x5 then (some (x194004 == 0)) else (if x194004 ≥ x4 then (some (decide (x194004 ≤ x5))) else (some false)))
def ontimeref04_Valid.f (k : Nat) (a0_0 : Int) (a0_1 : Int) (a0_2 : Int) (a0_3 : Int) (a0_4 : Int) : Option (Bool) := (ontimeref04_Format.f k a0_0).bind fun bt194 => (if bt194.2.2.2 = true then ((ontimeref04_reg.f a0_1 (decide (0 < bt194.1.size))).bind fun t198 => (if t198 = true then ((ontimeref04_reg.f a0_2 (decide ((bt194.1.size : Int) > 1))).bind fun t199 => (if t199 = true then ((ontimeref04_reg.f a0_3 (decide ((bt194.1.size : Int) > 2))).bind fun t200 => (ontimeref04_Valid.j0 k bt194.2.1 bt194.2.2.1 (!t200) a0_0 a0_1 a0_2 a0_3 a0_4)) else (ontimeref04_Valid.j0 k bt194.2.1 bt194.2.2.1 true a0_0 a0_1 a0_2 a0_3 a0_4))) else (ontimeref04_Valid.j0 k bt194.2.1 bt194.2.2.1 true a0_0 a0_1 a0_2 a0_3 a0_4))) else (ontimeref04_Valid.j0 k bt194.2.1 bt194.2.2.1 true a0_0 a0_1 a0_2 a0_3 a0_4))
theorem ontimeref04_Valid.mono_l : ∀ k, (∀ y0 y1 y2 y3 y4 y5 y6 y7, LeO (ontimeref04_Valid.j0 k y0 y1 y2 y3 y4 y5 y6 y7) (ontimeref04_Valid.j0 (k + 1) y0 y1 y2 y3 y4 y5 y6 y7))
 | 0 => fun _ _ _ _ _ _ _ _ r h => by simp [ontimeref04_Valid.j0] at h
 | k + 1 => by
  have ih0 := ontimeref04_Valid.mono_l k
  · intro y0 y1 y2 y3 y4 y5 y6 y7
    unfold ontimeref04_Valid.j0
    repeat' first
    | (with_reducible exact ih0 _ _ _ _ _ _ _ _)
    | (with_reducible exact ontimeref04_Format.mono _ _)
    | (with_reducible exact LeO.refl _)
    | (with_reducible exact LeO.none _)
    | (with_reducible refine LeO.ite ?_ ?_)
    | (with_reducible refine LeO.bind ?_ (fun _ => ?_))
    | exact ih0 _ _ _ _ _ _ _ _
    | exact ontimeref04_Format.mono _ _
    | exact LeO.none _
    | refine LeO.ite ?_ ?_
    | refine LeO.bind ?_ (fun _ => ?_)
theorem ontimeref04_Valid.mono : ∀ a0 a1 a2 a3 a4 k, LeO (ontimeref04_Valid.f k a0 a1 a2 a3 a4) (ontimeref04_Valid.f (k + 1) a0 a1 a2 a3 a4) := by
 intro a0 a1 a2 a3 a4 k
 have ih0 := ontimeref04_Valid.mono_l k
 unfold ontimeref04_Valid.f
 repeat' first
  | (with_reducible exact ih0 _ _ _ _ _ _ _ _)
  | (with_reducible exact ontimeref04_Format.mono _ _)
  | (with_reducible exact LeO.refl _)
  | (with_reducible exact LeO.none _)
  | (with_reducible refine LeO.ite ?_ ?_)
  | (with_reducible refine LeO.bind ?_ (fun _ => ?_))
  | exact ih0 _ _ _ _ _ _ _ _
  | exact ontimeref04_Format.mono _ _
  | exact LeO.none _
  | refine LeO.ite ?_ ?_
  | refine LeO.bind ?_ (fun _ => ?_)
set_option maxHeartbeats 8000000 in
set_option maxRecDepth 100000 in
theorem ontimeref04_Valid.calls (k : Nat) (a0_0 : Int) (a0_1 : Int) (a0_2 : Int) (a0_3 : Int) (a0_4 : Int) (r : Bool) (w : World) (h : ontimeref04_Valid.f k a0_0 a0_1 a0_2 a0_3 a0_4 = some r) :
 Calls Tryd.prog 56 #[.agg #[.int .u8 a0_0, .int .i64 a0_1, .int .i64 a0_2, .int .i64 a0_3, .int .i64 a0_4]] w fun e w' => e = .returned (.bool r) ∧ Below w.heap.size w w' := by
 have hu48 := Tryd.underlying48
 have HB := Aside0.mk (Below.refl w.heap.size w)
 have H : ((ontimeref04_Format.f k a0_0).bind fun bt194 => (if bt194.2.2.2 = true then ((ontimeref04_reg.f a0_1 (decide (0 < bt194.1.size))).bind fun t198 => (if t198 = true then ((ontimeref04_reg.f a0_2 (decide ((bt194.1.size : Int) > 1))).bind fun t199 => (if t199 = true then ((ontimeref04_reg.f a0_3 (decide ((bt194.1.size : Int) > 2))).bind fun t200 => (ontimeref04_Valid.j0 k bt194.2.1 bt194.2.2.1 (!t200) a0_0 a0_1 a0_2 a0_3 a0_4)) else (ontimeref04_Valid.j0 k bt194.2.1 bt194.2.2.1 true a0_0 a0_1 a0_2 a0_3 a0_4))) else (ontimeref04_Valid.j0 k bt194.2.1 bt194.2.2.1 true a0_0 a0_1 a0_2 a0_3 a0_4))) else (ontimeref04_Valid.j0 k bt194.2.1 bt194.2.2.1 true a0_0 a0_1 a0_2 a0_3 a0_4))) = some r := h
 clear h
 replace H := Option.bind_eq_some_iff.mp H
 obtain ⟨⟨t194, t195, t196, t197⟩, A20, H⟩ := H
 replace H : (if t197 = true then ((ontimeref04_reg.f a0_1 (decide (0 < t194.size))).bind fun t198 => (if t198 = true then ((ontimeref04_reg.f a0_2 (decide ((t194.size : Int) > 1))).bind fun t199 => (if t199 = true then ((ontimeref04_reg.f a0_3 (decide ((t194.size : Int) > 2))).bind fun t200 => (ontimeref04_Valid.j0 k t195 t196 (!t200) a0_0 a0_1 a0_2 a0_3 a0_4)) else (ontimeref04_Valid.j0 k t195 t196 true a0_0 a0_1 a0_2 a0_3 a0_4))) else (ontimeref04_Valid.j0 k t195 t196 true a0_0 a0_1 a0_2 a0_3 a0_4))) else (ontimeref04_Valid.j0 k t195 t196 true a0_0 a0_1 a0_2 a0_3 a0_4)) = some r := H
 have A2 := Aside0.mk A20
 clear A20
 have HC3 := Aside0.mk H
 clear H
 go_enter Tryd.func56, Tryd.ntmps56
 go_upto_region 2 with (first | ((with_reducible refine gate_dst (N := 1) rfl ?_); (try (refine gate_guard (by rfl) ?_; dsimp only)); refine box_event ?hg (N := 1) ?hd (cs := #[.int .u8 a0_0, .int .i64 a0_1, .int .i64 a0_2, .int .i64 a0_3, .int .i64 a0_4]) (t := 48) ?hr ?_; (case hd => rfl); (case hg => rfl); (case hr => first | (go_simp; done) | (go_simp; rfl)); intro gb193 hg w4 hbox hb; have n0_ := Aside0.mk (below_step (by repeat (first | (with_reducible first | exact HB.out | apply below_alloc | apply pw_below_drewN | apply below_drew1) | exact HB.out)) hb); have n1_ := Aside0.mk (hbox); have n2_ := Aside0.mk ((by rw [hg]; exact (below_size (by repeat (first | (with_reducible first | exact HB.out | apply below_alloc | apply pw_below_drewN | apply below_drew1) | exact HB.out))) : w.heap.size ≤ gb193)); have n3_ := Aside0.mk ((by rw [hg]; exact (below_size (by repeat (first | (with_reducible first | exact HB.out | apply below_alloc | apply pw_below_drewN | apply below_drew1) | exact HB.out))) : w.heap.size ≤ gb193)); clear HB; have HB := n0_; have BK193 := n1_; have GW193 := n2_; have GE193 := n3_; clear n0_ n1_ n2_ n3_; clear hb hbox hg; have hcz5_0 : w4.cell? ⟨gb193, 0, none⟩ = some (.int .u8 a0_0) := (blk_cell BK193.out 0).trans rfl; have hcz5_1 : w4.cell? ⟨gb193, 1, none⟩ = some (.int .i64 a0_1) := (blk_cell BK193.out 1).trans rfl; have hcz5_2 : w4.cell? ⟨gb193, 2, none⟩ = some (.int .i64 a0_2) := (blk_cell BK193.out 2).trans rfl; have hcz5_3 : w4.cell? ⟨gb193, 3, none⟩ = some (.int .i64 a0_3) := (blk_cell BK193.out 3).trans rfl; have hcz5_4 : w4.cell? ⟨gb193, 4, none⟩ = some (.int .i64 a0_4) := (blk_cell BK193.out 4).trans rfl; have hfz5_0 := blk_frozen BK193.out 0; have hfz5_1 := blk_frozen BK193.out 1; have hfz5_2 := blk_frozen BK193.out 2; have hfz5_3 := blk_frozen BK193.out 3; have hfz5_4 := blk_frozen BK193.out 4) | ((with_reducible refine gate_callee (f := 70) rfl ?_); refine goesL_ (some 10) rfl rfl Tryd.func70 (by kernel_rfl) rfl #[.int .u8 a0_0] rfl (by (try simp only [List.map_toArray, List.map_cons, List.map_nil]); first | done | rfl | (simp only [List.length_drop, List.length_take]; rfl)) ?_; (with_reducible refine (ontimeref04_Format.calls k a0_0 t194 t195 t196 t197 _ A2.out).mono ?_); rintro e w' ⟨rfl, ⟨nd, rfl⟩⟩; refine ⟨_, rfl, ?_⟩))
 (try simp only [Act.put, List.setIfInBounds_toArray, List.set_cons_zero, List.set_cons_succ])
 go_cut [43] (fun v43 wc => ∃ (kq : Nat) (x43_2 : Bool), v43 = .bool x43_2 ∧ Aside0 (ontimeref04_Valid.j0 kq t195 t196 x43_2 a0_0 a0_1 a0_2 a0_3 a0_4 = some r) ∧ Aside0 (kq ≤ k) ∧ Aside0 (wc.heap[gb193]? = some (.cells #[.int .u8 a0_0, .int .i64 a0_1, .int .i64 a0_2, .int .i64 a0_3, .int .i64 a0_4] 48 (0, 0))) ∧ Aside0 (Below w.heap.size w wc))
 case first =>
  have H := HC3.out
  clear HC3
  by_cases c6 : t197 = true
  · subst c6
    have H1 : ((ontimeref04_reg.f a0_1 (decide (0 < t194.size))).bind fun t198 => (if t198 = true then ((ontimeref04_reg.f a0_2 (decide ((t194.size : Int) > 1))).bind fun t199 => (if t199 = true then ((ontimeref04_reg.f a0_3 (decide ((t194.size : Int) > 2))).bind fun t200 => (ontimeref04_Valid.j0 k t195 t196 (!t200) a0_0 a0_1 a0_2 a0_3 a0_4)) else (ontimeref04_Valid.j0 k t195 t196 true a0_0 a0_1 a0_2 a0_3 a0_4))) else (ontimeref04_Valid.j0 k t195 t196 true a0_0 a0_1 a0_2 a0_3 a0_4))) = some r := by rw [if_pos rfl] at H; exact H
    clear H
    have H := H1
    clear H1
    replace H := Option.bind_eq_some_iff.mp H
    obtain ⟨t198, A70, H⟩ := H
    replace H : (if t198 = true then ((ontimeref04_reg.f a0_2 (decide ((t194.size : Int) > 1))).bind fun t199 => (if t199 = true then ((ontimeref04_reg.f a0_3 (decide ((t194.size : Int) > 2))).bind fun t200 => (ontimeref04_Valid.j0 k t195 t196 (!t200) a0_0 a0_1 a0_2 a0_3 a0_4)) else (ontimeref04_Valid.j0 k t195 t196 true a0_0 a0_1 a0_2 a0_3 a0_4))) else (ontimeref04_Valid.j0 k t195 t196 true a0_0 a0_1 a0_2 a0_3 a0_4)) = some r := H
    have A7 := Aside0.mk A70
    clear A70
    by_cases c8 : t198 = true
    · subst c8
      have H1 : ((ontimeref04_reg.f a0_2 (decide ((t194.size : Int) > 1))).bind fun t199 => (if t199 = true then ((ontimeref04_reg.f a0_3 (decide ((t194.size : Int) > 2))).bind fun t200 => (ontimeref04_Valid.j0 k t195 t196 (!t200) a0_0 a0_1 a0_2 a0_3 a0_4)) else (ontimeref04_Valid.j0 k t195 t196 true a0_0 a0_1 a0_2 a0_3 a0_4))) = some r := by rw [if_pos rfl] at H; exact H
      clear H
      have H := H1
      clear H1
      replace H := Option.bind_eq_some_iff.mp H
      obtain ⟨t199, A90, H⟩ := H
      replace H : (if t199 = true then ((ontimeref04_reg.f a0_3 (decide ((t194.size : Int) > 2))).bind fun t200 => (ontimeref04_Valid.j0 k t195 t196 (!t200) a0_0 a0_1 a0_2 a0_3 a0_4)) else (ontimeref04_Valid.j0 k t195 t196 true a0_0 a0_1 a0_2 a0_3 a0_4)) = some r := H
      have A9 := Aside0.mk A90
      clear A90
      by_cases c10 : t199 = true
      · subst c10
        have H1 : ((ontimeref04_reg.f a0_3 (decide ((t194.size : Int) > 2))).bind fun t200 => (ontimeref04_Valid.j0 k t195 t196 (!t200) a0_0 a0_1 a0_2 a0_3 a0_4)) = some r := by rw [if_pos rfl] at H; exact H
        clear H
        have H := H1
        clear H1
        replace H := Option.bind_eq_some_iff.mp H
        obtain ⟨t200, A110, H⟩ := H
        replace H : (ontimeref04_Valid.j0 k t195 t196 (!t200) a0_0 a0_1 a0_2 a0_3 a0_4) = some r := H
        have A11 := Aside0.mk A110
        clear A110
        have H' := Aside0.mk H
        clear H
        have hcz12_0 : w4.cell? ⟨gb193, 0, none⟩ = some (.int .u8 a0_0) := (blk_cell BK193.out 0).trans rfl
        have hcz12_1 : w4.cell? ⟨gb193, 1, none⟩ = some (.int .i64 a0_1) := (blk_cell BK193.out 1).trans rfl
        have hcz12_2 : w4.cell? ⟨gb193, 2, none⟩ = some (.int .i64 a0_2) := (blk_cell BK193.out 2).trans rfl
        have hcz12_3 : w4.cell? ⟨gb193, 3, none⟩ = some (.int .i64 a0_3) := (blk_cell BK193.out 3).trans rfl
        have hcz12_4 : w4.cell? ⟨gb193, 4, none⟩ = some (.int .i64 a0_4) := (blk_cell BK193.out 4).trans rfl
        have hfz12_0 := blk_frozen BK193.out 0
        have hfz12_1 := blk_frozen BK193.out 1
        have hfz12_2 := blk_frozen BK193.out 2
        have hfz12_3 := blk_frozen BK193.out 3
        have hfz12_4 := blk_frozen BK193.out 4
        go_wp2_with (first | (go_at_call 71; (with_reducible refine (ontimeref04_reg.calls a0_1 (decide (0 < t194.size)) true _ A7.out).mono ?_); rintro e w' ⟨rfl, ⟨nd, rfl⟩⟩) | (go_at_call 71; (with_reducible refine (ontimeref04_reg.calls a0_2 (decide ((t194.size : Int) > 1)) true _ A9.out).mono ?_); rintro e w' ⟨rfl, ⟨nd, rfl⟩⟩) | (go_at_call 71; (with_reducible refine (ontimeref04_reg.calls a0_3 (decide ((t194.size : Int) > 2)) t200 _ A11.out).mono ?_); rintro e w' ⟨rfl, ⟨nd, rfl⟩⟩))
        go_meet
        case rel => exact ⟨_, (!t200), (by first | rfl | (simp; done) | (simp [*]; done)), H', ⟨by first | omega | exact Nat.le_refl _⟩, ⟨by (with_reducible repeat (first | refine blk_drewN ?_ _ | refine blk_drew ?_ | refine blk_alloc ?_ _)); exact BK193.out⟩, ⟨by repeat (first | (with_reducible first | exact HB.out | apply below_alloc | apply pw_below_drewN | apply below_drew1 | refine below_set ?_ GE193.out) | exact HB.out)⟩⟩
      · replace c10 := Bool.eq_false_iff.mpr c10
        subst c10
        have H1 : (ontimeref04_Valid.j0 k t195 t196 true a0_0 a0_1 a0_2 a0_3 a0_4) = some r := by rw [if_neg (show ¬ (false = true) by decide)] at H; exact H
        clear H
        have H := H1
        clear H1
        have H' := Aside0.mk H
        clear H
        have hcz13_0 : w4.cell? ⟨gb193, 0, none⟩ = some (.int .u8 a0_0) := (blk_cell BK193.out 0).trans rfl
        have hcz13_1 : w4.cell? ⟨gb193, 1, none⟩ = some (.int .i64 a0_1) := (blk_cell BK193.out 1).trans rfl
        have hcz13_2 : w4.cell? ⟨gb193, 2, none⟩ = some (.int .i64 a0_2) := (blk_cell BK193.out 2).trans rfl
        have hcz13_3 : w4.cell? ⟨gb193, 3, none⟩ = some (.int .i64 a0_3) := (blk_cell BK193.out 3).trans rfl
        have hcz13_4 : w4.cell? ⟨gb193, 4, none⟩ = some (.int .i64 a0_4) := (blk_cell BK193.out 4).trans rfl
        have hfz13_0 := blk_frozen BK193.out 0
        have hfz13_1 := blk_frozen BK193.out 1
        have hfz13_2 := blk_frozen BK193.out 2
        have hfz13_3 := blk_frozen BK193.out 3
        have hfz13_4 := blk_frozen BK193.out 4
        go_wp2_with (first | (go_at_call 71; (with_reducible refine (ontimeref04_reg.calls a0_1 (decide (0 < t194.size)) true _ A7.out).mono ?_); rintro e w' ⟨rfl, ⟨nd, rfl⟩⟩) | (go_at_call 71; (with_reducible refine (ontimeref04_reg.calls a0_2 (decide ((t194.size : Int) > 1)) false _ A9.out).mono ?_); rintro e w' ⟨rfl, ⟨nd, rfl⟩⟩))
        go_meet
        case rel => exact ⟨_, (true), (by first | rfl | (simp; done) | (simp [*]; done)), H', ⟨by first | omega | exact Nat.le_refl _⟩, ⟨by (with_reducible repeat (first | refine blk_drewN ?_ _ | refine blk_drew ?_ | refine blk_alloc ?_ _)); exact BK193.out⟩, ⟨by repeat (first | (with_reducible first | exact HB.out | apply below_alloc | apply pw_below_drewN | apply below_drew1 | refine below_set ?_ GE193.out) | exact HB.out)⟩⟩
    · replace c8 := Bool.eq_false_iff.mpr c8
      subst c8
      have H1 : (ontimeref04_Valid.j0 k t195 t196 true a0_0 a0_1 a0_2 a0_3 a0_4) = some r := by rw [if_neg (show ¬ (false = true) by decide)] at H; exact H
      clear H
      have H := H1
      clear H1
      have H' := Aside0.mk H
      clear H
      have hcz14_0 : w4.cell? ⟨gb193, 0, none⟩ = some (.int .u8 a0_0) := (blk_cell BK193.out 0).trans rfl
      have hcz14_1 : w4.cell? ⟨gb193, 1, none⟩ = some (.int .i64 a0_1) := (blk_cell BK193.out 1).trans rfl
      have hcz14_2 : w4.cell? ⟨gb193, 2, none⟩ = some (.int .i64 a0_2) := (blk_cell BK193.out 2).trans rfl
      have hcz14_3 : w4.cell? ⟨gb193, 3, none⟩ = some (.int .i64 a0_3) := (blk_cell BK193.out 3).trans rfl
      have hcz14_4 : w4.cell? ⟨gb193, 4, none⟩ = some (.int .i64 a0_4) := (blk_cell BK193.out 4).trans rfl
      have hfz14_0 := blk_frozen BK193.out 0
      have hfz14_1 := blk_frozen BK193.out 1
      have hfz14_2 := blk_frozen BK193.out 2
      have hfz14_3 := blk_frozen BK193.out 3
      have hfz14_4 := blk_frozen BK193.out 4
      go_wp2_with (first | (go_at_call 71; (with_reducible refine (ontimeref04_reg.calls a0_1 (decide (0 < t194.size)) false _ A7.out).mono ?_); rintro e w' ⟨rfl, ⟨nd, rfl⟩⟩))
      go_meet
      case rel => exact ⟨_, (true), (by first | rfl | (simp; done) | (simp [*]; done)), H', ⟨by first | omega | exact Nat.le_refl _⟩, ⟨by (with_reducible repeat (first | refine blk_drewN ?_ _ | refine blk_drew ?_ | refine blk_alloc ?_ _)); exact BK193.out⟩, ⟨by repeat (first | (with_reducible first | exact HB.out | apply below_alloc | apply pw_below_drewN | apply below_drew1 | refine below_set ?_ GE193.out) | exact HB.out)⟩⟩
  · replace c6 := Bool.eq_false_iff.mpr c6
    subst c6
    have H1 : (ontimeref04_Valid.j0 k t195 t196 true a0_0 a0_1 a0_2 a0_3 a0_4) = some r := by rw [if_neg (show ¬ (false = true) by decide)] at H; exact H
    clear H
    have H := H1
    clear H1
    have H' := Aside0.mk H
    clear H
    go_wp2
    go_meet
    case rel => exact ⟨_, (true), (by first | rfl | (simp; done) | (simp [*]; done)), H', ⟨by first | omega | exact Nat.le_refl _⟩, ⟨by (with_reducible repeat (first | refine blk_drewN ?_ _ | refine blk_drew ?_ | refine blk_alloc ?_ _)); exact BK193.out⟩, ⟨by repeat (first | (with_reducible first | exact HB.out | apply below_alloc | apply pw_below_drewN | apply below_drew1 | refine below_set ?_ GE193.out) | exact HB.out)⟩⟩
 case rest =>
  clear HC3
  try clear c1
  try clear p2
  try clear c5
  try clear c6
  try clear c7
  try clear c8
  try clear c10
  try clear hcz12_0
  try clear hcz12_1
  try clear hcz12_2
  try clear hcz12_3
  try clear hcz12_4
  try clear hcz13_0
  try clear hcz13_1
  try clear hcz13_2
  try clear hcz13_3
  try clear hcz13_4
  try clear hcz14_0
  try clear hcz14_1
  try clear hcz14_2
  try clear hcz14_3
  try clear hcz14_4
  try clear hcz5_0
  try clear hcz5_1
  try clear hcz5_2
  try clear hcz5_3
  try clear hcz5_4
  try clear hfz12_0
  try clear hfz12_1
  try clear hfz12_2
  try clear hfz12_3
  try clear hfz12_4
  try clear hfz13_0
  try clear hfz13_1
  try clear hfz13_2
  try clear hfz13_3
  try clear hfz13_4
  try clear hfz14_0
  try clear hfz14_1
  try clear hfz14_2
  try clear hfz14_3
  try clear hfz14_4
  try clear hfz5_0
  try clear hfz5_1
  try clear hfz5_2
  try clear hfz5_3
  try clear hfz5_4
  obtain ⟨kq, x43_2, rfl, HA, HJ2, BK193, HB⟩ := hcut
  cases kq with
  | zero => exact absurd HA.out (by simp [ontimeref04_Valid.j0])
  | succ kj2 =>
   have H := HA.out
   clear HA
   simp only [ontimeref04_Valid.j0] at H
   by_cases c15 : x43_2 = true
   · subst c15
     have H1 : (some false) = some r := by rw [if_pos rfl] at H; exact H
     clear H
     have H := H1
     clear H1
     obtain rfl := Option.some.inj H
     go_wp2
     go_ret
     exact ⟨by first | rfl | (simp [errW_none, errW_some] <;> rfl) | (simp [*, errW_none, errW_some] <;> rfl), by repeat (first | (with_reducible first | exact HB.out | apply below_alloc | apply pw_below_drewN | apply below_drew1 | refine below_set ?_ GE193.out) | exact HB.out)⟩
   · replace c15 := Bool.eq_false_iff.mpr c15
     subst c15
     have H1 : (if t195 > t196 then (some (a0_4 == 0)) else (if a0_4 ≥ t195 then (some (decide (a0_4 ≤ t196))) else (some false))) = some r := by rw [if_neg (show ¬ (false = true) by decide)] at H; exact H
     clear H
     have H := H1
     clear H1
     by_cases c16 : t195 > t196
     · rw [if_pos c16] at H
       have c16b0 : decide (t196 < t195) = true := decide_eq_true c16
       clear c16
       obtain rfl := Option.some.inj H
       have hcz17_0 : wc.cell? ⟨gb193, 0, none⟩ = some (.int .u8 a0_0) := (blk_cell BK193.out 0).trans rfl
       have hcz17_1 : wc.cell? ⟨gb193, 1, none⟩ = some (.int .i64 a0_1) := (blk_cell BK193.out 1).trans rfl
       have hcz17_2 : wc.cell? ⟨gb193, 2, none⟩ = some (.int .i64 a0_2) := (blk_cell BK193.out 2).trans rfl
       have hcz17_3 : wc.cell? ⟨gb193, 3, none⟩ = some (.int .i64 a0_3) := (blk_cell BK193.out 3).trans rfl
       have hcz17_4 : wc.cell? ⟨gb193, 4, none⟩ = some (.int .i64 a0_4) := (blk_cell BK193.out 4).trans rfl
       have hfz17_0 := blk_frozen BK193.out 0
       have hfz17_1 := blk_frozen BK193.out 1
       have hfz17_2 := blk_frozen BK193.out 2
       have hfz17_3 := blk_frozen BK193.out 3
       have hfz17_4 := blk_frozen BK193.out 4
       go_wp2
       go_ret
       exact ⟨by first | rfl | (simp [errW_none, errW_some] <;> rfl) | (simp [*, errW_none, errW_some] <;> rfl), by repeat (first | (with_reducible first | exact HB.out | apply below_alloc | apply pw_below_drewN | apply below_drew1 | refine below_set ?_ GE193.out) | exact HB.out)⟩
     · rw [if_neg c16] at H
       have c16b0 : decide (t196 < t195) = false := decide_eq_false c16
       clear c16
       by_cases c18 : a0_4 ≥ t195
       · rw [if_pos c18] at H
         have c18b0 : decide (t195 ≤ a0_4) = true := decide_eq_true c18
         clear c18
         obtain rfl := Option.some.inj H
         have hcz19_0 : wc.cell? ⟨gb193, 0, none⟩ = some (.int .u8 a0_0) := (blk_cell BK193.out 0).trans rfl
         have hcz19_1 : wc.cell? ⟨gb193, 1, none⟩ = some (.int .i64 a0_1) := (blk_cell BK193.out 1).trans rfl
         have hcz19_2 : wc.cell? ⟨gb193, 2, none⟩ = some (.int .i64 a0_2) := (blk_cell BK193.out 2).trans rfl
         have hcz19_3 : wc.cell? ⟨gb193, 3, none⟩ = some (.int .i64 a0_3) := (blk_cell BK193.out 3).trans rfl
         have hcz19_4 : wc.cell? ⟨gb193, 4, none⟩ = some (.int .i64 a0_4) := (blk_cell BK193.out 4).trans rfl
         have hfz19_0 := blk_frozen BK193.out 0
         have hfz19_1 := blk_frozen BK193.out 1
         have hfz19_2 := blk_frozen BK193.out 2
         have hfz19_3 := blk_frozen BK193.out 3
         have hfz19_4 := blk_frozen BK193.out 4
         go_wp2
         go_ret
         exact ⟨by first | rfl | (simp [errW_none, errW_some] <;> rfl) | (simp [*, errW_none, errW_some] <;> rfl), by repeat (first | (with_reducible first | exact HB.out | apply below_alloc | apply pw_below_drewN | apply below_drew1 | refine below_set ?_ GE193.out) | exact HB.out)⟩
       · rw [if_neg c18] at H
         have c18b0 : decide (t195 ≤ a0_4) = false := decide_eq_false c18
         clear c18
         obtain rfl := Option.some.inj H
         have hcz20_0 : wc.cell? ⟨gb193, 0, none⟩ = some (.int .u8 a0_0) := (blk_cell BK193.out 0).trans rfl
         have hcz20_1 : wc.cell? ⟨gb193, 1, none⟩ = some (.int .i64 a0_1) := (blk_cell BK193.out 1).trans rfl
         have hcz20_2 : wc.cell? ⟨gb193, 2, none⟩ = some (.int .i64 a0_2) := (blk_cell BK193.out 2).trans rfl
         have hcz20_3 : wc.cell? ⟨gb193, 3, none⟩ = some (.int .i64 a0_3) := (blk_cell BK193.out 3).trans rfl
         have hcz20_4 : wc.cell? ⟨gb193, 4, none⟩ = some (.int .i64 a0_4) := (blk_cell BK193.out 4).trans rfl
         have hfz20_0 := blk_frozen BK193.out 0
         have hfz20_1 := blk_frozen BK193.out 1
         have hfz20_2 := blk_frozen BK193.out 2
         have hfz20_3 := blk_frozen BK193.out 3
         have hfz20_4 := blk_frozen BK193.out 4
         go_wp2
         go_ret
         exact ⟨by first | rfl | (simp [errW_none, errW_some] <;> rfl) | (simp [*, errW_none, errW_some] <;> rfl), by repeat (first | (with_reducible first | exact HB.out | apply below_alloc | apply pw_below_drewN | apply below_drew1 | refine below_set ?_ GE193.out) | exact HB.out)⟩

end Go.Proofs.YtchlcncffillbaaDoor.P
