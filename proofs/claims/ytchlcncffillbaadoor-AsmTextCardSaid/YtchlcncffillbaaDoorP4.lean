-- Printed for this claim by a program (wip/pp/patch_print.py); Lean checks it.
import Derived.Test.YtchlcncffillbaaDoorP0
import Derived.Test.YtchlcncffillbaaDoorP2
import Derived.Test.YtchlcncffillbaaDoorP3
namespace Go.Proofs.YtchlcncffillbaaDoor.P
open Go.RowKit Go.Proofs.YtchlcncffillbaaDoorW.PrintWords Go.Proofs.YtchlcncffillbaaDoorW.PrintLast Go.Proofs.YtchlcncffillbaaDoorW.PrintMore
attribute [local go_sem] max2_int min2_int max_two min_two max_three min_three max_four min_four   -- for this text's walks alone
set_option linter.unusedVariables false
set_option linter.unusedSimpArgs false

/-! ### ontimeref05_Line: function 30 -/
def ontimeref05_Line.l0 : Nat → ByteArray → ByteArray → Int → Int → Int → Int → Int → Int → Option (ByteArray)
 | 0, _, _, _, _, _, _, _, _ => none
 | k + 1, x3, x4, x5, x171000, x171001, x171002, x171003, x171004 => if x5 < (x4.size : Int) then (if 0 ≤ x5 then (if (bt x4 x5) = 97 then (if x3.size + 2 ≤ 9223372036854775807 then ((ontimeref05_Decimal.f k x171001).bind fun t176 => (if (x3 ++ (⟨#[32, 114]⟩ : ByteArray)).size + t176.size ≤ 9223372036854775807 then (ontimeref05_Line.l0 k ((x3 ++ (⟨#[32, 114]⟩ : ByteArray)) ++ t176) x4 (wrap64 (x5 + 1)) x171000 x171001 x171002 x171003 x171004) else (none))) else (none)) else (if (bt x4 x5) = 98 then (if x3.size + 2 ≤ 9223372036854775807 then ((ontimeref05_Decimal.f k x171002).bind fun t177 => (if (x3 ++ (⟨#[32, 114]⟩ : ByteArray)).size + t177.size ≤ 9223372036854775807 then (ontimeref05_Line.l0 k ((x3 ++ (⟨#[32, 114]⟩ : ByteArray)) ++ t177) x4 (wrap64 (x5 + 1)) x171000 x171001 x171002 x171003 x171004) else (none))) else (none)) else (if (bt x4 x5) = 99 then (if x3.size + 2 ≤ 9223372036854775807 then ((ontimeref05_Decimal.f k x171003).bind fun t178 => (if (x3 ++ (⟨#[32, 114]⟩ : ByteArray)).size + t178.size ≤ 9223372036854775807 then (ontimeref05_Line.l0 k ((x3 ++ (⟨#[32, 114]⟩ : ByteArray)) ++ t178) x4 (wrap64 (x5 + 1)) x171000 x171001 x171002 x171003 x171004) else (none))) else (none)) else (if x3.size + 1 ≤ 9223372036854775807 then ((ontimeref05_Decimal.f k x171004).bind fun t179 => (if (x3 ++ (⟨#[32]⟩ : ByteArray)).size + t179.size ≤ 9223372036854775807 then (ontimeref05_Line.l0 k ((x3 ++ (⟨#[32]⟩ : ByteArray)) ++ t179) x4 (wrap64 (x5 + 1)) x171000 x171001 x171002 x171003 x171004) else (none))) else (none))))) else (none)) else (some x3)
def ontimeref05_Line.f (k : Nat) (a0_0 : Int) (a0_1 : Int) (a0_2 : Int) (a0_3 : Int) (a0_4 : Int) : Option (ByteArray) := (ontimeref05_Names.f).bind fun t171 => (if 0 ≤ a0_0 then (if a0_0 < (t171.length : Int) then ((ontimeref05_Shape.f k a0_0).bind fun t175 => (ontimeref05_Line.l0 k (rdOf ByteArray.empty t171 a0_0) t175 0 a0_0 a0_1 a0_2 a0_3 a0_4)) else (none)) else (none))
theorem ontimeref05_Line.mono_l : ∀ k, (∀ y0 y1 y2 y3 y4 y5 y6 y7, LeO (ontimeref05_Line.l0 k y0 y1 y2 y3 y4 y5 y6 y7) (ontimeref05_Line.l0 (k + 1) y0 y1 y2 y3 y4 y5 y6 y7))
 | 0 => fun _ _ _ _ _ _ _ _ r h => by simp [ontimeref05_Line.l0] at h
 | k + 1 => by
  have ih0 := ontimeref05_Line.mono_l k
  · intro y0 y1 y2 y3 y4 y5 y6 y7
    unfold ontimeref05_Line.l0
    repeat' first
    | (with_reducible exact ih0 _ _ _ _ _ _ _ _)
    | (with_reducible exact ontimeref05_Decimal.mono _ _)
    | (with_reducible exact ontimeref05_Shape.mono _ _)
    | (with_reducible exact LeO.refl _)
    | (with_reducible exact LeO.none _)
    | (with_reducible refine LeO.ite ?_ ?_)
    | (with_reducible refine LeO.bind ?_ (fun _ => ?_))
    | exact ih0 _ _ _ _ _ _ _ _
    | exact ontimeref05_Decimal.mono _ _
    | exact ontimeref05_Shape.mono _ _
    | exact LeO.none _
    | refine LeO.ite ?_ ?_
    | refine LeO.bind ?_ (fun _ => ?_)
theorem ontimeref05_Line.mono : ∀ a0 a1 a2 a3 a4 k, LeO (ontimeref05_Line.f k a0 a1 a2 a3 a4) (ontimeref05_Line.f (k + 1) a0 a1 a2 a3 a4) := by
 intro a0 a1 a2 a3 a4 k
 have ih0 := ontimeref05_Line.mono_l k
 unfold ontimeref05_Line.f
 repeat' first
  | (with_reducible exact ih0 _ _ _ _ _ _ _ _)
  | (with_reducible exact ontimeref05_Decimal.mono _ _)
  | (with_reducible exact ontimeref05_Shape.mono _ _)
  | (with_reducible exact LeO.refl _)
  | (with_reducible exact LeO.none _)
  | (with_reducible refine LeO.ite ?_ ?_)
  | (with_reducible refine LeO.bind ?_ (fun _ => ?_))
  | exact ih0 _ _ _ _ _ _ _ _
  | exact ontimeref05_Decimal.mono _ _
  | exact ontimeref05_Shape.mono _ _
  | exact LeO.none _
  | refine LeO.ite ?_ ?_
  | refine LeO.bind ?_ (fun _ => ?_)
set_option maxHeartbeats 8000000 in
set_option maxRecDepth 100000 in
theorem ontimeref05_Line.calls (k : Nat) (a0_0 : Int) (a0_1 : Int) (a0_2 : Int) (a0_3 : Int) (a0_4 : Int) (r : ByteArray) (w : World) (h : ontimeref05_Line.f k a0_0 a0_1 a0_2 a0_3 a0_4 = some r) :
 Calls Tryd.prog 30 #[.agg #[.int .u8 a0_0, .int .i64 a0_1, .int .i64 a0_2, .int .i64 a0_3, .int .i64 a0_4]] w fun e w' => e = .returned (.string r) ∧ Below w.heap.size w w' := by
 have hu48 := Tryd.underlying48
 have HB := Aside0.mk (Below.refl w.heap.size w)
 have H : ((ontimeref05_Names.f).bind fun t171 => (if 0 ≤ a0_0 then (if a0_0 < (t171.length : Int) then ((ontimeref05_Shape.f k a0_0).bind fun t175 => (ontimeref05_Line.l0 k (rdOf ByteArray.empty t171 a0_0) t175 0 a0_0 a0_1 a0_2 a0_3 a0_4)) else (none)) else (none))) = some r := h
 clear h
 replace H := Option.bind_eq_some_iff.mp H
 obtain ⟨t171, A20, H⟩ := H
 replace H : (if 0 ≤ a0_0 then (if a0_0 < (t171.length : Int) then ((ontimeref05_Shape.f k a0_0).bind fun t175 => (ontimeref05_Line.l0 k (rdOf ByteArray.empty t171 a0_0) t175 0 a0_0 a0_1 a0_2 a0_3 a0_4)) else (none)) else (none)) = some r := H
 have A2 := Aside0.mk A20
 clear A20
 by_cases c3 : 0 ≤ a0_0
 · rw [if_pos c3] at H
   have c3b0 : decide (0 ≤ a0_0) = true := decide_eq_true c3
   clear c3
   by_cases c4 : a0_0 < (t171.length : Int)
   · rw [if_pos c4] at H
     have c4b0 : decide (a0_0 < (t171.length : Int)) = true := decide_eq_true c4
     clear c4
     replace H := Option.bind_eq_some_iff.mp H
     obtain ⟨t175, A50, H⟩ := H
     replace H : (ontimeref05_Line.l0 k (rdOf ByteArray.empty t171 a0_0) t175 0 a0_0 a0_1 a0_2 a0_3 a0_4) = some r := H
     have A5 := Aside0.mk A50
     clear A50
     have H' := Aside0.mk H
     clear H
     go_enter Tryd.func30, Tryd.ntmps30
     try go_wp2_with (first | ((with_reducible refine gate_dst (N := 1) rfl ?_); refine box_event ?hg (N := 1) ?hd (cs := #[.int .u8 a0_0, .int .i64 a0_1, .int .i64 a0_2, .int .i64 a0_3, .int .i64 a0_4]) (t := 48) ?hr ?_; (case hd => rfl); (case hg => rfl); (case hr => first | (go_simp; done) | (go_simp; rfl)); intro gb170 hg w6 hbox hb; have n0_ := Aside0.mk (below_step (by repeat (first | (with_reducible first | exact HB.out | apply below_alloc | apply pw_below_drewN | apply below_drew1) | exact HB.out)) hb); have n1_ := Aside0.mk (hbox); have n2_ := Aside0.mk ((by rw [hg]; exact (below_size (by repeat (first | (with_reducible first | exact HB.out | apply below_alloc | apply pw_below_drewN | apply below_drew1) | exact HB.out))) : w.heap.size ≤ gb170)); have n3_ := Aside0.mk ((by rw [hg]; exact (below_size (by repeat (first | (with_reducible first | exact HB.out | apply below_alloc | apply pw_below_drewN | apply below_drew1) | exact HB.out))) : w.heap.size ≤ gb170)); clear HB; have HB := n0_; have BK170 := n1_; have GW170 := n2_; have GE170 := n3_; clear n0_ n1_ n2_ n3_; clear hb hbox hg))
     have n0_ := Aside0.mk (blk_drew BK170.out)
     have n1_ := Aside0.mk (below_drew1 HB.out)
     clear BK170
     clear HB
     have BK170 := n0_
     have HB := n1_
     clear n0_ n1_
     refine start_ (n := 6) (S := fun w' => w'.cell? ⟨gb170, 0, none⟩ = some (.int .u8 a0_0) ∧ w'.cell? ⟨gb170, 1, none⟩ = some (.int .i64 a0_1) ∧ w'.cell? ⟨gb170, 2, none⟩ = some (.int .i64 a0_2) ∧ w'.cell? ⟨gb170, 3, none⟩ = some (.int .i64 a0_3) ∧ w'.cell? ⟨gb170, 4, none⟩ = some (.int .i64 a0_4)) (ds := []) #[false, false, false, false, false, false] (by kernel_rfl) rfl rfl ⟨(blk_cell BK170.out 0).trans rfl, (blk_cell BK170.out 1).trans rfl, (blk_cell BK170.out 2).trans rfl, (blk_cell BK170.out 3).trans rfl, (blk_cell BK170.out 4).trans rfl⟩ (fun hHeld => ?_)
     generalize w6.drew = w7 at BK170 HB hHeld ⊢
     refine pure_ (i := 1) (N := some 7) (v := ?_) (a' := ?_) #[false, true, false, false, false, false] rfl rfl (by kernel_rfl) (fun _ _ _ h => h) (Or.inl ⟨by rfl, ?_⟩) ?_ ?_
     rotate_left
     · intro w'
       go_simp
       with_reducible rfl
     rotate_left
     · simp only [Act.put, List.setIfInBounds_toArray, List.set_cons_zero, List.set_cons_succ, i64_w, i32_w]
       rfl
     refine take_ (i := 2) (N := some 8) (v := ?_) (a' := ?_) #[false, true, true, false, false, false] rfl rfl (by kernel_rfl) (fun _ _ _ h => h) (Or.inl ⟨by rfl, ?_⟩) hHeld ?_ ?_
     rotate_left
     · rintro w' ⟨s0, s1, s2, s3, s4⟩
       go_simp
       with_reducible rfl
     rotate_left
     · simp only [Act.put, List.setIfInBounds_toArray, List.set_cons_zero, List.set_cons_succ, i64_w, i32_w]
       rfl
     refine one_ (i := 0) (N := some 6) #[true, true, true, false, false, false] rfl rfl (by kernel_rfl) (by decide) (fun K hK => ?_)
     refine goes_ Tryd.func46 (by kernel_rfl) rfl #[] (by rfl) rfl rfl (by (try simp only [List.map_toArray, List.map_cons, List.map_nil]); first | done | rfl | (simp only [List.length_drop, List.length_take]; rfl)) ?_
     with_reducible refine (ontimeref05_Names.calls  t171 _ A2.out).mono ?_
     rintro e w8 ⟨v172, rfl, ho0, hb⟩
     refine ⟨_, rfl, ?_⟩
     have n0_ := Aside0.mk (Kd.R_lower ho0 (below_size (by repeat (first | (with_reducible first | exact HB.out | apply below_alloc | apply pw_below_drewN | apply below_drew1 | refine below_set ?_ GE170.out) | exact HB.out))))
     have n1_ := Aside0.mk (blk_below (g := gb170) (o := .cells #[.int .u8 a0_0, .int .i64 a0_1, .int .i64 a0_2, .int .i64 a0_3, .int .i64 a0_4] 48 (0, 0)) (by (with_reducible repeat (first | refine blk_drewN ?_ _ | refine blk_drew ?_ | refine blk_alloc ?_ _)); exact BK170.out) hb)
     have n2_ := Aside0.mk (below_step (by repeat (first | (with_reducible first | exact HB.out | apply below_alloc | apply pw_below_drewN | apply below_drew1 | refine below_set ?_ GE170.out) | exact HB.out)) hb)
     clear BK170
     clear HB
     have HO173 := n0_
     have BK170 := n1_
     have HB := n2_
     clear n0_ n1_ n2_
     (try clear hb)
     (try clear hb2)
     (try clear hk)
     (try clear hi)
     (try clear ho0)
     obtain ⟨Ao9, co9, eo9⟩ := Kd.R_slice HO173.out
     (first | subst eo9 | (injection eo9 with f1_ f2_ f3_; have f4_ := f1_.symm; have f5_ := f3_.symm; clear f1_ f2_ f3_; subst f4_; subst f5_))
     have p174 : 0 ≤ (a0_0 : Int) := of_decide_eq_true (by first | (with_reducible assumption) | assumption)
     have q174 : a0_0 < (t171.length : Int) := of_decide_eq_true (by first | (with_reducible assumption) | assumption)
     obtain ⟨ad174, e174, hx174_0⟩ := Kd.at_string (Kd.R_reads' HO173.out).2.2 a0_0 p174 q174
     cases e174
     replace p174 := eq_true p174
     replace q174 := eq_true q174
     refine hK.out _ _ ⟨(blk_cell BK170.out 0).trans rfl, (blk_cell BK170.out 1).trans rfl, (blk_cell BK170.out 2).trans rfl, (blk_cell BK170.out 3).trans rfl, (blk_cell BK170.out 4).trans rfl⟩ (fun hHeld => ?_)
     clear hK K
     refine norm_ (a' := ?_) ?_ ?_
     rotate_left
     · show Act.put _ (some 6) _ = _
       simp only [Act.put, List.setIfInBounds_toArray, List.set_cons_zero, List.set_cons_succ, i64_w, i32_w]
       rfl
     refine pure_ (i := 3) (N := some 9) (v := ?_) (a' := ?_) #[true, true, true, true, false, false] rfl rfl (by kernel_rfl) (fun _ _ _ h => h) (Or.inl ⟨by rfl, ?_⟩) ?_ ?_
     rotate_left
     · intro w'
       go_simp
       with_reducible rfl
     rotate_left
     · simp only [Act.put, List.setIfInBounds_toArray, List.set_cons_zero, List.set_cons_succ, i64_w, i32_w]
       rfl
     refine one_ (i := 4) (N := some 10) #[true, true, true, true, true, false] rfl rfl (by kernel_rfl) (by decide) (fun K hK => ?_)
     go_simp
     refine hK.out _ _ ⟨(blk_cell BK170.out 0).trans rfl, (blk_cell BK170.out 1).trans rfl, (blk_cell BK170.out 2).trans rfl, (blk_cell BK170.out 3).trans rfl, (blk_cell BK170.out 4).trans rfl⟩ (fun hHeld => ?_)
     clear hK K
     refine pure_ (i := 5) (N := some 3) (v := ?_) (a' := ?_) #[true, true, true, true, true, true] rfl rfl (by kernel_rfl) (fun _ _ _ h => h) (Or.inl ⟨by rfl, ?_⟩) ?_ ?_
     rotate_left
     · intro w'
       go_simp
       with_reducible rfl
     rotate_left
     · simp only [Act.put, List.setIfInBounds_toArray, List.set_cons_zero, List.set_cons_succ, i64_w, i32_w]
       rfl
     refine done_ (by kernel_rfl) ?_
     have hcz10_0 : w8.cell? ⟨gb170, 0, none⟩ = some (.int .u8 a0_0) := (blk_cell BK170.out 0).trans rfl
     have hcz10_1 : w8.cell? ⟨gb170, 1, none⟩ = some (.int .i64 a0_1) := (blk_cell BK170.out 1).trans rfl
     have hcz10_2 : w8.cell? ⟨gb170, 2, none⟩ = some (.int .i64 a0_2) := (blk_cell BK170.out 2).trans rfl
     have hcz10_3 : w8.cell? ⟨gb170, 3, none⟩ = some (.int .i64 a0_3) := (blk_cell BK170.out 3).trans rfl
     have hcz10_4 : w8.cell? ⟨gb170, 4, none⟩ = some (.int .i64 a0_4) := (blk_cell BK170.out 4).trans rfl
     have hfz10_0 := blk_frozen BK170.out 0
     have hfz10_1 := blk_frozen BK170.out 1
     have hfz10_2 := blk_frozen BK170.out 2
     have hfz10_3 := blk_frozen BK170.out 3
     have hfz10_4 := blk_frozen BK170.out 4
     try go_wp2_with (first | ((with_reducible refine gate_callee (f := 47) rfl ?_); refine goesL_ (some 13) rfl rfl Tryd.func47 (by kernel_rfl) rfl #[.int .u8 a0_0] rfl (by (try simp only [List.map_toArray, List.map_cons, List.map_nil]); first | done | rfl | (simp only [List.length_drop, List.length_take]; rfl)) ?_; (with_reducible refine (ontimeref05_Shape.calls k a0_0 t175 _ A5.out).mono ?_); rintro e w' ⟨rfl, ⟨nd, rfl⟩⟩; refine ⟨_, rfl, ?_⟩))
     go_loopg [3, 5] k (fun kq v3 v5 w' => ∃ (x3_1 : ByteArray) (x5_1 : Int), v3 = .string x3_1 ∧ v5 = .int .i64 x5_1 ∧ Aside0 (ontimeref05_Line.l0 kq x3_1 t175 x5_1 a0_0 a0_1 a0_2 a0_3 a0_4 = some r) ∧ Aside0 (kq ≤ k) ∧ Aside0 (w'.heap[gb170]? = some (.cells #[.int .u8 a0_0, .int .i64 a0_1, .int .i64 a0_2, .int .i64 a0_3, .int .i64 a0_4] 48 (0, 0))) ∧ Aside0 (Below w.heap.size w w'))
     case atStart => exact ⟨(rdOf ByteArray.empty t171 a0_0), (0), (by first | rfl | (simp; done) | (simp [*]; done)), (by first | rfl | (simp; done) | (simp [*]; done)), H', ⟨Nat.le_refl _⟩, ⟨by (with_reducible repeat (first | refine blk_drewN ?_ _ | refine blk_drew ?_ | refine blk_alloc ?_ _)); exact BK170.out⟩, ⟨by repeat (first | (with_reducible first | exact HB.out | apply below_alloc | apply pw_below_drewN | apply below_drew1 | refine below_set ?_ GE170.out) | exact HB.out)⟩⟩
     case round =>
      clear H'
      try clear p1
      try clear q1
      try clear hx1
      try clear p2
      try clear c3
      try clear c3b0
      try clear c4
      try clear c4b0
      try clear hcz10_0
      try clear hcz10_1
      try clear hcz10_2
      try clear hcz10_3
      try clear hcz10_4
      try clear hfz10_0
      try clear hfz10_1
      try clear hfz10_2
      try clear hfz10_3
      try clear hfz10_4
      try clear hx174_0
      try clear p174
      try clear q174
      obtain ⟨x3_1, x5_1, rfl, rfl, HA, HK1, BK170, HB⟩ := hrel
      cases gk with
      | zero => exact absurd HA.out (by simp [ontimeref05_Line.l0])
      | succ k1 =>
       have H := HA.out
       clear HA
       simp only [ontimeref05_Line.l0] at H
       by_cases c11 : x5_1 < (t175.size : Int)
       · rw [if_pos c11] at H
         have c11b0 : decide (x5_1 < (t175.size : Int)) = true := decide_eq_true c11
         clear c11
         by_cases c12 : 0 ≤ x5_1
         · rw [if_pos c12] at H
           have c12b0 : decide (0 ≤ x5_1) = true := decide_eq_true c12
           clear c12
           by_cases c14 : (bt t175 x5_1) = 97
           · rw [if_pos c14] at H
             have c14b0 : ((bt t175 x5_1) == 97) = true := beq_iff_eq.mpr c14
             have c14b1 : ((bt t175 x5_1) != 97) = false := bne_eq_false_iff_eq.mpr c14
             clear c14
             by_cases c15 : x3_1.size + 2 ≤ 9223372036854775807
             · rw [if_pos c15] at H
               have c15b0 := eq_true c15
               have c15b1 : decide (x3_1.size + 2 ≤ 9223372036854775807) = true := decide_eq_true c15
               try have c15b2 : (9223372036854775807 < x3_1.size + 2) = False := eq_false (Nat.not_lt.2 c15)
               replace H := Option.bind_eq_some_iff.mp H
               obtain ⟨t176, A160, H⟩ := H
               replace H : (if (x3_1 ++ (⟨#[32, 114]⟩ : ByteArray)).size + t176.size ≤ 9223372036854775807 then (ontimeref05_Line.l0 k1 ((x3_1 ++ (⟨#[32, 114]⟩ : ByteArray)) ++ t176) t175 (wrap64 (x5_1 + 1)) a0_0 a0_1 a0_2 a0_3 a0_4) else (none)) = some r := H
               have A16 := Aside0.mk A160
               clear A160
               by_cases c17 : (x3_1 ++ (⟨#[32, 114]⟩ : ByteArray)).size + t176.size ≤ 9223372036854775807
               · rw [if_pos c17] at H
                 have c17b0 := eq_true c17
                 have c17b1 : decide ((x3_1 ++ (⟨#[32, 114]⟩ : ByteArray)).size + t176.size ≤ 9223372036854775807) = true := decide_eq_true c17
                 try have c17b2 : (9223372036854775807 < (x3_1 ++ (⟨#[32, 114]⟩ : ByteArray)).size + t176.size) = False := eq_false (Nat.not_lt.2 c17)
                 try (have c17b3 := c17; simp only [ByteArray.size_append, show (⟨#[32, 114]⟩ : ByteArray).size = 2 from rfl] at c17b3; have c17b4 := eq_true c17b3; replace c17b3 := eq_false (Nat.not_lt.2 c17b3))
                 have H' := Aside0.mk H
                 clear H
                 have p13 : 0 ≤ (x5_1 : Int) := of_decide_eq_true (by first | (with_reducible assumption) | assumption)
                 have q13 : x5_1 < (t175.size : Int) := of_decide_eq_true (by first | (with_reducible assumption) | assumption)
                 have hx13 := bt_at t175 x5_1
                 replace p13 := eq_true p13
                 replace q13 := eq_true q13
                 have hcz18_0 : wr.cell? ⟨gb170, 0, none⟩ = some (.int .u8 a0_0) := (blk_cell BK170.out 0).trans rfl
                 have hcz18_1 : wr.cell? ⟨gb170, 1, none⟩ = some (.int .i64 a0_1) := (blk_cell BK170.out 1).trans rfl
                 have hcz18_2 : wr.cell? ⟨gb170, 2, none⟩ = some (.int .i64 a0_2) := (blk_cell BK170.out 2).trans rfl
                 have hcz18_3 : wr.cell? ⟨gb170, 3, none⟩ = some (.int .i64 a0_3) := (blk_cell BK170.out 3).trans rfl
                 have hcz18_4 : wr.cell? ⟨gb170, 4, none⟩ = some (.int .i64 a0_4) := (blk_cell BK170.out 4).trans rfl
                 have hfz18_0 := blk_frozen BK170.out 0
                 have hfz18_1 := blk_frozen BK170.out 1
                 have hfz18_2 := blk_frozen BK170.out 2
                 have hfz18_3 := blk_frozen BK170.out 3
                 have hfz18_4 := blk_frozen BK170.out 4
                 go_wp2_with (first | ((with_reducible refine gate_callee (f := 48) rfl ?_); refine goesL_ (some 35) rfl rfl Tryd.func48 (by kernel_rfl) rfl #[.int .i64 a0_1] rfl (by (try simp only [List.map_toArray, List.map_cons, List.map_nil]); first | done | rfl | (simp only [List.length_drop, List.length_take]; rfl)) ?_; (with_reducible refine (ontimeref05_Decimal.calls k1 a0_1 t176 _ A16.out).mono ?_); rintro e w' ⟨rfl, ⟨nd, rfl⟩⟩; refine ⟨_, rfl, ?_⟩))
                 go_roundg k1
                 case measure => have := HK1.out; omega
                 case rel => exact ⟨((x3_1 ++ (⟨#[32, 114]⟩ : ByteArray)) ++ t176), (wrap64 (x5_1 + 1)), (by first | rfl | (simp; done) | (simp [*]; done)), (by first | rfl | (simp; done) | (simp [*]; done)), H', ⟨by have := HK1.out; omega⟩, ⟨by (with_reducible repeat (first | refine blk_drewN ?_ _ | refine blk_drew ?_ | refine blk_alloc ?_ _)); exact BK170.out⟩, ⟨by repeat (first | (with_reducible first | exact HB.out | apply below_alloc | apply pw_below_drewN | apply below_drew1 | refine below_set ?_ GE170.out) | exact HB.out)⟩⟩
               · rw [if_neg c17] at H
                 exact absurd H (by simp)
             · rw [if_neg c15] at H
               exact absurd H (by simp)
           · rw [if_neg c14] at H
             have c14b0 : ((bt t175 x5_1) == 97) = false := beq_eq_false_iff_ne.mpr c14
             have c14b1 : ((bt t175 x5_1) != 97) = true := bne_iff_ne.mpr c14
             by_cases c19 : (bt t175 x5_1) = 98
             · rw [if_pos c19] at H
               have c19b0 : ((bt t175 x5_1) == 98) = true := beq_iff_eq.mpr c19
               have c19b1 : ((bt t175 x5_1) != 98) = false := bne_eq_false_iff_eq.mpr c19
               clear c19
               by_cases c20 : x3_1.size + 2 ≤ 9223372036854775807
               · rw [if_pos c20] at H
                 have c20b0 := eq_true c20
                 have c20b1 : decide (x3_1.size + 2 ≤ 9223372036854775807) = true := decide_eq_true c20
                 try have c20b2 : (9223372036854775807 < x3_1.size + 2) = False := eq_false (Nat.not_lt.2 c20)
                 replace H := Option.bind_eq_some_iff.mp H
                 obtain ⟨t177, A210, H⟩ := H
                 replace H : (if (x3_1 ++ (⟨#[32, 114]⟩ : ByteArray)).size + t177.size ≤ 9223372036854775807 then (ontimeref05_Line.l0 k1 ((x3_1 ++ (⟨#[32, 114]⟩ : ByteArray)) ++ t177) t175 (wrap64 (x5_1 + 1)) a0_0 a0_1 a0_2 a0_3 a0_4) else (none)) = some r := H
                 have A21 := Aside0.mk A210
                 clear A210
                 by_cases c22 : (x3_1 ++ (⟨#[32, 114]⟩ : ByteArray)).size + t177.size ≤ 9223372036854775807
                 · rw [if_pos c22] at H
                   have c22b0 := eq_true c22
                   have c22b1 : decide ((x3_1 ++ (⟨#[32, 114]⟩ : ByteArray)).size + t177.size ≤ 9223372036854775807) = true := decide_eq_true c22
                   try have c22b2 : (9223372036854775807 < (x3_1 ++ (⟨#[32, 114]⟩ : ByteArray)).size + t177.size) = False := eq_false (Nat.not_lt.2 c22)
                   try (have c22b3 := c22; simp only [ByteArray.size_append, show (⟨#[32, 114]⟩ : ByteArray).size = 2 from rfl] at c22b3; have c22b4 := eq_true c22b3; replace c22b3 := eq_false (Nat.not_lt.2 c22b3))
                   have H' := Aside0.mk H
                   clear H
                   have p13 : 0 ≤ (x5_1 : Int) := of_decide_eq_true (by first | (with_reducible assumption) | assumption)
                   have q13 : x5_1 < (t175.size : Int) := of_decide_eq_true (by first | (with_reducible assumption) | assumption)
                   have hx13 := bt_at t175 x5_1
                   replace p13 := eq_true p13
                   replace q13 := eq_true q13
                   have hcz23_0 : wr.cell? ⟨gb170, 0, none⟩ = some (.int .u8 a0_0) := (blk_cell BK170.out 0).trans rfl
                   have hcz23_1 : wr.cell? ⟨gb170, 1, none⟩ = some (.int .i64 a0_1) := (blk_cell BK170.out 1).trans rfl
                   have hcz23_2 : wr.cell? ⟨gb170, 2, none⟩ = some (.int .i64 a0_2) := (blk_cell BK170.out 2).trans rfl
                   have hcz23_3 : wr.cell? ⟨gb170, 3, none⟩ = some (.int .i64 a0_3) := (blk_cell BK170.out 3).trans rfl
                   have hcz23_4 : wr.cell? ⟨gb170, 4, none⟩ = some (.int .i64 a0_4) := (blk_cell BK170.out 4).trans rfl
                   have hfz23_0 := blk_frozen BK170.out 0
                   have hfz23_1 := blk_frozen BK170.out 1
                   have hfz23_2 := blk_frozen BK170.out 2
                   have hfz23_3 := blk_frozen BK170.out 3
                   have hfz23_4 := blk_frozen BK170.out 4
                   go_wp2_with (first | ((with_reducible refine gate_callee (f := 48) rfl ?_); refine goesL_ (some 43) rfl rfl Tryd.func48 (by kernel_rfl) rfl #[.int .i64 a0_2] rfl (by (try simp only [List.map_toArray, List.map_cons, List.map_nil]); first | done | rfl | (simp only [List.length_drop, List.length_take]; rfl)) ?_; (with_reducible refine (ontimeref05_Decimal.calls k1 a0_2 t177 _ A21.out).mono ?_); rintro e w' ⟨rfl, ⟨nd, rfl⟩⟩; refine ⟨_, rfl, ?_⟩))
                   go_roundg k1
                   case measure => have := HK1.out; omega
                   case rel => exact ⟨((x3_1 ++ (⟨#[32, 114]⟩ : ByteArray)) ++ t177), (wrap64 (x5_1 + 1)), (by first | rfl | (simp; done) | (simp [*]; done)), (by first | rfl | (simp; done) | (simp [*]; done)), H', ⟨by have := HK1.out; omega⟩, ⟨by (with_reducible repeat (first | refine blk_drewN ?_ _ | refine blk_drew ?_ | refine blk_alloc ?_ _)); exact BK170.out⟩, ⟨by repeat (first | (with_reducible first | exact HB.out | apply below_alloc | apply pw_below_drewN | apply below_drew1 | refine below_set ?_ GE170.out) | exact HB.out)⟩⟩
                 · rw [if_neg c22] at H
                   exact absurd H (by simp)
               · rw [if_neg c20] at H
                 exact absurd H (by simp)
             · rw [if_neg c19] at H
               have c19b0 : ((bt t175 x5_1) == 98) = false := beq_eq_false_iff_ne.mpr c19
               have c19b1 : ((bt t175 x5_1) != 98) = true := bne_iff_ne.mpr c19
               by_cases c24 : (bt t175 x5_1) = 99
               · rw [if_pos c24] at H
                 have c24b0 : ((bt t175 x5_1) == 99) = true := beq_iff_eq.mpr c24
                 have c24b1 : ((bt t175 x5_1) != 99) = false := bne_eq_false_iff_eq.mpr c24
                 clear c24
                 by_cases c25 : x3_1.size + 2 ≤ 9223372036854775807
                 · rw [if_pos c25] at H
                   have c25b0 := eq_true c25
                   have c25b1 : decide (x3_1.size + 2 ≤ 9223372036854775807) = true := decide_eq_true c25
                   try have c25b2 : (9223372036854775807 < x3_1.size + 2) = False := eq_false (Nat.not_lt.2 c25)
                   replace H := Option.bind_eq_some_iff.mp H
                   obtain ⟨t178, A260, H⟩ := H
                   replace H : (if (x3_1 ++ (⟨#[32, 114]⟩ : ByteArray)).size + t178.size ≤ 9223372036854775807 then (ontimeref05_Line.l0 k1 ((x3_1 ++ (⟨#[32, 114]⟩ : ByteArray)) ++ t178) t175 (wrap64 (x5_1 + 1)) a0_0 a0_1 a0_2 a0_3 a0_4) else (none)) = some r := H
                   have A26 := Aside0.mk A260
                   clear A260
                   by_cases c27 : (x3_1 ++ (⟨#[32, 114]⟩ : ByteArray)).size + t178.size ≤ 9223372036854775807
                   · rw [if_pos c27] at H
                     have c27b0 := eq_true c27
                     have c27b1 : decide ((x3_1 ++ (⟨#[32, 114]⟩ : ByteArray)).size + t178.size ≤ 9223372036854775807) = true := decide_eq_true c27
                     try have c27b2 : (9223372036854775807 < (x3_1 ++ (⟨#[32, 114]⟩ : ByteArray)).size + t178.size) = False := eq_false (Nat.not_lt.2 c27)
                     try (have c27b3 := c27; simp only [ByteArray.size_append, show (⟨#[32, 114]⟩ : ByteArray).size = 2 from rfl] at c27b3; have c27b4 := eq_true c27b3; replace c27b3 := eq_false (Nat.not_lt.2 c27b3))
                     have H' := Aside0.mk H
                     clear H
                     have p13 : 0 ≤ (x5_1 : Int) := of_decide_eq_true (by first | (with_reducible assumption) | assumption)
                     have q13 : x5_1 < (t175.size : Int) := of_decide_eq_true (by first | (with_reducible assumption) | assumption)
                     have hx13 := bt_at t175 x5_1
                     replace p13 := eq_true p13
                     replace q13 := eq_true q13
                     have hcz28_0 : wr.cell? ⟨gb170, 0, none⟩ = some (.int .u8 a0_0) := (blk_cell BK170.out 0).trans rfl
                     have hcz28_1 : wr.cell? ⟨gb170, 1, none⟩ = some (.int .i64 a0_1) := (blk_cell BK170.out 1).trans rfl
                     have hcz28_2 : wr.cell? ⟨gb170, 2, none⟩ = some (.int .i64 a0_2) := (blk_cell BK170.out 2).trans rfl
                     have hcz28_3 : wr.cell? ⟨gb170, 3, none⟩ = some (.int .i64 a0_3) := (blk_cell BK170.out 3).trans rfl
                     have hcz28_4 : wr.cell? ⟨gb170, 4, none⟩ = some (.int .i64 a0_4) := (blk_cell BK170.out 4).trans rfl
                     have hfz28_0 := blk_frozen BK170.out 0
                     have hfz28_1 := blk_frozen BK170.out 1
                     have hfz28_2 := blk_frozen BK170.out 2
                     have hfz28_3 := blk_frozen BK170.out 3
                     have hfz28_4 := blk_frozen BK170.out 4
                     go_wp2_with (first | ((with_reducible refine gate_callee (f := 48) rfl ?_); refine goesL_ (some 51) rfl rfl Tryd.func48 (by kernel_rfl) rfl #[.int .i64 a0_3] rfl (by (try simp only [List.map_toArray, List.map_cons, List.map_nil]); first | done | rfl | (simp only [List.length_drop, List.length_take]; rfl)) ?_; (with_reducible refine (ontimeref05_Decimal.calls k1 a0_3 t178 _ A26.out).mono ?_); rintro e w' ⟨rfl, ⟨nd, rfl⟩⟩; refine ⟨_, rfl, ?_⟩))
                     go_roundg k1
                     case measure => have := HK1.out; omega
                     case rel => exact ⟨((x3_1 ++ (⟨#[32, 114]⟩ : ByteArray)) ++ t178), (wrap64 (x5_1 + 1)), (by first | rfl | (simp; done) | (simp [*]; done)), (by first | rfl | (simp; done) | (simp [*]; done)), H', ⟨by have := HK1.out; omega⟩, ⟨by (with_reducible repeat (first | refine blk_drewN ?_ _ | refine blk_drew ?_ | refine blk_alloc ?_ _)); exact BK170.out⟩, ⟨by repeat (first | (with_reducible first | exact HB.out | apply below_alloc | apply pw_below_drewN | apply below_drew1 | refine below_set ?_ GE170.out) | exact HB.out)⟩⟩
                   · rw [if_neg c27] at H
                     exact absurd H (by simp)
                 · rw [if_neg c25] at H
                   exact absurd H (by simp)
               · rw [if_neg c24] at H
                 have c24b0 : ((bt t175 x5_1) == 99) = false := beq_eq_false_iff_ne.mpr c24
                 have c24b1 : ((bt t175 x5_1) != 99) = true := bne_iff_ne.mpr c24
                 by_cases c29 : x3_1.size + 1 ≤ 9223372036854775807
                 · rw [if_pos c29] at H
                   have c29b0 := eq_true c29
                   have c29b1 : decide (x3_1.size + 1 ≤ 9223372036854775807) = true := decide_eq_true c29
                   try have c29b2 : (9223372036854775807 < x3_1.size + 1) = False := eq_false (Nat.not_lt.2 c29)
                   replace H := Option.bind_eq_some_iff.mp H
                   obtain ⟨t179, A300, H⟩ := H
                   replace H : (if (x3_1 ++ (⟨#[32]⟩ : ByteArray)).size + t179.size ≤ 9223372036854775807 then (ontimeref05_Line.l0 k1 ((x3_1 ++ (⟨#[32]⟩ : ByteArray)) ++ t179) t175 (wrap64 (x5_1 + 1)) a0_0 a0_1 a0_2 a0_3 a0_4) else (none)) = some r := H
                   have A30 := Aside0.mk A300
                   clear A300
                   by_cases c31 : (x3_1 ++ (⟨#[32]⟩ : ByteArray)).size + t179.size ≤ 9223372036854775807
                   · rw [if_pos c31] at H
                     have c31b0 := eq_true c31
                     have c31b1 : decide ((x3_1 ++ (⟨#[32]⟩ : ByteArray)).size + t179.size ≤ 9223372036854775807) = true := decide_eq_true c31
                     try have c31b2 : (9223372036854775807 < (x3_1 ++ (⟨#[32]⟩ : ByteArray)).size + t179.size) = False := eq_false (Nat.not_lt.2 c31)
                     try (have c31b3 := c31; simp only [ByteArray.size_append, show (⟨#[32]⟩ : ByteArray).size = 1 from rfl] at c31b3; have c31b4 := eq_true c31b3; replace c31b3 := eq_false (Nat.not_lt.2 c31b3))
                     have H' := Aside0.mk H
                     clear H
                     have p13 : 0 ≤ (x5_1 : Int) := of_decide_eq_true (by first | (with_reducible assumption) | assumption)
                     have q13 : x5_1 < (t175.size : Int) := of_decide_eq_true (by first | (with_reducible assumption) | assumption)
                     have hx13 := bt_at t175 x5_1
                     replace p13 := eq_true p13
                     replace q13 := eq_true q13
                     have hcz32_0 : wr.cell? ⟨gb170, 0, none⟩ = some (.int .u8 a0_0) := (blk_cell BK170.out 0).trans rfl
                     have hcz32_1 : wr.cell? ⟨gb170, 1, none⟩ = some (.int .i64 a0_1) := (blk_cell BK170.out 1).trans rfl
                     have hcz32_2 : wr.cell? ⟨gb170, 2, none⟩ = some (.int .i64 a0_2) := (blk_cell BK170.out 2).trans rfl
                     have hcz32_3 : wr.cell? ⟨gb170, 3, none⟩ = some (.int .i64 a0_3) := (blk_cell BK170.out 3).trans rfl
                     have hcz32_4 : wr.cell? ⟨gb170, 4, none⟩ = some (.int .i64 a0_4) := (blk_cell BK170.out 4).trans rfl
                     have hfz32_0 := blk_frozen BK170.out 0
                     have hfz32_1 := blk_frozen BK170.out 1
                     have hfz32_2 := blk_frozen BK170.out 2
                     have hfz32_3 := blk_frozen BK170.out 3
                     have hfz32_4 := blk_frozen BK170.out 4
                     go_wp2_with (first | ((with_reducible refine gate_callee (f := 48) rfl ?_); refine goesL_ (some 27) rfl rfl Tryd.func48 (by kernel_rfl) rfl #[.int .i64 a0_4] rfl (by (try simp only [List.map_toArray, List.map_cons, List.map_nil]); first | done | rfl | (simp only [List.length_drop, List.length_take]; rfl)) ?_; (with_reducible refine (ontimeref05_Decimal.calls k1 a0_4 t179 _ A30.out).mono ?_); rintro e w' ⟨rfl, ⟨nd, rfl⟩⟩; refine ⟨_, rfl, ?_⟩))
                     go_roundg k1
                     case measure => have := HK1.out; omega
                     case rel => exact ⟨((x3_1 ++ (⟨#[32]⟩ : ByteArray)) ++ t179), (wrap64 (x5_1 + 1)), (by first | rfl | (simp; done) | (simp [*]; done)), (by first | rfl | (simp; done) | (simp [*]; done)), H', ⟨by have := HK1.out; omega⟩, ⟨by (with_reducible repeat (first | refine blk_drewN ?_ _ | refine blk_drew ?_ | refine blk_alloc ?_ _)); exact BK170.out⟩, ⟨by repeat (first | (with_reducible first | exact HB.out | apply below_alloc | apply pw_below_drewN | apply below_drew1 | refine below_set ?_ GE170.out) | exact HB.out)⟩⟩
                   · rw [if_neg c31] at H
                     exact absurd H (by simp)
                 · rw [if_neg c29] at H
                   exact absurd H (by simp)
         · rw [if_neg c12] at H
           exact absurd H (by simp)
       · rw [if_neg c11] at H
         have c11b0 : decide (x5_1 < (t175.size : Int)) = false := decide_eq_false c11
         clear c11
         obtain rfl := Option.some.inj H
         go_wp2
         go_ret
         exact ⟨by first | rfl | (simp [errW_none, errW_some] <;> rfl) | (simp [*, errW_none, errW_some] <;> rfl), by repeat (first | (with_reducible first | exact HB.out | apply below_alloc | apply pw_below_drewN | apply below_drew1 | refine below_set ?_ GE170.out) | exact HB.out)⟩
   · rw [if_neg c4] at H
     exact absurd H (by simp)
 · rw [if_neg c3] at H
   exact absurd H (by simp)

/-! ### ontimeref05_Format: function 15 -/
def ontimeref05_Format.l0 : Nat → List (S48) → ByteArray → Int → Option (ByteArray)
 | 0, _, _, _ => none
 | k + 1, x0, x3, x4 => if x4 < (x0.length : Int) then (if 0 ≤ x4 then ((ontimeref05_Line.f k ((rd_T48 x0 x4).f0) ((rd_T48 x0 x4).f1) ((rd_T48 x0 x4).f2) ((rd_T48 x0 x4).f3) ((rd_T48 x0 x4).f4)).bind fun t181 => (if x3.size + t181.size ≤ 9223372036854775807 then (if (x3 ++ t181).size + 1 ≤ 9223372036854775807 then (ontimeref05_Format.l0 k x0 ((x3 ++ t181) ++ (⟨#[10]⟩ : ByteArray)) (wrap64 (x4 + 1))) else (none)) else (none))) else (none)) else (some x3)
def ontimeref05_Format.f (k : Nat) (l0 : List (S48)) : Option (ByteArray) := ontimeref05_Format.l0 k l0 (⟨#[]⟩ : ByteArray) 0
theorem ontimeref05_Format.mono_l : ∀ k, (∀ y0 y1 y2, LeO (ontimeref05_Format.l0 k y0 y1 y2) (ontimeref05_Format.l0 (k + 1) y0 y1 y2))
 | 0 => fun _ _ _ r h => by simp [ontimeref05_Format.l0] at h
 | k + 1 => by
  have ih0 := ontimeref05_Format.mono_l k
  · intro y0 y1 y2
    unfold ontimeref05_Format.l0
    repeat' first
    | (with_reducible exact ih0 _ _ _)
    | (with_reducible exact ontimeref05_Line.mono _ _ _ _ _ _)
    | (with_reducible exact LeO.refl _)
    | (with_reducible exact LeO.none _)
    | (with_reducible refine LeO.ite ?_ ?_)
    | (with_reducible refine LeO.bind ?_ (fun _ => ?_))
    | exact ih0 _ _ _
    | exact ontimeref05_Line.mono _ _ _ _ _ _
    | exact LeO.none _
    | refine LeO.ite ?_ ?_
    | refine LeO.bind ?_ (fun _ => ?_)
theorem ontimeref05_Format.mono : ∀ a0 k, LeO (ontimeref05_Format.f k a0) (ontimeref05_Format.f (k + 1) a0) := by
 intro a0 k
 have ih0 := ontimeref05_Format.mono_l k
 unfold ontimeref05_Format.f
 repeat' first
  | (with_reducible exact ih0 _ _ _)
  | (with_reducible exact ontimeref05_Line.mono _ _ _ _ _ _)
  | (with_reducible exact LeO.refl _)
  | (with_reducible exact LeO.none _)
  | (with_reducible refine LeO.ite ?_ ?_)
  | (with_reducible refine LeO.bind ?_ (fun _ => ?_))
  | exact ih0 _ _ _
  | exact ontimeref05_Line.mono _ _ _ _ _ _
  | exact LeO.none _
  | refine LeO.ite ?_ ?_
  | refine LeO.bind ?_ (fun _ => ?_)
set_option maxHeartbeats 8000000 in
set_option maxRecDepth 100000 in
theorem ontimeref05_Format.calls (k : Nat) (A0 : Option Addr) (c0 : Nat) (l0 : List (S48)) (r : ByteArray) (w : World) (hr0 : Kd.C k48 w A0 l0.length l0) (hc0 : l0.length ≤ c0) (h : ontimeref05_Format.f k l0 = some r) :
 Calls Tryd.prog 15 #[.slice A0 l0.length c0] w fun e w' => e = .returned (.string r) ∧ Below w.heap.size w w' := by
 have hu48 := Tryd.underlying48
 have HR0 := Aside0.mk hr0
 have HC0 := Aside0.mk hc0
 clear hr0 hc0
 have HB := Aside0.mk (Below.refl w.heap.size w)
 have H : (ontimeref05_Format.l0 k l0 (⟨#[]⟩ : ByteArray) 0) = some r := h
 clear h
 have H' := Aside0.mk H
 clear H
 go_enter Tryd.func15, Tryd.ntmps15
 go_wp2
 go_loopg [3, 4] k (fun kq v3 v4 w' => ∃ (x3_1 : ByteArray) (x4_1 : Int), v3 = .string x3_1 ∧ v4 = .int .i64 x4_1 ∧ Aside0 (ontimeref05_Format.l0 kq l0 x3_1 x4_1 = some r) ∧ Aside0 (kq ≤ k) ∧ Aside0 (Below w.heap.size w w'))
 case atStart => exact ⟨((⟨#[]⟩ : ByteArray)), (0), (by first | rfl | (simp; done) | (simp [*]; done)), (by first | rfl | (simp; done) | (simp [*]; done)), H', ⟨Nat.le_refl _⟩, ⟨by repeat (first | (with_reducible first | exact HB.out | apply below_alloc | apply pw_below_drewN | apply below_drew1) | exact HB.out)⟩⟩
 case round =>
  clear H'
  try clear c1
  obtain ⟨x3_1, x4_1, rfl, rfl, HA, HK1, HB⟩ := hrel
  cases gk with
  | zero => exact absurd HA.out (by simp [ontimeref05_Format.l0])
  | succ k1 =>
   have H := HA.out
   clear HA
   simp only [ontimeref05_Format.l0] at H
   by_cases c2 : x4_1 < (l0.length : Int)
   · rw [if_pos c2] at H
     have c2b0 : decide (x4_1 < (l0.length : Int)) = true := decide_eq_true c2
     clear c2
     by_cases c3 : 0 ≤ x4_1
     · rw [if_pos c3] at H
       have c3b0 : decide (0 ≤ x4_1) = true := decide_eq_true c3
       clear c3
       replace H := Option.bind_eq_some_iff.mp H
       obtain ⟨t181, A40, H⟩ := H
       replace H : (if x3_1.size + t181.size ≤ 9223372036854775807 then (if (x3_1 ++ t181).size + 1 ≤ 9223372036854775807 then (ontimeref05_Format.l0 k1 l0 ((x3_1 ++ t181) ++ (⟨#[10]⟩ : ByteArray)) (wrap64 (x4_1 + 1))) else (none)) else (none)) = some r := H
       have A4 := Aside0.mk A40
       clear A40
       by_cases c5 : x3_1.size + t181.size ≤ 9223372036854775807
       · rw [if_pos c5] at H
         have c5b0 := eq_true c5
         have c5b1 : decide (x3_1.size + t181.size ≤ 9223372036854775807) = true := decide_eq_true c5
         try have c5b2 : (9223372036854775807 < x3_1.size + t181.size) = False := eq_false (Nat.not_lt.2 c5)
         by_cases c6 : (x3_1 ++ t181).size + 1 ≤ 9223372036854775807
         · rw [if_pos c6] at H
           have c6b0 := eq_true c6
           have c6b1 : decide ((x3_1 ++ t181).size + 1 ≤ 9223372036854775807) = true := decide_eq_true c6
           try have c6b2 : (9223372036854775807 < (x3_1 ++ t181).size + 1) = False := eq_false (Nat.not_lt.2 c6)
           try (have c6b3 := c6; simp only [ByteArray.size_append] at c6b3; have c6b4 := eq_true c6b3; replace c6b3 := eq_false (Nat.not_lt.2 c6b3))
           have H' := Aside0.mk H
           clear H
           have p180 : 0 ≤ (x4_1 : Int) := of_decide_eq_true (by first | (with_reducible assumption) | assumption)
           have q180 : x4_1 < (l0.length : Int) := of_decide_eq_true (by first | (with_reducible assumption) | assumption)
           obtain ⟨ad180, e180, hx180_0, hx180_1, hx180_2, hx180_3, hx180_4⟩ := at_T48 HR0.out x4_1 p180 q180
           cases e180
           replace hx180_0 := (HB.out.cell (World.block_lt_of_cell? w _ hx180_0)).trans hx180_0
           replace hx180_1 := (HB.out.cell (World.block_lt_of_cell? w _ hx180_1)).trans hx180_1
           replace hx180_2 := (HB.out.cell (World.block_lt_of_cell? w _ hx180_2)).trans hx180_2
           replace hx180_3 := (HB.out.cell (World.block_lt_of_cell? w _ hx180_3)).trans hx180_3
           replace hx180_4 := (HB.out.cell (World.block_lt_of_cell? w _ hx180_4)).trans hx180_4
           replace p180 := eq_true p180
           replace q180 := eq_true q180
           go_wp2_with (first | ((with_reducible refine gate_callee (f := 30) rfl ?_); refine goesL_ (some 16) rfl rfl Tryd.func30 (by kernel_rfl) rfl #[.agg #[.int .u8 ((rd_T48 l0 x4_1).f0), .int .i64 ((rd_T48 l0 x4_1).f1), .int .i64 ((rd_T48 l0 x4_1).f2), .int .i64 ((rd_T48 l0 x4_1).f3), .int .i64 ((rd_T48 l0 x4_1).f4)]] rfl (by (try simp only [List.map_toArray, List.map_cons, List.map_nil]); first | done | rfl | (simp only [List.length_drop, List.length_take]; rfl)) ?_; (with_reducible refine (ontimeref05_Line.calls k1 ((rd_T48 l0 x4_1).f0) ((rd_T48 l0 x4_1).f1) ((rd_T48 l0 x4_1).f2) ((rd_T48 l0 x4_1).f3) ((rd_T48 l0 x4_1).f4) t181 _ A4.out).mono ?_); rintro e w7 ⟨rfl, hb⟩; refine ⟨_, rfl, ?_⟩; have n0_ := Aside0.mk (below_step (by repeat (first | (with_reducible first | exact HB.out | apply below_alloc | apply pw_below_drewN | apply below_drew1) | exact HB.out)) hb); clear HB; have HB := n0_; clear n0_; (try clear hb); (try clear hb2); (try clear hk); (try clear hi)))
           go_roundg k1
           case measure => have := HK1.out; omega
           case rel => exact ⟨((x3_1 ++ t181) ++ (⟨#[10]⟩ : ByteArray)), (wrap64 (x4_1 + 1)), (by first | rfl | (simp; done) | (simp [*]; done)), (by first | rfl | (simp; done) | (simp [*]; done)), H', ⟨by have := HK1.out; omega⟩, ⟨by repeat (first | (with_reducible first | exact HB.out | apply below_alloc | apply pw_below_drewN | apply below_drew1) | exact HB.out)⟩⟩
         · rw [if_neg c6] at H
           exact absurd H (by simp)
       · rw [if_neg c5] at H
         exact absurd H (by simp)
     · rw [if_neg c3] at H
       exact absurd H (by simp)
   · rw [if_neg c2] at H
     have c2b0 : decide (x4_1 < (l0.length : Int)) = false := decide_eq_false c2
     clear c2
     obtain rfl := Option.some.inj H
     go_wp2
     go_ret
     exact ⟨by first | rfl | (simp [errW_none, errW_some] <;> rfl) | (simp [*, errW_none, errW_some] <;> rfl), by repeat (first | (with_reducible first | exact HB.out | apply below_alloc | apply pw_below_drewN | apply below_drew1) | exact HB.out)⟩

/-! ### ontimeref05_words: function 53 -/
mutual
def ontimeref05_words.l0 : Nat → ByteArray → List ByteArray → ByteArray → Int → Option (List ByteArray)
 | 0, _, _, _, _ => none
 | k + 1, x0, x3, x4, x5 => if x5 ≤ (x0.size : Int) then (if x5 = (x0.size : Int) then (ontimeref05_words.j1 k x0 x3 x4 x5 true) else (if 0 ≤ x5 then (if x5 < (x0.size : Int) then (if (bt x0 x5) = 32 then (ontimeref05_words.j1 k x0 x3 x4 x5 true) else (ontimeref05_words.j1 k x0 x3 x4 x5 ((bt x0 x5) == 9))) else (none)) else (none))) else (some x3)
def ontimeref05_words.j1 : Nat → ByteArray → List ByteArray → ByteArray → Int → Bool → Option (List ByteArray)
 | 0, _, _, _, _, _ => none
 | k + 1, x0, x3, x4, x5, x27 => if x27 = true then (if x4.toList = ([] : List UInt8) then (ontimeref05_words.l0 k x0 x3 (⟨#[]⟩ : ByteArray) (wrap64 (x5 + 1))) else (if x3.length < 8796093022208 then (ontimeref05_words.l0 k x0 (x3 ++ [x4]) (⟨#[]⟩ : ByteArray) (wrap64 (x5 + 1))) else (none))) else (if 0 ≤ x5 then (if x5 ≤ (wrap64 (x5 + 1)) then (if (wrap64 (x5 + 1)) ≤ (x0.size : Int) then (if x4.size + (x0.extract (x5 : Int).toNat ((wrap64 (x5 + 1)) : Int).toNat).size ≤ 9223372036854775807 then (ontimeref05_words.l0 k x0 x3 (x4 ++ (x0.extract (x5 : Int).toNat ((wrap64 (x5 + 1)) : Int).toNat)) (wrap64 (x5 + 1))) else (none)) else (none)) else (none)) else (none))
end
def ontimeref05_words.f (k : Nat) (a0 : ByteArray) : Option (List ByteArray) := ontimeref05_words.l0 k a0 ([] : List ByteArray) (⟨#[]⟩ : ByteArray) 0
theorem ontimeref05_words.mono_l : ∀ k, (∀ y0 y1 y2 y3, LeO (ontimeref05_words.l0 k y0 y1 y2 y3) (ontimeref05_words.l0 (k + 1) y0 y1 y2 y3)) ∧ (∀ y0 y1 y2 y3 y4, LeO (ontimeref05_words.j1 k y0 y1 y2 y3 y4) (ontimeref05_words.j1 (k + 1) y0 y1 y2 y3 y4))
 | 0 => ⟨fun _ _ _ _ r h => by simp [ontimeref05_words.l0] at h, fun _ _ _ _ _ r h => by simp [ontimeref05_words.j1] at h⟩
 | k + 1 => by
  obtain ⟨ih0, ih1⟩ := ontimeref05_words.mono_l k
  refine ⟨?_, ?_⟩
  · intro y0 y1 y2 y3
    unfold ontimeref05_words.l0
    repeat' first
    | (with_reducible exact ih0 _ _ _ _)
    | (with_reducible exact ih1 _ _ _ _ _)
    | (with_reducible exact LeO.refl _)
    | (with_reducible exact LeO.none _)
    | (with_reducible refine LeO.ite ?_ ?_)
    | (with_reducible refine LeO.bind ?_ (fun _ => ?_))
    | exact ih0 _ _ _ _
    | exact ih1 _ _ _ _ _
    | exact LeO.none _
    | refine LeO.ite ?_ ?_
    | refine LeO.bind ?_ (fun _ => ?_)
  · intro y0 y1 y2 y3 y4
    unfold ontimeref05_words.j1
    repeat' first
    | (with_reducible exact ih0 _ _ _ _)
    | (with_reducible exact ih1 _ _ _ _ _)
    | (with_reducible exact LeO.refl _)
    | (with_reducible exact LeO.none _)
    | (with_reducible refine LeO.ite ?_ ?_)
    | (with_reducible refine LeO.bind ?_ (fun _ => ?_))
    | exact ih0 _ _ _ _
    | exact ih1 _ _ _ _ _
    | exact LeO.none _
    | refine LeO.ite ?_ ?_
    | refine LeO.bind ?_ (fun _ => ?_)
theorem ontimeref05_words.mono : ∀ a0 k, LeO (ontimeref05_words.f k a0) (ontimeref05_words.f (k + 1) a0) := by
 intro a0 k
 obtain ⟨ih0, ih1⟩ := ontimeref05_words.mono_l k
 unfold ontimeref05_words.f
 repeat' first
  | (with_reducible exact ih0 _ _ _ _)
  | (with_reducible exact ih1 _ _ _ _ _)
  | (with_reducible exact LeO.refl _)
  | (with_reducible exact LeO.none _)
  | (with_reducible refine LeO.ite ?_ ?_)
  | (with_reducible refine LeO.bind ?_ (fun _ => ?_))
  | exact ih0 _ _ _ _
  | exact ih1 _ _ _ _ _
  | exact LeO.none _
  | refine LeO.ite ?_ ?_
  | refine LeO.bind ?_ (fun _ => ?_)
set_option maxHeartbeats 8000000 in
set_option maxRecDepth 100000 in
theorem ontimeref05_words.calls (k : Nat) (a0 : ByteArray) (r : List ByteArray) (w : World) (h : ontimeref05_words.f k a0 = some r) :
 Calls Tryd.prog 53 #[.string a0] w fun e w' => ∃ v0_ : Value, e = .returned (v0_) ∧ Kd.R Kd.string 9 w' w.heap.size (fun _ => True) v0_ r ∧ Below w.heap.size w w' := by
 have HB := Aside0.mk (Below.refl w.heap.size w)
 have H : (ontimeref05_words.l0 k a0 ([] : List ByteArray) (⟨#[]⟩ : ByteArray) 0) = some r := h
 clear h
 have H' := Aside0.mk H
 clear H
 go_enter Tryd.func53, Tryd.ntmps53
 go_wp2
 go_loopg [3, 4, 5] k (fun kq v3 v4 v5 w' => ∃ (x3_1 : List ByteArray) (x4_1 : ByteArray) (x5_1 : Int), v4 = .string x4_1 ∧ v5 = .int .i64 x5_1 ∧ Aside0 (ontimeref05_words.l0 kq a0 x3_1 x4_1 x5_1 = some r) ∧ Aside0 (kq ≤ k) ∧ Aside0 (Kd.R Kd.string 9 w' w.heap.size (fun _ => True) v3 x3_1) ∧ Aside0 (Below w.heap.size w w'))
 case atStart => exact ⟨(([] : List ByteArray)), ((⟨#[]⟩ : ByteArray)), (0), (by first | rfl | (simp; done) | (simp [*]; done)), (by first | rfl | (simp; done) | (simp [*]; done)), H', ⟨Nat.le_refl _⟩, ⟨by first | exact Kd.R_nil _ _ _ _ _ | exact Kd.N_nil _ _ _ _ _ | exact Kd.V_nil _ _ _ _ _ | exact Kd.Q_nil _ _ _ _ _ | exact Kd.S_nil _ _ _ _ _⟩, ⟨by repeat (first | (with_reducible first | exact HB.out | apply below_alloc | apply pw_below_drewN | apply below_drew1) | exact HB.out)⟩⟩
 case round =>
  clear H'
  obtain ⟨x3_1, x4_1, x5_1, rfl, rfl, HA, HK1, HO_3, HB⟩ := hrel
  cases gk with
  | zero => exact absurd HA.out (by simp [ontimeref05_words.l0])
  | succ k1 =>
   have H := HA.out
   clear HA
   simp only [ontimeref05_words.l0] at H
   by_cases c2 : x5_1 ≤ (a0.size : Int)
   · rw [if_pos c2] at H
     have c2b0 : decide (x5_1 ≤ (a0.size : Int)) = true := decide_eq_true c2
     clear c2
     have HC3 := Aside0.mk H
     clear H
     go_upto_region 6 with (fail)
     go_cut [27] (fun v27 wc => ∃ (kq : Nat) (x27_2 : Bool), v27 = .bool x27_2 ∧ Aside0 (ontimeref05_words.j1 kq a0 x3_1 x4_1 x5_1 x27_2 = some r) ∧ Aside0 (kq ≤ k1) ∧ Aside0 (Kd.R Kd.string 9 wc w.heap.size (fun _ => True) u3 x3_1) ∧ Aside0 (Below w.heap.size w wc))
     case first =>
      have H := HC3.out
      clear HC3
      by_cases c4 : x5_1 = (a0.size : Int)
      · rw [if_pos c4] at H
        have c4b0 : (x5_1 == (a0.size : Int)) = true := beq_iff_eq.mpr c4
        have c4b1 : (x5_1 != (a0.size : Int)) = false := bne_eq_false_iff_eq.mpr c4
        clear c4
        (first | rw [c4b0] | (simp only [i64_w, i32_w]; rw [c4b0]) | skip)
        have H' := Aside0.mk H
        clear H
        go_wp2
        go_meet
        case rel => exact ⟨_, (true), (by first | rfl | (simp; done) | (simp [*]; done)), H', ⟨by have := HK1.out; first | omega | exact Nat.le_refl _⟩, ⟨by (with_reducible repeat (first | apply Kd.R_alloc | apply Kd.R_drewN | apply Kd.R_drew)); exact HO_3.out⟩, ⟨by repeat (first | (with_reducible first | exact HB.out | apply below_alloc | apply pw_below_drewN | apply below_drew1) | exact HB.out)⟩⟩
      · rw [if_neg c4] at H
        have c4b0 : (x5_1 == (a0.size : Int)) = false := beq_eq_false_iff_ne.mpr c4
        have c4b1 : (x5_1 != (a0.size : Int)) = true := bne_iff_ne.mpr c4
        (first | rw [c4b0] | (simp only [i64_w, i32_w]; rw [c4b0]) | skip)
        by_cases c5 : 0 ≤ x5_1
        · rw [if_pos c5] at H
          have c5b0 : decide (0 ≤ x5_1) = true := decide_eq_true c5
          clear c5
          by_cases c6 : x5_1 < (a0.size : Int)
          · rw [if_pos c6] at H
            have c6b0 : decide (x5_1 < (a0.size : Int)) = true := decide_eq_true c6
            clear c6
            by_cases c8 : (bt a0 x5_1) = 32
            · rw [if_pos c8] at H
              have c8b0 : ((bt a0 x5_1) == 32) = true := beq_iff_eq.mpr c8
              have c8b1 : ((bt a0 x5_1) != 32) = false := bne_eq_false_iff_eq.mpr c8
              clear c8
              have H' := Aside0.mk H
              clear H
              have p7 : 0 ≤ (x5_1 : Int) := of_decide_eq_true (by first | (with_reducible assumption) | assumption)
              have q7 : x5_1 < (a0.size : Int) := of_decide_eq_true (by first | (with_reducible assumption) | assumption)
              have hx7 := bt_at a0 x5_1
              replace p7 := eq_true p7
              replace q7 := eq_true q7
              go_wp2
              go_meet
              case rel => exact ⟨_, (true), (by first | rfl | (simp; done) | (simp [*]; done)), H', ⟨by have := HK1.out; first | omega | exact Nat.le_refl _⟩, ⟨by (with_reducible repeat (first | apply Kd.R_alloc | apply Kd.R_drewN | apply Kd.R_drew)); exact HO_3.out⟩, ⟨by repeat (first | (with_reducible first | exact HB.out | apply below_alloc | apply pw_below_drewN | apply below_drew1) | exact HB.out)⟩⟩
            · rw [if_neg c8] at H
              have c8b0 : ((bt a0 x5_1) == 32) = false := beq_eq_false_iff_ne.mpr c8
              have c8b1 : ((bt a0 x5_1) != 32) = true := bne_iff_ne.mpr c8
              have H' := Aside0.mk H
              clear H
              have p7 : 0 ≤ (x5_1 : Int) := of_decide_eq_true (by first | (with_reducible assumption) | assumption)
              have q7 : x5_1 < (a0.size : Int) := of_decide_eq_true (by first | (with_reducible assumption) | assumption)
              have hx7 := bt_at a0 x5_1
              replace p7 := eq_true p7
              replace q7 := eq_true q7
              have p9 : 0 ≤ (x5_1 : Int) := of_decide_eq_true (by first | (with_reducible assumption) | assumption)
              have q9 : x5_1 < (a0.size : Int) := of_decide_eq_true (by first | (with_reducible assumption) | assumption)
              have hx9 := bt_at a0 x5_1
              replace p9 := eq_true p9
              replace q9 := eq_true q9
              go_wp2
              go_meet
              case rel => exact ⟨_, (((bt a0 x5_1) == 9)), (by first | rfl | (simp; done) | (simp [*]; done)), H', ⟨by have := HK1.out; first | omega | exact Nat.le_refl _⟩, ⟨by (with_reducible repeat (first | apply Kd.R_alloc | apply Kd.R_drewN | apply Kd.R_drew)); exact HO_3.out⟩, ⟨by repeat (first | (with_reducible first | exact HB.out | apply below_alloc | apply pw_below_drewN | apply below_drew1) | exact HB.out)⟩⟩
          · rw [if_neg c6] at H
            exact absurd H (by simp)
        · rw [if_neg c5] at H
          exact absurd H (by simp)
     case rest =>
      clear HC3
      try clear c2
      try clear c2b0
      try clear p2
      try clear c4
      try clear c4b0
      try clear c4b1
      try clear c5
      try clear c5b0
      try clear c6
      try clear c6b0
      try clear p7
      try clear q7
      try clear hx7
      try clear c8
      try clear c8b0
      try clear c8b1
      try clear p9
      try clear q9
      try clear hx9
      try clear p7
      try clear p9
      try clear q7
      try clear q9
      obtain ⟨kq, x27_2, rfl, HA, HJ2, HO_3, HB⟩ := hcut
      cases kq with
      | zero => exact absurd HA.out (by simp [ontimeref05_words.j1])
      | succ kj2 =>
       have H := HA.out
       clear HA
       simp only [ontimeref05_words.j1] at H
       by_cases c10 : x27_2 = true
       · subst c10
         have H1 : (if x4_1.toList = ([] : List UInt8) then (ontimeref05_words.l0 kj2 a0 x3_1 (⟨#[]⟩ : ByteArray) (wrap64 (x5_1 + 1))) else (if x3_1.length < 8796093022208 then (ontimeref05_words.l0 kj2 a0 (x3_1 ++ [x4_1]) (⟨#[]⟩ : ByteArray) (wrap64 (x5_1 + 1))) else (none))) = some r := by rw [if_pos rfl] at H; exact H
         clear H
         have H := H1
         clear H1
         by_cases c11 : x4_1.toList = ([] : List UInt8)
         · rw [if_pos c11] at H
           have c11b0 : (x4_1.toList == ([] : List UInt8)) = true := beq_iff_eq.mpr c11
           have c11b1 : (x4_1.toList != ([] : List UInt8)) = false := bne_eq_false_iff_eq.mpr c11
           clear c11
           have H' := Aside0.mk H
           clear H
           go_wp2
           go_roundg kj2
           case measure => have := HK1.out; have := HJ2.out; omega
           case rel => exact ⟨(x3_1), ((⟨#[]⟩ : ByteArray)), (wrap64 (x5_1 + 1)), (by first | rfl | (simp; done) | (simp [*]; done)), (by first | rfl | (simp; done) | (simp [*]; done)), H', ⟨by have := HK1.out; have := HJ2.out; omega⟩, ⟨by (with_reducible repeat (first | apply Kd.R_alloc | apply Kd.R_drewN | apply Kd.R_drew)); exact HO_3.out⟩, ⟨by repeat (first | (with_reducible first | exact HB.out | apply below_alloc | apply pw_below_drewN | apply below_drew1) | exact HB.out)⟩⟩
         · rw [if_neg c11] at H
           have c11b0 : (x4_1.toList == ([] : List UInt8)) = false := beq_eq_false_iff_ne.mpr c11
           have c11b1 : (x4_1.toList != ([] : List UInt8)) = true := bne_iff_ne.mpr c11
           by_cases c12 : x3_1.length < 8796093022208
           · rw [if_pos c12] at H
             have LMc12 := Aside0.mk c12
             clear c12
             obtain ⟨y187, hy187⟩ : ∃ y_ : List ByteArray, y_ = (x3_1 ++ [x4_1]) := ⟨_, rfl⟩
             replace H : (ontimeref05_words.l0 kj2 a0 y187 (⟨#[]⟩ : ByteArray) (wrap64 (x5_1 + 1))) = some r := by first | (rw [hy187]; with_reducible exact H) | (have H2_ := (Option.bind_some _ _).symm.trans H; rw [hy187]; with_reducible exact H2_) | (have H2_ := (Option.bind_some _ _).symm.trans H; with_reducible exact H2_) | with_reducible exact H | (rw [hy187]; exact H) | exact H
             have Ny187 := Aside0.mk hy187
             clear hy187
             have H' := Aside0.mk H
             clear H
             go_wp2_with (first | ((with_reducible refine gate_builtin (b := .append) (xs := #[.tmp 30, .tmp 32]) rfl ?_); at_builtin; refine Kd.R_append Kd.string (w0 := w) w.heap.size rfl (.tmp 30) (.tmp 32) 37 9 (.string ⟨#[]⟩) 16 rfl Tryd.underlying37 info9 rfl (by decide) (by omega) u3 x3_1 x4_1 [.string x4_1] (fun _ => True) (fun _ => False) rfl rfl ?aP (fun _ hk => hk.elim) ?aF ?aO ?aB ?aS ?aL ?_; (case aP => exact rfl); (case aB => exact (by repeat (first | (with_reducible first | exact HB.out | apply below_alloc | apply pw_below_drewN | apply below_drew1) | exact HB.out))); (case aF => exact (fun _ _ => trivial)); (case aO => exact (by (with_reducible repeat (first | apply Kd.R_alloc | apply Kd.R_drewN | apply Kd.R_drew)); exact HO_3.out)); (case aS => exact (below_size (by repeat (first | (with_reducible first | exact HB.out | apply below_alloc | apply pw_below_drewN | apply below_drew1) | exact HB.out)))); (case aL => have := LMc12.out; omega); intro v188 w13 ho hb hg hat; rw [← Ny187.out] at ho; have n0_ := Aside0.mk (hb); have n1_ := Aside0.mk (ho); clear HB; clear HO_3; have HB := n0_; have HO189 := n1_; clear n0_ n1_; clear ho hb hg hat))
             go_roundg kj2
             case measure => have := HK1.out; have := HJ2.out; omega
             case rel => exact ⟨(y187), ((⟨#[]⟩ : ByteArray)), (wrap64 (x5_1 + 1)), (by first | rfl | (simp; done) | (simp [*]; done)), (by first | rfl | (simp; done) | (simp [*]; done)), H', ⟨by have := HK1.out; have := HJ2.out; omega⟩, ⟨by (with_reducible repeat (first | apply Kd.R_alloc | apply Kd.R_drewN | apply Kd.R_drew)); exact HO189.out⟩, ⟨by repeat (first | (with_reducible first | exact HB.out | apply below_alloc | apply pw_below_drewN | apply below_drew1) | exact HB.out)⟩⟩
           · rw [if_neg c12] at H
             exact absurd H (by simp)
       · replace c10 := Bool.eq_false_iff.mpr c10
         subst c10
         have H1 : (if 0 ≤ x5_1 then (if x5_1 ≤ (wrap64 (x5_1 + 1)) then (if (wrap64 (x5_1 + 1)) ≤ (a0.size : Int) then (if x4_1.size + (a0.extract (x5_1 : Int).toNat ((wrap64 (x5_1 + 1)) : Int).toNat).size ≤ 9223372036854775807 then (ontimeref05_words.l0 kj2 a0 x3_1 (x4_1 ++ (a0.extract (x5_1 : Int).toNat ((wrap64 (x5_1 + 1)) : Int).toNat)) (wrap64 (x5_1 + 1))) else (none)) else (none)) else (none)) else (none)) = some r := by rw [if_neg (show ¬ (false = true) by decide)] at H; exact H
         clear H
         have H := H1
         clear H1
         by_cases c14 : 0 ≤ x5_1
         · rw [if_pos c14] at H
           have c14b0 := eq_true c14
           have c14b1 : decide (0 ≤ x5_1) = true := decide_eq_true c14
           clear c14
           by_cases c15 : x5_1 ≤ (wrap64 (x5_1 + 1))
           · rw [if_pos c15] at H
             have c15b0 := eq_true c15
             have c15b1 : decide (x5_1 ≤ (wrap64 (x5_1 + 1))) = true := decide_eq_true c15
             by_cases c16 : (wrap64 (x5_1 + 1)) ≤ (a0.size : Int)
             · rw [if_pos c16] at H
               have c16b0 := eq_true c16
               have c16b1 : decide ((wrap64 (x5_1 + 1)) ≤ (a0.size : Int)) = true := decide_eq_true c16
               by_cases c17 : x4_1.size + (a0.extract (x5_1 : Int).toNat ((wrap64 (x5_1 + 1)) : Int).toNat).size ≤ 9223372036854775807
               · rw [if_pos c17] at H
                 have c17b0 := eq_true c17
                 have c17b1 : decide (x4_1.size + (a0.extract (x5_1 : Int).toNat ((wrap64 (x5_1 + 1)) : Int).toNat).size ≤ 9223372036854775807) = true := decide_eq_true c17
                 try have c17b2 : (9223372036854775807 < x4_1.size + (a0.extract (x5_1 : Int).toNat ((wrap64 (x5_1 + 1)) : Int).toNat).size) = False := eq_false (Nat.not_lt.2 c17)
                 have H' := Aside0.mk H
                 clear H
                 go_wp2
                 go_roundg kj2
                 case measure => have := HK1.out; have := HJ2.out; omega
                 case rel => exact ⟨(x3_1), (x4_1 ++ (a0.extract (x5_1 : Int).toNat ((wrap64 (x5_1 + 1)) : Int).toNat)), (wrap64 (x5_1 + 1)), (by first | rfl | (simp; done) | (simp [*]; done)), (by first | rfl | (simp; done) | (simp [*]; done)), H', ⟨by have := HK1.out; have := HJ2.out; omega⟩, ⟨by (with_reducible repeat (first | apply Kd.R_alloc | apply Kd.R_drewN | apply Kd.R_drew)); exact HO_3.out⟩, ⟨by repeat (first | (with_reducible first | exact HB.out | apply below_alloc | apply pw_below_drewN | apply below_drew1) | exact HB.out)⟩⟩
               · rw [if_neg c17] at H
                 exact absurd H (by simp)
             · rw [if_neg c16] at H
               exact absurd H (by simp)
           · rw [if_neg c15] at H
             exact absurd H (by simp)
         · rw [if_neg c14] at H
           exact absurd H (by simp)
   · rw [if_neg c2] at H
     have c2b0 : decide (x5_1 ≤ (a0.size : Int)) = false := decide_eq_false c2
     clear c2
     obtain rfl := Option.some.inj H
     go_wp2
     go_ret
     exact ⟨_, by first | rfl | (simp [errW_none, errW_some] <;> rfl) | (simp [*, errW_none, errW_some] <;> rfl), by (with_reducible repeat (first | apply Kd.R_alloc | apply Kd.R_drewN | apply Kd.R_drew)); exact HO_3.out, by repeat (first | (with_reducible first | exact HB.out | apply below_alloc | apply pw_below_drewN | apply below_drew1) | exact HB.out)⟩

end Go.Proofs.YtchlcncffillbaaDoor.P
