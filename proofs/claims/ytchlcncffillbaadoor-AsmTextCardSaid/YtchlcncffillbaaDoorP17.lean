-- Printed for this claim by a program (wip/pp/patch_print.py); Lean checks it.
import Derived.Test.YtchlcncffillbaaDoorP0
import Derived.Test.YtchlcncffillbaaDoorP9
import Derived.Test.YtchlcncffillbaaDoorP10
import Derived.Test.YtchlcncffillbaaDoorP11
import Derived.Test.YtchlcncffillbaaDoorP14
import Derived.Test.YtchlcncffillbaaDoorEF
namespace Go.Proofs.YtchlcncffillbaaDoor.P
open Go.RowKit Go.Proofs.YtchlcncffillbaaDoorW.PrintWords Go.Proofs.YtchlcncffillbaaDoorW.PrintLast Go.Proofs.YtchlcncffillbaaDoorW.PrintMore
attribute [local go_sem] max2_int min2_int max_two min_two max_three min_three max_four min_four   -- for this text's walks alone
set_option linter.unusedVariables false
set_option linter.unusedSimpArgs false

/-! ### ontimelaw05_AsmText: function 5 -/
mutual
def ontimelaw05_AsmText.j0 : Nat → List (S48) → List Int → Bool → Option (Bool)
 | 0, _, _, _ => none
 | k + 1, x0, x1, x28 => if x28 = true then (some true) else ((asm_Format.f x0).bind fun bt244 => (if bt244.2 = 0 then (ontimelaw05_AsmText.l0 k x0 x1 bt244.1 (⟨#[]⟩ : ByteArray) (⟨#[]⟩ : ByteArray) 0) else ((ontimelaw05_valid.f k x0).bind fun t246 => (some (t246 == 0)))))
def ontimelaw05_AsmText.l0 : Nat → List (S48) → List Int → ByteArray → ByteArray → ByteArray → Int → Option (Bool)
 | 0, _, _, _, _, _, _ => none
 | k + 1, x0, x1, x5, x7, x8, x9 => if x9 < (x5.size : Int) then (if (x1.length : Int) = 0 then (none) else (if 0 ≤ (Int.tmod x9 (x1.length : Int)) then (if (Int.tmod x9 (x1.length : Int)) < (x1.length : Int) then (if 0 ≤ x9 then (if (bt x5 x9) = 10 then ((some (([(⟨#[]⟩ : ByteArray), (⟨#[9]⟩ : ByteArray), (⟨#[59, 32, 120, 32, 114, 49, 10]⟩ : ByteArray), (⟨#[32, 32]⟩ : ByteArray), (⟨#[10]⟩ : ByteArray)] : List ByteArray) : List ByteArray)).bind fun y254 => (if 0 ≤ (Int.tmod (wrap64 (rd x1 (Int.tmod x9 (x1.length : Int)))) 5) then (if (Int.tmod (wrap64 (rd x1 (Int.tmod x9 (x1.length : Int)))) 5) < (y254.length : Int) then (if (rdOf ByteArray.empty y254 (Int.tmod (wrap64 (rd x1 (Int.tmod x9 (x1.length : Int)))) 5)).size + x8.size ≤ 9223372036854775807 then ((some (([(⟨#[10]⟩ : ByteArray), (⟨#[32, 10]⟩ : ByteArray), (⟨#[59, 32, 110, 111, 112, 10]⟩ : ByteArray), (⟨#[10, 10, 32, 10]⟩ : ByteArray), (⟨#[9, 59, 10]⟩ : ByteArray)] : List ByteArray) : List ByteArray)).bind fun y258 => (if 0 ≤ (Int.tmod (wrap64 (Int.tdiv (wrap64 (rd x1 (Int.tmod x9 (x1.length : Int)))) 5)) 5) then (if (Int.tmod (wrap64 (Int.tdiv (wrap64 (rd x1 (Int.tmod x9 (x1.length : Int)))) 5)) 5) < (y258.length : Int) then (if ((rdOf ByteArray.empty y254 (Int.tmod (wrap64 (rd x1 (Int.tmod x9 (x1.length : Int)))) 5)) ++ x8).size + (rdOf ByteArray.empty y258 (Int.tmod (wrap64 (Int.tdiv (wrap64 (rd x1 (Int.tmod x9 (x1.length : Int)))) 5)) 5)).size ≤ 9223372036854775807 then (if x7.size + (((rdOf ByteArray.empty y254 (Int.tmod (wrap64 (rd x1 (Int.tmod x9 (x1.length : Int)))) 5)) ++ x8) ++ (rdOf ByteArray.empty y258 (Int.tmod (wrap64 (Int.tdiv (wrap64 (rd x1 (Int.tmod x9 (x1.length : Int)))) 5)) 5))).size ≤ 9223372036854775807 then (ontimelaw05_AsmText.l0 k x0 x1 x5 (x7 ++ (((rdOf ByteArray.empty y254 (Int.tmod (wrap64 (rd x1 (Int.tmod x9 (x1.length : Int)))) 5)) ++ x8) ++ (rdOf ByteArray.empty y258 (Int.tmod (wrap64 (Int.tdiv (wrap64 (rd x1 (Int.tmod x9 (x1.length : Int)))) 5)) 5)))) (⟨#[]⟩ : ByteArray) (wrap64 (x9 + 1))) else (none)) else (none)) else (none)) else (none))) else (none)) else (none)) else (none))) else (if (bt x5 x9) = 32 then ((some (([(⟨#[32]⟩ : ByteArray), (⟨#[32, 32]⟩ : ByteArray), (⟨#[9]⟩ : ByteArray), (⟨#[32, 9, 32]⟩ : ByteArray)] : List ByteArray) : List ByteArray)).bind fun y262 => (if 0 ≤ (Int.tmod (wrap64 (rd x1 (Int.tmod x9 (x1.length : Int)))) 4) then (if (Int.tmod (wrap64 (rd x1 (Int.tmod x9 (x1.length : Int)))) 4) < (y262.length : Int) then (if x8.size + (rdOf ByteArray.empty y262 (Int.tmod (wrap64 (rd x1 (Int.tmod x9 (x1.length : Int)))) 4)).size ≤ 9223372036854775807 then (ontimelaw05_AsmText.l0 k x0 x1 x5 x7 (x8 ++ (rdOf ByteArray.empty y262 (Int.tmod (wrap64 (rd x1 (Int.tmod x9 (x1.length : Int)))) 4))) (wrap64 (x9 + 1))) else (none)) else (none)) else (none))) else (if x9 ≤ (wrap64 (x9 + 1)) then (if (wrap64 (x9 + 1)) ≤ (x5.size : Int) then (if x8.size + (x5.extract (x9 : Int).toNat ((wrap64 (x9 + 1)) : Int).toNat).size ≤ 9223372036854775807 then (ontimelaw05_AsmText.l0 k x0 x1 x5 x7 (x8 ++ (x5.extract (x9 : Int).toNat ((wrap64 (x9 + 1)) : Int).toNat)) (wrap64 (x9 + 1))) else (none)) else (none)) else (none)))) else (none)) else (none)) else (none))) else ((asm_Parse.f k x7).bind fun bt247 => (if bt247.2.2 = 0 then (if bt247.2.1 = 0 then ((ontimeref05_Same.f k bt247.1 x0).bind fun t252 => (some t252)) else (some false)) else (some false)))
end
def ontimelaw05_AsmText.f (k : Nat) (l0 : List (S48)) (l1 : List Int) : Option (Bool) := (ontimelaw05_awake.f k).bind fun t243 => (if t243 = true then (if (l0.length : Int) > 40 then (ontimelaw05_AsmText.j0 k l0 l1 true) else (if (l1.length : Int) = 0 then (ontimelaw05_AsmText.j0 k l0 l1 true) else (ontimelaw05_AsmText.j0 k l0 l1 (decide ((l1.length : Int) > 40))))) else (some false))
theorem ontimelaw05_AsmText.mono_l : ∀ k, (∀ y0 y1 y2, LeO (ontimelaw05_AsmText.j0 k y0 y1 y2) (ontimelaw05_AsmText.j0 (k + 1) y0 y1 y2)) ∧ (∀ y0 y1 y2 y3 y4 y5, LeO (ontimelaw05_AsmText.l0 k y0 y1 y2 y3 y4 y5) (ontimelaw05_AsmText.l0 (k + 1) y0 y1 y2 y3 y4 y5))
 | 0 => ⟨fun _ _ _ r h => by simp [ontimelaw05_AsmText.j0] at h, fun _ _ _ _ _ _ r h => by simp [ontimelaw05_AsmText.l0] at h⟩
 | k + 1 => by
  obtain ⟨ih0, ih1⟩ := ontimelaw05_AsmText.mono_l k
  refine ⟨?_, ?_⟩
  · intro y0 y1 y2
    unfold ontimelaw05_AsmText.j0
    repeat' first
    | (with_reducible exact ih0 _ _ _)
    | (with_reducible exact ih1 _ _ _ _ _ _)
    | (with_reducible exact asm_Parse.mono _ _)
    | (with_reducible exact ontimelaw05_awake.mono _)
    | (with_reducible exact ontimelaw05_valid.mono _ _)
    | (with_reducible exact ontimeref05_Same.mono _ _ _)
    | (with_reducible exact LeO.refl _)
    | (with_reducible exact LeO.none _)
    | (with_reducible refine LeO.ite ?_ ?_)
    | (with_reducible refine LeO.bind ?_ (fun _ => ?_))
    | exact ih0 _ _ _
    | exact ih1 _ _ _ _ _ _
    | exact asm_Parse.mono _ _
    | exact ontimelaw05_awake.mono _
    | exact ontimelaw05_valid.mono _ _
    | exact ontimeref05_Same.mono _ _ _
    | exact LeO.none _
    | refine LeO.ite ?_ ?_
    | refine LeO.bind ?_ (fun _ => ?_)
  · intro y0 y1 y2 y3 y4 y5
    unfold ontimelaw05_AsmText.l0
    repeat' first
    | (with_reducible exact ih0 _ _ _)
    | (with_reducible exact ih1 _ _ _ _ _ _)
    | (with_reducible exact asm_Parse.mono _ _)
    | (with_reducible exact ontimelaw05_awake.mono _)
    | (with_reducible exact ontimelaw05_valid.mono _ _)
    | (with_reducible exact ontimeref05_Same.mono _ _ _)
    | (with_reducible exact LeO.refl _)
    | (with_reducible exact LeO.none _)
    | (with_reducible refine LeO.ite ?_ ?_)
    | (with_reducible refine LeO.bind ?_ (fun _ => ?_))
    | exact ih0 _ _ _
    | exact ih1 _ _ _ _ _ _
    | exact asm_Parse.mono _ _
    | exact ontimelaw05_awake.mono _
    | exact ontimelaw05_valid.mono _ _
    | exact ontimeref05_Same.mono _ _ _
    | exact LeO.none _
    | refine LeO.ite ?_ ?_
    | refine LeO.bind ?_ (fun _ => ?_)
theorem ontimelaw05_AsmText.mono : ∀ a0 a1 k, LeO (ontimelaw05_AsmText.f k a0 a1) (ontimelaw05_AsmText.f (k + 1) a0 a1) := by
 intro a0 a1 k
 obtain ⟨ih0, ih1⟩ := ontimelaw05_AsmText.mono_l k
 unfold ontimelaw05_AsmText.f
 repeat' first
  | (with_reducible exact ih0 _ _ _)
  | (with_reducible exact ih1 _ _ _ _ _ _)
  | (with_reducible exact asm_Parse.mono _ _)
  | (with_reducible exact ontimelaw05_awake.mono _)
  | (with_reducible exact ontimelaw05_valid.mono _ _)
  | (with_reducible exact ontimeref05_Same.mono _ _ _)
  | (with_reducible exact LeO.refl _)
  | (with_reducible exact LeO.none _)
  | (with_reducible refine LeO.ite ?_ ?_)
  | (with_reducible refine LeO.bind ?_ (fun _ => ?_))
  | exact ih0 _ _ _
  | exact ih1 _ _ _ _ _ _
  | exact asm_Parse.mono _ _
  | exact ontimelaw05_awake.mono _
  | exact ontimelaw05_valid.mono _ _
  | exact ontimeref05_Same.mono _ _ _
  | exact LeO.none _
  | refine LeO.ite ?_ ?_
  | refine LeO.bind ?_ (fun _ => ?_)
def ontimelaw05_AsmText.T16 : Bool × List (List Nat × List Nat) := (true, [([], []), ([], []), ([], []), ([2], [2]), ([1, 3], [1, 3]), ([4], [4]), ([], []), ([5, 6], [5, 6]), ([], []), ([], []), ([9], [9]), ([10], [10]), ([8, 11], [8, 11]), ([12], [12]), ([7, 13], [7, 13]), ([0, 14], [0, 14]), ([15, 0, 1, 2, 3, 4, 5, 6, 7, 8, 9, 10, 11, 12, 13, 14, 15], [0, 15])])
def ontimelaw05_AsmText.B16 : List Nat := [0, 0, 0, 4, 14, 30, 0, 126, 0, 0, 512, 1536, 3840, 7936, 16382, 32767, 65535]
theorem ontimelaw05_AsmText.tab16 : rtab .any (opsOf Tryd.f5 16) = ontimelaw05_AsmText.T16 := by kernel_rfl
theorem ontimelaw05_AsmText.bits16 : waitsOk ontimelaw05_AsmText.T16.2 ontimelaw05_AsmText.B16 = true := by kernel_rfl
set_option maxHeartbeats 8000000 in
set_option maxRecDepth 100000 in
theorem ontimelaw05_AsmText.calls (k : Nat) (A0 : Option Addr) (c0 : Nat) (l0 : List (S48)) (A1 : Option Addr) (c1 : Nat) (l1 : List Int) (r : Bool) (w : World) (hr0 : Kd.C k48 w A0 l0.length l0) (hc0 : l0.length ≤ c0) (hr1 : Kd.C (Kd.int .u8) w A1 l1.length l1) (hc1 : l1.length ≤ c1) (hE : Env w) (h : ontimelaw05_AsmText.f k l0 l1 = some r) :
 Calls Tryd.prog 5 #[.slice A0 l0.length c0, .slice A1 l1.length c1] w fun e w' => e = .returned (.bool r) ∧ Below w.heap.size w w' := by
 have HR0 := Aside0.mk hr0
 have HC0 := Aside0.mk hc0
 clear hr0 hc0
 have HR1 := Aside0.mk hr1
 have HC1 := Aside0.mk hc1
 clear hr1 hc1
 have HB := Aside0.mk (Below.refl w.heap.size w)
 have HE := Aside0.mk hE
 clear hE
 have H : ((ontimelaw05_awake.f k).bind fun t243 => (if t243 = true then (if (l0.length : Int) > 40 then (ontimelaw05_AsmText.j0 k l0 l1 true) else (if (l1.length : Int) = 0 then (ontimelaw05_AsmText.j0 k l0 l1 true) else (ontimelaw05_AsmText.j0 k l0 l1 (decide ((l1.length : Int) > 40))))) else (some false))) = some r := h
 clear h
 replace H := Option.bind_eq_some_iff.mp H
 obtain ⟨t243, A30, H⟩ := H
 replace H : (if t243 = true then (if (l0.length : Int) > 40 then (ontimelaw05_AsmText.j0 k l0 l1 true) else (if (l1.length : Int) = 0 then (ontimelaw05_AsmText.j0 k l0 l1 true) else (ontimelaw05_AsmText.j0 k l0 l1 (decide ((l1.length : Int) > 40))))) else (some false)) = some r := H
 have A3 := Aside0.mk A30
 clear A30
 by_cases c4 : t243 = true
 · subst c4
   have H1 : (if (l0.length : Int) > 40 then (ontimelaw05_AsmText.j0 k l0 l1 true) else (if (l1.length : Int) = 0 then (ontimelaw05_AsmText.j0 k l0 l1 true) else (ontimelaw05_AsmText.j0 k l0 l1 (decide ((l1.length : Int) > 40))))) = some r := by rw [if_pos rfl] at H; exact H
   clear H
   have H := H1
   clear H1
   have HC5 := Aside0.mk H
   clear H
   go_enter Tryd.func5, Tryd.ntmps5
   go_upto_region 3 with (first | ((with_reducible refine gate_callee (f := 12) rfl ?_); refine goesL_ (some 14) rfl rfl Tryd.func12 (by kernel_rfl) rfl #[] rfl (by (try simp only [List.map_toArray, List.map_cons, List.map_nil]); first | done | rfl | (simp only [List.length_drop, List.length_take]; rfl)) ?_; (with_reducible refine (ontimelaw05_awake.calls k  true _ ?side1 A3.out).mono ?_); (case side1 => exact Env.below HE.out (by repeat (first | (with_reducible first | exact HB.out | apply below_alloc | apply pw_below_drewN | apply below_drew1) | exact HB.out))); rintro e w6 ⟨rfl, hb⟩; refine ⟨_, rfl, ?_⟩; have n0_ := Aside0.mk (below_step (by repeat (first | (with_reducible first | exact HB.out | apply below_alloc | apply pw_below_drewN | apply below_drew1) | exact HB.out)) hb); clear HB; have HB := n0_; clear n0_; (try clear hb); (try clear hb2); (try clear hk); (try clear hi)))
   (try simp only [Act.put, List.setIfInBounds_toArray, List.set_cons_zero, List.set_cons_succ])
   go_cut [28] (fun v28 wc => ∃ (kq : Nat) (x28_4 : Bool), v28 = .bool x28_4 ∧ Aside0 (ontimelaw05_AsmText.j0 kq l0 l1 x28_4 = some r) ∧ Aside0 (kq ≤ k) ∧ Aside0 (Below w.heap.size w wc))
   case first =>
    have H := HC5.out
    clear HC5
    by_cases c7 : (l0.length : Int) > 40
    · rw [if_pos c7] at H
      have c7b0 : decide (40 < (l0.length : Int)) = true := decide_eq_true c7
      have c7b1 : decide (40 < l0.length) = true := decide_eq_true (by omega)
      clear c7
      (first | rw [c7b0] | (simp only [i64_w, i32_w]; rw [c7b0]) | skip)
      have H' := Aside0.mk H
      clear H
      go_wp2
      go_meet
      case rel => exact ⟨_, (true), (by first | rfl | (simp; done) | (simp [*]; done)), H', ⟨by first | omega | exact Nat.le_refl _⟩, ⟨by repeat (first | (with_reducible first | exact HB.out | apply below_alloc | apply pw_below_drewN | apply below_drew1) | exact HB.out)⟩⟩
    · rw [if_neg c7] at H
      have c7b0 : decide (40 < (l0.length : Int)) = false := decide_eq_false c7
      have c7b1 : decide (40 < l0.length) = false := decide_eq_false (by omega)
      clear c7
      (first | rw [c7b0] | (simp only [i64_w, i32_w]; rw [c7b0]) | skip)
      by_cases c8 : (l1.length : Int) = 0
      · rw [if_pos c8] at H
        have c8b0 : ((l1.length : Int) == 0) = true := beq_iff_eq.mpr c8
        have c8b1 : ((l1.length : Int) != 0) = false := bne_eq_false_iff_eq.mpr c8
        clear c8
        have H' := Aside0.mk H
        clear H
        go_wp2
        go_meet
        case rel => exact ⟨_, (true), (by first | rfl | (simp; done) | (simp [*]; done)), H', ⟨by first | omega | exact Nat.le_refl _⟩, ⟨by repeat (first | (with_reducible first | exact HB.out | apply below_alloc | apply pw_below_drewN | apply below_drew1) | exact HB.out)⟩⟩
      · rw [if_neg c8] at H
        have c8b0 : ((l1.length : Int) == 0) = false := beq_eq_false_iff_ne.mpr c8
        have c8b1 : ((l1.length : Int) != 0) = true := bne_iff_ne.mpr c8
        have c8b2 : ¬ (l1 = []) := fun h_ => c8 (by rw [h_]; rfl)
        have H' := Aside0.mk H
        clear H
        go_wp2
        go_meet
        case rel => exact ⟨_, (decide ((l1.length : Int) > 40)), (by first | rfl | (simp; done) | (simp [*]; done)), H', ⟨by first | omega | exact Nat.le_refl _⟩, ⟨by repeat (first | (with_reducible first | exact HB.out | apply below_alloc | apply pw_below_drewN | apply below_drew1) | exact HB.out)⟩⟩
   case rest =>
    clear HC5
    try clear c1
    try clear p2
    try clear c4
    try clear c5
    try clear c7
    try clear c7b0
    try clear c7b1
    try clear c8
    try clear c8b0
    try clear c8b1
    try clear c8b2
    obtain ⟨kq, x28_4, rfl, HA, HJ4, HB⟩ := hcut
    cases kq with
    | zero => exact absurd HA.out (by simp [ontimelaw05_AsmText.j0])
    | succ kj4 =>
     have H := HA.out
     clear HA
     simp only [ontimelaw05_AsmText.j0] at H
     by_cases c9 : x28_4 = true
     · subst c9
       have H1 : (some true) = some r := by rw [if_pos rfl] at H; exact H
       clear H
       have H := H1
       clear H1
       obtain rfl := Option.some.inj H
       go_wp2
       go_ret
       exact ⟨by first | rfl | (simp [errW_none, errW_some] <;> rfl) | (simp [*, errW_none, errW_some] <;> rfl), by repeat (first | (with_reducible first | exact HB.out | apply below_alloc | apply pw_below_drewN | apply below_drew1) | exact HB.out)⟩
     · replace c9 := Bool.eq_false_iff.mpr c9
       subst c9
       have H1 : ((asm_Format.f l0).bind fun bt244 => (if bt244.2 = 0 then (ontimelaw05_AsmText.l0 kj4 l0 l1 bt244.1 (⟨#[]⟩ : ByteArray) (⟨#[]⟩ : ByteArray) 0) else ((ontimelaw05_valid.f kj4 l0).bind fun t246 => (some (t246 == 0))))) = some r := by rw [if_neg (show ¬ (false = true) by decide)] at H; exact H
       clear H
       have H := H1
       clear H1
       replace H := Option.bind_eq_some_iff.mp H
       obtain ⟨⟨t244, t245⟩, A100, H⟩ := H
       replace H : (if t245 = 0 then (ontimelaw05_AsmText.l0 kj4 l0 l1 t244 (⟨#[]⟩ : ByteArray) (⟨#[]⟩ : ByteArray) 0) else ((ontimelaw05_valid.f kj4 l0).bind fun t246 => (some (t246 == 0)))) = some r := H
       have A10 := Aside0.mk A100
       clear A100
       by_cases c11 : t245 = 0
       · rw [if_pos c11] at H
         have c11b0 : (t245 == 0) = true := beq_iff_eq.mpr c11
         have c11b1 : (t245 != 0) = false := bne_eq_false_iff_eq.mpr c11
         clear c11
         have H' := Aside0.mk H
         clear H
         go_wp2_with (first | ((with_reducible refine gate_callee (f := 13) rfl ?_); refine goesL_ (some 31) rfl rfl Tryd.func13 (by kernel_rfl) rfl #[.slice A0 l0.length c0] rfl (by (try simp only [List.map_toArray, List.map_cons, List.map_nil]); first | done | rfl | (simp only [List.length_drop, List.length_take]; rfl)) ?_; (with_reducible refine (asm_Format.calls _ _ l0 t244 t245 _ ?side1 ?side2 ?side3 A10.out).mono ?_); (case side1 => repeat (first | exact (Kd.C_below HR0.out HB.out) | (with_reducible refine Kd.C_alloc ?_ _) | (with_reducible refine Kd.C_drewN ?_ _) | (with_reducible refine Kd.C_drew ?_))); (case side2 => exact HC0.out); (case side3 => exact Env.below HE.out (by repeat (first | (with_reducible first | exact HB.out | apply below_alloc | apply pw_below_drewN | apply below_drew1) | exact HB.out))); rintro e w12 ⟨rfl, hb⟩; refine ⟨_, rfl, ?_⟩; have n0_ := Aside0.mk (below_step (by repeat (first | (with_reducible first | exact HB.out | apply below_alloc | apply pw_below_drewN | apply below_drew1) | exact HB.out)) hb); clear HB; have HB := n0_; clear n0_; (try clear hb); (try clear hb2); (try clear hk); (try clear hi)))
         go_loopg [7, 8, 9] kj4 (fun kq v7 v8 v9 w' => ∃ (x7_2 : ByteArray) (x8_2 : ByteArray) (x9_2 : Int), v7 = .string x7_2 ∧ v8 = .string x8_2 ∧ v9 = .int .i64 x9_2 ∧ Aside0 (ontimelaw05_AsmText.l0 kq l0 l1 t244 x7_2 x8_2 x9_2 = some r) ∧ Aside0 (kq ≤ kj4) ∧ Aside0 (Below w.heap.size w w'))
         case atStart => exact ⟨((⟨#[]⟩ : ByteArray)), ((⟨#[]⟩ : ByteArray)), (0), (by first | rfl | (simp; done) | (simp [*]; done)), (by first | rfl | (simp; done) | (simp [*]; done)), (by first | rfl | (simp; done) | (simp [*]; done)), H', ⟨Nat.le_refl _⟩, ⟨by repeat (first | (with_reducible first | exact HB.out | apply below_alloc | apply pw_below_drewN | apply below_drew1) | exact HB.out)⟩⟩
         case round =>
          clear H'
          try clear c1
          try clear p2
          try clear c4
          try clear c5
          try clear c7
          try clear c7b0
          try clear c7b1
          try clear c8
          try clear c8b0
          try clear c8b1
          try clear c8b2
          try clear c9
          try clear c11
          try clear c11b0
          try clear c11b1
          try clear c12
          try clear p2
          obtain ⟨x7_2, x8_2, x9_2, rfl, rfl, rfl, HA, HK2, HB⟩ := hrel
          cases gk with
          | zero => exact absurd HA.out (by simp [ontimelaw05_AsmText.l0])
          | succ k2 =>
           have H := HA.out
           clear HA
           simp only [ontimelaw05_AsmText.l0] at H
           by_cases c13 : x9_2 < (t244.size : Int)
           · rw [if_pos c13] at H
             have c13b0 : decide (x9_2 < (t244.size : Int)) = true := decide_eq_true c13
             clear c13
             by_cases c14 : (l1.length : Int) = 0
             · rw [if_pos c14] at H
               exact absurd H (by simp)
             · rw [if_neg c14] at H
               have c14b0 : ((l1.length : Int) == 0) = false := beq_eq_false_iff_ne.mpr c14
               have c14b1 : ((l1.length : Int) != 0) = true := bne_iff_ne.mpr c14
               have c14b2 : ¬ (l1 = []) := fun h_ => c14 (by rw [h_]; rfl)
               obtain ⟨ji15, hji15⟩ : ∃ j_ : Int, (Int.tmod x9_2 (l1.length : Int)) = j_ := ⟨_, rfl⟩
               replace H : (if 0 ≤ (ji15) then (if (ji15) < (l1.length : Int) then (if 0 ≤ x9_2 then (if (bt t244 x9_2) = 10 then ((some (([(⟨#[]⟩ : ByteArray), (⟨#[9]⟩ : ByteArray), (⟨#[59, 32, 120, 32, 114, 49, 10]⟩ : ByteArray), (⟨#[32, 32]⟩ : ByteArray), (⟨#[10]⟩ : ByteArray)] : List ByteArray) : List ByteArray)).bind fun y254 => (if 0 ≤ (Int.tmod (wrap64 (rd l1 (ji15))) 5) then (if (Int.tmod (wrap64 (rd l1 (ji15))) 5) < (y254.length : Int) then (if (rdOf ByteArray.empty y254 (Int.tmod (wrap64 (rd l1 (ji15))) 5)).size + x8_2.size ≤ 9223372036854775807 then ((some (([(⟨#[10]⟩ : ByteArray), (⟨#[32, 10]⟩ : ByteArray), (⟨#[59, 32, 110, 111, 112, 10]⟩ : ByteArray), (⟨#[10, 10, 32, 10]⟩ : ByteArray), (⟨#[9, 59, 10]⟩ : ByteArray)] : List ByteArray) : List ByteArray)).bind fun y258 => (if 0 ≤ (Int.tmod (wrap64 (Int.tdiv (wrap64 (rd l1 (ji15))) 5)) 5) then (if (Int.tmod (wrap64 (Int.tdiv (wrap64 (rd l1 (ji15))) 5)) 5) < (y258.length : Int) then (if ((rdOf ByteArray.empty y254 (Int.tmod (wrap64 (rd l1 (ji15))) 5)) ++ x8_2).size + (rdOf ByteArray.empty y258 (Int.tmod (wrap64 (Int.tdiv (wrap64 (rd l1 (ji15))) 5)) 5)).size ≤ 9223372036854775807 then (if x7_2.size + (((rdOf ByteArray.empty y254 (Int.tmod (wrap64 (rd l1 (ji15))) 5)) ++ x8_2) ++ (rdOf ByteArray.empty y258 (Int.tmod (wrap64 (Int.tdiv (wrap64 (rd l1 (ji15))) 5)) 5))).size ≤ 9223372036854775807 then (ontimelaw05_AsmText.l0 k2 l0 l1 t244 (x7_2 ++ (((rdOf ByteArray.empty y254 (Int.tmod (wrap64 (rd l1 (ji15))) 5)) ++ x8_2) ++ (rdOf ByteArray.empty y258 (Int.tmod (wrap64 (Int.tdiv (wrap64 (rd l1 (ji15))) 5)) 5)))) (⟨#[]⟩ : ByteArray) (wrap64 (x9_2 + 1))) else (none)) else (none)) else (none)) else (none))) else (none)) else (none)) else (none))) else (if (bt t244 x9_2) = 32 then ((some (([(⟨#[32]⟩ : ByteArray), (⟨#[32, 32]⟩ : ByteArray), (⟨#[9]⟩ : ByteArray), (⟨#[32, 9, 32]⟩ : ByteArray)] : List ByteArray) : List ByteArray)).bind fun y262 => (if 0 ≤ (Int.tmod (wrap64 (rd l1 (ji15))) 4) then (if (Int.tmod (wrap64 (rd l1 (ji15))) 4) < (y262.length : Int) then (if x8_2.size + (rdOf ByteArray.empty y262 (Int.tmod (wrap64 (rd l1 (ji15))) 4)).size ≤ 9223372036854775807 then (ontimelaw05_AsmText.l0 k2 l0 l1 t244 x7_2 (x8_2 ++ (rdOf ByteArray.empty y262 (Int.tmod (wrap64 (rd l1 (ji15))) 4))) (wrap64 (x9_2 + 1))) else (none)) else (none)) else (none))) else (if x9_2 ≤ (wrap64 (x9_2 + 1)) then (if (wrap64 (x9_2 + 1)) ≤ (t244.size : Int) then (if x8_2.size + (t244.extract (x9_2 : Int).toNat ((wrap64 (x9_2 + 1)) : Int).toNat).size ≤ 9223372036854775807 then (ontimelaw05_AsmText.l0 k2 l0 l1 t244 x7_2 (x8_2 ++ (t244.extract (x9_2 : Int).toNat ((wrap64 (x9_2 + 1)) : Int).toNat)) (wrap64 (x9_2 + 1))) else (none)) else (none)) else (none)))) else (none)) else (none)) else (none)) = some r := by first | (rw [hji15] at H; exact H) | (simp only [hji15] at H ⊢; exact H)
               by_cases c16 : 0 ≤ (ji15)
               · rw [if_pos c16] at H
                 have c16b0 : decide (0 ≤ (ji15)) = true := decide_eq_true c16
                 clear c16
                 by_cases c17 : (ji15) < (l1.length : Int)
                 · rw [if_pos c17] at H
                   have c17b0 : decide ((ji15) < (l1.length : Int)) = true := decide_eq_true c17
                   clear c17
                   by_cases c18 : 0 ≤ x9_2
                   · rw [if_pos c18] at H
                     have c18b0 : decide (0 ≤ x9_2) = true := decide_eq_true c18
                     clear c18
                     by_cases c20 : (bt t244 x9_2) = 10
                     · rw [if_pos c20] at H
                       have c20b0 : ((bt t244 x9_2) == 10) = true := beq_iff_eq.mpr c20
                       have c20b1 : ((bt t244 x9_2) != 10) = false := bne_eq_false_iff_eq.mpr c20
                       clear c20
                       obtain ⟨y254, hy254⟩ : ∃ y_ : List ByteArray, y_ = (([(⟨#[]⟩ : ByteArray), (⟨#[9]⟩ : ByteArray), (⟨#[59, 32, 120, 32, 114, 49, 10]⟩ : ByteArray), (⟨#[32, 32]⟩ : ByteArray), (⟨#[10]⟩ : ByteArray)] : List ByteArray)) := ⟨_, rfl⟩
                       replace H : (if 0 ≤ (Int.tmod (wrap64 (rd l1 (ji15))) 5) then (if (Int.tmod (wrap64 (rd l1 (ji15))) 5) < (y254.length : Int) then (if (rdOf ByteArray.empty y254 (Int.tmod (wrap64 (rd l1 (ji15))) 5)).size + x8_2.size ≤ 9223372036854775807 then ((some (([(⟨#[10]⟩ : ByteArray), (⟨#[32, 10]⟩ : ByteArray), (⟨#[59, 32, 110, 111, 112, 10]⟩ : ByteArray), (⟨#[10, 10, 32, 10]⟩ : ByteArray), (⟨#[9, 59, 10]⟩ : ByteArray)] : List ByteArray) : List ByteArray)).bind fun y258 => (if 0 ≤ (Int.tmod (wrap64 (Int.tdiv (wrap64 (rd l1 (ji15))) 5)) 5) then (if (Int.tmod (wrap64 (Int.tdiv (wrap64 (rd l1 (ji15))) 5)) 5) < (y258.length : Int) then (if ((rdOf ByteArray.empty y254 (Int.tmod (wrap64 (rd l1 (ji15))) 5)) ++ x8_2).size + (rdOf ByteArray.empty y258 (Int.tmod (wrap64 (Int.tdiv (wrap64 (rd l1 (ji15))) 5)) 5)).size ≤ 9223372036854775807 then (if x7_2.size + (((rdOf ByteArray.empty y254 (Int.tmod (wrap64 (rd l1 (ji15))) 5)) ++ x8_2) ++ (rdOf ByteArray.empty y258 (Int.tmod (wrap64 (Int.tdiv (wrap64 (rd l1 (ji15))) 5)) 5))).size ≤ 9223372036854775807 then (ontimelaw05_AsmText.l0 k2 l0 l1 t244 (x7_2 ++ (((rdOf ByteArray.empty y254 (Int.tmod (wrap64 (rd l1 (ji15))) 5)) ++ x8_2) ++ (rdOf ByteArray.empty y258 (Int.tmod (wrap64 (Int.tdiv (wrap64 (rd l1 (ji15))) 5)) 5)))) (⟨#[]⟩ : ByteArray) (wrap64 (x9_2 + 1))) else (none)) else (none)) else (none)) else (none))) else (none)) else (none)) else (none)) = some r := by first | (rw [hy254]; with_reducible exact H) | (have H2_ := (Option.bind_some _ _).symm.trans H; rw [hy254]; with_reducible exact H2_) | (have H2_ := (Option.bind_some _ _).symm.trans H; with_reducible exact H2_) | with_reducible exact H | (rw [hy254]; exact H) | exact H
                       have Ny254 := Aside0.mk hy254
                       clear hy254
                       obtain ⟨ji21, hji21⟩ : ∃ j_ : Int, (Int.tmod (wrap64 (rd l1 (ji15))) 5) = j_ := ⟨_, rfl⟩
                       replace H : (if 0 ≤ (ji21) then (if (ji21) < (y254.length : Int) then (if (rdOf ByteArray.empty y254 (ji21)).size + x8_2.size ≤ 9223372036854775807 then ((some (([(⟨#[10]⟩ : ByteArray), (⟨#[32, 10]⟩ : ByteArray), (⟨#[59, 32, 110, 111, 112, 10]⟩ : ByteArray), (⟨#[10, 10, 32, 10]⟩ : ByteArray), (⟨#[9, 59, 10]⟩ : ByteArray)] : List ByteArray) : List ByteArray)).bind fun y258 => (if 0 ≤ (Int.tmod (wrap64 (Int.tdiv (wrap64 (rd l1 (ji15))) 5)) 5) then (if (Int.tmod (wrap64 (Int.tdiv (wrap64 (rd l1 (ji15))) 5)) 5) < (y258.length : Int) then (if ((rdOf ByteArray.empty y254 (ji21)) ++ x8_2).size + (rdOf ByteArray.empty y258 (Int.tmod (wrap64 (Int.tdiv (wrap64 (rd l1 (ji15))) 5)) 5)).size ≤ 9223372036854775807 then (if x7_2.size + (((rdOf ByteArray.empty y254 (ji21)) ++ x8_2) ++ (rdOf ByteArray.empty y258 (Int.tmod (wrap64 (Int.tdiv (wrap64 (rd l1 (ji15))) 5)) 5))).size ≤ 9223372036854775807 then (ontimelaw05_AsmText.l0 k2 l0 l1 t244 (x7_2 ++ (((rdOf ByteArray.empty y254 (ji21)) ++ x8_2) ++ (rdOf ByteArray.empty y258 (Int.tmod (wrap64 (Int.tdiv (wrap64 (rd l1 (ji15))) 5)) 5)))) (⟨#[]⟩ : ByteArray) (wrap64 (x9_2 + 1))) else (none)) else (none)) else (none)) else (none))) else (none)) else (none)) else (none)) = some r := by first | (rw [hji21] at H; exact H) | (simp only [hji21] at H ⊢; exact H)
                       by_cases c22 : 0 ≤ (ji21)
                       · rw [if_pos c22] at H
                         have c22b0 : decide (0 ≤ (ji21)) = true := decide_eq_true c22
                         clear c22
                         by_cases c23 : (ji21) < (y254.length : Int)
                         · rw [if_pos c23] at H
                           have c23b0 : decide ((ji21) < (y254.length : Int)) = true := decide_eq_true c23
                           clear c23
                           by_cases c24 : (rdOf ByteArray.empty y254 (ji21)).size + x8_2.size ≤ 9223372036854775807
                           · rw [if_pos c24] at H
                             have c24b0 := eq_true c24
                             have c24b1 : decide ((rdOf ByteArray.empty y254 (ji21)).size + x8_2.size ≤ 9223372036854775807) = true := decide_eq_true c24
                             try have c24b2 : (9223372036854775807 < (rdOf ByteArray.empty y254 (ji21)).size + x8_2.size) = False := eq_false (Nat.not_lt.2 c24)
                             obtain ⟨y258, hy258⟩ : ∃ y_ : List ByteArray, y_ = (([(⟨#[10]⟩ : ByteArray), (⟨#[32, 10]⟩ : ByteArray), (⟨#[59, 32, 110, 111, 112, 10]⟩ : ByteArray), (⟨#[10, 10, 32, 10]⟩ : ByteArray), (⟨#[9, 59, 10]⟩ : ByteArray)] : List ByteArray)) := ⟨_, rfl⟩
                             replace H : (if 0 ≤ (Int.tmod (wrap64 (Int.tdiv (wrap64 (rd l1 (ji15))) 5)) 5) then (if (Int.tmod (wrap64 (Int.tdiv (wrap64 (rd l1 (ji15))) 5)) 5) < (y258.length : Int) then (if ((rdOf ByteArray.empty y254 (ji21)) ++ x8_2).size + (rdOf ByteArray.empty y258 (Int.tmod (wrap64 (Int.tdiv (wrap64 (rd l1 (ji15))) 5)) 5)).size ≤ 9223372036854775807 then (if x7_2.size + (((rdOf ByteArray.empty y254 (ji21)) ++ x8_2) ++ (rdOf ByteArray.empty y258 (Int.tmod (wrap64 (Int.tdiv (wrap64 (rd l1 (ji15))) 5)) 5))).size ≤ 9223372036854775807 then (ontimelaw05_AsmText.l0 k2 l0 l1 t244 (x7_2 ++ (((rdOf ByteArray.empty y254 (ji21)) ++ x8_2) ++ (rdOf ByteArray.empty y258 (Int.tmod (wrap64 (Int.tdiv (wrap64 (rd l1 (ji15))) 5)) 5)))) (⟨#[]⟩ : ByteArray) (wrap64 (x9_2 + 1))) else (none)) else (none)) else (none)) else (none)) = some r := by first | (rw [hy258]; with_reducible exact H) | (have H2_ := (Option.bind_some _ _).symm.trans H; rw [hy258]; with_reducible exact H2_) | (have H2_ := (Option.bind_some _ _).symm.trans H; with_reducible exact H2_) | with_reducible exact H | (rw [hy258]; exact H) | exact H
                             have Ny258 := Aside0.mk hy258
                             clear hy258
                             obtain ⟨ji25, hji25⟩ : ∃ j_ : Int, (Int.tmod (wrap64 (Int.tdiv (wrap64 (rd l1 (ji15))) 5)) 5) = j_ := ⟨_, rfl⟩
                             replace H : (if 0 ≤ (ji25) then (if (ji25) < (y258.length : Int) then (if ((rdOf ByteArray.empty y254 (ji21)) ++ x8_2).size + (rdOf ByteArray.empty y258 (ji25)).size ≤ 9223372036854775807 then (if x7_2.size + (((rdOf ByteArray.empty y254 (ji21)) ++ x8_2) ++ (rdOf ByteArray.empty y258 (ji25))).size ≤ 9223372036854775807 then (ontimelaw05_AsmText.l0 k2 l0 l1 t244 (x7_2 ++ (((rdOf ByteArray.empty y254 (ji21)) ++ x8_2) ++ (rdOf ByteArray.empty y258 (ji25)))) (⟨#[]⟩ : ByteArray) (wrap64 (x9_2 + 1))) else (none)) else (none)) else (none)) else (none)) = some r := by first | (rw [hji25] at H; exact H) | (simp only [hji25] at H ⊢; exact H)
                             by_cases c26 : 0 ≤ (ji25)
                             · rw [if_pos c26] at H
                               have c26b0 : decide (0 ≤ (ji25)) = true := decide_eq_true c26
                               clear c26
                               by_cases c27 : (ji25) < (y258.length : Int)
                               · rw [if_pos c27] at H
                                 have c27b0 : decide ((ji25) < (y258.length : Int)) = true := decide_eq_true c27
                                 clear c27
                                 by_cases c28 : ((rdOf ByteArray.empty y254 (ji21)) ++ x8_2).size + (rdOf ByteArray.empty y258 (ji25)).size ≤ 9223372036854775807
                                 · rw [if_pos c28] at H
                                   have c28b0 := eq_true c28
                                   have c28b1 : decide (((rdOf ByteArray.empty y254 (ji21)) ++ x8_2).size + (rdOf ByteArray.empty y258 (ji25)).size ≤ 9223372036854775807) = true := decide_eq_true c28
                                   try have c28b2 : (9223372036854775807 < ((rdOf ByteArray.empty y254 (ji21)) ++ x8_2).size + (rdOf ByteArray.empty y258 (ji25)).size) = False := eq_false (Nat.not_lt.2 c28)
                                   try (have c28b3 := c28; simp only [ByteArray.size_append] at c28b3; have c28b4 := eq_true c28b3; replace c28b3 := eq_false (Nat.not_lt.2 c28b3))
                                   by_cases c29 : x7_2.size + (((rdOf ByteArray.empty y254 (ji21)) ++ x8_2) ++ (rdOf ByteArray.empty y258 (ji25))).size ≤ 9223372036854775807
                                   · rw [if_pos c29] at H
                                     have c29b0 := eq_true c29
                                     have c29b1 : decide (x7_2.size + (((rdOf ByteArray.empty y254 (ji21)) ++ x8_2) ++ (rdOf ByteArray.empty y258 (ji25))).size ≤ 9223372036854775807) = true := decide_eq_true c29
                                     try have c29b2 : (9223372036854775807 < x7_2.size + (((rdOf ByteArray.empty y254 (ji21)) ++ x8_2) ++ (rdOf ByteArray.empty y258 (ji25))).size) = False := eq_false (Nat.not_lt.2 c29)
                                     try (have c29b3 := c29; simp only [ByteArray.size_append] at c29b3; have c29b4 := eq_true c29b3; replace c29b3 := eq_false (Nat.not_lt.2 c29b3))
                                     have H' := Aside0.mk H
                                     clear H
                                     have p253 : 0 ≤ ((ji15) : Int) := of_decide_eq_true (by first | (with_reducible assumption) | assumption)
                                     have q253 : (ji15) < (l1.length : Int) := of_decide_eq_true (by first | (with_reducible assumption) | assumption)
                                     obtain ⟨ad253, e253, hx253_0⟩ := Kd.at_int HR1.out (ji15) p253 q253
                                     cases e253
                                     replace hx253_0 := (HB.out.cell (World.block_lt_of_cell? w _ hx253_0)).trans hx253_0
                                     replace p253 := eq_true p253
                                     replace q253 := eq_true q253
                                     have p19 : 0 ≤ (x9_2 : Int) := of_decide_eq_true (by first | (with_reducible assumption) | assumption)
                                     have q19 : x9_2 < (t244.size : Int) := of_decide_eq_true (by first | (with_reducible assumption) | assumption)
                                     have hx19 := bt_at t244 x9_2
                                     replace p19 := eq_true p19
                                     replace q19 := eq_true q19
                                     try go_wp2
                                     have pi257 : (0 ≤ ((ji21) : Int)) = True := eq_true (of_decide_eq_true (by first | (with_reducible assumption) | assumption))
                                     have qi257 : ((ji21) < (y254.length : Int)) = True := eq_true (of_decide_eq_true (by first | (with_reducible assumption) | assumption))
                                     have pi261 : (0 ≤ ((ji25) : Int)) = True := eq_true (of_decide_eq_true (by first | (with_reducible assumption) | assumption))
                                     have qi261 : ((ji25) < (y258.length : Int)) = True := eq_true (of_decide_eq_true (by first | (with_reducible assumption) | assumption))
                                     have n0_ := Aside0.mk (below_drew1 HB.out)
                                     clear HB
                                     have HB := n0_
                                     clear n0_
                                     refine start_ (n := 17) (S := fun w' => True) (ds := []) #[false, false, false, false, false, false, false, false, false, false, false, false, false, false, false, false, false] (by kernel_rfl) rfl rfl trivial (fun hHeld => ?_); refine with_tabW ontimelaw05_AsmText.tab16 ontimelaw05_AsmText.bits16 (fun HT_ HW_ => ?_)
                                     generalize wr.drew = w30 at HB hHeld ⊢
                                     refine pure_ (i := 0) (N := some 65) (v := ?_) (a' := ?_) #[true, false, false, false, false, false, false, false, false, false, false, false, false, false, false, false, false] rfl rfl (any_of HT_.out (by kernel_rfl)) (fun _ _ _ h => h) (Or.inl ⟨by rfl, ?_⟩) ?_ ?_
                                     rotate_left
                                     · intro w'
                                       go_simp
                                       with_reducible rfl
                                     rotate_left
                                     · simp only [Act.put, List.setIfInBounds_toArray, List.set_cons_zero, List.set_cons_succ, i64_w, i32_w]
                                       rfl
                                     refine pure_ (i := 2) (N := some 67) (v := ?_) (a' := ?_) #[true, false, true, false, false, false, false, false, false, false, false, false, false, false, false, false, false] rfl rfl (any_of HT_.out (by kernel_rfl)) (fun _ _ _ h => h) (Or.inl ⟨by rfl, ?_⟩) ?_ ?_
                                     rotate_left
                                     · intro w'
                                       go_simp
                                       with_reducible rfl
                                     rotate_left
                                     · simp only [Act.put, List.setIfInBounds_toArray, List.set_cons_zero, List.set_cons_succ, i64_w, i32_w]
                                       rfl
                                     refine pure_ (i := 6) (N := some 71) (v := ?_) (a' := ?_) #[true, false, true, false, false, false, true, false, false, false, false, false, false, false, false, false, false] rfl rfl (any_of HT_.out (by kernel_rfl)) (fun _ _ _ h => h) (Or.inl ⟨by rfl, ?_⟩) ?_ ?_
                                     rotate_left
                                     · intro w'
                                       go_simp
                                       with_reducible rfl
                                     rotate_left
                                     · simp only [Act.put, List.setIfInBounds_toArray, List.set_cons_zero, List.set_cons_succ, i64_w, i32_w]
                                       rfl
                                     refine pure_ (i := 9) (N := some 74) (v := ?_) (a' := ?_) #[true, false, true, false, false, false, true, false, false, true, false, false, false, false, false, false, false] rfl rfl (any_of HT_.out (by kernel_rfl)) (fun _ _ _ h => h) (Or.inl ⟨by rfl, ?_⟩) ?_ ?_
                                     rotate_left
                                     · intro w'
                                       go_simp
                                       with_reducible rfl
                                     rotate_left
                                     · simp only [Act.put, List.setIfInBounds_toArray, List.set_cons_zero, List.set_cons_succ, i64_w, i32_w]
                                       rfl
                                     refine inv_at [1, 3, 4, 5, 7, 8, 10, 11, 12, 13, 14, 15, 16] (fun a0_ b a w' => ∃ (v255 : Value) (adz_v255 : Addr) (v259 : Value) (adz_v259 : Addr) (m4_ : Value) (m12_ : Value), a = putSel a0_ b [(1, 66, v255), (3, 68, .int .i64 ji21), (4, 69, m4_), (5, 70, .string (rdOf ByteArray.empty y254 (ji21))), (7, 72, .string ((rdOf ByteArray.empty y254 (ji21)) ++ x8_2)), (8, 73, v259), (10, 75, .int .i64 (wrap64 (Int.tdiv (wrap64 (rd l1 (ji15))) 5))), (11, 76, .int .i64 ji25), (12, 77, m12_), (13, 78, .string (rdOf ByteArray.empty y258 (ji25))), (14, 79, .string (((rdOf ByteArray.empty y254 (ji21)) ++ x8_2) ++ (rdOf ByteArray.empty y258 (ji25)))), (15, 80, .string (x7_2 ++ (((rdOf ByteArray.empty y254 (ji21)) ++ x8_2) ++ (rdOf ByteArray.empty y258 (ji25))))), (16, 7, .string (x7_2 ++ (((rdOf ByteArray.empty y254 (ji21)) ++ x8_2) ++ (rdOf ByteArray.empty y258 (ji25)))))] ∧ (Below w.heap.size w w') ∧ (b 1 = true → Kd.R Kd.string 9 w' w.heap.size (fun _ => True) v255 y254) ∧ (b 1 = true → ∃ c_, (v255 : Value) = .slice (some adz_v255) y254.length c_) ∧ (b 8 = true → Kd.R Kd.string 9 w' w.heap.size (fun _ => True) v259 y258) ∧ (b 8 = true → ∃ c_, (v259 : Value) = .slice (some adz_v259) y258.length c_) ∧ (b 4 = true → (m4_ : Value) = .pointer (some (adz_v255.add ((ji21)).toNat))) ∧ (b 12 = true → (m12_ : Value) = .pointer (some (adz_v259.add ((ji25)).toNat)))) HT_.out HW_.out (by kernel_rfl) (by kernel_rfl) ?_ ?_ ?_
                                     · exact ⟨.bool false, ⟨0, 0, none⟩, .bool false, ⟨0, 0, none⟩, .bool false, .bool false, by simp only [putSel, Bool.false_eq_true, if_false], HB.out, fun h_ => absurd h_ (by decide), fun h_ => absurd h_ (by decide), fun h_ => absurd h_ (by decide), fun h_ => absurd h_ (by decide), fun h_ => absurd h_ (by decide), fun h_ => absurd h_ (by decide)⟩
                                     · skip
                                       clear HB
                                       refine steps_cons ?_ ?_
                                       · rintro b a w' ⟨v255, adz_v255, v259, adz_v259, m4_, m12_, ha, Q_HB, Q_HO256, Q_HA_HO256, Q_HO260, Q_HA_HO260, Q_X4_, Q_X12_⟩ hb_ hon hoff
                                         refine ⟨_, rfl, fun K hK => ?_⟩
                                         replace ha := Aside0.mk ha
                                         have HB := Aside0.mk Q_HB
                                         refine Kd.R_lit_step Kd.string _ 9 ?hg (N := 66) ?hd (xs := ([(⟨#[]⟩ : ByteArray), (⟨#[9]⟩ : ByteArray), (⟨#[59, 32, 120, 32, 114, 49, 10]⟩ : ByteArray), (⟨#[32, 32]⟩ : ByteArray), (⟨#[10]⟩ : ByteArray)] : List ByteArray)) (inner := [.string (⟨#[]⟩ : ByteArray), .string (⟨#[9]⟩ : ByteArray), .string (⟨#[59, 32, 120, 32, 114, 49, 10]⟩ : ByteArray), .string (⟨#[32, 32]⟩ : ByteArray), .string (⟨#[10]⟩ : ByteArray)]) (ok := fun _ => True) (okp := fun _ => True) ?hr ?hp (fun _ hk => hk) trivial (Below.refl _ _) (Nat.le_refl _) (by simp) ?_; (case hd => rfl); (case hg => rfl); (case hr => first | (go_simp; done) | (go_simp; rfl)); (case hp => exact (Reps.one (show Kd.M Kd.string _ _ _ (⟨#[]⟩ : ByteArray) [.string (⟨#[]⟩ : ByteArray)] from rfl) (Reps.one (show Kd.M Kd.string _ _ _ (⟨#[9]⟩ : ByteArray) [.string (⟨#[9]⟩ : ByteArray)] from rfl) (Reps.one (show Kd.M Kd.string _ _ _ (⟨#[59, 32, 120, 32, 114, 49, 10]⟩ : ByteArray) [.string (⟨#[59, 32, 120, 32, 114, 49, 10]⟩ : ByteArray)] from rfl) (Reps.one (show Kd.M Kd.string _ _ _ (⟨#[32, 32]⟩ : ByteArray) [.string (⟨#[32, 32]⟩ : ByteArray)] from rfl) (Reps.one (show Kd.M Kd.string _ _ _ (⟨#[10]⟩ : ByteArray) [.string (⟨#[10]⟩ : ByteArray)] from rfl) (Reps.none _ _)))))))
                                         intro v255 w31 ho32 hb hg_ hnew_
                                         clear hg_ hnew_
                                         (first | rw [← Ny254.out] at ho32 | (simp only [Int.reduceToNat] at ho32; rw [← Ny254.out] at ho32))
                                         have n0_ := Aside0.mk (Kd.R_lower ho32 (below_size (by repeat (first | (with_reducible first | exact HB.out | apply below_alloc | apply pw_below_drewN | apply below_drew1) | exact HB.out))))
                                         have n1_ := Aside0.mk (below_step (by repeat (first | (with_reducible first | exact HB.out | apply below_alloc | apply pw_below_drewN | apply below_drew1) | exact HB.out)) hb)
                                         have z_HO260 := fun (h0_ : b 8 = true) => (show Kd.R Kd.string 9 w31 w.heap.size (fun _ => True) v259 y258 from by first | exact (Kd.R_elder' (by (with_reducible repeat (first | apply Kd.R_alloc | apply Kd.R_drewN | apply Kd.R_drew)); exact (Q_HO260 h0_)) (Kd.R_base ho32) hb) | exact Kd.R_mono (Kd.R_elder' (by (with_reducible repeat (first | apply Kd.R_alloc | apply Kd.R_drewN | apply Kd.R_drew)); exact (Q_HO260 h0_)) (Kd.R_base ho32) hb) (fun _ h_ => by first | trivial | exact h_ | exact h_.1))
                                         clear HB
                                         have HO256 := n0_
                                         have HB := n1_
                                         clear n0_ n1_
                                         clear hb ho32
                                         obtain ⟨Ao33, co33, eo33⟩ := Kd.R_slice HO256.out
                                         subst eo33
                                         obtain ⟨ado33, fo33, _⟩ := Kd.at_string (Kd.R_reads' HO256.out).2.2 0 (by decide) (by rw [Ny254.out]; simp)
                                         cases fo33
                                         refine hK.out _ _ ⟨.slice (some ado33) y254.length co33, ado33, v259, adz_v259, m4_, m12_, (by rw [ha.out]; exact putSel_upk 0 hb_ rfl rfl rfl), (by repeat (first | (with_reducible first | exact HB.out | apply below_alloc | apply pw_below_drewN | apply below_drew1) | exact HB.out)), fun _ => (by (with_reducible repeat (first | apply Kd.R_alloc | apply Kd.R_drewN | apply Kd.R_drew)); exact HO256.out), fun _ => ⟨_, rfl⟩, z_HO260, Q_HA_HO260, fun h0_ => absurd ((hoff 4 (by kernel_rfl)).symm.trans h0_) (by decide), Q_X12_⟩
                                       refine steps_cons ?_ ?_
                                       · rintro b a w' ⟨v255, adz_v255, v259, adz_v259, m4_, m12_, ha, Q_HB, Q_HO256, Q_HA_HO256, Q_HO260, Q_HA_HO260, Q_X4_, Q_X12_⟩ hb_ hon hoff
                                         refine ⟨_, rfl, fun K hK => ?_⟩
                                         have e67 : a.tmps[67]? = some (.int .i64 (wrap64 (rd l1 (ji15)))) := by rw [ha]; exact (putSel_off rfl).trans rfl
                                         replace ha := Aside0.mk ha
                                         have HB := Aside0.mk Q_HB
                                         refine value_ (w1 := w') (v := .int .i64 ji21) (by rfl) rfl ?_ ?_
                                         · go_simp
                                           (try simp only [i64_w])
                                           try rfl
                                         refine hK.out _ _ ⟨v255, adz_v255, v259, adz_v259, m4_, m12_, (by rw [ha.out]; exact putSel_upk 1 hb_ rfl rfl rfl), Q_HB, Q_HO256, Q_HA_HO256, Q_HO260, Q_HA_HO260, fun h0_ => absurd ((hoff 4 (by kernel_rfl)).symm.trans h0_) (by decide), Q_X12_⟩
                                       refine steps_cons ?_ ?_
                                       · rintro b a w' ⟨v255, adz_v255, v259, adz_v259, m4_, m12_, ha, Q_HB, Q_HO256, Q_HA_HO256, Q_HO260, Q_HA_HO260, Q_X4_, Q_X12_⟩ hb_ hon hoff
                                         refine ⟨_, rfl, fun K hK => ?_⟩
                                         have e66 : a.tmps[66]? = some (v255) := by rw [ha]; exact putSel_on (e := (1, 66, v255)) 0 rfl rfl (hon 1 (by kernel_rfl)) rfl
                                         have e68 : a.tmps[68]? = some (.int .i64 ji21) := by rw [ha]; exact putSel_on (e := (3, 68, .int .i64 ji21)) 1 rfl rfl (hon 3 (by kernel_rfl)) rfl
                                         replace ha := Aside0.mk ha
                                         have HB := Aside0.mk Q_HB
                                         have HO256 := Aside0.mk (Q_HO256 (hon 1 (by kernel_rfl)))
                                         have HA_HO256 := Aside0.mk (Q_HA_HO256 (hon 1 (by kernel_rfl)))
                                         obtain ⟨c_, hv_⟩ := HA_HO256.out
                                         rw [hv_] at e66
                                         refine value_ (w1 := w') (v := .pointer (some (adz_v255.add ((ji21)).toNat))) (by rfl) rfl ?_ ?_
                                         · go_simp
                                           (try simp only [i64_w])
                                           try rfl
                                         refine hK.out _ _ ⟨v255, adz_v255, v259, adz_v259, (.pointer (some (adz_v255.add ((ji21)).toNat))), m12_, (by rw [ha.out]; exact putSel_upk 2 hb_ rfl rfl rfl), Q_HB, Q_HO256, Q_HA_HO256, Q_HO260, Q_HA_HO260, fun _ => rfl, Q_X12_⟩
                                       refine steps_cons ?_ ?_
                                       · rintro b a w' ⟨v255, adz_v255, v259, adz_v259, m4_, m12_, ha, Q_HB, Q_HO256, Q_HA_HO256, Q_HO260, Q_HA_HO260, Q_X4_, Q_X12_⟩ hb_ hon hoff
                                         refine ⟨_, rfl, fun K hK => ?_⟩
                                         have e69 : a.tmps[69]? = some (m4_) := by rw [ha]; exact putSel_on (e := (4, 69, m4_)) 2 rfl rfl (hon 4 (by kernel_rfl)) rfl
                                         rw [Q_X4_ (hon 4 (by kernel_rfl))] at e69
                                         replace ha := Aside0.mk ha
                                         have HB := Aside0.mk Q_HB
                                         have HO256 := Aside0.mk (Q_HO256 (hon 1 (by kernel_rfl)))
                                         have HA_HO256 := Aside0.mk (Q_HA_HO256 (hon 1 (by kernel_rfl)))
                                         obtain ⟨c_, hv_⟩ := HA_HO256.out
                                         have hF_ := HO256.out
                                         rw [hv_] at hF_
                                         obtain ⟨ad_, ea_, hx_⟩ := Kd.at_string (Kd.R_reads' hF_).2.2 (ji21) (of_eq_true pi257) (of_eq_true qi257)
                                         cases ea_
                                         refine value_ (w1 := w') (v := .string (rdOf ByteArray.empty y254 (ji21))) (by rfl) rfl ?_ ?_
                                         · go_simp
                                           (try simp only [i64_w])
                                           try rfl
                                         refine hK.out _ _ ⟨v255, adz_v255, v259, adz_v259, m4_, m12_, (by rw [ha.out]; exact putSel_upk 3 hb_ rfl rfl rfl), Q_HB, Q_HO256, Q_HA_HO256, Q_HO260, Q_HA_HO260, Q_X4_, Q_X12_⟩
                                       refine steps_cons ?_ ?_
                                       · rintro b a w' ⟨v255, adz_v255, v259, adz_v259, m4_, m12_, ha, Q_HB, Q_HO256, Q_HA_HO256, Q_HO260, Q_HA_HO260, Q_X4_, Q_X12_⟩ hb_ hon hoff
                                         refine ⟨_, rfl, fun K hK => ?_⟩
                                         have e70 : a.tmps[70]? = some (.string (rdOf ByteArray.empty y254 (ji21))) := by rw [ha]; exact putSel_on (e := (5, 70, .string (rdOf ByteArray.empty y254 (ji21)))) 3 rfl rfl (hon 5 (by kernel_rfl)) rfl
                                         have e71 : a.tmps[71]? = some (.string x8_2) := by rw [ha]; exact (putSel_off rfl).trans rfl
                                         replace ha := Aside0.mk ha
                                         have HB := Aside0.mk Q_HB
                                         have HO256 := Aside0.mk (Q_HO256 (hon 1 (by kernel_rfl)))
                                         have HA_HO256 := Aside0.mk (Q_HA_HO256 (hon 1 (by kernel_rfl)))
                                         refine value_ (w1 := w') (v := .string ((rdOf ByteArray.empty y254 (ji21)) ++ x8_2)) (by rfl) rfl ?_ ?_
                                         · go_simp
                                           (try simp only [i64_w])
                                           try rfl
                                         refine hK.out _ _ ⟨v255, adz_v255, v259, adz_v259, m4_, m12_, (by rw [ha.out]; exact putSel_upk 4 hb_ rfl rfl rfl), Q_HB, Q_HO256, Q_HA_HO256, Q_HO260, Q_HA_HO260, Q_X4_, Q_X12_⟩
                                       refine steps_cons ?_ ?_
                                       · rintro b a w' ⟨v255, adz_v255, v259, adz_v259, m4_, m12_, ha, Q_HB, Q_HO256, Q_HA_HO256, Q_HO260, Q_HA_HO260, Q_X4_, Q_X12_⟩ hb_ hon hoff
                                         refine ⟨_, rfl, fun K hK => ?_⟩
                                         replace ha := Aside0.mk ha
                                         have HB := Aside0.mk Q_HB
                                         refine Kd.R_lit_step Kd.string _ 9 ?hg (N := 73) ?hd (xs := ([(⟨#[10]⟩ : ByteArray), (⟨#[32, 10]⟩ : ByteArray), (⟨#[59, 32, 110, 111, 112, 10]⟩ : ByteArray), (⟨#[10, 10, 32, 10]⟩ : ByteArray), (⟨#[9, 59, 10]⟩ : ByteArray)] : List ByteArray)) (inner := [.string (⟨#[10]⟩ : ByteArray), .string (⟨#[32, 10]⟩ : ByteArray), .string (⟨#[59, 32, 110, 111, 112, 10]⟩ : ByteArray), .string (⟨#[10, 10, 32, 10]⟩ : ByteArray), .string (⟨#[9, 59, 10]⟩ : ByteArray)]) (ok := fun _ => True) (okp := fun _ => True) ?hr ?hp (fun _ hk => hk) trivial (Below.refl _ _) (Nat.le_refl _) (by simp) ?_; (case hd => rfl); (case hg => rfl); (case hr => first | (go_simp; done) | (go_simp; rfl)); (case hp => exact (Reps.one (show Kd.M Kd.string _ _ _ (⟨#[10]⟩ : ByteArray) [.string (⟨#[10]⟩ : ByteArray)] from rfl) (Reps.one (show Kd.M Kd.string _ _ _ (⟨#[32, 10]⟩ : ByteArray) [.string (⟨#[32, 10]⟩ : ByteArray)] from rfl) (Reps.one (show Kd.M Kd.string _ _ _ (⟨#[59, 32, 110, 111, 112, 10]⟩ : ByteArray) [.string (⟨#[59, 32, 110, 111, 112, 10]⟩ : ByteArray)] from rfl) (Reps.one (show Kd.M Kd.string _ _ _ (⟨#[10, 10, 32, 10]⟩ : ByteArray) [.string (⟨#[10, 10, 32, 10]⟩ : ByteArray)] from rfl) (Reps.one (show Kd.M Kd.string _ _ _ (⟨#[9, 59, 10]⟩ : ByteArray) [.string (⟨#[9, 59, 10]⟩ : ByteArray)] from rfl) (Reps.none _ _)))))))
                                         intro v259 w31 ho32 hb hg_ hnew_
                                         clear hg_ hnew_
                                         (first | rw [← Ny258.out] at ho32 | (simp only [Int.reduceToNat] at ho32; rw [← Ny258.out] at ho32))
                                         have n0_ := Aside0.mk (Kd.R_lower ho32 (below_size (by repeat (first | (with_reducible first | exact HB.out | apply below_alloc | apply pw_below_drewN | apply below_drew1) | exact HB.out))))
                                         have n1_ := Aside0.mk (below_step (by repeat (first | (with_reducible first | exact HB.out | apply below_alloc | apply pw_below_drewN | apply below_drew1) | exact HB.out)) hb)
                                         have z_HO256 := fun (h0_ : b 1 = true) => (show Kd.R Kd.string 9 w31 w.heap.size (fun _ => True) v255 y254 from by first | exact (Kd.R_elder' (by (with_reducible repeat (first | apply Kd.R_alloc | apply Kd.R_drewN | apply Kd.R_drew)); exact (Q_HO256 h0_)) (Kd.R_base ho32) hb) | exact Kd.R_mono (Kd.R_elder' (by (with_reducible repeat (first | apply Kd.R_alloc | apply Kd.R_drewN | apply Kd.R_drew)); exact (Q_HO256 h0_)) (Kd.R_base ho32) hb) (fun _ h_ => by first | trivial | exact h_ | exact h_.1))
                                         clear HB
                                         have HO260 := n0_
                                         have HB := n1_
                                         clear n0_ n1_
                                         clear hb ho32
                                         obtain ⟨Ao33, co33, eo33⟩ := Kd.R_slice HO260.out
                                         subst eo33
                                         obtain ⟨ado33, fo33, _⟩ := Kd.at_string (Kd.R_reads' HO260.out).2.2 0 (by decide) (by rw [Ny258.out]; simp)
                                         cases fo33
                                         refine hK.out _ _ ⟨v255, adz_v255, .slice (some ado33) y258.length co33, ado33, m4_, m12_, (by rw [ha.out]; exact putSel_upk 5 hb_ rfl rfl rfl), (by repeat (first | (with_reducible first | exact HB.out | apply below_alloc | apply pw_below_drewN | apply below_drew1) | exact HB.out)), z_HO256, Q_HA_HO256, fun _ => (by (with_reducible repeat (first | apply Kd.R_alloc | apply Kd.R_drewN | apply Kd.R_drew)); exact HO260.out), fun _ => ⟨_, rfl⟩, Q_X4_, fun h0_ => absurd ((hoff 12 (by kernel_rfl)).symm.trans h0_) (by decide)⟩
                                       refine steps_cons ?_ ?_
                                       · rintro b a w' ⟨v255, adz_v255, v259, adz_v259, m4_, m12_, ha, Q_HB, Q_HO256, Q_HA_HO256, Q_HO260, Q_HA_HO260, Q_X4_, Q_X12_⟩ hb_ hon hoff
                                         refine ⟨_, rfl, fun K hK => ?_⟩
                                         have e74 : a.tmps[74]? = some (.int .i64 (wrap64 (rd l1 (ji15)))) := by rw [ha]; exact (putSel_off rfl).trans rfl
                                         replace ha := Aside0.mk ha
                                         have HB := Aside0.mk Q_HB
                                         refine value_ (w1 := w') (v := .int .i64 (wrap64 (Int.tdiv (wrap64 (rd l1 (ji15))) 5))) (by rfl) rfl ?_ ?_
                                         · go_simp
                                           (try simp only [i64_w])
                                           try rfl
                                         refine hK.out _ _ ⟨v255, adz_v255, v259, adz_v259, m4_, m12_, (by rw [ha.out]; exact putSel_upk 6 hb_ rfl rfl rfl), Q_HB, Q_HO256, Q_HA_HO256, Q_HO260, Q_HA_HO260, Q_X4_, fun h0_ => absurd ((hoff 12 (by kernel_rfl)).symm.trans h0_) (by decide)⟩
                                       refine steps_cons ?_ ?_
                                       · rintro b a w' ⟨v255, adz_v255, v259, adz_v259, m4_, m12_, ha, Q_HB, Q_HO256, Q_HA_HO256, Q_HO260, Q_HA_HO260, Q_X4_, Q_X12_⟩ hb_ hon hoff
                                         refine ⟨_, rfl, fun K hK => ?_⟩
                                         have e75 : a.tmps[75]? = some (.int .i64 (wrap64 (Int.tdiv (wrap64 (rd l1 (ji15))) 5))) := by rw [ha]; exact putSel_on (e := (10, 75, .int .i64 (wrap64 (Int.tdiv (wrap64 (rd l1 (ji15))) 5)))) 6 rfl rfl (hon 10 (by kernel_rfl)) rfl
                                         replace ha := Aside0.mk ha
                                         have HB := Aside0.mk Q_HB
                                         refine value_ (w1 := w') (v := .int .i64 ji25) (by rfl) rfl ?_ ?_
                                         · go_simp
                                           (try simp only [i64_w])
                                           try rfl
                                         refine hK.out _ _ ⟨v255, adz_v255, v259, adz_v259, m4_, m12_, (by rw [ha.out]; exact putSel_upk 7 hb_ rfl rfl rfl), Q_HB, Q_HO256, Q_HA_HO256, Q_HO260, Q_HA_HO260, Q_X4_, fun h0_ => absurd ((hoff 12 (by kernel_rfl)).symm.trans h0_) (by decide)⟩
                                       refine steps_cons ?_ ?_
                                       · rintro b a w' ⟨v255, adz_v255, v259, adz_v259, m4_, m12_, ha, Q_HB, Q_HO256, Q_HA_HO256, Q_HO260, Q_HA_HO260, Q_X4_, Q_X12_⟩ hb_ hon hoff
                                         refine ⟨_, rfl, fun K hK => ?_⟩
                                         have e73 : a.tmps[73]? = some (v259) := by rw [ha]; exact putSel_on (e := (8, 73, v259)) 5 rfl rfl (hon 8 (by kernel_rfl)) rfl
                                         have e76 : a.tmps[76]? = some (.int .i64 ji25) := by rw [ha]; exact putSel_on (e := (11, 76, .int .i64 ji25)) 7 rfl rfl (hon 11 (by kernel_rfl)) rfl
                                         replace ha := Aside0.mk ha
                                         have HB := Aside0.mk Q_HB
                                         have HO260 := Aside0.mk (Q_HO260 (hon 8 (by kernel_rfl)))
                                         have HA_HO260 := Aside0.mk (Q_HA_HO260 (hon 8 (by kernel_rfl)))
                                         obtain ⟨c_, hv_⟩ := HA_HO260.out
                                         rw [hv_] at e73
                                         refine value_ (w1 := w') (v := .pointer (some (adz_v259.add ((ji25)).toNat))) (by rfl) rfl ?_ ?_
                                         · go_simp
                                           (try simp only [i64_w])
                                           try rfl
                                         refine hK.out _ _ ⟨v255, adz_v255, v259, adz_v259, m4_, (.pointer (some (adz_v259.add ((ji25)).toNat))), (by rw [ha.out]; exact putSel_upk 8 hb_ rfl rfl rfl), Q_HB, Q_HO256, Q_HA_HO256, Q_HO260, Q_HA_HO260, Q_X4_, fun _ => rfl⟩
                                       refine steps_cons ?_ ?_
                                       · rintro b a w' ⟨v255, adz_v255, v259, adz_v259, m4_, m12_, ha, Q_HB, Q_HO256, Q_HA_HO256, Q_HO260, Q_HA_HO260, Q_X4_, Q_X12_⟩ hb_ hon hoff
                                         refine ⟨_, rfl, fun K hK => ?_⟩
                                         have e77 : a.tmps[77]? = some (m12_) := by rw [ha]; exact putSel_on (e := (12, 77, m12_)) 8 rfl rfl (hon 12 (by kernel_rfl)) rfl
                                         rw [Q_X12_ (hon 12 (by kernel_rfl))] at e77
                                         replace ha := Aside0.mk ha
                                         have HB := Aside0.mk Q_HB
                                         have HO260 := Aside0.mk (Q_HO260 (hon 8 (by kernel_rfl)))
                                         have HA_HO260 := Aside0.mk (Q_HA_HO260 (hon 8 (by kernel_rfl)))
                                         obtain ⟨c_, hv_⟩ := HA_HO260.out
                                         have hF_ := HO260.out
                                         rw [hv_] at hF_
                                         obtain ⟨ad_, ea_, hx_⟩ := Kd.at_string (Kd.R_reads' hF_).2.2 (ji25) (of_eq_true pi261) (of_eq_true qi261)
                                         cases ea_
                                         refine value_ (w1 := w') (v := .string (rdOf ByteArray.empty y258 (ji25))) (by rfl) rfl ?_ ?_
                                         · go_simp
                                           (try simp only [i64_w])
                                           try rfl
                                         refine hK.out _ _ ⟨v255, adz_v255, v259, adz_v259, m4_, m12_, (by rw [ha.out]; exact putSel_upk 9 hb_ rfl rfl rfl), Q_HB, Q_HO256, Q_HA_HO256, Q_HO260, Q_HA_HO260, Q_X4_, Q_X12_⟩
                                       refine steps_cons ?_ ?_
                                       · rintro b a w' ⟨v255, adz_v255, v259, adz_v259, m4_, m12_, ha, Q_HB, Q_HO256, Q_HA_HO256, Q_HO260, Q_HA_HO260, Q_X4_, Q_X12_⟩ hb_ hon hoff
                                         refine ⟨_, rfl, fun K hK => ?_⟩
                                         have e72 : a.tmps[72]? = some (.string ((rdOf ByteArray.empty y254 (ji21)) ++ x8_2)) := by rw [ha]; exact putSel_on (e := (7, 72, .string ((rdOf ByteArray.empty y254 (ji21)) ++ x8_2))) 4 rfl rfl (hon 7 (by kernel_rfl)) rfl
                                         have e78 : a.tmps[78]? = some (.string (rdOf ByteArray.empty y258 (ji25))) := by rw [ha]; exact putSel_on (e := (13, 78, .string (rdOf ByteArray.empty y258 (ji25)))) 9 rfl rfl (hon 13 (by kernel_rfl)) rfl
                                         replace ha := Aside0.mk ha
                                         have HB := Aside0.mk Q_HB
                                         have HO256 := Aside0.mk (Q_HO256 (hon 1 (by kernel_rfl)))
                                         have HA_HO256 := Aside0.mk (Q_HA_HO256 (hon 1 (by kernel_rfl)))
                                         have HO260 := Aside0.mk (Q_HO260 (hon 8 (by kernel_rfl)))
                                         have HA_HO260 := Aside0.mk (Q_HA_HO260 (hon 8 (by kernel_rfl)))
                                         refine value_ (w1 := w') (v := .string (((rdOf ByteArray.empty y254 (ji21)) ++ x8_2) ++ (rdOf ByteArray.empty y258 (ji25)))) (by rfl) rfl ?_ ?_
                                         · go_simp
                                           (try simp only [i64_w])
                                           try rfl
                                         refine hK.out _ _ ⟨v255, adz_v255, v259, adz_v259, m4_, m12_, (by rw [ha.out]; exact putSel_upk 10 hb_ rfl rfl rfl), Q_HB, Q_HO256, Q_HA_HO256, Q_HO260, Q_HA_HO260, Q_X4_, Q_X12_⟩
                                       refine steps_cons ?_ ?_
                                       · rintro b a w' ⟨v255, adz_v255, v259, adz_v259, m4_, m12_, ha, Q_HB, Q_HO256, Q_HA_HO256, Q_HO260, Q_HA_HO260, Q_X4_, Q_X12_⟩ hb_ hon hoff
                                         refine ⟨_, rfl, fun K hK => ?_⟩
                                         have e65 : a.tmps[65]? = some (.string x7_2) := by rw [ha]; exact (putSel_off rfl).trans rfl
                                         have e79 : a.tmps[79]? = some (.string (((rdOf ByteArray.empty y254 (ji21)) ++ x8_2) ++ (rdOf ByteArray.empty y258 (ji25)))) := by rw [ha]; exact putSel_on (e := (14, 79, .string (((rdOf ByteArray.empty y254 (ji21)) ++ x8_2) ++ (rdOf ByteArray.empty y258 (ji25))))) 10 rfl rfl (hon 14 (by kernel_rfl)) rfl
                                         replace ha := Aside0.mk ha
                                         have HB := Aside0.mk Q_HB
                                         have HO256 := Aside0.mk (Q_HO256 (hon 1 (by kernel_rfl)))
                                         have HA_HO256 := Aside0.mk (Q_HA_HO256 (hon 1 (by kernel_rfl)))
                                         have HO260 := Aside0.mk (Q_HO260 (hon 8 (by kernel_rfl)))
                                         have HA_HO260 := Aside0.mk (Q_HA_HO260 (hon 8 (by kernel_rfl)))
                                         refine value_ (w1 := w') (v := .string (x7_2 ++ (((rdOf ByteArray.empty y254 (ji21)) ++ x8_2) ++ (rdOf ByteArray.empty y258 (ji25))))) (by rfl) rfl ?_ ?_
                                         · go_simp
                                           (try simp only [i64_w])
                                           try rfl
                                         refine hK.out _ _ ⟨v255, adz_v255, v259, adz_v259, m4_, m12_, (by rw [ha.out]; exact putSel_upk 11 hb_ rfl rfl rfl), Q_HB, Q_HO256, Q_HA_HO256, Q_HO260, Q_HA_HO260, Q_X4_, Q_X12_⟩
                                       refine steps_cons ?_ ?_
                                       · rintro b a w' ⟨v255, adz_v255, v259, adz_v259, m4_, m12_, ha, Q_HB, Q_HO256, Q_HA_HO256, Q_HO260, Q_HA_HO260, Q_X4_, Q_X12_⟩ hb_ hon hoff
                                         refine ⟨_, rfl, fun K hK => ?_⟩
                                         have e80 : a.tmps[80]? = some (.string (x7_2 ++ (((rdOf ByteArray.empty y254 (ji21)) ++ x8_2) ++ (rdOf ByteArray.empty y258 (ji25))))) := by rw [ha]; exact putSel_on (e := (15, 80, .string (x7_2 ++ (((rdOf ByteArray.empty y254 (ji21)) ++ x8_2) ++ (rdOf ByteArray.empty y258 (ji25)))))) 11 rfl rfl (hon 15 (by kernel_rfl)) rfl
                                         replace ha := Aside0.mk ha
                                         have HB := Aside0.mk Q_HB
                                         have HO256 := Aside0.mk (Q_HO256 (hon 1 (by kernel_rfl)))
                                         have HA_HO256 := Aside0.mk (Q_HA_HO256 (hon 1 (by kernel_rfl)))
                                         have HO260 := Aside0.mk (Q_HO260 (hon 8 (by kernel_rfl)))
                                         have HA_HO260 := Aside0.mk (Q_HA_HO260 (hon 8 (by kernel_rfl)))
                                         refine value_ (w1 := w') (v := .string (x7_2 ++ (((rdOf ByteArray.empty y254 (ji21)) ++ x8_2) ++ (rdOf ByteArray.empty y258 (ji25))))) (by rfl) rfl ?_ ?_
                                         · go_simp
                                           (try simp only [i64_w])
                                           try rfl
                                         refine hK.out _ _ ⟨v255, adz_v255, v259, adz_v259, m4_, m12_, (by rw [ha.out]; exact putSel_upk 12 hb_ rfl rfl rfl), Q_HB, Q_HO256, Q_HA_HO256, Q_HO260, Q_HA_HO260, Q_X4_, Q_X12_⟩
                                       exact steps_nil
                                     rintro b a w37 hall ⟨v255, adz_v255, v259, adz_v259, m4_, m12_, ha, Q_HB, Q_HO256, Q_HA_HO256, Q_HO260, Q_HA_HO260, Q_X4_, Q_X12_⟩
                                     clear HB
                                     have hb1_ := hall 1 (by kernel_rfl)
                                     have hb3_ := hall 3 (by kernel_rfl)
                                     have hb4_ := hall 4 (by kernel_rfl)
                                     have hb5_ := hall 5 (by kernel_rfl)
                                     have hb7_ := hall 7 (by kernel_rfl)
                                     have hb8_ := hall 8 (by kernel_rfl)
                                     have hb10_ := hall 10 (by kernel_rfl)
                                     have hb11_ := hall 11 (by kernel_rfl)
                                     have hb12_ := hall 12 (by kernel_rfl)
                                     have hb13_ := hall 13 (by kernel_rfl)
                                     have hb14_ := hall 14 (by kernel_rfl)
                                     have hb15_ := hall 15 (by kernel_rfl)
                                     have hb16_ := hall 16 (by kernel_rfl)
                                     subst ha
                                     obtain rfl := Q_X4_ hb4_
                                     obtain rfl := Q_X12_ hb12_
                                     simp only [putSel, hb1_, hb3_, hb4_, hb5_, hb7_, hb8_, hb10_, hb11_, hb12_, hb13_, hb14_, hb15_, hb16_, if_true, Act.put, List.setIfInBounds_toArray, List.set_cons_zero, List.set_cons_succ]
                                     have HB := Aside0.mk Q_HB
                                     clear Q_HB
                                     have HO256 := Aside0.mk (Q_HO256 hb1_)
                                     clear Q_HO256
                                     have HA_HO256 := Aside0.mk (Q_HA_HO256 hb1_)
                                     clear Q_HA_HO256
                                     have HO260 := Aside0.mk (Q_HO260 hb8_)
                                     clear Q_HO260
                                     have HA_HO260 := Aside0.mk (Q_HA_HO260 hb8_)
                                     clear Q_HA_HO260
                                     clear hall hb1_ hb3_ hb4_ hb5_ hb7_ hb8_ hb10_ hb11_ hb12_ hb13_ hb14_ hb15_ hb16_
                                     obtain ⟨co38, eo38⟩ := HA_HO256.out
                                     clear HA_HO256
                                     subst eo38
                                     obtain ⟨co39, eo39⟩ := HA_HO260.out
                                     clear HA_HO260
                                     subst eo39
                                     try go_wp2
                                     go_roundg k2
                                     case measure => have := HJ4.out; have := HK2.out; omega
                                     case rel => exact ⟨(x7_2 ++ (((rdOf ByteArray.empty y254 (ji21)) ++ x8_2) ++ (rdOf ByteArray.empty y258 (ji25)))), ((⟨#[]⟩ : ByteArray)), (wrap64 (x9_2 + 1)), (by first | rfl | (simp; done) | (simp only [← hji21, ← hji25] <;> (first | rfl | simp)) | (simp [*]; done)), (by first | rfl | (simp; done) | (simp [*]; done)), (by first | rfl | (simp; done) | (simp [*]; done)), H', ⟨by have := HJ4.out; have := HK2.out; omega⟩, ⟨by repeat (first | (with_reducible first | exact HB.out | apply below_alloc | apply pw_below_drewN | apply below_drew1) | exact HB.out)⟩⟩
                                   · rw [if_neg c29] at H
                                     exact absurd H (by simp)
                                 · rw [if_neg c28] at H
                                   exact absurd H (by simp)
                               · rw [if_neg c27] at H
                                 exact absurd H (by simp)
                             · rw [if_neg c26] at H
                               exact absurd H (by simp)
                           · rw [if_neg c24] at H
                             exact absurd H (by simp)
                         · rw [if_neg c23] at H
                           exact absurd H (by simp)
                       · rw [if_neg c22] at H
                         exact absurd H (by simp)
                     · rw [if_neg c20] at H
                       have c20b0 : ((bt t244 x9_2) == 10) = false := beq_eq_false_iff_ne.mpr c20
                       have c20b1 : ((bt t244 x9_2) != 10) = true := bne_iff_ne.mpr c20
                       by_cases c41 : (bt t244 x9_2) = 32
                       · rw [if_pos c41] at H
                         have c41b0 : ((bt t244 x9_2) == 32) = true := beq_iff_eq.mpr c41
                         have c41b1 : ((bt t244 x9_2) != 32) = false := bne_eq_false_iff_eq.mpr c41
                         clear c41
                         obtain ⟨y262, hy262⟩ : ∃ y_ : List ByteArray, y_ = (([(⟨#[32]⟩ : ByteArray), (⟨#[32, 32]⟩ : ByteArray), (⟨#[9]⟩ : ByteArray), (⟨#[32, 9, 32]⟩ : ByteArray)] : List ByteArray)) := ⟨_, rfl⟩
                         replace H : (if 0 ≤ (Int.tmod (wrap64 (rd l1 (ji15))) 4) then (if (Int.tmod (wrap64 (rd l1 (ji15))) 4) < (y262.length : Int) then (if x8_2.size + (rdOf ByteArray.empty y262 (Int.tmod (wrap64 (rd l1 (ji15))) 4)).size ≤ 9223372036854775807 then (ontimelaw05_AsmText.l0 k2 l0 l1 t244 x7_2 (x8_2 ++ (rdOf ByteArray.empty y262 (Int.tmod (wrap64 (rd l1 (ji15))) 4))) (wrap64 (x9_2 + 1))) else (none)) else (none)) else (none)) = some r := by first | (rw [hy262]; with_reducible exact H) | (have H2_ := (Option.bind_some _ _).symm.trans H; rw [hy262]; with_reducible exact H2_) | (have H2_ := (Option.bind_some _ _).symm.trans H; with_reducible exact H2_) | with_reducible exact H | (rw [hy262]; exact H) | exact H
                         have Ny262 := Aside0.mk hy262
                         clear hy262
                         obtain ⟨ji42, hji42⟩ : ∃ j_ : Int, (Int.tmod (wrap64 (rd l1 (ji15))) 4) = j_ := ⟨_, rfl⟩
                         replace H : (if 0 ≤ (ji42) then (if (ji42) < (y262.length : Int) then (if x8_2.size + (rdOf ByteArray.empty y262 (ji42)).size ≤ 9223372036854775807 then (ontimelaw05_AsmText.l0 k2 l0 l1 t244 x7_2 (x8_2 ++ (rdOf ByteArray.empty y262 (ji42))) (wrap64 (x9_2 + 1))) else (none)) else (none)) else (none)) = some r := by first | (rw [hji42] at H; exact H) | (simp only [hji42] at H ⊢; exact H)
                         by_cases c43 : 0 ≤ (ji42)
                         · rw [if_pos c43] at H
                           have c43b0 : decide (0 ≤ (ji42)) = true := decide_eq_true c43
                           clear c43
                           by_cases c44 : (ji42) < (y262.length : Int)
                           · rw [if_pos c44] at H
                             have c44b0 : decide ((ji42) < (y262.length : Int)) = true := decide_eq_true c44
                             clear c44
                             by_cases c45 : x8_2.size + (rdOf ByteArray.empty y262 (ji42)).size ≤ 9223372036854775807
                             · rw [if_pos c45] at H
                               have c45b0 := eq_true c45
                               have c45b1 : decide (x8_2.size + (rdOf ByteArray.empty y262 (ji42)).size ≤ 9223372036854775807) = true := decide_eq_true c45
                               try have c45b2 : (9223372036854775807 < x8_2.size + (rdOf ByteArray.empty y262 (ji42)).size) = False := eq_false (Nat.not_lt.2 c45)
                               have H' := Aside0.mk H
                               clear H
                               have p253 : 0 ≤ ((ji15) : Int) := of_decide_eq_true (by first | (with_reducible assumption) | assumption)
                               have q253 : (ji15) < (l1.length : Int) := of_decide_eq_true (by first | (with_reducible assumption) | assumption)
                               obtain ⟨ad253, e253, hx253_0⟩ := Kd.at_int HR1.out (ji15) p253 q253
                               cases e253
                               replace hx253_0 := (HB.out.cell (World.block_lt_of_cell? w _ hx253_0)).trans hx253_0
                               replace p253 := eq_true p253
                               replace q253 := eq_true q253
                               have p19 : 0 ≤ (x9_2 : Int) := of_decide_eq_true (by first | (with_reducible assumption) | assumption)
                               have q19 : x9_2 < (t244.size : Int) := of_decide_eq_true (by first | (with_reducible assumption) | assumption)
                               have hx19 := bt_at t244 x9_2
                               replace p19 := eq_true p19
                               replace q19 := eq_true q19
                               have p40 : 0 ≤ (x9_2 : Int) := of_decide_eq_true (by first | (with_reducible assumption) | assumption)
                               have q40 : x9_2 < (t244.size : Int) := of_decide_eq_true (by first | (with_reducible assumption) | assumption)
                               have hx40 := bt_at t244 x9_2
                               replace p40 := eq_true p40
                               replace q40 := eq_true q40
                               go_wp2_with (first | ((with_reducible refine gate_dst (N := 87) rfl ?_); (try (refine gate_guard (by rfl) ?_; dsimp only)); refine Kd.R_lit Kd.string _ 9 ?hg (N := 87) ?hd (xs := ([(⟨#[32]⟩ : ByteArray), (⟨#[32, 32]⟩ : ByteArray), (⟨#[9]⟩ : ByteArray), (⟨#[32, 9, 32]⟩ : ByteArray)] : List ByteArray)) (inner := [.string (⟨#[32]⟩ : ByteArray), .string (⟨#[32, 32]⟩ : ByteArray), .string (⟨#[9]⟩ : ByteArray), .string (⟨#[32, 9, 32]⟩ : ByteArray)]) (ok := fun _ => True) (okp := fun _ => True) ?hr ?hp (fun _ hk => hk) trivial (Below.refl _ _) (Nat.le_refl _) (by simp) ?_; (case hd => rfl); (case hg => rfl); (case hr => first | (go_simp; done) | (go_simp; rfl)); (case hp => exact (Reps.one (show Kd.M Kd.string _ _ _ (⟨#[32]⟩ : ByteArray) [.string (⟨#[32]⟩ : ByteArray)] from rfl) (Reps.one (show Kd.M Kd.string _ _ _ (⟨#[32, 32]⟩ : ByteArray) [.string (⟨#[32, 32]⟩ : ByteArray)] from rfl) (Reps.one (show Kd.M Kd.string _ _ _ (⟨#[9]⟩ : ByteArray) [.string (⟨#[9]⟩ : ByteArray)] from rfl) (Reps.one (show Kd.M Kd.string _ _ _ (⟨#[32, 9, 32]⟩ : ByteArray) [.string (⟨#[32, 9, 32]⟩ : ByteArray)] from rfl) (Reps.none _ _)))))); intro v263 w46 ho47 hb hg_ hnew_; clear hg_ hnew_; (first | rw [← Ny262.out] at ho47 | (simp only [Int.reduceToNat] at ho47; rw [← Ny262.out] at ho47)); have n0_ := Aside0.mk (Kd.R_lower ho47 (below_size (by repeat (first | (with_reducible first | exact HB.out | apply below_alloc | apply pw_below_drewN | apply below_drew1) | exact HB.out)))); have n1_ := Aside0.mk (below_step (by repeat (first | (with_reducible first | exact HB.out | apply below_alloc | apply pw_below_drewN | apply below_drew1) | exact HB.out)) hb); clear HB; have HO264 := n0_; have HB := n1_; clear n0_ n1_; clear hb ho47; obtain ⟨Ao48, co48, eo48⟩ := Kd.R_slice HO264.out; subst eo48; have p265 : 0 ≤ ((ji42) : Int) := of_decide_eq_true (by first | (with_reducible assumption) | assumption); have q265 : (ji42) < (y262.length : Int) := of_decide_eq_true (by first | (with_reducible assumption) | assumption); obtain ⟨ad265, e265, hx265_0⟩ := Kd.at_string (Kd.R_reads' HO264.out).2.2 (ji42) p265 q265; cases e265; replace p265 := eq_true p265; replace q265 := eq_true q265))
                               go_roundg k2
                               case measure => have := HJ4.out; have := HK2.out; omega
                               case rel => exact ⟨(x7_2), (x8_2 ++ (rdOf ByteArray.empty y262 (ji42))), (wrap64 (x9_2 + 1)), (by first | rfl | (simp; done) | (simp [*]; done)), (by first | rfl | (simp; done) | (simp only [← hji42] <;> (first | rfl | simp)) | (simp [*]; done)), (by first | rfl | (simp; done) | (simp [*]; done)), H', ⟨by have := HJ4.out; have := HK2.out; omega⟩, ⟨by repeat (first | (with_reducible first | exact HB.out | apply below_alloc | apply pw_below_drewN | apply below_drew1) | exact HB.out)⟩⟩
                             · rw [if_neg c45] at H
                               exact absurd H (by simp)
                           · rw [if_neg c44] at H
                             exact absurd H (by simp)
                         · rw [if_neg c43] at H
                           exact absurd H (by simp)
                       · rw [if_neg c41] at H
                         have c41b0 : ((bt t244 x9_2) == 32) = false := beq_eq_false_iff_ne.mpr c41
                         have c41b1 : ((bt t244 x9_2) != 32) = true := bne_iff_ne.mpr c41
                         have c49b0 := eq_true (of_decide_eq_true (by first | (with_reducible assumption) | assumption) : 0 ≤ x9_2)
                         by_cases c50 : x9_2 ≤ (wrap64 (x9_2 + 1))
                         · rw [if_pos c50] at H
                           have c50b0 := eq_true c50
                           have c50b1 : decide (x9_2 ≤ (wrap64 (x9_2 + 1))) = true := decide_eq_true c50
                           by_cases c51 : (wrap64 (x9_2 + 1)) ≤ (t244.size : Int)
                           · rw [if_pos c51] at H
                             have c51b0 := eq_true c51
                             have c51b1 : decide ((wrap64 (x9_2 + 1)) ≤ (t244.size : Int)) = true := decide_eq_true c51
                             by_cases c52 : x8_2.size + (t244.extract (x9_2 : Int).toNat ((wrap64 (x9_2 + 1)) : Int).toNat).size ≤ 9223372036854775807
                             · rw [if_pos c52] at H
                               have c52b0 := eq_true c52
                               have c52b1 : decide (x8_2.size + (t244.extract (x9_2 : Int).toNat ((wrap64 (x9_2 + 1)) : Int).toNat).size ≤ 9223372036854775807) = true := decide_eq_true c52
                               try have c52b2 : (9223372036854775807 < x8_2.size + (t244.extract (x9_2 : Int).toNat ((wrap64 (x9_2 + 1)) : Int).toNat).size) = False := eq_false (Nat.not_lt.2 c52)
                               have H' := Aside0.mk H
                               clear H
                               have p253 : 0 ≤ ((ji15) : Int) := of_decide_eq_true (by first | (with_reducible assumption) | assumption)
                               have q253 : (ji15) < (l1.length : Int) := of_decide_eq_true (by first | (with_reducible assumption) | assumption)
                               obtain ⟨ad253, e253, hx253_0⟩ := Kd.at_int HR1.out (ji15) p253 q253
                               cases e253
                               replace hx253_0 := (HB.out.cell (World.block_lt_of_cell? w _ hx253_0)).trans hx253_0
                               replace p253 := eq_true p253
                               replace q253 := eq_true q253
                               have p19 : 0 ≤ (x9_2 : Int) := of_decide_eq_true (by first | (with_reducible assumption) | assumption)
                               have q19 : x9_2 < (t244.size : Int) := of_decide_eq_true (by first | (with_reducible assumption) | assumption)
                               have hx19 := bt_at t244 x9_2
                               replace p19 := eq_true p19
                               replace q19 := eq_true q19
                               have p40 : 0 ≤ (x9_2 : Int) := of_decide_eq_true (by first | (with_reducible assumption) | assumption)
                               have q40 : x9_2 < (t244.size : Int) := of_decide_eq_true (by first | (with_reducible assumption) | assumption)
                               have hx40 := bt_at t244 x9_2
                               replace p40 := eq_true p40
                               replace q40 := eq_true q40
                               go_wp2
                               go_roundg k2
                               case measure => have := HJ4.out; have := HK2.out; omega
                               case rel => exact ⟨(x7_2), (x8_2 ++ (t244.extract (x9_2 : Int).toNat ((wrap64 (x9_2 + 1)) : Int).toNat)), (wrap64 (x9_2 + 1)), (by first | rfl | (simp; done) | (simp [*]; done)), (by first | rfl | (simp; done) | (simp [*]; done)), (by first | rfl | (simp; done) | (simp [*]; done)), H', ⟨by have := HJ4.out; have := HK2.out; omega⟩, ⟨by repeat (first | (with_reducible first | exact HB.out | apply below_alloc | apply pw_below_drewN | apply below_drew1) | exact HB.out)⟩⟩
                             · rw [if_neg c52] at H
                               exact absurd H (by simp)
                           · rw [if_neg c51] at H
                             exact absurd H (by simp)
                         · rw [if_neg c50] at H
                           exact absurd H (by simp)
                   · rw [if_neg c18] at H
                     exact absurd H (by simp)
                 · rw [if_neg c17] at H
                   exact absurd H (by simp)
               · rw [if_neg c16] at H
                 exact absurd H (by simp)
           · rw [if_neg c13] at H
             have c13b0 : decide (x9_2 < (t244.size : Int)) = false := decide_eq_false c13
             clear c13
             replace H := Option.bind_eq_some_iff.mp H
             obtain ⟨⟨t247, t248, t249⟩, A530, H⟩ := H
             replace H : (if t249 = 0 then (if t248 = 0 then ((ontimeref05_Same.f k2 t247 l0).bind fun t252 => (some t252)) else (some false)) else (some false)) = some r := H
             have A53 := Aside0.mk A530
             clear A530
             by_cases c54 : t249 = 0
             · rw [if_pos c54] at H
               have c54b0 : (t249 == 0) = true := beq_iff_eq.mpr c54
               have c54b1 : (t249 != 0) = false := bne_eq_false_iff_eq.mpr c54
               clear c54
               by_cases c55 : t248 = 0
               · rw [if_pos c55] at H
                 have c55b0 : (t248 == 0) = true := beq_iff_eq.mpr c55
                 have c55b1 : (t248 != 0) = false := bne_eq_false_iff_eq.mpr c55
                 clear c55
                 replace H := Option.bind_eq_some_iff.mp H
                 obtain ⟨t252, A560, H⟩ := H
                 replace H : (some t252) = some r := H
                 have A56 := Aside0.mk A560
                 clear A560
                 obtain rfl := Option.some.inj H
                 go_wp2_with (first | ((with_reducible refine gate_callee (f := 16) rfl ?_); refine goesL_ (some 95) rfl rfl Tryd.func16 (by kernel_rfl) rfl #[.string x7_2] rfl (by (try simp only [List.map_toArray, List.map_cons, List.map_nil]); first | done | rfl | (simp only [List.length_drop, List.length_take]; rfl)) ?_; (with_reducible refine (asm_Parse.calls k2 x7_2 t247 t248 t249 _ ?side1 A53.out).mono ?_); (case side1 => exact Env.below HE.out (by repeat (first | (with_reducible first | exact HB.out | apply below_alloc | apply pw_below_drewN | apply below_drew1) | exact HB.out))); rintro e w57 ⟨v250, rfl, ho0, hb⟩; refine ⟨_, rfl, ?_⟩; have n0_ := Aside0.mk (Kd.R_lower ho0 (below_size (by repeat (first | (with_reducible first | exact HB.out | apply below_alloc | apply pw_below_drewN | apply below_drew1) | exact HB.out)))); have n1_ := Aside0.mk (below_step (by repeat (first | (with_reducible first | exact HB.out | apply below_alloc | apply pw_below_drewN | apply below_drew1) | exact HB.out)) hb); clear HB; have HO251 := n0_; have HB := n1_; clear n0_ n1_; (try clear hb); (try clear hb2); (try clear hk); (try clear hi); (try clear ho0); obtain ⟨Ao58, co58, eo58⟩ := Kd.R_slice HO251.out; subst eo58) | (go_at_call 18; (with_reducible refine (ontimeref05_Same.calls k2 _ _ t247 _ _ l0 t252 _ ?side1 ?side2 ?side3 ?side4 A56.out).mono ?_); (case side1 => repeat (first | exact (Kd.R_reads' HO251.out).2.2 | (with_reducible refine Kd.C_alloc ?_ _) | (with_reducible refine Kd.C_drewN ?_ _) | (with_reducible refine Kd.C_drew ?_))); (case side2 => exact (Kd.R_reads' HO251.out).2.1); (case side3 => repeat (first | exact (Kd.C_below HR0.out HB.out) | (with_reducible refine Kd.C_alloc ?_ _) | (with_reducible refine Kd.C_drewN ?_ _) | (with_reducible refine Kd.C_drew ?_))); (case side4 => exact HC0.out); rintro e w' ⟨rfl, ⟨nd, rfl⟩⟩))
                 go_ret
                 exact ⟨by first | rfl | (simp [errW_none, errW_some] <;> rfl) | (simp [*, errW_none, errW_some] <;> rfl), by repeat (first | (with_reducible first | exact HB.out | apply below_alloc | apply pw_below_drewN | apply below_drew1) | exact HB.out)⟩
               · rw [if_neg c55] at H
                 have c55b0 : (t248 == 0) = false := beq_eq_false_iff_ne.mpr c55
                 have c55b1 : (t248 != 0) = true := bne_iff_ne.mpr c55
                 obtain rfl := Option.some.inj H
                 go_wp2_with (first | ((with_reducible refine gate_callee (f := 16) rfl ?_); refine goesL_ (some 95) rfl rfl Tryd.func16 (by kernel_rfl) rfl #[.string x7_2] rfl (by (try simp only [List.map_toArray, List.map_cons, List.map_nil]); first | done | rfl | (simp only [List.length_drop, List.length_take]; rfl)) ?_; (with_reducible refine (asm_Parse.calls k2 x7_2 t247 t248 t249 _ ?side1 A53.out).mono ?_); (case side1 => exact Env.below HE.out (by repeat (first | (with_reducible first | exact HB.out | apply below_alloc | apply pw_below_drewN | apply below_drew1) | exact HB.out))); rintro e w59 ⟨v250, rfl, ho0, hb⟩; refine ⟨_, rfl, ?_⟩; have n0_ := Aside0.mk (Kd.R_lower ho0 (below_size (by repeat (first | (with_reducible first | exact HB.out | apply below_alloc | apply pw_below_drewN | apply below_drew1) | exact HB.out)))); have n1_ := Aside0.mk (below_step (by repeat (first | (with_reducible first | exact HB.out | apply below_alloc | apply pw_below_drewN | apply below_drew1) | exact HB.out)) hb); clear HB; have HO251 := n0_; have HB := n1_; clear n0_ n1_; (try clear hb); (try clear hb2); (try clear hk); (try clear hi); (try clear ho0)))
                 go_ret
                 exact ⟨by first | rfl | (simp [errW_none, errW_some] <;> rfl) | (simp [*, errW_none, errW_some] <;> rfl), by repeat (first | (with_reducible first | exact HB.out | apply below_alloc | apply pw_below_drewN | apply below_drew1) | exact HB.out)⟩
             · rw [if_neg c54] at H
               have c54b0 : (t249 == 0) = false := beq_eq_false_iff_ne.mpr c54
               have c54b1 : (t249 != 0) = true := bne_iff_ne.mpr c54
               obtain rfl := Option.some.inj H
               go_wp2_with (first | ((with_reducible refine gate_callee (f := 16) rfl ?_); refine goesL_ (some 95) rfl rfl Tryd.func16 (by kernel_rfl) rfl #[.string x7_2] rfl (by (try simp only [List.map_toArray, List.map_cons, List.map_nil]); first | done | rfl | (simp only [List.length_drop, List.length_take]; rfl)) ?_; (with_reducible refine (asm_Parse.calls k2 x7_2 t247 t248 t249 _ ?side1 A53.out).mono ?_); (case side1 => exact Env.below HE.out (by repeat (first | (with_reducible first | exact HB.out | apply below_alloc | apply pw_below_drewN | apply below_drew1) | exact HB.out))); rintro e w60 ⟨v250, rfl, ho0, hb⟩; refine ⟨_, rfl, ?_⟩; have n0_ := Aside0.mk (Kd.R_lower ho0 (below_size (by repeat (first | (with_reducible first | exact HB.out | apply below_alloc | apply pw_below_drewN | apply below_drew1) | exact HB.out)))); have n1_ := Aside0.mk (below_step (by repeat (first | (with_reducible first | exact HB.out | apply below_alloc | apply pw_below_drewN | apply below_drew1) | exact HB.out)) hb); clear HB; have HO251 := n0_; have HB := n1_; clear n0_ n1_; (try clear hb); (try clear hb2); (try clear hk); (try clear hi); (try clear ho0)))
               go_ret
               exact ⟨by first | rfl | (simp [errW_none, errW_some] <;> rfl) | (simp [*, errW_none, errW_some] <;> rfl), by repeat (first | (with_reducible first | exact HB.out | apply below_alloc | apply pw_below_drewN | apply below_drew1) | exact HB.out)⟩
       · rw [if_neg c11] at H
         have c11b0 : (t245 == 0) = false := beq_eq_false_iff_ne.mpr c11
         have c11b1 : (t245 != 0) = true := bne_iff_ne.mpr c11
         replace H := Option.bind_eq_some_iff.mp H
         obtain ⟨t246, A610, H⟩ := H
         replace H : (some (t246 == 0)) = some r := H
         have A61 := Aside0.mk A610
         clear A610
         obtain rfl := Option.some.inj H
         go_wp2_with (first | ((with_reducible refine gate_callee (f := 13) rfl ?_); refine goesL_ (some 31) rfl rfl Tryd.func13 (by kernel_rfl) rfl #[.slice A0 l0.length c0] rfl (by (try simp only [List.map_toArray, List.map_cons, List.map_nil]); first | done | rfl | (simp only [List.length_drop, List.length_take]; rfl)) ?_; (with_reducible refine (asm_Format.calls _ _ l0 t244 t245 _ ?side1 ?side2 ?side3 A10.out).mono ?_); (case side1 => repeat (first | exact (Kd.C_below HR0.out HB.out) | (with_reducible refine Kd.C_alloc ?_ _) | (with_reducible refine Kd.C_drewN ?_ _) | (with_reducible refine Kd.C_drew ?_))); (case side2 => exact HC0.out); (case side3 => exact Env.below HE.out (by repeat (first | (with_reducible first | exact HB.out | apply below_alloc | apply pw_below_drewN | apply below_drew1) | exact HB.out))); rintro e w62 ⟨rfl, hb⟩; refine ⟨_, rfl, ?_⟩; have n0_ := Aside0.mk (below_step (by repeat (first | (with_reducible first | exact HB.out | apply below_alloc | apply pw_below_drewN | apply below_drew1) | exact HB.out)) hb); clear HB; have HB := n0_; clear n0_; (try clear hb); (try clear hb2); (try clear hk); (try clear hi)) | ((with_reducible refine gate_callee (f := 14) rfl ?_); refine goesL_ (some 37) rfl rfl Tryd.func14 (by kernel_rfl) rfl #[.slice A0 l0.length c0] rfl (by (try simp only [List.map_toArray, List.map_cons, List.map_nil]); first | done | rfl | (simp only [List.length_drop, List.length_take]; rfl)) ?_; (with_reducible refine (ontimelaw05_valid.calls kj4 _ _ l0 t246 _ ?side1 ?side2 A61.out).mono ?_); (case side1 => repeat (first | exact (Kd.C_below HR0.out HB.out) | (with_reducible refine Kd.C_alloc ?_ _) | (with_reducible refine Kd.C_drewN ?_ _) | (with_reducible refine Kd.C_drew ?_))); (case side2 => exact HC0.out); rintro e w63 ⟨rfl, hb⟩; refine ⟨_, rfl, ?_⟩; have n0_ := Aside0.mk (below_step (by repeat (first | (with_reducible first | exact HB.out | apply below_alloc | apply pw_below_drewN | apply below_drew1) | exact HB.out)) hb); clear HB; have HB := n0_; clear n0_; (try clear hb); (try clear hb2); (try clear hk); (try clear hi)))
         go_ret
         exact ⟨by first | rfl | (simp [errW_none, errW_some] <;> rfl) | (simp [*, errW_none, errW_some] <;> rfl), by repeat (first | (with_reducible first | exact HB.out | apply below_alloc | apply pw_below_drewN | apply below_drew1) | exact HB.out)⟩
 · replace c4 := Bool.eq_false_iff.mpr c4
   subst c4
   have H1 : (some false) = some r := by rw [if_neg (show ¬ (false = true) by decide)] at H; exact H
   clear H
   have H := H1
   clear H1
   obtain rfl := Option.some.inj H
   go_enter Tryd.func5, Tryd.ntmps5
   go_wp2_with (first | ((with_reducible refine gate_callee (f := 12) rfl ?_); refine goesL_ (some 14) rfl rfl Tryd.func12 (by kernel_rfl) rfl #[] rfl (by (try simp only [List.map_toArray, List.map_cons, List.map_nil]); first | done | rfl | (simp only [List.length_drop, List.length_take]; rfl)) ?_; (with_reducible refine (ontimelaw05_awake.calls k  false _ ?side1 A3.out).mono ?_); (case side1 => exact Env.below HE.out (by repeat (first | (with_reducible first | exact HB.out | apply below_alloc | apply pw_below_drewN | apply below_drew1) | exact HB.out))); rintro e w64 ⟨rfl, hb⟩; refine ⟨_, rfl, ?_⟩; have n0_ := Aside0.mk (below_step (by repeat (first | (with_reducible first | exact HB.out | apply below_alloc | apply pw_below_drewN | apply below_drew1) | exact HB.out)) hb); clear HB; have HB := n0_; clear n0_; (try clear hb); (try clear hb2); (try clear hk); (try clear hi)))
   go_ret
   exact ⟨by first | rfl | (simp [errW_none, errW_some] <;> rfl) | (simp [*, errW_none, errW_some] <;> rfl), by repeat (first | (with_reducible first | exact HB.out | apply below_alloc | apply pw_below_drewN | apply below_drew1) | exact HB.out)⟩

end Go.Proofs.YtchlcncffillbaaDoor.P
