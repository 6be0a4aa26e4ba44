-- Printed for this claim by a program (wip/pp/patch_print.py); Lean checks it.
import Derived.Test.YtchlcncffillbaaDoorP0
import Derived.Test.YtchlcncffillbaaDoorEV
namespace Go.Proofs.YtchlcncffillbaaDoor.P
open Go.RowKit Go.Proofs.YtchlcncffillbaaDoorW.PrintWords Go.Proofs.YtchlcncffillbaaDoorW.PrintLast Go.Proofs.YtchlcncffillbaaDoorW.PrintMore
attribute [local go_sem] max2_int min2_int max_two min_two max_three min_three max_four min_four   -- for this text's walks alone
set_option linter.unusedVariables false
set_option linter.unusedSimpArgs false

/-! ### ontimelaw05_valid: function 14 -/
def ontimelaw05_valid.l0 : Nat → List (S48) → Int → Option (Int)
 | 0, _, _ => none
 | k + 1, x0, x3 => if x3 < (x0.length : Int) then (if 0 ≤ x3 then ((isa_Valid.f ((rd_T48 x0 x3).f0) ((rd_T48 x0 x3).f1) ((rd_T48 x0 x3).f2) ((rd_T48 x0 x3).f3) ((rd_T48 x0 x3).f4)).bind fun t164 => (if t164 = true then (ontimelaw05_valid.l0 k x0 (wrap64 (x3 + 1))) else (some 0))) else (none)) else (some 1)
def ontimelaw05_valid.f (k : Nat) (l0 : List (S48)) : Option (Int) := ontimelaw05_valid.l0 k l0 0
theorem ontimelaw05_valid.mono_l : ∀ k, (∀ y0 y1, LeO (ontimelaw05_valid.l0 k y0 y1) (ontimelaw05_valid.l0 (k + 1) y0 y1))
 | 0 => fun _ _ r h => by simp [ontimelaw05_valid.l0] at h
 | k + 1 => by
  have ih0 := ontimelaw05_valid.mono_l k
  · intro y0 y1
    unfold ontimelaw05_valid.l0
    repeat' first
    | (with_reducible exact ih0 _ _)
    | (with_reducible exact LeO.refl _)
    | (with_reducible exact LeO.none _)
    | (with_reducible refine LeO.ite ?_ ?_)
    | (with_reducible refine LeO.bind ?_ (fun _ => ?_))
    | exact ih0 _ _
    | exact LeO.none _
    | refine LeO.ite ?_ ?_
    | refine LeO.bind ?_ (fun _ => ?_)
theorem ontimelaw05_valid.mono : ∀ a0 k, LeO (ontimelaw05_valid.f k a0) (ontimelaw05_valid.f (k + 1) a0) := by
 intro a0 k
 have ih0 := ontimelaw05_valid.mono_l k
 unfold ontimelaw05_valid.f
 repeat' first
  | (with_reducible exact ih0 _ _)
  | (with_reducible exact LeO.refl _)
  | (with_reducible exact LeO.none _)
  | (with_reducible refine LeO.ite ?_ ?_)
  | (with_reducible refine LeO.bind ?_ (fun _ => ?_))
  | exact ih0 _ _
  | exact LeO.none _
  | refine LeO.ite ?_ ?_
  | refine LeO.bind ?_ (fun _ => ?_)
set_option maxHeartbeats 8000000 in
set_option maxRecDepth 100000 in
theorem ontimelaw05_valid.calls (k : Nat) (A0 : Option Addr) (c0 : Nat) (l0 : List (S48)) (r : Int) (w : World) (hr0 : Kd.C k48 w A0 l0.length l0) (hc0 : l0.length ≤ c0) (h : ontimelaw05_valid.f k l0 = some r) :
 Calls Tryd.prog 14 #[.slice A0 l0.length c0] w fun e w' => e = .returned (.int .i64 r) ∧ Below w.heap.size w w' := by
 have hu48 := Tryd.underlying48
 have HR0 := Aside0.mk hr0
 have HC0 := Aside0.mk hc0
 clear hr0 hc0
 have HB := Aside0.mk (Below.refl w.heap.size w)
 have H : (ontimelaw05_valid.l0 k l0 0) = some r := h
 clear h
 have H' := Aside0.mk H
 clear H
 go_enter Tryd.func14, Tryd.ntmps14
 go_wp2
 go_loopg [3] k (fun kq v3 w' => ∃ (x3_1 : Int), v3 = .int .i64 x3_1 ∧ Aside0 (ontimelaw05_valid.l0 kq l0 x3_1 = some r) ∧ Aside0 (kq ≤ k) ∧ Aside0 (Below w.heap.size w w'))
 case atStart => exact ⟨(0), (by first | rfl | (simp; done) | (simp [*]; done)), H', ⟨Nat.le_refl _⟩, ⟨by repeat (first | (with_reducible first | exact HB.out | apply below_alloc | apply pw_below_drewN | apply below_drew1) | exact HB.out)⟩⟩
 case round =>
  clear H'
  try clear c1
  obtain ⟨x3_1, rfl, HA, HK1, HB⟩ := hrel
  cases gk with
  | zero => exact absurd HA.out (by simp [ontimelaw05_valid.l0])
  | succ k1 =>
   have H := HA.out
   clear HA
   simp only [ontimelaw05_valid.l0] at H
   by_cases c2 : x3_1 < (l0.length : Int)
   · rw [if_pos c2] at H
     have c2b0 : decide (x3_1 < (l0.length : Int)) = true := decide_eq_true c2
     clear c2
     by_cases c3 : 0 ≤ x3_1
     · rw [if_pos c3] at H
       have c3b0 : decide (0 ≤ x3_1) = true := decide_eq_true c3
       clear c3
       replace H := Option.bind_eq_some_iff.mp H
       obtain ⟨t164, A40, H⟩ := H
       replace H : (if t164 = true then (ontimelaw05_valid.l0 k1 l0 (wrap64 (x3_1 + 1))) else (some 0)) = some r := H
       have A4 := Aside0.mk A40
       clear A40
       by_cases c5 : t164 = true
       · subst c5
         have H1 : (ontimelaw05_valid.l0 k1 l0 (wrap64 (x3_1 + 1))) = some r := by rw [if_pos rfl] at H; exact H
         clear H
         have H := H1
         clear H1
         have H' := Aside0.mk H
         clear H
         have p163 : 0 ≤ (x3_1 : Int) := of_decide_eq_true (by first | (with_reducible assumption) | assumption)
         have q163 : x3_1 < (l0.length : Int) := of_decide_eq_true (by first | (with_reducible assumption) | assumption)
         obtain ⟨ad163, e163, hx163_0, hx163_1, hx163_2, hx163_3, hx163_4⟩ := at_T48 HR0.out x3_1 p163 q163
         cases e163
         replace hx163_0 := (HB.out.cell (World.block_lt_of_cell? w _ hx163_0)).trans hx163_0
         replace hx163_1 := (HB.out.cell (World.block_lt_of_cell? w _ hx163_1)).trans hx163_1
         replace hx163_2 := (HB.out.cell (World.block_lt_of_cell? w _ hx163_2)).trans hx163_2
         replace hx163_3 := (HB.out.cell (World.block_lt_of_cell? w _ hx163_3)).trans hx163_3
         replace hx163_4 := (HB.out.cell (World.block_lt_of_cell? w _ hx163_4)).trans hx163_4
         replace p163 := eq_true p163
         replace q163 := eq_true q163
         go_wp2_with (first | ((with_reducible refine gate_callee (f := 29) rfl ?_); refine goesL_ (some 14) rfl rfl Tryd.func29 (by kernel_rfl) rfl #[.agg #[.int .u8 ((rd_T48 l0 x3_1).f0), .int .i64 ((rd_T48 l0 x3_1).f1), .int .i64 ((rd_T48 l0 x3_1).f2), .int .i64 ((rd_T48 l0 x3_1).f3), .int .i64 ((rd_T48 l0 x3_1).f4)]] rfl (by (try simp only [List.map_toArray, List.map_cons, List.map_nil]); first | done | rfl | (simp only [List.length_drop, List.length_take]; rfl)) ?_; (with_reducible refine (isa_Valid.calls ((rd_T48 l0 x3_1).f0) ((rd_T48 l0 x3_1).f1) ((rd_T48 l0 x3_1).f2) ((rd_T48 l0 x3_1).f3) ((rd_T48 l0 x3_1).f4) true _ A4.out).mono ?_); rintro e w6 ⟨rfl, hb⟩; refine ⟨_, rfl, ?_⟩; have n0_ := Aside0.mk (below_step (by repeat (first | (with_reducible first | exact HB.out | apply below_alloc | apply pw_below_drewN | apply below_drew1) | exact HB.out)) hb); clear HB; have HB := n0_; clear n0_; (try clear hb); (try clear hb2); (try clear hk); (try clear hi)))
         go_roundg k1
         case measure => have := HK1.out; omega
         case rel => exact ⟨(wrap64 (x3_1 + 1)), (by first | rfl | (simp; done) | (simp [*]; done)), H', ⟨by have := HK1.out; omega⟩, ⟨by repeat (first | (with_reducible first | exact HB.out | apply below_alloc | apply pw_below_drewN | apply below_drew1) | exact HB.out)⟩⟩
       · replace c5 := Bool.eq_false_iff.mpr c5
         subst c5
         have H1 : (some 0) = some r := by rw [if_neg (show ¬ (false = true) by decide)] at H; exact H
         clear H
         have H := H1
         clear H1
         obtain rfl := Option.some.inj H
         have p163 : 0 ≤ (x3_1 : Int) := of_decide_eq_true (by first | (with_reducible assumption) | assumption)
         have q163 : x3_1 < (l0.length : Int) := of_decide_eq_true (by first | (with_reducible assumption) | assumption)
         obtain ⟨ad163, e163, hx163_0, hx163_1, hx163_2, hx163_3, hx163_4⟩ := at_T48 HR0.out x3_1 p163 q163
         cases e163
         replace hx163_0 := (HB.out.cell (World.block_lt_of_cell? w _ hx163_0)).trans hx163_0
         replace hx163_1 := (HB.out.cell (World.block_lt_of_cell? w _ hx163_1)).trans hx163_1
         replace hx163_2 := (HB.out.cell (World.block_lt_of_cell? w _ hx163_2)).trans hx163_2
         replace hx163_3 := (HB.out.cell (World.block_lt_of_cell? w _ hx163_3)).trans hx163_3
         replace hx163_4 := (HB.out.cell (World.block_lt_of_cell? w _ hx163_4)).trans hx163_4
         replace p163 := eq_true p163
         replace q163 := eq_true q163
         go_wp2_with (first | ((with_reducible refine gate_callee (f := 29) rfl ?_); refine goesL_ (some 14) rfl rfl Tryd.func29 (by kernel_rfl) rfl #[.agg #[.int .u8 ((rd_T48 l0 x3_1).f0), .int .i64 ((rd_T48 l0 x3_1).f1), .int .i64 ((rd_T48 l0 x3_1).f2), .int .i64 ((rd_T48 l0 x3_1).f3), .int .i64 ((rd_T48 l0 x3_1).f4)]] rfl (by (try simp only [List.map_toArray, List.map_cons, List.map_nil]); first | done | rfl | (simp only [List.length_drop, List.length_take]; rfl)) ?_; (with_reducible refine (isa_Valid.calls ((rd_T48 l0 x3_1).f0) ((rd_T48 l0 x3_1).f1) ((rd_T48 l0 x3_1).f2) ((rd_T48 l0 x3_1).f3) ((rd_T48 l0 x3_1).f4) false _ A4.out).mono ?_); rintro e w7 ⟨rfl, hb⟩; refine ⟨_, rfl, ?_⟩; have n0_ := Aside0.mk (below_step (by repeat (first | (with_reducible first | exact HB.out | apply below_alloc | apply pw_below_drewN | apply below_drew1) | exact HB.out)) hb); clear HB; have HB := n0_; clear n0_; (try clear hb); (try clear hb2); (try clear hk); (try clear hi)))
         go_ret
         exact ⟨by first | rfl | (simp [errW_none, errW_some] <;> rfl) | (simp [*, errW_none, errW_some] <;> rfl), by repeat (first | (with_reducible first | exact HB.out | apply below_alloc | apply pw_below_drewN | apply below_drew1) | exact HB.out)⟩
     · rw [if_neg c3] at H
       exact absurd H (by simp)
   · rw [if_neg c2] at H
     have c2b0 : decide (x3_1 < (l0.length : Int)) = false := decide_eq_false c2
     clear c2
     obtain rfl := Option.some.inj H
     go_wp2
     go_ret
     exact ⟨by first | rfl | (simp [errW_none, errW_some] <;> rfl) | (simp [*, errW_none, errW_some] <;> rfl), by repeat (first | (with_reducible first | exact HB.out | apply below_alloc | apply pw_below_drewN | apply below_drew1) | exact HB.out)⟩

/-! ### asm_check: function 24 -/
def asm_check.l0 : Nat → List (S48) → Int → Int → Option (Int)
 | 0, _, _, _ => none
 | k + 1, x8, x9, x10 => if x10 < x9 then (if 0 ≤ x10 then (if x10 < (x8.length : Int) then ((isa_Valid.f ((rd_T48 x8 x10).f0) ((rd_T48 x8 x10).f1) ((rd_T48 x8 x10).f2) ((rd_T48 x8 x10).f3) ((rd_T48 x8 x10).f4)).bind fun t327 => (if t327 = true then (asm_check.l0 k x8 x9 (wrap64 (x10 + 1))) else (some 3))) else (none)) else (none)) else (some 0)
def asm_check.f (k : Nat) (l0 : List (S48)) : Option (Int) := if (l0.length : Int) > 4096 then (some 5) else (asm_check.l0 k l0 (l0.length : Int) 0)
theorem asm_check.mono_l : ∀ k, (∀ y0 y1 y2, LeO (asm_check.l0 k y0 y1 y2) (asm_check.l0 (k + 1) y0 y1 y2))
 | 0 => fun _ _ _ r h => by simp [asm_check.l0] at h
 | k + 1 => by
  have ih0 := asm_check.mono_l k
  · intro y0 y1 y2
    unfold asm_check.l0
    repeat' first
    | (with_reducible exact ih0 _ _ _)
    | (with_reducible exact LeO.refl _)
    | (with_reducible exact LeO.none _)
    | (with_reducible refine LeO.ite ?_ ?_)
    | (with_reducible refine LeO.bind ?_ (fun _ => ?_))
    | exact ih0 _ _ _
    | exact LeO.none _
    | refine LeO.ite ?_ ?_
    | refine LeO.bind ?_ (fun _ => ?_)
theorem asm_check.mono : ∀ a0 k, LeO (asm_check.f k a0) (asm_check.f (k + 1) a0) := by
 intro a0 k
 have ih0 := asm_check.mono_l k
 unfold asm_check.f
 repeat' first
  | (with_reducible exact ih0 _ _ _)
  | (with_reducible exact LeO.refl _)
  | (with_reducible exact LeO.none _)
  | (with_reducible refine LeO.ite ?_ ?_)
  | (with_reducible refine LeO.bind ?_ (fun _ => ?_))
  | exact ih0 _ _ _
  | exact LeO.none _
  | refine LeO.ite ?_ ?_
  | refine LeO.bind ?_ (fun _ => ?_)
set_option maxHeartbeats 8000000 in
set_option maxRecDepth 100000 in
theorem asm_check.calls (k : Nat) (A0 : Option Addr) (c0 : Nat) (l0 : List (S48)) (r : Int) (w : World) (hr0 : Kd.C k48 w A0 l0.length l0) (hc0 : l0.length ≤ c0) (h : asm_check.f k l0 = some r) :
 Calls Tryd.prog 24 #[.slice A0 l0.length c0] w fun e w' => e = .returned (.int .i64 r) ∧ Below w.heap.size w w' := by
 have hu48 := Tryd.underlying48
 have HR0 := Aside0.mk hr0
 have HC0 := Aside0.mk hc0
 clear hr0 hc0
 have HB := Aside0.mk (Below.refl w.heap.size w)
 have H : (if (l0.length : Int) > 4096 then (some 5) else (asm_check.l0 k l0 (l0.length : Int) 0)) = some r := h
 clear h
 by_cases c2 : (l0.length : Int) > 4096
 · rw [if_pos c2] at H
   have c2b0 : decide (4096 < (l0.length : Int)) = true := decide_eq_true c2
   have c2b1 : decide (4096 < l0.length) = true := decide_eq_true (by omega)
   clear c2
   obtain rfl := Option.some.inj H
   go_enter Tryd.func24, Tryd.ntmps24
   go_wp2
   go_ret
   exact ⟨by first | rfl | (simp [errW_none, errW_some] <;> rfl) | (simp [*, errW_none, errW_some] <;> rfl), by repeat (first | (with_reducible first | exact HB.out | apply below_alloc | apply pw_below_drewN | apply below_drew1) | exact HB.out)⟩
 · rw [if_neg c2] at H
   have c2b0 : decide (4096 < (l0.length : Int)) = false := decide_eq_false c2
   have c2b1 : decide (4096 < l0.length) = false := decide_eq_false (by omega)
   clear c2
   have H' := Aside0.mk H
   clear H
   go_enter Tryd.func24, Tryd.ntmps24
   go_wp2
   go_loopg [10] k (fun kq v10 w' => ∃ (x10_1 : Int), v10 = .int .i64 x10_1 ∧ Aside0 (asm_check.l0 kq l0 (l0.length : Int) x10_1 = some r) ∧ Aside0 (kq ≤ k) ∧ Aside0 (Below w.heap.size w w'))
   case atStart => exact ⟨(0), (by first | rfl | (simp; done) | (simp [*]; done)), H', ⟨Nat.le_refl _⟩, ⟨by repeat (first | (with_reducible first | exact HB.out | apply below_alloc | apply pw_below_drewN | apply below_drew1) | exact HB.out)⟩⟩
   case round =>
    clear H'
    try clear c2
    try clear c2b0
    try clear c2b1
    try clear p2
    obtain ⟨x10_1, rfl, HA, HK1, HB⟩ := hrel
    cases gk with
    | zero => exact absurd HA.out (by simp [asm_check.l0])
    | succ k1 =>
     have H := HA.out
     clear HA
     simp only [asm_check.l0] at H
     by_cases c3 : x10_1 < (l0.length : Int)
     · rw [if_pos c3] at H
       have c3b0 : decide (x10_1 < (l0.length : Int)) = true := decide_eq_true c3
       clear c3
       by_cases c4 : 0 ≤ x10_1
       · rw [if_pos c4] at H
         have c4b0 : decide (0 ≤ x10_1) = true := decide_eq_true c4
         clear c4
         by_cases c5 : x10_1 < (l0.length : Int)
         · rw [if_pos c5] at H
           have c5b0 : decide (x10_1 < (l0.length : Int)) = true := decide_eq_true c5
           clear c5
           replace H := Option.bind_eq_some_iff.mp H
           obtain ⟨t327, A60, H⟩ := H
           replace H : (if t327 = true then (asm_check.l0 k1 l0 (l0.length : Int) (wrap64 (x10_1 + 1))) else (some 3)) = some r := H
           have A6 := Aside0.mk A60
           clear A60
           by_cases c7 : t327 = true
           · subst c7
             have H1 : (asm_check.l0 k1 l0 (l0.length : Int) (wrap64 (x10_1 + 1))) = some r := by rw [if_pos rfl] at H; exact H
             clear H
             have H := H1
             clear H1
             have H' := Aside0.mk H
             clear H
             have p325 : 0 ≤ (x10_1 : Int) := of_decide_eq_true (by first | (with_reducible assumption) | assumption)
             have q325 : x10_1 < (l0.length : Int) := of_decide_eq_true (by first | (with_reducible assumption) | assumption)
             obtain ⟨ad325, e325, hx325_0, hx325_1, hx325_2, hx325_3, hx325_4⟩ := at_T48 HR0.out x10_1 p325 q325
             cases e325
             replace hx325_0 := (HB.out.cell (World.block_lt_of_cell? w _ hx325_0)).trans hx325_0
             replace hx325_1 := (HB.out.cell (World.block_lt_of_cell? w _ hx325_1)).trans hx325_1
             replace hx325_2 := (HB.out.cell (World.block_lt_of_cell? w _ hx325_2)).trans hx325_2
             replace hx325_3 := (HB.out.cell (World.block_lt_of_cell? w _ hx325_3)).trans hx325_3
             replace hx325_4 := (HB.out.cell (World.block_lt_of_cell? w _ hx325_4)).trans hx325_4
             replace p325 := eq_true p325
             replace q325 := eq_true q325
             go_wp2_with (first | ((with_reducible refine gate_dst (N := 4) rfl ?_); refine box_event ?hg (N := 4) ?hd (cs := #[.int .u8 0, .int .i64 0, .int .i64 0, .int .i64 0, .int .i64 0]) (t := 48) ?hr ?_; (case hd => rfl); (case hg => rfl); (case hr => first | (go_simp; done) | (go_simp; rfl)); intro gb326 hg w8 hbox hb; have n0_ := Aside0.mk (below_step (by repeat (first | (with_reducible first | exact HB.out | apply below_alloc | apply pw_below_drewN | apply below_drew1) | exact HB.out)) hb); have n1_ := Aside0.mk (hbox); have n2_ := Aside0.mk ((by rw [hg]; exact (below_size (by repeat (first | (with_reducible first | exact HB.out | apply below_alloc | apply pw_below_drewN | apply below_drew1) | exact HB.out))) : w.heap.size ≤ gb326)); have n3_ := Aside0.mk ((by rw [hg]; exact (below_size (by repeat (first | (with_reducible first | exact HB.out | apply below_alloc | apply pw_below_drewN | apply below_drew1) | exact HB.out))) : w.heap.size ≤ gb326)); clear HB; have HB := n0_; have BK326 := n1_; have GW326 := n2_; have GE326 := n3_; clear n0_ n1_ n2_ n3_; clear hb hbox hg; have hcz9_0 : w8.cell? ⟨gb326, 0, none⟩ = some (.int .u8 0) := (blk_cell BK326.out 0).trans rfl; have hcz9_1 : w8.cell? ⟨gb326, 1, none⟩ = some (.int .i64 0) := (blk_cell BK326.out 1).trans rfl; have hcz9_2 : w8.cell? ⟨gb326, 2, none⟩ = some (.int .i64 0) := (blk_cell BK326.out 2).trans rfl; have hcz9_3 : w8.cell? ⟨gb326, 3, none⟩ = some (.int .i64 0) := (blk_cell BK326.out 3).trans rfl; have hcz9_4 : w8.cell? ⟨gb326, 4, none⟩ = some (.int .i64 0) := (blk_cell BK326.out 4).trans rfl; have hfz9_0 := blk_frozen BK326.out 0; have hfz9_1 := blk_frozen BK326.out 1; have hfz9_2 := blk_frozen BK326.out 2; have hfz9_3 := blk_frozen BK326.out 3; have hfz9_4 := blk_frozen BK326.out 4) | ((with_reducible refine gate_callee (f := 29) rfl ?_); refine goesL_ (some 15) rfl rfl Tryd.func29 (by kernel_rfl) rfl #[.agg #[.int .u8 ((rd_T48 l0 x10_1).f0), .int .i64 ((rd_T48 l0 x10_1).f1), .int .i64 ((rd_T48 l0 x10_1).f2), .int .i64 ((rd_T48 l0 x10_1).f3), .int .i64 ((rd_T48 l0 x10_1).f4)]] rfl (by (try simp only [List.map_toArray, List.map_cons, List.map_nil]); first | done | rfl | (simp only [List.length_drop, List.length_take]; rfl)) ?_; (with_reducible refine (isa_Valid.calls ((rd_T48 l0 x10_1).f0) ((rd_T48 l0 x10_1).f1) ((rd_T48 l0 x10_1).f2) ((rd_T48 l0 x10_1).f3) ((rd_T48 l0 x10_1).f4) true _ A6.out).mono ?_); rintro e w10 ⟨rfl, hb⟩; refine ⟨_, rfl, ?_⟩; have n0_ := Aside0.mk (blk_below (g := gb326) (o := .cells #[.int .u8 ((rd_T48 l0 x10_1).f0), .int .i64 ((rd_T48 l0 x10_1).f1), .int .i64 ((rd_T48 l0 x10_1).f2), .int .i64 ((rd_T48 l0 x10_1).f3), .int .i64 ((rd_T48 l0 x10_1).f4)] 48 (0, 0)) (by (with_reducible repeat (first | refine blk_drewN ?_ _ | refine blk_drew ?_ | refine blk_alloc ?_ _)); refine blk_put (cs := #[.int .u8 ((rd_T48 l0 x10_1).f0), .int .i64 ((rd_T48 l0 x10_1).f1), .int .i64 ((rd_T48 l0 x10_1).f2), .int .i64 ((rd_T48 l0 x10_1).f3), .int .i64 0]) ?_ 4 _ rfl; (with_reducible repeat (first | refine blk_drewN ?_ _ | refine blk_drew ?_ | refine blk_alloc ?_ _)); refine blk_put (cs := #[.int .u8 ((rd_T48 l0 x10_1).f0), .int .i64 ((rd_T48 l0 x10_1).f1), .int .i64 ((rd_T48 l0 x10_1).f2), .int .i64 0, .int .i64 0]) ?_ 3 _ rfl; (with_reducible repeat (first | refine blk_drewN ?_ _ | refine blk_drew ?_ | refine blk_alloc ?_ _)); refine blk_put (cs := #[.int .u8 ((rd_T48 l0 x10_1).f0), .int .i64 ((rd_T48 l0 x10_1).f1), .int .i64 0, .int .i64 0, .int .i64 0]) ?_ 2 _ rfl; (with_reducible repeat (first | refine blk_drewN ?_ _ | refine blk_drew ?_ | refine blk_alloc ?_ _)); refine blk_put (cs := #[.int .u8 ((rd_T48 l0 x10_1).f0), .int .i64 0, .int .i64 0, .int .i64 0, .int .i64 0]) ?_ 1 _ rfl; (with_reducible repeat (first | refine blk_drewN ?_ _ | refine blk_drew ?_ | refine blk_alloc ?_ _)); refine blk_put (cs := #[.int .u8 0, .int .i64 0, .int .i64 0, .int .i64 0, .int .i64 0]) ?_ 0 _ rfl; (with_reducible repeat (first | refine blk_drewN ?_ _ | refine blk_drew ?_ | refine blk_alloc ?_ _)); exact BK326.out) hb); have n1_ := Aside0.mk (below_step (by repeat (first | (with_reducible first | exact HB.out | apply below_alloc | apply pw_below_drewN | apply below_drew1 | refine below_set ?_ GE326.out) | exact HB.out)) hb); clear BK326; clear HB; have BK326 := n0_; have HB := n1_; clear n0_ n1_; (try clear hb); (try clear hb2); (try clear hk); (try clear hi)))
             go_roundg k1
             case measure => have := HK1.out; omega
             case rel => exact ⟨(wrap64 (x10_1 + 1)), (by first | rfl | (simp; done) | (simp [*]; done)), H', ⟨by have := HK1.out; omega⟩, ⟨by repeat (first | (with_reducible first | exact HB.out | apply below_alloc | apply pw_below_drewN | apply below_drew1 | refine below_set ?_ GE326.out) | exact HB.out)⟩⟩
           · replace c7 := Bool.eq_false_iff.mpr c7
             subst c7
             have H1 : (some 3) = some r := by rw [if_neg (show ¬ (false = true) by decide)] at H; exact H
             clear H
             have H := H1
             clear H1
             obtain rfl := Option.some.inj H
             have p325 : 0 ≤ (x10_1 : Int) := of_decide_eq_true (by first | (with_reducible assumption) | assumption)
             have q325 : x10_1 < (l0.length : Int) := of_decide_eq_true (by first | (with_reducible assumption) | assumption)
             obtain ⟨ad325, e325, hx325_0, hx325_1, hx325_2, hx325_3, hx325_4⟩ := at_T48 HR0.out x10_1 p325 q325
             cases e325
             replace hx325_0 := (HB.out.cell (World.block_lt_of_cell? w _ hx325_0)).trans hx325_0
             replace hx325_1 := (HB.out.cell (World.block_lt_of_cell? w _ hx325_1)).trans hx325_1
             replace hx325_2 := (HB.out.cell (World.block_lt_of_cell? w _ hx325_2)).trans hx325_2
             replace hx325_3 := (HB.out.cell (World.block_lt_of_cell? w _ hx325_3)).trans hx325_3
             replace hx325_4 := (HB.out.cell (World.block_lt_of_cell? w _ hx325_4)).trans hx325_4
             replace p325 := eq_true p325
             replace q325 := eq_true q325
             go_wp2_with (first | ((with_reducible refine gate_dst (N := 4) rfl ?_); refine box_event ?hg (N := 4) ?hd (cs := #[.int .u8 0, .int .i64 0, .int .i64 0, .int .i64 0, .int .i64 0]) (t := 48) ?hr ?_; (case hd => rfl); (case hg => rfl); (case hr => first | (go_simp; done) | (go_simp; rfl)); intro gb326 hg w11 hbox hb; have n0_ := Aside0.mk (below_step (by repeat (first | (with_reducible first | exact HB.out | apply below_alloc | apply pw_below_drewN | apply below_drew1) | exact HB.out)) hb); have n1_ := Aside0.mk (hbox); have n2_ := Aside0.mk ((by rw [hg]; exact (below_size (by repeat (first | (with_reducible first | exact HB.out | apply below_alloc | apply pw_below_drewN | apply below_drew1) | exact HB.out))) : w.heap.size ≤ gb326)); have n3_ := Aside0.mk ((by rw [hg]; exact (below_size (by repeat (first | (with_reducible first | exact HB.out | apply below_alloc | apply pw_below_drewN | apply below_drew1) | exact HB.out))) : w.heap.size ≤ gb326)); clear HB; have HB := n0_; have BK326 := n1_; have GW326 := n2_; have GE326 := n3_; clear n0_ n1_ n2_ n3_; clear hb hbox hg; have hcz12_0 : w11.cell? ⟨gb326, 0, none⟩ = some (.int .u8 0) := (blk_cell BK326.out 0).trans rfl; have hcz12_1 : w11.cell? ⟨gb326, 1, none⟩ = some (.int .i64 0) := (blk_cell BK326.out 1).trans rfl; have hcz12_2 : w11.cell? ⟨gb326, 2, none⟩ = some (.int .i64 0) := (blk_cell BK326.out 2).trans rfl; have hcz12_3 : w11.cell? ⟨gb326, 3, none⟩ = some (.int .i64 0) := (blk_cell BK326.out 3).trans rfl; have hcz12_4 : w11.cell? ⟨gb326, 4, none⟩ = some (.int .i64 0) := (blk_cell BK326.out 4).trans rfl; have hfz12_0 := blk_frozen BK326.out 0; have hfz12_1 := blk_frozen BK326.out 1; have hfz12_2 := blk_frozen BK326.out 2; have hfz12_3 := blk_frozen BK326.out 3; have hfz12_4 := blk_frozen BK326.out 4) | ((with_reducible refine gate_callee (f := 29) rfl ?_); refine goesL_ (some 15) rfl rfl Tryd.func29 (by kernel_rfl) rfl #[.agg #[.int .u8 ((rd_T48 l0 x10_1).f0), .int .i64 ((rd_T48 l0 x10_1).f1), .int .i64 ((rd_T48 l0 x10_1).f2), .int .i64 ((rd_T48 l0 x10_1).f3), .int .i64 ((rd_T48 l0 x10_1).f4)]] rfl (by (try simp only [List.map_toArray, List.map_cons, List.map_nil]); first | done | rfl | (simp only [List.length_drop, List.length_take]; rfl)) ?_; (with_reducible refine (isa_Valid.calls ((rd_T48 l0 x10_1).f0) ((rd_T48 l0 x10_1).f1) ((rd_T48 l0 x10_1).f2) ((rd_T48 l0 x10_1).f3) ((rd_T48 l0 x10_1).f4) false _ A6.out).mono ?_); rintro e w13 ⟨rfl, hb⟩; refine ⟨_, rfl, ?_⟩; have n0_ := Aside0.mk (blk_below (g := gb326) (o := .cells #[.int .u8 ((rd_T48 l0 x10_1).f0), .int .i64 ((rd_T48 l0 x10_1).f1), .int .i64 ((rd_T48 l0 x10_1).f2), .int .i64 ((rd_T48 l0 x10_1).f3), .int .i64 ((rd_T48 l0 x10_1).f4)] 48 (0, 0)) (by (with_reducible repeat (first | refine blk_drewN ?_ _ | refine blk_drew ?_ | refine blk_alloc ?_ _)); refine blk_put (cs := #[.int .u8 ((rd_T48 l0 x10_1).f0), .int .i64 ((rd_T48 l0 x10_1).f1), .int .i64 ((rd_T48 l0 x10_1).f2), .int .i64 ((rd_T48 l0 x10_1).f3), .int .i64 0]) ?_ 4 _ rfl; (with_reducible repeat (first | refine blk_drewN ?_ _ | refine blk_drew ?_ | refine blk_alloc ?_ _)); refine blk_put (cs := #[.int .u8 ((rd_T48 l0 x10_1).f0), .int .i64 ((rd_T48 l0 x10_1).f1), .int .i64 ((rd_T48 l0 x10_1).f2), .int .i64 0, .int .i64 0]) ?_ 3 _ rfl; (with_reducible repeat (first | refine blk_drewN ?_ _ | refine blk_drew ?_ | refine blk_alloc ?_ _)); refine blk_put (cs := #[.int .u8 ((rd_T48 l0 x10_1).f0), .int .i64 ((rd_T48 l0 x10_1).f1), .int .i64 0, .int .i64 0, .int .i64 0]) ?_ 2 _ rfl; (with_reducible repeat (first | refine blk_drewN ?_ _ | refine blk_drew ?_ | refine blk_alloc ?_ _)); refine blk_put (cs := #[.int .u8 ((rd_T48 l0 x10_1).f0), .int .i64 0, .int .i64 0, .int .i64 0, .int .i64 0]) ?_ 1 _ rfl; (with_reducible repeat (first | refine blk_drewN ?_ _ | refine blk_drew ?_ | refine blk_alloc ?_ _)); refine blk_put (cs := #[.int .u8 0, .int .i64 0, .int .i64 0, .int .i64 0, .int .i64 0]) ?_ 0 _ rfl; (with_reducible repeat (first | refine blk_drewN ?_ _ | refine blk_drew ?_ | refine blk_alloc ?_ _)); exact BK326.out) hb); have n1_ := Aside0.mk (below_step (by repeat (first | (with_reducible first | exact HB.out | apply below_alloc | apply pw_below_drewN | apply below_drew1 | refine below_set ?_ GE326.out) | exact HB.out)) hb); clear BK326; clear HB; have BK326 := n0_; have HB := n1_; clear n0_ n1_; (try clear hb); (try clear hb2); (try clear hk); (try clear hi)))
             go_ret
             exact ⟨by first | rfl | (simp [errW_none, errW_some] <;> rfl) | (simp [*, errW_none, errW_some] <;> rfl), by repeat (first | (with_reducible first | exact HB.out | apply below_alloc | apply pw_below_drewN | apply below_drew1 | refine below_set ?_ GE326.out) | exact HB.out)⟩
         · rw [if_neg c5] at H
           exact absurd H (by simp)
       · rw [if_neg c4] at H
         exact absurd H (by simp)
     · rw [if_neg c3] at H
       have c3b0 : decide (x10_1 < (l0.length : Int)) = false := decide_eq_false c3
       clear c3
       obtain rfl := Option.some.inj H
       go_wp2
       go_ret
       exact ⟨by first | rfl | (simp [errW_none, errW_some] <;> rfl) | (simp [*, errW_none, errW_some] <;> rfl), by repeat (first | (with_reducible first | exact HB.out | apply below_alloc | apply pw_below_drewN | apply below_drew1) | exact HB.out)⟩

end Go.Proofs.YtchlcncffillbaaDoor.P
