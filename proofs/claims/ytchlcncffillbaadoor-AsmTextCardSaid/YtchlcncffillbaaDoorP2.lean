-- Printed for this claim by a program (wip/pp/patch_print.py); Lean checks it.
import Derived.Test.YtchlcncffillbaaDoorP0
namespace Go.Proofs.YtchlcncffillbaaDoor.P
open Go.RowKit Go.Proofs.YtchlcncffillbaaDoorW.PrintWords Go.Proofs.YtchlcncffillbaaDoorW.PrintLast Go.Proofs.YtchlcncffillbaaDoorW.PrintMore
attribute [local go_sem] max2_int min2_int max_two min_two max_three min_three max_four min_four   -- for this text's walks alone
set_option linter.unusedVariables false
set_option linter.unusedSimpArgs false

/-! ### isa_rows: function 57 -/
def isa_rows.l0 : Nat → List (S76) → List ByteArray → Int → Int → Option ((List (S76)))
 | 0, _, _, _, _ => none
 | k + 1, x1, x7, x8, x9 => if x9 < x8 then (if 0 ≤ x9 then (if x9 < (x7.length : Int) then (if x1.length < 1759218604441 then (isa_rows.l0 k (x1 ++ [(⟨rdOf ByteArray.empty x7 x9, (⟨#[97, 98, 99]⟩ : ByteArray), 0, 0, (⟨#[98, 99]⟩ : ByteArray), (⟨#[97]⟩ : ByteArray)⟩ : S76)]) x7 x8 (wrap64 (x9 + 1))) else (none)) else (none)) else (none)) else ((some (([(⟨(⟨#[108, 105]⟩ : ByteArray), (⟨#[97, 105]⟩ : ByteArray), (-131072), 131071, (⟨#[]⟩ : ByteArray), (⟨#[97]⟩ : ByteArray)⟩ : S76), (⟨(⟨#[97, 100, 100, 105]⟩ : ByteArray), (⟨#[97, 98, 105]⟩ : ByteArray), (-131072), 131071, (⟨#[98]⟩ : ByteArray), (⟨#[97]⟩ : ByteArray)⟩ : S76), (⟨(⟨#[115, 104, 108, 105]⟩ : ByteArray), (⟨#[97, 98, 105]⟩ : ByteArray), 0, 31, (⟨#[98]⟩ : ByteArray), (⟨#[97]⟩ : ByteArray)⟩ : S76), (⟨(⟨#[111, 114, 105]⟩ : ByteArray), (⟨#[97, 98, 105]⟩ : ByteArray), 0, 16383, (⟨#[98]⟩ : ByteArray), (⟨#[97]⟩ : ByteArray)⟩ : S76), (⟨(⟨#[108, 100]⟩ : ByteArray), (⟨#[97, 98, 105]⟩ : ByteArray), (-131072), 131071, (⟨#[98]⟩ : ByteArray), (⟨#[97]⟩ : ByteArray)⟩ : S76), (⟨(⟨#[115, 116]⟩ : ByteArray), (⟨#[97, 98, 105]⟩ : ByteArray), (-131072), 131071, (⟨#[97, 98]⟩ : ByteArray), (⟨#[]⟩ : ByteArray)⟩ : S76), (⟨(⟨#[108, 100, 115]⟩ : ByteArray), (⟨#[97, 98, 105]⟩ : ByteArray), (-131072), 131071, (⟨#[98]⟩ : ByteArray), (⟨#[97]⟩ : ByteArray)⟩ : S76), (⟨(⟨#[115, 116, 115]⟩ : ByteArray), (⟨#[97, 98, 105]⟩ : ByteArray), (-131072), 131071, (⟨#[97, 98]⟩ : ByteArray), (⟨#[]⟩ : ByteArray)⟩ : S76), (⟨(⟨#[98, 101, 113, 122]⟩ : ByteArray), (⟨#[97, 105]⟩ : ByteArray), (-131072), 131071, (⟨#[97]⟩ : ByteArray), (⟨#[]⟩ : ByteArray)⟩ : S76), (⟨(⟨#[98, 110, 101, 122]⟩ : ByteArray), (⟨#[97, 105]⟩ : ByteArray), (-131072), 131071, (⟨#[97]⟩ : ByteArray), (⟨#[]⟩ : ByteArray)⟩ : S76), (⟨(⟨#[106, 109, 112]⟩ : ByteArray), (⟨#[105]⟩ : ByteArray), (-131072), 131071, (⟨#[]⟩ : ByteArray), (⟨#[]⟩ : ByteArray)⟩ : S76), (⟨(⟨#[98, 111, 117, 110, 100]⟩ : ByteArray), (⟨#[97, 105]⟩ : ByteArray), 1, 131071, (⟨#[97]⟩ : ByteArray), (⟨#[]⟩ : ByteArray)⟩ : S76), (⟨(⟨#[105, 110]⟩ : ByteArray), (⟨#[97, 105]⟩ : ByteArray), 0, 7, (⟨#[]⟩ : ByteArray), (⟨#[97]⟩ : ByteArray)⟩ : S76), (⟨(⟨#[111, 117, 116]⟩ : ByteArray), (⟨#[97, 105]⟩ : ByteArray), 0, 7, (⟨#[97]⟩ : ByteArray), (⟨#[]⟩ : ByteArray)⟩ : S76), (⟨(⟨#[108, 111, 99, 107]⟩ : ByteArray), (⟨#[105]⟩ : ByteArray), 0, 3, (⟨#[]⟩ : ByteArray), (⟨#[]⟩ : ByteArray)⟩ : S76), (⟨(⟨#[117, 110, 108, 111, 99, 107]⟩ : ByteArray), (⟨#[105]⟩ : ByteArray), 0, 3, (⟨#[]⟩ : ByteArray), (⟨#[]⟩ : ByteArray)⟩ : S76)] : List (S76)) : List (S76))).bind fun y111 => (if x1.length + y111.length < 1759218604441 then (some (x1 ++ y111)) else (none)))
def isa_rows.f (k : Nat)  : Option ((List (S76))) := (some (([(⟨#[97, 100, 100]⟩ : ByteArray), (⟨#[115, 117, 98]⟩ : ByteArray), (⟨#[109, 117, 108]⟩ : ByteArray), (⟨#[100, 105, 118]⟩ : ByteArray), (⟨#[109, 111, 100]⟩ : ByteArray), (⟨#[97, 110, 100]⟩ : ByteArray), (⟨#[111, 114]⟩ : ByteArray), (⟨#[120, 111, 114]⟩ : ByteArray), (⟨#[115, 104, 108]⟩ : ByteArray), (⟨#[115, 104, 114]⟩ : ByteArray), (⟨#[101, 113]⟩ : ByteArray), (⟨#[108, 116]⟩ : ByteArray)] : List ByteArray) : List ByteArray)).bind fun y104 => (isa_rows.l0 k (([(⟨(⟨#[110, 111, 112]⟩ : ByteArray), (⟨#[]⟩ : ByteArray), 0, 0, (⟨#[]⟩ : ByteArray), (⟨#[]⟩ : ByteArray)⟩ : S76), (⟨(⟨#[104, 97, 108, 116]⟩ : ByteArray), (⟨#[]⟩ : ByteArray), 0, 0, (⟨#[]⟩ : ByteArray), (⟨#[]⟩ : ByteArray)⟩ : S76)] : List (S76))) y104 (y104.length : Int) 0)
theorem isa_rows.mono_l : ∀ k, (∀ y0 y1 y2 y3, LeO (isa_rows.l0 k y0 y1 y2 y3) (isa_rows.l0 (k + 1) y0 y1 y2 y3))
 | 0 => fun _ _ _ _ r h => by simp [isa_rows.l0] at h
 | k + 1 => by
  have ih0 := isa_rows.mono_l k
  · intro y0 y1 y2 y3
    unfold isa_rows.l0
    repeat' first
    | (with_reducible exact ih0 _ _ _ _)
    | (with_reducible exact LeO.refl _)
    | (with_reducible exact LeO.none _)
    | (with_reducible refine LeO.ite ?_ ?_)
    | (with_reducible refine LeO.bind ?_ (fun _ => ?_))
    | exact ih0 _ _ _ _
    | exact LeO.none _
    | refine LeO.ite ?_ ?_
    | refine LeO.bind ?_ (fun _ => ?_)
theorem isa_rows.mono : ∀ k, LeO (isa_rows.f k ) (isa_rows.f (k + 1) ) := by
 intro  k
 have ih0 := isa_rows.mono_l k
 unfold isa_rows.f
 repeat' first
  | (with_reducible exact ih0 _ _ _ _)
  | (with_reducible exact LeO.refl _)
  | (with_reducible exact LeO.none _)
  | (with_reducible refine LeO.ite ?_ ?_)
  | (with_reducible refine LeO.bind ?_ (fun _ => ?_))
  | exact ih0 _ _ _ _
  | exact LeO.none _
  | refine LeO.ite ?_ ?_
  | refine LeO.bind ?_ (fun _ => ?_)
set_option maxHeartbeats 8000000 in
set_option maxRecDepth 100000 in
theorem isa_rows.calls (k : Nat)  (r : List (S76)) (w : World) (h : isa_rows.f k  = some r) :
 Calls Tryd.prog 57 #[] w fun e w' => ∃ v0_ : Value, e = .returned (v0_) ∧ Kd.R k76 76 w' w.heap.size (fun _ => True) v0_ r ∧ Below w.heap.size w w' := by
 have hu76 := Tryd.underlying76
 have HB := Aside0.mk (Below.refl w.heap.size w)
 have H : ((some (([(⟨#[97, 100, 100]⟩ : ByteArray), (⟨#[115, 117, 98]⟩ : ByteArray), (⟨#[109, 117, 108]⟩ : ByteArray), (⟨#[100, 105, 118]⟩ : ByteArray), (⟨#[109, 111, 100]⟩ : ByteArray), (⟨#[97, 110, 100]⟩ : ByteArray), (⟨#[111, 114]⟩ : ByteArray), (⟨#[120, 111, 114]⟩ : ByteArray), (⟨#[115, 104, 108]⟩ : ByteArray), (⟨#[115, 104, 114]⟩ : ByteArray), (⟨#[101, 113]⟩ : ByteArray), (⟨#[108, 116]⟩ : ByteArray)] : List ByteArray) : List ByteArray)).bind fun y104 => (isa_rows.l0 k (([(⟨(⟨#[110, 111, 112]⟩ : ByteArray), (⟨#[]⟩ : ByteArray), 0, 0, (⟨#[]⟩ : ByteArray), (⟨#[]⟩ : ByteArray)⟩ : S76), (⟨(⟨#[104, 97, 108, 116]⟩ : ByteArray), (⟨#[]⟩ : ByteArray), 0, 0, (⟨#[]⟩ : ByteArray), (⟨#[]⟩ : ByteArray)⟩ : S76)] : List (S76))) y104 (y104.length : Int) 0)) = some r := h
 clear h
 obtain ⟨y101, hy101⟩ : ∃ y_ : List (S76), y_ = (([(⟨(⟨#[110, 111, 112]⟩ : ByteArray), (⟨#[]⟩ : ByteArray), 0, 0, (⟨#[]⟩ : ByteArray), (⟨#[]⟩ : ByteArray)⟩ : S76), (⟨(⟨#[104, 97, 108, 116]⟩ : ByteArray), (⟨#[]⟩ : ByteArray), 0, 0, (⟨#[]⟩ : ByteArray), (⟨#[]⟩ : ByteArray)⟩ : S76)] : List (S76))) := ⟨_, rfl⟩
 replace H : ((some (([(⟨#[97, 100, 100]⟩ : ByteArray), (⟨#[115, 117, 98]⟩ : ByteArray), (⟨#[109, 117, 108]⟩ : ByteArray), (⟨#[100, 105, 118]⟩ : ByteArray), (⟨#[109, 111, 100]⟩ : ByteArray), (⟨#[97, 110, 100]⟩ : ByteArray), (⟨#[111, 114]⟩ : ByteArray), (⟨#[120, 111, 114]⟩ : ByteArray), (⟨#[115, 104, 108]⟩ : ByteArray), (⟨#[115, 104, 114]⟩ : ByteArray), (⟨#[101, 113]⟩ : ByteArray), (⟨#[108, 116]⟩ : ByteArray)] : List ByteArray) : List ByteArray)).bind fun y104 => (isa_rows.l0 k y101 y104 (y104.length : Int) 0)) = some r := by first | (rw [hy101]; with_reducible exact H) | (have H2_ := (Option.bind_some _ _).symm.trans H; rw [hy101]; with_reducible exact H2_) | (have H2_ := (Option.bind_some _ _).symm.trans H; with_reducible exact H2_) | with_reducible exact H | (rw [hy101]; exact H) | exact H
 have Ny101 := Aside0.mk hy101
 clear hy101
 obtain ⟨y104, hy104⟩ : ∃ y_ : List ByteArray, y_ = (([(⟨#[97, 100, 100]⟩ : ByteArray), (⟨#[115, 117, 98]⟩ : ByteArray), (⟨#[109, 117, 108]⟩ : ByteArray), (⟨#[100, 105, 118]⟩ : ByteArray), (⟨#[109, 111, 100]⟩ : ByteArray), (⟨#[97, 110, 100]⟩ : ByteArray), (⟨#[111, 114]⟩ : ByteArray), (⟨#[120, 111, 114]⟩ : ByteArray), (⟨#[115, 104, 108]⟩ : ByteArray), (⟨#[115, 104, 114]⟩ : ByteArray), (⟨#[101, 113]⟩ : ByteArray), (⟨#[108, 116]⟩ : ByteArray)] : List ByteArray)) := ⟨_, rfl⟩
 replace H : (isa_rows.l0 k y101 y104 (y104.length : Int) 0) = some r := by first | (rw [hy104]; with_reducible exact H) | (have H2_ := (Option.bind_some _ _).symm.trans H; rw [hy104]; with_reducible exact H2_) | (have H2_ := (Option.bind_some _ _).symm.trans H; with_reducible exact H2_) | with_reducible exact H | (rw [hy104]; exact H) | exact H
 have Ny104 := Aside0.mk hy104
 clear hy104
 have H' := Aside0.mk H
 clear H
 go_enter Tryd.func57, Tryd.ntmps57
 go_wp2_with (first | ((with_reducible refine gate_dst (N := 6) rfl ?_); refine Kd.R_lit k76 _ 76 ?hg (N := 6) ?hd (xs := ([(⟨(⟨#[110, 111, 112]⟩ : ByteArray), (⟨#[]⟩ : ByteArray), 0, 0, (⟨#[]⟩ : ByteArray), (⟨#[]⟩ : ByteArray)⟩ : S76), (⟨(⟨#[104, 97, 108, 116]⟩ : ByteArray), (⟨#[]⟩ : ByteArray), 0, 0, (⟨#[]⟩ : ByteArray), (⟨#[]⟩ : ByteArray)⟩ : S76)] : List (S76))) (inner := [.string (⟨#[110, 111, 112]⟩ : ByteArray), .string (⟨#[]⟩ : ByteArray), .int .i64 0, .int .i64 0, .string (⟨#[]⟩ : ByteArray), .string (⟨#[]⟩ : ByteArray), .string (⟨#[104, 97, 108, 116]⟩ : ByteArray), .string (⟨#[]⟩ : ByteArray), .int .i64 0, .int .i64 0, .string (⟨#[]⟩ : ByteArray), .string (⟨#[]⟩ : ByteArray)]) (ok := fun _ => True) (okp := fun _ => True) ?hr ?hp (fun _ hk => hk) trivial (Below.refl _ _) (Nat.le_refl _) (by simp) ?_; (case hd => rfl); (case hg => rfl); (case hr => first | (go_simp; done) | (go_simp; rfl)); (case hp => exact (Reps.c6 (show Kd.M k76 _ _ _ (⟨(⟨#[110, 111, 112]⟩ : ByteArray), (⟨#[]⟩ : ByteArray), 0, 0, (⟨#[]⟩ : ByteArray), (⟨#[]⟩ : ByteArray)⟩ : S76) [.string (⟨#[110, 111, 112]⟩ : ByteArray), .string (⟨#[]⟩ : ByteArray), .int .i64 0, .int .i64 0, .string (⟨#[]⟩ : ByteArray), .string (⟨#[]⟩ : ByteArray)] from (k76_mkM _ _ _ (⟨(⟨#[110, 111, 112]⟩ : ByteArray), (⟨#[]⟩ : ByteArray), 0, 0, (⟨#[]⟩ : ByteArray), (⟨#[]⟩ : ByteArray)⟩ : S76) )) (Reps.c6 (show Kd.M k76 _ _ _ (⟨(⟨#[104, 97, 108, 116]⟩ : ByteArray), (⟨#[]⟩ : ByteArray), 0, 0, (⟨#[]⟩ : ByteArray), (⟨#[]⟩ : ByteArray)⟩ : S76) [.string (⟨#[104, 97, 108, 116]⟩ : ByteArray), .string (⟨#[]⟩ : ByteArray), .int .i64 0, .int .i64 0, .string (⟨#[]⟩ : ByteArray), .string (⟨#[]⟩ : ByteArray)] from (k76_mkM _ _ _ (⟨(⟨#[104, 97, 108, 116]⟩ : ByteArray), (⟨#[]⟩ : ByteArray), 0, 0, (⟨#[]⟩ : ByteArray), (⟨#[]⟩ : ByteArray)⟩ : S76) )) (Reps.none _ _)))); intro v102 w1 ho2 hb hg_ hnew_; clear hg_ hnew_; (first | rw [← Ny101.out] at ho2 | (simp only [Int.reduceToNat] at ho2; rw [← Ny101.out] at ho2)); have n0_ := Aside0.mk (Kd.R_lower ho2 (below_size (by repeat (first | (with_reducible first | exact HB.out | apply below_alloc | apply pw_below_drewN | apply below_drew1) | exact HB.out)))); have n1_ := Aside0.mk (below_step (by repeat (first | (with_reducible first | exact HB.out | apply below_alloc | apply pw_below_drewN | apply below_drew1) | exact HB.out)) hb); clear HB; have HO103 := n0_; have HB := n1_; clear n0_ n1_; clear hb ho2) | ((with_reducible refine gate_dst (N := 7) rfl ?_); refine Kd.R_lit Kd.string _ 9 ?hg (N := 7) ?hd (xs := ([(⟨#[97, 100, 100]⟩ : ByteArray), (⟨#[115, 117, 98]⟩ : ByteArray), (⟨#[109, 117, 108]⟩ : ByteArray), (⟨#[100, 105, 118]⟩ : ByteArray), (⟨#[109, 111, 100]⟩ : ByteArray), (⟨#[97, 110, 100]⟩ : ByteArray), (⟨#[111, 114]⟩ : ByteArray), (⟨#[120, 111, 114]⟩ : ByteArray), (⟨#[115, 104, 108]⟩ : ByteArray), (⟨#[115, 104, 114]⟩ : ByteArray), (⟨#[101, 113]⟩ : ByteArray), (⟨#[108, 116]⟩ : ByteArray)] : List ByteArray)) (inner := [.string (⟨#[97, 100, 100]⟩ : ByteArray), .string (⟨#[115, 117, 98]⟩ : ByteArray), .string (⟨#[109, 117, 108]⟩ : ByteArray), .string (⟨#[100, 105, 118]⟩ : ByteArray), .string (⟨#[109, 111, 100]⟩ : ByteArray), .string (⟨#[97, 110, 100]⟩ : ByteArray), .string (⟨#[111, 114]⟩ : ByteArray), .string (⟨#[120, 111, 114]⟩ : ByteArray), .string (⟨#[115, 104, 108]⟩ : ByteArray), .string (⟨#[115, 104, 114]⟩ : ByteArray), .string (⟨#[101, 113]⟩ : ByteArray), .string (⟨#[108, 116]⟩ : ByteArray)]) (ok := fun _ => True) (okp := fun _ => True) ?hr ?hp (fun _ hk => hk) trivial (Below.refl _ _) (Nat.le_refl _) (by simp) ?_; (case hd => rfl); (case hg => rfl); (case hr => first | (go_simp; done) | (go_simp; rfl)); (case hp => exact (Reps.one (show Kd.M Kd.string _ _ _ (⟨#[97, 100, 100]⟩ : ByteArray) [.string (⟨#[97, 100, 100]⟩ : ByteArray)] from rfl) (Reps.one (show Kd.M Kd.string _ _ _ (⟨#[115, 117, 98]⟩ : ByteArray) [.string (⟨#[115, 117, 98]⟩ : ByteArray)] from rfl) (Reps.one (show Kd.M Kd.string _ _ _ (⟨#[109, 117, 108]⟩ : ByteArray) [.string (⟨#[109, 117, 108]⟩ : ByteArray)] from rfl) (Reps.one (show Kd.M Kd.string _ _ _ (⟨#[100, 105, 118]⟩ : ByteArray) [.string (⟨#[100, 105, 118]⟩ : ByteArray)] from rfl) (Reps.one (show Kd.M Kd.string _ _ _ (⟨#[109, 111, 100]⟩ : ByteArray) [.string (⟨#[109, 111, 100]⟩ : ByteArray)] from rfl) (Reps.one (show Kd.M Kd.string _ _ _ (⟨#[97, 110, 100]⟩ : ByteArray) [.string (⟨#[97, 110, 100]⟩ : ByteArray)] from rfl) (Reps.one (show Kd.M Kd.string _ _ _ (⟨#[111, 114]⟩ : ByteArray) [.string (⟨#[111, 114]⟩ : ByteArray)] from rfl) (Reps.one (show Kd.M Kd.string _ _ _ (⟨#[120, 111, 114]⟩ : ByteArray) [.string (⟨#[120, 111, 114]⟩ : ByteArray)] from rfl) (Reps.one (show Kd.M Kd.string _ _ _ (⟨#[115, 104, 108]⟩ : ByteArray) [.string (⟨#[115, 104, 108]⟩ : ByteArray)] from rfl) (Reps.one (show Kd.M Kd.string _ _ _ (⟨#[115, 104, 114]⟩ : ByteArray) [.string (⟨#[115, 104, 114]⟩ : ByteArray)] from rfl) (Reps.one (show Kd.M Kd.string _ _ _ (⟨#[101, 113]⟩ : ByteArray) [.string (⟨#[101, 113]⟩ : ByteArray)] from rfl) (Reps.one (show Kd.M Kd.string _ _ _ (⟨#[108, 116]⟩ : ByteArray) [.string (⟨#[108, 116]⟩ : ByteArray)] from rfl) (Reps.none _ _)))))))))))))); intro v105 w3 ho4 hb hg_ hnew_; clear hg_ hnew_; (first | rw [← Ny104.out] at ho4 | (simp only [Int.reduceToNat] at ho4; rw [← Ny104.out] at ho4)); have n0_ := Aside0.mk (Kd.R_below (by (with_reducible repeat (first | apply Kd.R_alloc | apply Kd.R_drewN | apply Kd.R_drew)); exact HO103.out) hb); have n1_ := Aside0.mk (Kd.R_lower ho4 (below_size (by repeat (first | (with_reducible first | exact HB.out | apply below_alloc | apply pw_below_drewN | apply below_drew1) | exact HB.out)))); have n2_ := Aside0.mk (below_step (by repeat (first | (with_reducible first | exact HB.out | apply below_alloc | apply pw_below_drewN | apply below_drew1) | exact HB.out)) hb); clear HO103; clear HB; have HO103 := n0_; have HO106 := n1_; have HB := n2_; clear n0_ n1_ n2_; clear hb ho4; obtain ⟨Ao5, co5, eo5⟩ := Kd.R_slice HO106.out; subst eo5))
 go_loopg [1, 9] k (fun kq v1 v9 w' => ∃ (x1_1 : List (S76)) (x9_1 : Int), v9 = .int .i64 x9_1 ∧ Aside0 (isa_rows.l0 kq x1_1 y104 (y104.length : Int) x9_1 = some r) ∧ Aside0 (kq ≤ k) ∧ Aside0 (Kd.R k76 76 w' w.heap.size (fun _ => True) v1 x1_1) ∧ Aside0 (Kd.R Kd.string 9 w' w.heap.size (fun _ => True) (.slice Ao5 y104.length co5) y104) ∧ Aside0 (Below w.heap.size w w'))
 case atStart => exact ⟨(y101), (0), (by first | rfl | (simp; done) | (simp [*]; done)), H', ⟨Nat.le_refl _⟩, ⟨by (with_reducible repeat (first | apply Kd.R_alloc | apply Kd.R_drewN | apply Kd.R_drew)); exact HO103.out⟩, ⟨by (with_reducible repeat (first | apply Kd.R_alloc | apply Kd.R_drewN | apply Kd.R_drew)); exact HO106.out⟩, ⟨by repeat (first | (with_reducible first | exact HB.out | apply below_alloc | apply pw_below_drewN | apply below_drew1) | exact HB.out)⟩⟩
 case round =>
  clear H'
  try clear p2
  try clear c5
  obtain ⟨x1_1, x9_1, rfl, HA, HK1, HO_1, HO_7, HB⟩ := hrel
  cases gk with
  | zero => exact absurd HA.out (by simp [isa_rows.l0])
  | succ k1 =>
   have H := HA.out
   clear HA
   simp only [isa_rows.l0] at H
   by_cases c6 : x9_1 < (y104.length : Int)
   · rw [if_pos c6] at H
     have c6b0 : decide (x9_1 < (y104.length : Int)) = true := decide_eq_true c6
     clear c6
     by_cases c7 : 0 ≤ x9_1
     · rw [if_pos c7] at H
       have c7b0 : decide (0 ≤ x9_1) = true := decide_eq_true c7
       clear c7
       by_cases c8 : x9_1 < (y104.length : Int)
       · rw [if_pos c8] at H
         have c8b0 : decide (x9_1 < (y104.length : Int)) = true := decide_eq_true c8
         clear c8
         by_cases c9 : x1_1.length < 1759218604441
         · rw [if_pos c9] at H
           have LMc9 := Aside0.mk c9
           clear c9
           obtain ⟨y108, hy108⟩ : ∃ y_ : List (S76), y_ = (x1_1 ++ [(⟨rdOf ByteArray.empty y104 x9_1, (⟨#[97, 98, 99]⟩ : ByteArray), 0, 0, (⟨#[98, 99]⟩ : ByteArray), (⟨#[97]⟩ : ByteArray)⟩ : S76)]) := ⟨_, rfl⟩
           replace H : (isa_rows.l0 k1 y108 y104 (y104.length : Int) (wrap64 (x9_1 + 1))) = some r := by first | (rw [hy108]; with_reducible exact H) | (have H2_ := (Option.bind_some _ _).symm.trans H; rw [hy108]; with_reducible exact H2_) | (have H2_ := (Option.bind_some _ _).symm.trans H; with_reducible exact H2_) | with_reducible exact H | (rw [hy108]; exact H) | exact H
           have Ny108 := Aside0.mk hy108
           clear hy108
           have H' := Aside0.mk H
           clear H
           have p107 : 0 ≤ (x9_1 : Int) := of_decide_eq_true (by first | (with_reducible assumption) | assumption)
           have q107 : x9_1 < (y104.length : Int) := of_decide_eq_true (by first | (with_reducible assumption) | assumption)
           obtain ⟨ad107, e107, hx107_0⟩ := Kd.at_string (Kd.R_reads' HO_7.out).2.2 x9_1 p107 q107
           cases e107
           replace p107 := eq_true p107
           replace q107 := eq_true q107
           go_wp2_with (first | ((with_reducible refine gate_builtin (b := .append) (xs := #[.tmp 13, .tmp 16]) rfl ?_); at_builtin; refine Kd.R_append k76 (w0 := w) w.heap.size rfl (.tmp 13) (.tmp 16) 99 76 (.agg #[(.string ⟨#[]⟩), (.string ⟨#[]⟩), (.int .i64 0), (.int .i64 0), (.string ⟨#[]⟩), (.string ⟨#[]⟩)]) 80 rfl Tryd.underlying99 info76 rfl (by decide) (by omega) u1 x1_1 (⟨rdOf ByteArray.empty y104 x9_1, (⟨#[97, 98, 99]⟩ : ByteArray), 0, 0, (⟨#[98, 99]⟩ : ByteArray), (⟨#[97]⟩ : ByteArray)⟩ : S76) [.string (rdOf ByteArray.empty y104 x9_1), .string (⟨#[97, 98, 99]⟩ : ByteArray), .int .i64 0, .int .i64 0, .string (⟨#[98, 99]⟩ : ByteArray), .string (⟨#[97]⟩ : ByteArray)] (fun _ => True) (fun _ => False) rfl rfl ?aP (fun _ hk => hk.elim) ?aF ?aO ?aB ?aS ?aL ?_; (case aP => exact k76_mkM _ _ _ (⟨rdOf ByteArray.empty y104 x9_1, (⟨#[97, 98, 99]⟩ : ByteArray), 0, 0, (⟨#[98, 99]⟩ : ByteArray), (⟨#[97]⟩ : ByteArray)⟩ : S76)); (case aB => exact (by repeat (first | (with_reducible first | exact HB.out | apply below_alloc | apply pw_below_drewN | apply below_drew1) | exact HB.out))); (case aF => exact (fun _ _ => trivial)); (case aO => exact (by (with_reducible repeat (first | apply Kd.R_alloc | apply Kd.R_drewN | apply Kd.R_drew)); exact HO_1.out)); (case aS => exact (below_size (by repeat (first | (with_reducible first | exact HB.out | apply below_alloc | apply pw_below_drewN | apply below_drew1) | exact HB.out)))); (case aL => have := LMc9.out; omega); intro v109 w10 ho hb hg hat; rw [← Ny108.out] at ho; have n0_ := Aside0.mk (Kd.R_over' (by (with_reducible repeat (first | apply Kd.R_alloc | apply Kd.R_drewN | apply Kd.R_drew)); exact HO_7.out) (Kd.R_typed (by (with_reducible repeat (first | apply Kd.R_alloc | apply Kd.R_drewN | apply Kd.R_drew)); exact HO_1.out)) (by decide) hg); have n1_ := Aside0.mk (hb); have n2_ := Aside0.mk (ho); clear HO_7; clear HB; clear HO_1; have HO_7 := n0_; have HB := n1_; have HO110 := n2_; clear n0_ n1_ n2_; clear ho hb hg hat))
           go_roundg k1
           case measure => have := HK1.out; omega
           case rel => exact ⟨(y108), (wrap64 (x9_1 + 1)), (by first | rfl | (simp; done) | (simp [*]; done)), H', ⟨by have := HK1.out; omega⟩, ⟨by (with_reducible repeat (first | apply Kd.R_alloc | apply Kd.R_drewN | apply Kd.R_drew)); exact HO110.out⟩, ⟨by (with_reducible repeat (first | apply Kd.R_alloc | apply Kd.R_drewN | apply Kd.R_drew)); exact HO_7.out⟩, ⟨by repeat (first | (with_reducible first | exact HB.out | apply below_alloc | apply pw_below_drewN | apply below_drew1) | exact HB.out)⟩⟩
         · rw [if_neg c9] at H
           exact absurd H (by simp)
       · rw [if_neg c8] at H
         exact absurd H (by simp)
     · rw [if_neg c7] at H
       exact absurd H (by simp)
   · rw [if_neg c6] at H
     have c6b0 : decide (x9_1 < (y104.length : Int)) = false := decide_eq_false c6
     clear c6
     obtain ⟨y111, hy111⟩ : ∃ y_ : List (S76), y_ = (([(⟨(⟨#[108, 105]⟩ : ByteArray), (⟨#[97, 105]⟩ : ByteArray), (-131072), 131071, (⟨#[]⟩ : ByteArray), (⟨#[97]⟩ : ByteArray)⟩ : S76), (⟨(⟨#[97, 100, 100, 105]⟩ : ByteArray), (⟨#[97, 98, 105]⟩ : ByteArray), (-131072), 131071, (⟨#[98]⟩ : ByteArray), (⟨#[97]⟩ : ByteArray)⟩ : S76), (⟨(⟨#[115, 104, 108, 105]⟩ : ByteArray), (⟨#[97, 98, 105]⟩ : ByteArray), 0, 31, (⟨#[98]⟩ : ByteArray), (⟨#[97]⟩ : ByteArray)⟩ : S76), (⟨(⟨#[111, 114, 105]⟩ : ByteArray), (⟨#[97, 98, 105]⟩ : ByteArray), 0, 16383, (⟨#[98]⟩ : ByteArray), (⟨#[97]⟩ : ByteArray)⟩ : S76), (⟨(⟨#[108, 100]⟩ : ByteArray), (⟨#[97, 98, 105]⟩ : ByteArray), (-131072), 131071, (⟨#[98]⟩ : ByteArray), (⟨#[97]⟩ : ByteArray)⟩ : S76), (⟨(⟨#[115, 116]⟩ : ByteArray), (⟨#[97, 98, 105]⟩ : ByteArray), (-131072), 131071, (⟨#[97, 98]⟩ : ByteArray), (⟨#[]⟩ : ByteArray)⟩ : S76), (⟨(⟨#[108, 100, 115]⟩ : ByteArray), (⟨#[97, 98, 105]⟩ : ByteArray), (-131072), 131071, (⟨#[98]⟩ : ByteArray), (⟨#[97]⟩ : ByteArray)⟩ : S76), (⟨(⟨#[115, 116, 115]⟩ : ByteArray), (⟨#[97, 98, 105]⟩ : ByteArray), (-131072), 131071, (⟨#[97, 98]⟩ : ByteArray), (⟨#[]⟩ : ByteArray)⟩ : S76), (⟨(⟨#[98, 101, 113, 122]⟩ : ByteArray), (⟨#[97, 105]⟩ : ByteArray), (-131072), 131071, (⟨#[97]⟩ : ByteArray), (⟨#[]⟩ : ByteArray)⟩ : S76), (⟨(⟨#[98, 110, 101, 122]⟩ : ByteArray), (⟨#[97, 105]⟩ : ByteArray), (-131072), 131071, (⟨#[97]⟩ : ByteArray), (⟨#[]⟩ : ByteArray)⟩ : S76), (⟨(⟨#[106, 109, 112]⟩ : ByteArray), (⟨#[105]⟩ : ByteArray), (-131072), 131071, (⟨#[]⟩ : ByteArray), (⟨#[]⟩ : ByteArray)⟩ : S76), (⟨(⟨#[98, 111, 117, 110, 100]⟩ : ByteArray), (⟨#[97, 105]⟩ : ByteArray), 1, 131071, (⟨#[97]⟩ : ByteArray), (⟨#[]⟩ : ByteArray)⟩ : S76), (⟨(⟨#[105, 110]⟩ : ByteArray), (⟨#[97, 105]⟩ : ByteArray), 0, 7, (⟨#[]⟩ : ByteArray), (⟨#[97]⟩ : ByteArray)⟩ : S76), (⟨(⟨#[111, 117, 116]⟩ : ByteArray), (⟨#[97, 105]⟩ : ByteArray), 0, 7, (⟨#[97]⟩ : ByteArray), (⟨#[]⟩ : ByteArray)⟩ : S76), (⟨(⟨#[108, 111, 99, 107]⟩ : ByteArray), (⟨#[105]⟩ : ByteArray), 0, 3, (⟨#[]⟩ : ByteArray), (⟨#[]⟩ : ByteArray)⟩ : S76), (⟨(⟨#[117, 110, 108, 111, 99, 107]⟩ : ByteArray), (⟨#[105]⟩ : ByteArray), 0, 3, (⟨#[]⟩ : ByteArray), (⟨#[]⟩ : ByteArray)⟩ : S76)] : List (S76))) := ⟨_, rfl⟩
     replace H : (if x1_1.length + y111.length < 1759218604441 then (some (x1_1 ++ y111)) else (none)) = some r := by first | (rw [hy111]; with_reducible exact H) | (have H2_ := (Option.bind_some _ _).symm.trans H; rw [hy111]; with_reducible exact H2_) | (have H2_ := (Option.bind_some _ _).symm.trans H; with_reducible exact H2_) | with_reducible exact H | (rw [hy111]; exact H) | exact H
     have Ny111 := Aside0.mk hy111
     clear hy111
     by_cases c11 : x1_1.length + y111.length < 1759218604441
     · rw [if_pos c11] at H
       have LMc11 := Aside0.mk c11
       clear c11
       obtain ⟨y114, hy114⟩ : ∃ y_ : List (S76), y_ = (x1_1 ++ y111) := ⟨_, rfl⟩
       replace H : (some y114) = some r := by first | (rw [hy114]; with_reducible exact H) | (have H2_ := (Option.bind_some _ _).symm.trans H; rw [hy114]; with_reducible exact H2_) | (have H2_ := (Option.bind_some _ _).symm.trans H; with_reducible exact H2_) | with_reducible exact H | (rw [hy114]; exact H) | exact H
       have Ny114 := Aside0.mk hy114
       clear hy114
       obtain rfl := Option.some.inj H
       go_wp2_with (first | ((with_reducible refine gate_dst (N := 36) rfl ?_); refine Kd.R_lit k76 _ 76 ?hg (N := 36) ?hd (xs := ([(⟨(⟨#[108, 105]⟩ : ByteArray), (⟨#[97, 105]⟩ : ByteArray), (-131072), 131071, (⟨#[]⟩ : ByteArray), (⟨#[97]⟩ : ByteArray)⟩ : S76), (⟨(⟨#[97, 100, 100, 105]⟩ : ByteArray), (⟨#[97, 98, 105]⟩ : ByteArray), (-131072), 131071, (⟨#[98]⟩ : ByteArray), (⟨#[97]⟩ : ByteArray)⟩ : S76), (⟨(⟨#[115, 104, 108, 105]⟩ : ByteArray), (⟨#[97, 98, 105]⟩ : ByteArray), 0, 31, (⟨#[98]⟩ : ByteArray), (⟨#[97]⟩ : ByteArray)⟩ : S76), (⟨(⟨#[111, 114, 105]⟩ : ByteArray), (⟨#[97, 98, 105]⟩ : ByteArray), 0, 16383, (⟨#[98]⟩ : ByteArray), (⟨#[97]⟩ : ByteArray)⟩ : S76), (⟨(⟨#[108, 100]⟩ : ByteArray), (⟨#[97, 98, 105]⟩ : ByteArray), (-131072), 131071, (⟨#[98]⟩ : ByteArray), (⟨#[97]⟩ : ByteArray)⟩ : S76), (⟨(⟨#[115, 116]⟩ : ByteArray), (⟨#[97, 98, 105]⟩ : ByteArray), (-131072), 131071, (⟨#[97, 98]⟩ : ByteArray), (⟨#[]⟩ : ByteArray)⟩ : S76), (⟨(⟨#[108, 100, 115]⟩ : ByteArray), (⟨#[97, 98, 105]⟩ : ByteArray), (-131072), 131071, (⟨#[98]⟩ : ByteArray), (⟨#[97]⟩ : ByteArray)⟩ : S76), (⟨(⟨#[115, 116, 115]⟩ : ByteArray), (⟨#[97, 98, 105]⟩ : ByteArray), (-131072), 131071, (⟨#[97, 98]⟩ : ByteArray), (⟨#[]⟩ : ByteArray)⟩ : S76), (⟨(⟨#[98, 101, 113, 122]⟩ : ByteArray), (⟨#[97, 105]⟩ : ByteArray), (-131072), 131071, (⟨#[97]⟩ : ByteArray), (⟨#[]⟩ : ByteArray)⟩ : S76), (⟨(⟨#[98, 110, 101, 122]⟩ : ByteArray), (⟨#[97, 105]⟩ : ByteArray), (-131072), 131071, (⟨#[97]⟩ : ByteArray), (⟨#[]⟩ : ByteArray)⟩ : S76), (⟨(⟨#[106, 109, 112]⟩ : ByteArray), (⟨#[105]⟩ : ByteArray), (-131072), 131071, (⟨#[]⟩ : ByteArray), (⟨#[]⟩ : ByteArray)⟩ : S76), (⟨(⟨#[98, 111, 117, 110, 100]⟩ : ByteArray), (⟨#[97, 105]⟩ : ByteArray), 1, 131071, (⟨#[97]⟩ : ByteArray), (⟨#[]⟩ : ByteArray)⟩ : S76), (⟨(⟨#[105, 110]⟩ : ByteArray), (⟨#[97, 105]⟩ : ByteArray), 0, 7, (⟨#[]⟩ : ByteArray), (⟨#[97]⟩ : ByteArray)⟩ : S76), (⟨(⟨#[111, 117, 116]⟩ : ByteArray), (⟨#[97, 105]⟩ : ByteArray), 0, 7, (⟨#[97]⟩ : ByteArray), (⟨#[]⟩ : ByteArray)⟩ : S76), (⟨(⟨#[108, 111, 99, 107]⟩ : ByteArray), (⟨#[105]⟩ : ByteArray), 0, 3, (⟨#[]⟩ : ByteArray), (⟨#[]⟩ : ByteArray)⟩ : S76), (⟨(⟨#[117, 110, 108, 111, 99, 107]⟩ : ByteArray), (⟨#[105]⟩ : ByteArray), 0, 3, (⟨#[]⟩ : ByteArray), (⟨#[]⟩ : ByteArray)⟩ : S76)] : List (S76))) (inner := [.string (⟨#[108, 105]⟩ : ByteArray), .string (⟨#[97, 105]⟩ : ByteArray), .int .i64 (-131072), .int .i64 131071, .string (⟨#[]⟩ : ByteArray), .string (⟨#[97]⟩ : ByteArray), .string (⟨#[97, 100, 100, 105]⟩ : ByteArray), .string (⟨#[97, 98, 105]⟩ : ByteArray), .int .i64 (-131072), .int .i64 131071, .string (⟨#[98]⟩ : ByteArray), .string (⟨#[97]⟩ : ByteArray), .string (⟨#[115, 104, 108, 105]⟩ : ByteArray), .string (⟨#[97, 98, 105]⟩ : ByteArray), .int .i64 0, .int .i64 31, .string (⟨#[98]⟩ : ByteArray), .string (⟨#[97]⟩ : ByteArray), .string (⟨#[111, 114, 105]⟩ : ByteArray), .string (⟨#[97, 98, 105]⟩ : ByteArray), .int .i64 0, .int .i64 16383, .string (⟨#[98]⟩ : ByteArray), .string (⟨#[97]⟩ : ByteArray), .string (⟨#[108, 100]⟩ : ByteArray), .string (⟨#[97, 98, 105]⟩ : ByteArray), .int .i64 (-131072), .int .i64 131071, .string (⟨#[98]⟩ : ByteArray), .string (⟨#[97]⟩ : ByteArray), .string (⟨#[115, 116]⟩ : ByteArray), .string (⟨#[97, 98, 105]⟩ : ByteArray), .int .i64 (-131072), .int .i64 131071, .string (⟨#[97, 98]⟩ : ByteArray), .string (⟨#[]⟩ : ByteArray), .string (⟨#[108, 100, 115]⟩ : ByteArray), .string (⟨#[97, 98, 105]⟩ : ByteArray), .int .i64 (-131072), .int .i64 131071, .string (⟨#[98]⟩ : ByteArray), .string (⟨#[97]⟩ : ByteArray), .string (⟨#[115, 116, 115]⟩ : ByteArray), .string (⟨#[97, 98, 105]⟩ : ByteArray), .int .i64 (-131072), .int .i64 131071, .string (⟨#[97, 98]⟩ : ByteArray), .string (⟨#[]⟩ : ByteArray), .string (⟨#[98, 101, 113, 122]⟩ : ByteArray), .string (⟨#[97, 105]⟩ : ByteArray), .int .i64 (-131072), .int .i64 131071, .string (⟨#[97]⟩ : ByteArray), .string (⟨#[]⟩ : ByteArray), .string (⟨#[98, 110, 101, 122]⟩ : ByteArray), .string (⟨#[97, 105]⟩ : ByteArray), .int .i64 (-131072), .int .i64 131071, .string (⟨#[97]⟩ : ByteArray), .string (⟨#[]⟩ : ByteArray), .string (⟨#[106, 109, 112]⟩ : ByteArray), .string (⟨#[105]⟩ : ByteArray), .int .i64 (-131072), .int .i64 131071, .string (⟨#[]⟩ : ByteArray), .string (⟨#[]⟩ : ByteArray), .string (⟨#[98, 111, 117, 110, 100]⟩ : ByteArray), .string (⟨#[97, 105]⟩ : ByteArray), .int .i64 1, .int .i64 131071, .string (⟨#[97]⟩ : ByteArray), .string (⟨#[]⟩ : ByteArray), .string (⟨#[105, 110]⟩ : ByteArray), .string (⟨#[97, 105]⟩ : ByteArray), .int .i64 0, .int .i64 7, .string (⟨#[]⟩ : ByteArray), .string (⟨#[97]⟩ : ByteArray), .string (⟨#[111, 117, 116]⟩ : ByteArray), .string (⟨#[97, 105]⟩ : ByteArray), .int .i64 0, .int .i64 7, .string (⟨#[97]⟩ : ByteArray), .string (⟨#[]⟩ : ByteArray), .string (⟨#[108, 111, 99, 107]⟩ : ByteArray), .string (⟨#[105]⟩ : ByteArray), .int .i64 0, .int .i64 3, .string (⟨#[]⟩ : ByteArray), .string (⟨#[]⟩ : ByteArray), .string (⟨#[117, 110, 108, 111, 99, 107]⟩ : ByteArray), .string (⟨#[105]⟩ : ByteArray), .int .i64 0, .int .i64 3, .string (⟨#[]⟩ : ByteArray), .string (⟨#[]⟩ : ByteArray)]) (ok := fun _ => True) (okp := fun _ => True) ?hr ?hp (fun _ hk => hk) trivial (Below.refl _ _) (Nat.le_refl _) (by simp) ?_; (case hd => rfl); (case hg => rfl); (case hr => first | (go_simp; done) | (go_simp; rfl)); (case hp => exact (Reps.c6 (show Kd.M k76 _ _ _ (⟨(⟨#[108, 105]⟩ : ByteArray), (⟨#[97, 105]⟩ : ByteArray), (-131072), 131071, (⟨#[]⟩ : ByteArray), (⟨#[97]⟩ : ByteArray)⟩ : S76) [.string (⟨#[108, 105]⟩ : ByteArray), .string (⟨#[97, 105]⟩ : ByteArray), .int .i64 (-131072), .int .i64 131071, .string (⟨#[]⟩ : ByteArray), .string (⟨#[97]⟩ : ByteArray)] from (k76_mkM _ _ _ (⟨(⟨#[108, 105]⟩ : ByteArray), (⟨#[97, 105]⟩ : ByteArray), (-131072), 131071, (⟨#[]⟩ : ByteArray), (⟨#[97]⟩ : ByteArray)⟩ : S76) )) (Reps.c6 (show Kd.M k76 _ _ _ (⟨(⟨#[97, 100, 100, 105]⟩ : ByteArray), (⟨#[97, 98, 105]⟩ : ByteArray), (-131072), 131071, (⟨#[98]⟩ : ByteArray), (⟨#[97]⟩ : ByteArray)⟩ : S76) [.string (⟨#[97, 100, 100, 105]⟩ : ByteArray), .string (⟨#[97, 98, 105]⟩ : ByteArray), .int .i64 (-131072), .int .i64 131071, .string (⟨#[98]⟩ : ByteArray), .string (⟨#[97]⟩ : ByteArray)] from (k76_mkM _ _ _ (⟨(⟨#[97, 100, 100, 105]⟩ : ByteArray), (⟨#[97, 98, 105]⟩ : ByteArray), (-131072), 131071, (⟨#[98]⟩ : ByteArray), (⟨#[97]⟩ : ByteArray)⟩ : S76) )) (Reps.c6 (show Kd.M k76 _ _ _ (⟨(⟨#[115, 104, 108, 105]⟩ : ByteArray), (⟨#[97, 98, 105]⟩ : ByteArray), 0, 31, (⟨#[98]⟩ : ByteArray), (⟨#[97]⟩ : ByteArray)⟩ : S76) [.string (⟨#[115, 104, 108, 105]⟩ : ByteArray), .string (⟨#[97, 98, 105]⟩ : ByteArray), .int .i64 0, .int .i64 31, .string (⟨#[98]⟩ : ByteArray), .string (⟨#[97]⟩ : ByteArray)] from (k76_mkM _ _ _ (⟨(⟨#[115, 104, 108, 105]⟩ : ByteArray), (⟨#[97, 98, 105]⟩ : ByteArray), 0, 31, (⟨#[98]⟩ : ByteArray), (⟨#[97]⟩ : ByteArray)⟩ : S76) )) (Reps.c6 (show Kd.M k76 _ _ _ (⟨(⟨#[111, 114, 105]⟩ : ByteArray), (⟨#[97, 98, 105]⟩ : ByteArray), 0, 16383, (⟨#[98]⟩ : ByteArray), (⟨#[97]⟩ : ByteArray)⟩ : S76) [.string (⟨#[111, 114, 105]⟩ : ByteArray), .string (⟨#[97, 98, 105]⟩ : ByteArray), .int .i64 0, .int .i64 16383, .string (⟨#[98]⟩ : ByteArray), .string (⟨#[97]⟩ : ByteArray)] from (k76_mkM _ _ _ (⟨(⟨#[111, 114, 105]⟩ : ByteArray), (⟨#[97, 98, 105]⟩ : ByteArray), 0, 16383, (⟨#[98]⟩ : ByteArray), (⟨#[97]⟩ : ByteArray)⟩ : S76) )) (Reps.c6 (show Kd.M k76 _ _ _ (⟨(⟨#[108, 100]⟩ : ByteArray), (⟨#[97, 98, 105]⟩ : ByteArray), (-131072), 131071, (⟨#[98]⟩ : ByteArray), (⟨#[97]⟩ : ByteArray)⟩ : S76) [.string (⟨#[108, 100]⟩ : ByteArray), .string (⟨#[97, 98, 105]⟩ : ByteArray), .int .i64 (-131072), .int .i64 131071, .string (⟨#[98]⟩ : ByteArray), .string (⟨#[97]⟩ : ByteArray)] from (k76_mkM _ _ _ (⟨(⟨#[108, 100]⟩ : ByteArray), (⟨#[97, 98, 105]⟩ : ByteArray), (-131072), 131071, (⟨#[98]⟩ : ByteArray), (⟨#[97]⟩ : ByteArray)⟩ : S76) )) (Reps.c6 (show Kd.M k76 _ _ _ (⟨(⟨#[115, 116]⟩ : ByteArray), (⟨#[97, 98, 105]⟩ : ByteArray), (-131072), 131071, (⟨#[97, 98]⟩ : ByteArray), (⟨#[]⟩ : ByteArray)⟩ : S76) [.string (⟨#[115, 116]⟩ : ByteArray), .string (⟨#[97, 98, 105]⟩ : ByteArray), .int .i64 (-131072), .int .i64 131071, .string (⟨#[97, 98]⟩ : ByteArray), .string (⟨#[]⟩ : ByteArray)] from (k76_mkM _ _ _ (⟨(⟨#[115, 116]⟩ : ByteArray), (⟨#[97, 98, 105]⟩ : ByteArray), (-131072), 131071, (⟨#[97, 98]⟩ : ByteArray), (⟨#[]⟩ : ByteArray)⟩ : S76) )) (Reps.c6 (show Kd.M k76 _ _ _ (⟨(⟨#[108, 100, 115]⟩ : ByteArray), (⟨#[97, 98, 105]⟩ : ByteArray), (-131072), 131071, (⟨#[98]⟩ : ByteArray), (⟨#[97]⟩ : ByteArray)⟩ : S76) [.string (⟨#[108, 100, 115]⟩ : ByteArray), .string (⟨#[97, 98, 105]⟩ : ByteArray), .int .i64 (-131072), .int .i64 131071, .string (⟨#[98]⟩ : ByteArray), .string (⟨#[97]⟩ : ByteArray)] from (k76_mkM _ _ _ (⟨(⟨#[108, 100, 115]⟩ : ByteArray), (⟨#[97, 98, 105]⟩ : ByteArray), (-131072), 131071, (⟨#[98]⟩ : ByteArray), (⟨#[97]⟩ : ByteArray)⟩ : S76) )) (Reps.c6 (show Kd.M k76 _ _ _ (⟨(⟨#[115, 116, 115]⟩ : ByteArray), (⟨#[97, 98, 105]⟩ : ByteArray), (-131072), 131071, (⟨#[97, 98]⟩ : ByteArray), (⟨#[]⟩ : ByteArray)⟩ : S76) [.string (⟨#[115, 116, 115]⟩ : ByteArray), .string (⟨#[97, 98, 105]⟩ : ByteArray), .int .i64 (-131072), .int .i64 131071, .string (⟨#[97, 98]⟩ : ByteArray), .string (⟨#[]⟩ : ByteArray)] from (k76_mkM _ _ _ (⟨(⟨#[115, 116, 115]⟩ : ByteArray), (⟨#[97, 98, 105]⟩ : ByteArray), (-131072), 131071, (⟨#[97, 98]⟩ : ByteArray), (⟨#[]⟩ : ByteArray)⟩ : S76) )) (Reps.c6 (show Kd.M k76 _ _ _ (⟨(⟨#[98, 101, 113, 122]⟩ : ByteArray), (⟨#[97, 105]⟩ : ByteArray), (-131072), 131071, (⟨#[97]⟩ : ByteArray), (⟨#[]⟩ : ByteArray)⟩ : S76) [.string (⟨#[98, 101, 113, 122]⟩ : ByteArray), .string (⟨#[97, 105]⟩ : ByteArray), .int .i64 (-131072), .int .i64 131071, .string (⟨#[97]⟩ : ByteArray), .string (⟨#[]⟩ : ByteArray)] from (k76_mkM _ _ _ (⟨(⟨#[98, 101, 113, 122]⟩ : ByteArray), (⟨#[97, 105]⟩ : ByteArray), (-131072), 131071, (⟨#[97]⟩ : ByteArray), (⟨#[]⟩ : ByteArray)⟩ : S76) )) (Reps.c6 (show Kd.M k76 _ _ _ (⟨(⟨#[98, 110, 101, 122]⟩ : ByteArray), (⟨#[97, 105]⟩ : ByteArray), (-131072), 131071, (⟨#[97]⟩ : ByteArray), (⟨#[]⟩ : ByteArray)⟩ : S76) [.string (⟨#[98, 110, 101, 122]⟩ : ByteArray), .string (⟨#[97, 105]⟩ : ByteArray), .int .i64 (-131072), .int .i64 131071, .string (⟨#[97]⟩ : ByteArray), .string (⟨#[]⟩ : ByteArray)] from (k76_mkM _ _ _ (⟨(⟨#[98, 110, 101, 122]⟩ : ByteArray), (⟨#[97, 105]⟩ : ByteArray), (-131072), 131071, (⟨#[97]⟩ : ByteArray), (⟨#[]⟩ : ByteArray)⟩ : S76) )) (Reps.c6 (show Kd.M k76 _ _ _ (⟨(⟨#[106, 109, 112]⟩ : ByteArray), (⟨#[105]⟩ : ByteArray), (-131072), 131071, (⟨#[]⟩ : ByteArray), (⟨#[]⟩ : ByteArray)⟩ : S76) [.string (⟨#[106, 109, 112]⟩ : ByteArray), .string (⟨#[105]⟩ : ByteArray), .int .i64 (-131072), .int .i64 131071, .string (⟨#[]⟩ : ByteArray), .string (⟨#[]⟩ : ByteArray)] from (k76_mkM _ _ _ (⟨(⟨#[106, 109, 112]⟩ : ByteArray), (⟨#[105]⟩ : ByteArray), (-131072), 131071, (⟨#[]⟩ : ByteArray), (⟨#[]⟩ : ByteArray)⟩ : S76) )) (Reps.c6 (show Kd.M k76 _ _ _ (⟨(⟨#[98, 111, 117, 110, 100]⟩ : ByteArray), (⟨#[97, 105]⟩ : ByteArray), 1, 131071, (⟨#[97]⟩ : ByteArray), (⟨#[]⟩ : ByteArray)⟩ : S76) [.string (⟨#[98, 111, 117, 110, 100]⟩ : ByteArray), .string (⟨#[97, 105]⟩ : ByteArray), .int .i64 1, .int .i64 131071, .string (⟨#[97]⟩ : ByteArray), .string (⟨#[]⟩ : ByteArray)] from (k76_mkM _ _ _ (⟨(⟨#[98, 111, 117, 110, 100]⟩ : ByteArray), (⟨#[97, 105]⟩ : ByteArray), 1, 131071, (⟨#[97]⟩ : ByteArray), (⟨#[]⟩ : ByteArray)⟩ : S76) )) (Reps.c6 (show Kd.M k76 _ _ _ (⟨(⟨#[105, 110]⟩ : ByteArray), (⟨#[97, 105]⟩ : ByteArray), 0, 7, (⟨#[]⟩ : ByteArray), (⟨#[97]⟩ : ByteArray)⟩ : S76) [.string (⟨#[105, 110]⟩ : ByteArray), .string (⟨#[97, 105]⟩ : ByteArray), .int .i64 0, .int .i64 7, .string (⟨#[]⟩ : ByteArray), .string (⟨#[97]⟩ : ByteArray)] from (k76_mkM _ _ _ (⟨(⟨#[105, 110]⟩ : ByteArray), (⟨#[97, 105]⟩ : ByteArray), 0, 7, (⟨#[]⟩ : ByteArray), (⟨#[97]⟩ : ByteArray)⟩ : S76) )) (Reps.c6 (show Kd.M k76 _ _ _ (⟨(⟨#[111, 117, 116]⟩ : ByteArray), (⟨#[97, 105]⟩ : ByteArray), 0, 7, (⟨#[97]⟩ : ByteArray), (⟨#[]⟩ : ByteArray)⟩ : S76) [.string (⟨#[111, 117, 116]⟩ : ByteArray), .string (⟨#[97, 105]⟩ : ByteArray), .int .i64 0, .int .i64 7, .string (⟨#[97]⟩ : ByteArray), .string (⟨#[]⟩ : ByteArray)] from (k76_mkM _ _ _ (⟨(⟨#[111, 117, 116]⟩ : ByteArray), (⟨#[97, 105]⟩ : ByteArray), 0, 7, (⟨#[97]⟩ : ByteArray), (⟨#[]⟩ : ByteArray)⟩ : S76) )) (Reps.c6 (show Kd.M k76 _ _ _ (⟨(⟨#[108, 111, 99, 107]⟩ : ByteArray), (⟨#[105]⟩ : ByteArray), 0, 3, (⟨#[]⟩ : ByteArray), (⟨#[]⟩ : ByteArray)⟩ : S76) [.string (⟨#[108, 111, 99, 107]⟩ : ByteArray), .string (⟨#[105]⟩ : ByteArray), .int .i64 0, .int .i64 3, .string (⟨#[]⟩ : ByteArray), .string (⟨#[]⟩ : ByteArray)] from (k76_mkM _ _ _ (⟨(⟨#[108, 111, 99, 107]⟩ : ByteArray), (⟨#[105]⟩ : ByteArray), 0, 3, (⟨#[]⟩ : ByteArray), (⟨#[]⟩ : ByteArray)⟩ : S76) )) (Reps.c6 (show Kd.M k76 _ _ _ (⟨(⟨#[117, 110, 108, 111, 99, 107]⟩ : ByteArray), (⟨#[105]⟩ : ByteArray), 0, 3, (⟨#[]⟩ : ByteArray), (⟨#[]⟩ : ByteArray)⟩ : S76) [.string (⟨#[117, 110, 108, 111, 99, 107]⟩ : ByteArray), .string (⟨#[105]⟩ : ByteArray), .int .i64 0, .int .i64 3, .string (⟨#[]⟩ : ByteArray), .string (⟨#[]⟩ : ByteArray)] from (k76_mkM _ _ _ (⟨(⟨#[117, 110, 108, 111, 99, 107]⟩ : ByteArray), (⟨#[105]⟩ : ByteArray), 0, 3, (⟨#[]⟩ : ByteArray), (⟨#[]⟩ : ByteArray)⟩ : S76) )) (Reps.none _ _)))))))))))))))))); intro v112 w12 ho13 hb hg_ hnew_; clear hg_ hnew_; (first | rw [← Ny111.out] at ho13 | (simp only [Int.reduceToNat] at ho13; rw [← Ny111.out] at ho13)); have n0_ := Aside0.mk (Kd.R_elder' (by (with_reducible repeat (first | apply Kd.R_alloc | apply Kd.R_drewN | apply Kd.R_drew)); exact HO_1.out) (Kd.R_base ho13) hb); have n1_ := Aside0.mk (Kd.R_below (by (with_reducible repeat (first | apply Kd.R_alloc | apply Kd.R_drewN | apply Kd.R_drew)); exact HO_7.out) hb); have n2_ := Aside0.mk (Kd.R_lower (Kd.R_new' ho13 (Kd.R_lt (by (with_reducible repeat (first | apply Kd.R_alloc | apply Kd.R_drewN | apply Kd.R_drew)); exact HO_1.out))) (below_size (by repeat (first | (with_reducible first | exact HB.out | apply below_alloc | apply pw_below_drewN | apply below_drew1) | exact HB.out)))); have n3_ := Aside0.mk (below_step (by repeat (first | (with_reducible first | exact HB.out | apply below_alloc | apply pw_below_drewN | apply below_drew1) | exact HB.out)) hb); clear HO_1; clear HO_7; clear HB; have HO_1 := n0_; have HO_7 := n1_; have HO113 := n2_; have HB := n3_; clear n0_ n1_ n2_ n3_; clear hb ho13; obtain ⟨Ao15, co15, eo15⟩ := Kd.R_slice HO113.out; subst eo15) | ((with_reducible refine gate_builtin (b := .append) (xs := #[.tmp 19, .tmp 36]) rfl ?_); at_builtin; refine Kd.R_append_rows k76 (w0 := w) w.heap.size rfl (.tmp 19) (.tmp 36) 99 76 (.agg #[(.string ⟨#[]⟩), (.string ⟨#[]⟩), (.int .i64 0), (.int .i64 0), (.string ⟨#[]⟩), (.string ⟨#[]⟩)]) 80 rfl Tryd.underlying99 info76 rfl (by decide) (by omega) u1 x1_1 y111 _ _ _ (fun k_ => some k_ ≠ (.slice Ao15 y111.length co15 : Value).ownBlock) (fun _ => False) rfl rfl ?aO ?aR (fun _ _ h => h) (fun _ h => h.elim) ?aF ?aB ?aS ?aL ?_; (case aR => repeat (first | exact (Kd.R_reads' HO113.out).2.2 | (with_reducible refine Kd.C_alloc ?_ _) | (with_reducible refine Kd.C_drewN ?_ _) | (with_reducible refine Kd.C_drew ?_))); (case aB => exact (by repeat (first | (with_reducible first | exact HB.out | apply below_alloc | apply pw_below_drewN | apply below_drew1) | exact HB.out))); (case aF => exact (fun k_ hk => Kd.fresh' (Kd.R_lt (by (with_reducible repeat (first | apply Kd.R_alloc | apply Kd.R_drewN | apply Kd.R_drew)); exact HO113.out)) k_ hk)); (case aO => exact (by (with_reducible repeat (first | apply Kd.R_alloc | apply Kd.R_drewN | apply Kd.R_drew)); exact Kd.R_mono HO_1.out (fun _ hk => hk.2))); (case aS => exact (below_size (by repeat (first | (with_reducible first | exact HB.out | apply below_alloc | apply pw_below_drewN | apply below_drew1) | exact HB.out)))); (case aL => have := LMc11.out; omega); intro v115 w14 ho hb hg hat; rw [← Ny114.out] at ho; have n0_ := Aside0.mk (Kd.R_over' (by (with_reducible repeat (first | apply Kd.R_alloc | apply Kd.R_drewN | apply Kd.R_drew)); exact HO_7.out) (Kd.R_typed (by (with_reducible repeat (first | apply Kd.R_alloc | apply Kd.R_drewN | apply Kd.R_drew)); exact HO_1.out)) (by decide) hg); have n1_ := Aside0.mk (Kd.R_after (ok := (fun _ => True)) (by (with_reducible repeat (first | apply Kd.R_alloc | apply Kd.R_drewN | apply Kd.R_drew)); exact HO113.out) hg hat); have n2_ := Aside0.mk (hb); have n3_ := Aside0.mk (ho); clear HO_7; clear HO113; clear HB; clear HO_1; have HO_7 := n0_; have HO113 := n1_; have HB := n2_; have HO116 := n3_; clear n0_ n1_ n2_ n3_; clear ho hb hg hat))
       go_ret
       exact ⟨_, by first | rfl | (simp [errW_none, errW_some] <;> rfl) | (simp [*, errW_none, errW_some] <;> rfl), by (with_reducible repeat (first | apply Kd.R_alloc | apply Kd.R_drewN | apply Kd.R_drew)); exact Kd.R_mono HO116.out (fun _ hk => trivial), by repeat (first | (with_reducible first | exact HB.out | apply below_alloc | apply pw_below_drewN | apply below_drew1) | exact HB.out)⟩
     · rw [if_neg c11] at H
       exact absurd H (by simp)

/-! ### isa_find: function 37 -/
def isa_find.f (k : Nat) (a0 : Int) : Option (ByteArray × ByteArray × Int × Int × ByteArray × ByteArray × Bool) := (isa_rows.f k).bind fun t118 => (if (wrap64 (a0)) ≥ (t118.length : Int) then (some ((⟨#[]⟩ : ByteArray), (⟨#[]⟩ : ByteArray), 0, 0, (⟨#[]⟩ : ByteArray), (⟨#[]⟩ : ByteArray), false)) else (if 0 ≤ a0 then (if a0 < (t118.length : Int) then (some ((rd_T76 t118 a0).f0, (rd_T76 t118 a0).f1, (rd_T76 t118 a0).f2, (rd_T76 t118 a0).f3, (rd_T76 t118 a0).f4, (rd_T76 t118 a0).f5, true)) else (none)) else (none)))
theorem isa_find.mono : ∀ a0 k, LeO (isa_find.f k a0) (isa_find.f (k + 1) a0) := by
 intro a0 k
 unfold isa_find.f
 repeat' first
  | (with_reducible exact isa_rows.mono _)
  | (with_reducible exact LeO.refl _)
  | (with_reducible exact LeO.none _)
  | (with_reducible refine LeO.ite ?_ ?_)
  | (with_reducible refine LeO.bind ?_ (fun _ => ?_))
  | exact isa_rows.mono _
  | exact LeO.none _
  | refine LeO.ite ?_ ?_
  | refine LeO.bind ?_ (fun _ => ?_)
set_option maxHeartbeats 8000000 in
set_option maxRecDepth 100000 in
theorem isa_find.calls (k : Nat) (a0 : Int) (r1 : ByteArray) (r2 : ByteArray) (r3 : Int) (r4 : Int) (r5 : ByteArray) (r6 : ByteArray) (r7 : Bool) (w : World) (h : isa_find.f k a0 = some (r1, r2, r3, r4, r5, r6, r7)) :
 Calls Tryd.prog 37 #[.int .u8 a0] w fun e w' => e = .returned (.tuple #[.agg #[.string r1, .string r2, .int .i64 r3, .int .i64 r4, .string r5, .string r6], .bool r7]) ∧ Below w.heap.size w w' := by
 have hu76 := Tryd.underlying76
 have HB := Aside0.mk (Below.refl w.heap.size w)
 have H : ((isa_rows.f k).bind fun t118 => (if (wrap64 (a0)) ≥ (t118.length : Int) then (some ((⟨#[]⟩ : ByteArray), (⟨#[]⟩ : ByteArray), 0, 0, (⟨#[]⟩ : ByteArray), (⟨#[]⟩ : ByteArray), false)) else (if 0 ≤ a0 then (if a0 < (t118.length : Int) then (some ((rd_T76 t118 a0).f0, (rd_T76 t118 a0).f1, (rd_T76 t118 a0).f2, (rd_T76 t118 a0).f3, (rd_T76 t118 a0).f4, (rd_T76 t118 a0).f5, true)) else (none)) else (none)))) = some (r1, r2, r3, r4, r5, r6, r7) := h
 clear h
 replace H := Option.bind_eq_some_iff.mp H
 obtain ⟨t118, A20, H⟩ := H
 replace H : (if (wrap64 (a0)) ≥ (t118.length : Int) then (some ((⟨#[]⟩ : ByteArray), (⟨#[]⟩ : ByteArray), 0, 0, (⟨#[]⟩ : ByteArray), (⟨#[]⟩ : ByteArray), false)) else (if 0 ≤ a0 then (if a0 < (t118.length : Int) then (some ((rd_T76 t118 a0).f0, (rd_T76 t118 a0).f1, (rd_T76 t118 a0).f2, (rd_T76 t118 a0).f3, (rd_T76 t118 a0).f4, (rd_T76 t118 a0).f5, true)) else (none)) else (none))) = some (r1, r2, r3, r4, r5, r6, r7) := H
 have A2 := Aside0.mk A20
 clear A20
 by_cases c3 : (wrap64 (a0)) ≥ (t118.length : Int)
 · rw [if_pos c3] at H
   have c3b0 : decide ((t118.length : Int) ≤ (wrap64 (a0))) = true := decide_eq_true c3
   clear c3
   simp only [Option.some.injEq, Prod.mk.injEq] at H
   obtain ⟨rfl, rfl, rfl, rfl, rfl, rfl, rfl⟩ := H
   go_enter Tryd.func37, Tryd.ntmps37
   go_wp2_with (first | ((with_reducible refine gate_dst (N := 2) rfl ?_); refine box_event ?hg (N := 2) ?hd (cs := #[.string (⟨#[]⟩ : ByteArray), .string (⟨#[]⟩ : ByteArray), .int .i64 0, .int .i64 0, .string (⟨#[]⟩ : ByteArray), .string (⟨#[]⟩ : ByteArray)]) (t := 76) ?hr ?_; (case hd => rfl); (case hg => rfl); (case hr => first | (go_simp; done) | (go_simp; rfl)); intro gb117 hg w4 hbox hb; have n0_ := Aside0.mk (below_step (by repeat (first | (with_reducible first | exact HB.out | apply below_alloc | apply pw_below_drewN | apply below_drew1) | exact HB.out)) hb); have n1_ := Aside0.mk (hbox); have n2_ := Aside0.mk ((by rw [hg]; exact (below_size (by repeat (first | (with_reducible first | exact HB.out | apply below_alloc | apply pw_below_drewN | apply below_drew1) | exact HB.out))) : w.heap.size ≤ gb117)); have n3_ := Aside0.mk ((by rw [hg]; exact (below_size (by repeat (first | (with_reducible first | exact HB.out | apply below_alloc | apply pw_below_drewN | apply below_drew1) | exact HB.out))) : w.heap.size ≤ gb117)); clear HB; have HB := n0_; have BK117 := n1_; have GW117 := n2_; have GE117 := n3_; clear n0_ n1_ n2_ n3_; clear hb hbox hg) | ((with_reducible refine gate_callee (f := 57) rfl ?_); refine goesL_ (some 5) rfl rfl Tryd.func57 (by kernel_rfl) rfl #[] rfl (by (try simp only [List.map_toArray, List.map_cons, List.map_nil]); first | done | rfl | (simp only [List.length_drop, List.length_take]; rfl)) ?_; (with_reducible refine (isa_rows.calls k  t118 _ A2.out).mono ?_); rintro e w5 ⟨v119, rfl, ho0, hb⟩; refine ⟨_, rfl, ?_⟩; have n0_ := Aside0.mk (Kd.R_lower (Kd.R_newB ho0 (g := gb117) (o := .cells #[.string (⟨#[]⟩ : ByteArray), .string (⟨#[]⟩ : ByteArray), .int .i64 0, .int .i64 0, .string (⟨#[]⟩ : ByteArray), .string (⟨#[]⟩ : ByteArray)] 76 (0, 0)) (by (with_reducible repeat (first | refine blk_drewN ?_ _ | refine blk_drew ?_ | refine blk_alloc ?_ _)); exact BK117.out)) (below_size (by repeat (first | (with_reducible first | exact HB.out | apply below_alloc | apply pw_below_drewN | apply below_drew1 | refine below_set ?_ GE117.out) | exact HB.out)))); have n1_ := Aside0.mk (blk_below (g := gb117) (o := .cells #[.string (⟨#[]⟩ : ByteArray), .string (⟨#[]⟩ : ByteArray), .int .i64 0, .int .i64 0, .string (⟨#[]⟩ : ByteArray), .string (⟨#[]⟩ : ByteArray)] 76 (0, 0)) (by (with_reducible repeat (first | refine blk_drewN ?_ _ | refine blk_drew ?_ | refine blk_alloc ?_ _)); exact BK117.out) hb); have n2_ := Aside0.mk (below_step (by repeat (first | (with_reducible first | exact HB.out | apply below_alloc | apply pw_below_drewN | apply below_drew1 | refine below_set ?_ GE117.out) | exact HB.out)) hb); clear BK117; clear HB; have HO120 := n0_; have BK117 := n1_; have HB := n2_; clear n0_ n1_ n2_; (try clear hb); (try clear hb2); (try clear hk); (try clear hi); (try clear ho0); obtain ⟨Ao6, co6, eo6⟩ := Kd.R_slice HO120.out; subst eo6; have hcz7_0 : w5.cell? ⟨gb117, 0, none⟩ = some (.string (⟨#[]⟩ : ByteArray)) := (blk_cell BK117.out 0).trans rfl; have hcz7_1 : w5.cell? ⟨gb117, 1, none⟩ = some (.string (⟨#[]⟩ : ByteArray)) := (blk_cell BK117.out 1).trans rfl; have hcz7_2 : w5.cell? ⟨gb117, 2, none⟩ = some (.int .i64 0) := (blk_cell BK117.out 2).trans rfl; have hcz7_3 : w5.cell? ⟨gb117, 3, none⟩ = some (.int .i64 0) := (blk_cell BK117.out 3).trans rfl; have hcz7_4 : w5.cell? ⟨gb117, 4, none⟩ = some (.string (⟨#[]⟩ : ByteArray)) := (blk_cell BK117.out 4).trans rfl; have hcz7_5 : w5.cell? ⟨gb117, 5, none⟩ = some (.string (⟨#[]⟩ : ByteArray)) := (blk_cell BK117.out 5).trans rfl; have hfz7_0 := blk_frozen BK117.out 0; have hfz7_1 := blk_frozen BK117.out 1; have hfz7_2 := blk_frozen BK117.out 2; have hfz7_3 := blk_frozen BK117.out 3; have hfz7_4 := blk_frozen BK117.out 4; have hfz7_5 := blk_frozen BK117.out 5))
   refine bodyPost_ret (results_ct rfl _ _ gb117 76 #[.string (⟨#[]⟩ : ByteArray), .string (⟨#[]⟩ : ByteArray), .int .i64 0, .int .i64 0, .string (⟨#[]⟩ : ByteArray), .string (⟨#[]⟩ : ByteArray)] (0, 0) _ rfl (by (with_reducible repeat (first | refine blk_drewN ?_ _ | refine blk_drew ?_ | refine blk_alloc ?_ _)); refine blk_put (cs := #[.string (⟨#[]⟩ : ByteArray), .string (⟨#[]⟩ : ByteArray), .int .i64 0, .int .i64 0, .string (⟨#[]⟩ : ByteArray), .string (⟨#[]⟩ : ByteArray)]) ?_ 5 _ rfl; (with_reducible repeat (first | refine blk_drewN ?_ _ | refine blk_drew ?_ | refine blk_alloc ?_ _)); refine blk_put (cs := #[.string (⟨#[]⟩ : ByteArray), .string (⟨#[]⟩ : ByteArray), .int .i64 0, .int .i64 0, .string (⟨#[]⟩ : ByteArray), .string (⟨#[]⟩ : ByteArray)]) ?_ 4 _ rfl; (with_reducible repeat (first | refine blk_drewN ?_ _ | refine blk_drew ?_ | refine blk_alloc ?_ _)); refine blk_put (cs := #[.string (⟨#[]⟩ : ByteArray), .string (⟨#[]⟩ : ByteArray), .int .i64 0, .int .i64 0, .string (⟨#[]⟩ : ByteArray), .string (⟨#[]⟩ : ByteArray)]) ?_ 3 _ rfl; (with_reducible repeat (first | refine blk_drewN ?_ _ | refine blk_drew ?_ | refine blk_alloc ?_ _)); refine blk_put (cs := #[.string (⟨#[]⟩ : ByteArray), .string (⟨#[]⟩ : ByteArray), .int .i64 0, .int .i64 0, .string (⟨#[]⟩ : ByteArray), .string (⟨#[]⟩ : ByteArray)]) ?_ 2 _ rfl; (with_reducible repeat (first | refine blk_drewN ?_ _ | refine blk_drew ?_ | refine blk_alloc ?_ _)); refine blk_put (cs := #[.string (⟨#[]⟩ : ByteArray), .string (⟨#[]⟩ : ByteArray), .int .i64 0, .int .i64 0, .string (⟨#[]⟩ : ByteArray), .string (⟨#[]⟩ : ByteArray)]) ?_ 1 _ rfl; (with_reducible repeat (first | refine blk_drewN ?_ _ | refine blk_drew ?_ | refine blk_alloc ?_ _)); refine blk_put (cs := #[.string (⟨#[]⟩ : ByteArray), .string (⟨#[]⟩ : ByteArray), .int .i64 0, .int .i64 0, .string (⟨#[]⟩ : ByteArray), .string (⟨#[]⟩ : ByteArray)]) ?_ 0 _ rfl; (with_reducible repeat (first | refine blk_drewN ?_ _ | refine blk_drew ?_ | refine blk_alloc ?_ _)); exact BK117.out) Tryd.underlying76 rfl (by kernel_rfl)) rfl ?_
   exact ⟨by first | rfl | (simp [errW_none, errW_some] <;> rfl) | (simp [*, errW_none, errW_some] <;> rfl), by repeat (first | (with_reducible first | exact HB.out | apply below_alloc | apply pw_below_drewN | apply below_drew1 | refine below_set ?_ GE117.out) | exact HB.out)⟩
 · rw [if_neg c3] at H
   have c3b0 : decide ((t118.length : Int) ≤ (wrap64 (a0))) = false := decide_eq_false c3
   clear c3
   by_cases c8 : 0 ≤ a0
   · rw [if_pos c8] at H
     have c8b0 : decide (0 ≤ a0) = true := decide_eq_true c8
     clear c8
     by_cases c9 : a0 < (t118.length : Int)
     · rw [if_pos c9] at H
       have c9b0 : decide (a0 < (t118.length : Int)) = true := decide_eq_true c9
       clear c9
       simp only [Option.some.injEq, Prod.mk.injEq] at H
       obtain ⟨rfl, rfl, rfl, rfl, rfl, rfl, rfl⟩ := H
       go_enter Tryd.func37, Tryd.ntmps37
       go_wp2_with (first | ((with_reducible refine gate_dst (N := 2) rfl ?_); refine box_event ?hg (N := 2) ?hd (cs := #[.string (⟨#[]⟩ : ByteArray), .string (⟨#[]⟩ : ByteArray), .int .i64 0, .int .i64 0, .string (⟨#[]⟩ : ByteArray), .string (⟨#[]⟩ : ByteArray)]) (t := 76) ?hr ?_; (case hd => rfl); (case hg => rfl); (case hr => first | (go_simp; done) | (go_simp; rfl)); intro gb117 hg w10 hbox hb; have n0_ := Aside0.mk (below_step (by repeat (first | (with_reducible first | exact HB.out | apply below_alloc | apply pw_below_drewN | apply below_drew1) | exact HB.out)) hb); have n1_ := Aside0.mk (hbox); have n2_ := Aside0.mk ((by rw [hg]; exact (below_size (by repeat (first | (with_reducible first | exact HB.out | apply below_alloc | apply pw_below_drewN | apply below_drew1) | exact HB.out))) : w.heap.size ≤ gb117)); have n3_ := Aside0.mk ((by rw [hg]; exact (below_size (by repeat (first | (with_reducible first | exact HB.out | apply below_alloc | apply pw_below_drewN | apply below_drew1) | exact HB.out))) : w.heap.size ≤ gb117)); clear HB; have HB := n0_; have BK117 := n1_; have GW117 := n2_; have GE117 := n3_; clear n0_ n1_ n2_ n3_; clear hb hbox hg) | ((with_reducible refine gate_callee (f := 57) rfl ?_); refine goesL_ (some 5) rfl rfl Tryd.func57 (by kernel_rfl) rfl #[] rfl (by (try simp only [List.map_toArray, List.map_cons, List.map_nil]); first | done | rfl | (simp only [List.length_drop, List.length_take]; rfl)) ?_; (with_reducible refine (isa_rows.calls k  t118 _ A2.out).mono ?_); rintro e w11 ⟨v119, rfl, ho0, hb⟩; refine ⟨_, rfl, ?_⟩; have n0_ := Aside0.mk (Kd.R_lower (Kd.R_newB ho0 (g := gb117) (o := .cells #[.string (⟨#[]⟩ : ByteArray), .string (⟨#[]⟩ : ByteArray), .int .i64 0, .int .i64 0, .string (⟨#[]⟩ : ByteArray), .string (⟨#[]⟩ : ByteArray)] 76 (0, 0)) (by (with_reducible repeat (first | refine blk_drewN ?_ _ | refine blk_drew ?_ | refine blk_alloc ?_ _)); exact BK117.out)) (below_size (by repeat (first | (with_reducible first | exact HB.out | apply below_alloc | apply pw_below_drewN | apply below_drew1 | refine below_set ?_ GE117.out) | exact HB.out)))); have n1_ := Aside0.mk (blk_below (g := gb117) (o := .cells #[.string (⟨#[]⟩ : ByteArray), .string (⟨#[]⟩ : ByteArray), .int .i64 0, .int .i64 0, .string (⟨#[]⟩ : ByteArray), .string (⟨#[]⟩ : ByteArray)] 76 (0, 0)) (by (with_reducible repeat (first | refine blk_drewN ?_ _ | refine blk_drew ?_ | refine blk_alloc ?_ _)); exact BK117.out) hb); have n2_ := Aside0.mk (below_step (by repeat (first | (with_reducible first | exact HB.out | apply below_alloc | apply pw_below_drewN | apply below_drew1 | refine below_set ?_ GE117.out) | exact HB.out)) hb); clear BK117; clear HB; have HO120 := n0_; have BK117 := n1_; have HB := n2_; clear n0_ n1_ n2_; (try clear hb); (try clear hb2); (try clear hk); (try clear hi); (try clear ho0); obtain ⟨Ao12, co12, eo12⟩ := Kd.R_slice HO120.out; subst eo12; have p121 : 0 ≤ (a0 : Int) := of_decide_eq_true (by first | (with_reducible assumption) | assumption); have q121 : a0 < (t118.length : Int) := of_decide_eq_true (by first | (with_reducible assumption) | assumption); obtain ⟨ad121, e121, hx121_0, hx121_1, hx121_2, hx121_3, hx121_4, hx121_5⟩ := at_T76 (Kd.R_reads' HO120.out).2.2 a0 p121 q121; cases e121; replace p121 := eq_true p121; replace q121 := eq_true q121; have hcz13_0 : w11.cell? ⟨gb117, 0, none⟩ = some (.string (⟨#[]⟩ : ByteArray)) := (blk_cell BK117.out 0).trans rfl; have hcz13_1 : w11.cell? ⟨gb117, 1, none⟩ = some (.string (⟨#[]⟩ : ByteArray)) := (blk_cell BK117.out 1).trans rfl; have hcz13_2 : w11.cell? ⟨gb117, 2, none⟩ = some (.int .i64 0) := (blk_cell BK117.out 2).trans rfl; have hcz13_3 : w11.cell? ⟨gb117, 3, none⟩ = some (.int .i64 0) := (blk_cell BK117.out 3).trans rfl; have hcz13_4 : w11.cell? ⟨gb117, 4, none⟩ = some (.string (⟨#[]⟩ : ByteArray)) := (blk_cell BK117.out 4).trans rfl; have hcz13_5 : w11.cell? ⟨gb117, 5, none⟩ = some (.string (⟨#[]⟩ : ByteArray)) := (blk_cell BK117.out 5).trans rfl; have hfz13_0 := blk_frozen BK117.out 0; have hfz13_1 := blk_frozen BK117.out 1; have hfz13_2 := blk_frozen BK117.out 2; have hfz13_3 := blk_frozen BK117.out 3; have hfz13_4 := blk_frozen BK117.out 4; have hfz13_5 := blk_frozen BK117.out 5))
       refine bodyPost_ret (results_ct rfl _ _ gb117 76 #[.string ((rd_T76 t118 a0).f0), .string ((rd_T76 t118 a0).f1), .int .i64 ((rd_T76 t118 a0).f2), .int .i64 ((rd_T76 t118 a0).f3), .string ((rd_T76 t118 a0).f4), .string ((rd_T76 t118 a0).f5)] (0, 0) _ rfl (by (with_reducible repeat (first | refine blk_drewN ?_ _ | refine blk_drew ?_ | refine blk_alloc ?_ _)); refine blk_put (cs := #[.string ((rd_T76 t118 a0).f0), .string ((rd_T76 t118 a0).f1), .int .i64 ((rd_T76 t118 a0).f2), .int .i64 ((rd_T76 t118 a0).f3), .string ((rd_T76 t118 a0).f4), .string (⟨#[]⟩ : ByteArray)]) ?_ 5 _ rfl; (with_reducible repeat (first | refine blk_drewN ?_ _ | refine blk_drew ?_ | refine blk_alloc ?_ _)); refine blk_put (cs := #[.string ((rd_T76 t118 a0).f0), .string ((rd_T76 t118 a0).f1), .int .i64 ((rd_T76 t118 a0).f2), .int .i64 ((rd_T76 t118 a0).f3), .string (⟨#[]⟩ : ByteArray), .string (⟨#[]⟩ : ByteArray)]) ?_ 4 _ rfl; (with_reducible repeat (first | refine blk_drewN ?_ _ | refine blk_drew ?_ | refine blk_alloc ?_ _)); refine blk_put (cs := #[.string ((rd_T76 t118 a0).f0), .string ((rd_T76 t118 a0).f1), .int .i64 ((rd_T76 t118 a0).f2), .int .i64 0, .string (⟨#[]⟩ : ByteArray), .string (⟨#[]⟩ : ByteArray)]) ?_ 3 _ rfl; (with_reducible repeat (first | refine blk_drewN ?_ _ | refine blk_drew ?_ | refine blk_alloc ?_ _)); refine blk_put (cs := #[.string ((rd_T76 t118 a0).f0), .string ((rd_T76 t118 a0).f1), .int .i64 0, .int .i64 0, .string (⟨#[]⟩ : ByteArray), .string (⟨#[]⟩ : ByteArray)]) ?_ 2 _ rfl; (with_reducible repeat (first | refine blk_drewN ?_ _ | refine blk_drew ?_ | refine blk_alloc ?_ _)); refine blk_put (cs := #[.string ((rd_T76 t118 a0).f0), .string (⟨#[]⟩ : ByteArray), .int .i64 0, .int .i64 0, .string (⟨#[]⟩ : ByteArray), .string (⟨#[]⟩ : ByteArray)]) ?_ 1 _ rfl; (with_reducible repeat (first | refine blk_drewN ?_ _ | refine blk_drew ?_ | refine blk_alloc ?_ _)); refine blk_put (cs := #[.string (⟨#[]⟩ : ByteArray), .string (⟨#[]⟩ : ByteArray), .int .i64 0, .int .i64 0, .string (⟨#[]⟩ : ByteArray), .string (⟨#[]⟩ : ByteArray)]) ?_ 0 _ rfl; (with_reducible repeat (first | refine blk_drewN ?_ _ | refine blk_drew ?_ | refine blk_alloc ?_ _)); exact BK117.out) Tryd.underlying76 rfl (by kernel_rfl)) rfl ?_
       exact ⟨by first | rfl | (simp [errW_none, errW_some] <;> rfl) | (simp [*, errW_none, errW_some] <;> rfl), by repeat (first | (with_reducible first | exact HB.out | apply below_alloc | apply pw_below_drewN | apply below_drew1 | refine below_set ?_ GE117.out) | exact HB.out)⟩
     · rw [if_neg c9] at H
       exact absurd H (by simp)
   · rw [if_neg c8] at H
     exact absurd H (by simp)

/-! ### isa_Mnemonic: function 41 -/
def isa_Mnemonic.f (k : Nat) (a0 : Int) : Option (ByteArray) := (isa_find.f k a0).bind fun bt122 => (some bt122.1)
theorem isa_Mnemonic.mono : ∀ a0 k, LeO (isa_Mnemonic.f k a0) (isa_Mnemonic.f (k + 1) a0) := by
 intro a0 k
 unfold isa_Mnemonic.f
 repeat' first
  | (with_reducible exact isa_find.mono _ _)
  | (with_reducible exact LeO.refl _)
  | (with_reducible exact LeO.none _)
  | (with_reducible refine LeO.ite ?_ ?_)
  | (with_reducible refine LeO.bind ?_ (fun _ => ?_))
  | exact isa_find.mono _ _
  | exact LeO.none _
  | refine LeO.ite ?_ ?_
  | refine LeO.bind ?_ (fun _ => ?_)
set_option maxHeartbeats 8000000 in
set_option maxRecDepth 100000 in
theorem isa_Mnemonic.calls (k : Nat) (a0 : Int) (r : ByteArray) (w : World) (h : isa_Mnemonic.f k a0 = some r) :
 Calls Tryd.prog 41 #[.int .u8 a0] w fun e w' => e = .returned (.string r) ∧ Below w.heap.size w w' := by
 have hu76 := Tryd.underlying76
 have HB := Aside0.mk (Below.refl w.heap.size w)
 have H : ((isa_find.f k a0).bind fun bt122 => (some bt122.1)) = some r := h
 clear h
 replace H := Option.bind_eq_some_iff.mp H
 obtain ⟨⟨t122, t123, t124, t125, t126, t127, t128⟩, A20, H⟩ := H
 replace H : (some t122) = some r := H
 have A2 := Aside0.mk A20
 clear A20
 obtain rfl := Option.some.inj H
 go_enter Tryd.func41, Tryd.ntmps41
 go_wp2_with (first | ((with_reducible refine gate_callee (f := 37) rfl ?_); refine goesL_ (some 7) rfl rfl Tryd.func37 (by kernel_rfl) rfl #[.int .u8 a0] rfl (by (try simp only [List.map_toArray, List.map_cons, List.map_nil]); first | done | rfl | (simp only [List.length_drop, List.length_take]; rfl)) ?_; (with_reducible refine (isa_find.calls k a0 t122 t123 t124 t125 t126 t127 t128 _ A2.out).mono ?_); rintro e w3 ⟨rfl, hb⟩; refine ⟨_, rfl, ?_⟩; have n0_ := Aside0.mk (below_step (by repeat (first | (with_reducible first | exact HB.out | apply below_alloc | apply pw_below_drewN | apply below_drew1) | exact HB.out)) hb); clear HB; have HB := n0_; clear n0_; (try clear hb); (try clear hb2); (try clear hk); (try clear hi)) | ((with_reducible refine gate_dst (N := 3) rfl ?_); refine box_event ?hg (N := 3) ?hd (cs := #[.string (⟨#[]⟩ : ByteArray), .string (⟨#[]⟩ : ByteArray), .int .i64 0, .int .i64 0, .string (⟨#[]⟩ : ByteArray), .string (⟨#[]⟩ : ByteArray)]) (t := 76) ?hr ?_; (case hd => rfl); (case hg => rfl); (case hr => first | (go_simp; done) | (go_simp; rfl)); intro gb129 hg w4 hbox hb; have n0_ := Aside0.mk (below_step (by repeat (first | (with_reducible first | exact HB.out | apply below_alloc | apply pw_below_drewN | apply below_drew1) | exact HB.out)) hb); have n1_ := Aside0.mk (hbox); have n2_ := Aside0.mk ((by rw [hg]; exact (below_size (by repeat (first | (with_reducible first | exact HB.out | apply below_alloc | apply pw_below_drewN | apply below_drew1) | exact HB.out))) : w.heap.size ≤ gb129)); have n3_ := Aside0.mk ((by rw [hg]; exact (below_size (by repeat (first | (with_reducible first | exact HB.out | apply below_alloc | apply pw_below_drewN | apply below_drew1) | exact HB.out))) : w.heap.size ≤ gb129)); clear HB; have HB := n0_; have BK129 := n1_; have GW129 := n2_; have GE129 := n3_; clear n0_ n1_ n2_ n3_; clear hb hbox hg; have hcz5_0 : w4.cell? ⟨gb129, 0, none⟩ = some (.string (⟨#[]⟩ : ByteArray)) := (blk_cell BK129.out 0).trans rfl; have hcz5_1 : w4.cell? ⟨gb129, 1, none⟩ = some (.string (⟨#[]⟩ : ByteArray)) := (blk_cell BK129.out 1).trans rfl; have hcz5_2 : w4.cell? ⟨gb129, 2, none⟩ = some (.int .i64 0) := (blk_cell BK129.out 2).trans rfl; have hcz5_3 : w4.cell? ⟨gb129, 3, none⟩ = some (.int .i64 0) := (blk_cell BK129.out 3).trans rfl; have hcz5_4 : w4.cell? ⟨gb129, 4, none⟩ = some (.string (⟨#[]⟩ : ByteArray)) := (blk_cell BK129.out 4).trans rfl; have hcz5_5 : w4.cell? ⟨gb129, 5, none⟩ = some (.string (⟨#[]⟩ : ByteArray)) := (blk_cell BK129.out 5).trans rfl; have hfz5_0 := blk_frozen BK129.out 0; have hfz5_1 := blk_frozen BK129.out 1; have hfz5_2 := blk_frozen BK129.out 2; have hfz5_3 := blk_frozen BK129.out 3; have hfz5_4 := blk_frozen BK129.out 4; have hfz5_5 := blk_frozen BK129.out 5))
 go_ret
 exact ⟨by first | rfl | (simp [errW_none, errW_some] <;> rfl) | (simp [*, errW_none, errW_some] <;> rfl), by repeat (first | (with_reducible first | exact HB.out | apply below_alloc | apply pw_below_drewN | apply below_drew1 | refine below_set ?_ GE129.out) | exact HB.out)⟩

/-! ### asm_classes: function 42 -/
mutual
def asm_classes.j0 : Nat → Int → Bool → Option (ByteArray)
 | 0, _, _ => none
 | k + 1, x0, x3 => if x3 = true then (some (⟨#[]⟩ : ByteArray)) else (if x0 ≥ 2 then (asm_classes.j1 k x0 (decide (x0 ≤ 13))) else (asm_classes.j1 k x0 false))
def asm_classes.j1 : Nat → Int → Bool → Option (ByteArray)
 | 0, _, _ => none
 | k + 1, x0, x10 => if x10 = true then (some (⟨#[65, 66, 67]⟩ : ByteArray)) else (if x0 = 24 then (asm_classes.j2 k x0 true) else (if x0 = 28 then (asm_classes.j2 k x0 true) else (asm_classes.j2 k x0 (x0 == 29))))
def asm_classes.j2 : Nat → Int → Bool → Option (ByteArray)
 | 0, _, _ => none
 | k + 1, x0, x17 => if x17 = true then (some (⟨#[73]⟩ : ByteArray)) else (if x0 = 14 then (some (⟨#[65, 73]⟩ : ByteArray)) else (if x0 = 22 then (some (⟨#[65, 73]⟩ : ByteArray)) else (if x0 = 23 then (some (⟨#[65, 73]⟩ : ByteArray)) else (if x0 = 25 then (some (⟨#[65, 73]⟩ : ByteArray)) else (if x0 = 26 then (some (⟨#[65, 73]⟩ : ByteArray)) else (if x0 = 27 then (some (⟨#[65, 73]⟩ : ByteArray)) else (some (⟨#[65, 66, 73]⟩ : ByteArray))))))))
end
def asm_classes.f (k : Nat) (a0 : Int) : Option (ByteArray) := if a0 = 0 then (asm_classes.j0 k a0 true) else (asm_classes.j0 k a0 (a0 == 1))
theorem asm_classes.mono_l : ∀ k, (∀ y0 y1, LeO (asm_classes.j0 k y0 y1) (asm_classes.j0 (k + 1) y0 y1)) ∧ (∀ y0 y1, LeO (asm_classes.j1 k y0 y1) (asm_classes.j1 (k + 1) y0 y1)) ∧ (∀ y0 y1, LeO (asm_classes.j2 k y0 y1) (asm_classes.j2 (k + 1) y0 y1))
 | 0 => ⟨fun _ _ r h => by simp [asm_classes.j0] at h, fun _ _ r h => by simp [asm_classes.j1] at h, fun _ _ r h => by simp [asm_classes.j2] at h⟩
 | k + 1 => by
  obtain ⟨ih0, ih1, ih2⟩ := asm_classes.mono_l k
  refine ⟨?_, ?_, ?_⟩
  · intro y0 y1
    unfold asm_classes.j0
    repeat' first
    | (with_reducible exact ih0 _ _)
    | (with_reducible exact ih1 _ _)
    | (with_reducible exact ih2 _ _)
    | (with_reducible exact LeO.refl _)
    | (with_reducible exact LeO.none _)
    | (with_reducible refine LeO.ite ?_ ?_)
    | (with_reducible refine LeO.bind ?_ (fun _ => ?_))
    | exact ih0 _ _
    | exact ih1 _ _
    | exact ih2 _ _
    | exact LeO.none _
    | refine LeO.ite ?_ ?_
    | refine LeO.bind ?_ (fun _ => ?_)
  · intro y0 y1
    unfold asm_classes.j1
    repeat' first
    | (with_reducible exact ih0 _ _)
    | (with_reducible exact ih1 _ _)
    | (with_reducible exact ih2 _ _)
    | (with_reducible exact LeO.refl _)
    | (with_reducible exact LeO.none _)
    | (with_reducible refine LeO.ite ?_ ?_)
    | (with_reducible refine LeO.bind ?_ (fun _ => ?_))
    | exact ih0 _ _
    | exact ih1 _ _
    | exact ih2 _ _
    | exact LeO.none _
    | refine LeO.ite ?_ ?_
    | refine LeO.bind ?_ (fun _ => ?_)
  · intro y0 y1
    unfold asm_classes.j2
    repeat' first
    | (with_reducible exact ih0 _ _)
    | (with_reducible exact ih1 _ _)
    | (with_reducible exact ih2 _ _)
    | (with_reducible exact LeO.refl _)
    | (with_reducible exact LeO.none _)
    | (with_reducible refine LeO.ite ?_ ?_)
    | (with_reducible refine LeO.bind ?_ (fun _ => ?_))
    | exact ih0 _ _
    | exact ih1 _ _
    | exact ih2 _ _
    | exact LeO.none _
    | refine LeO.ite ?_ ?_
    | refine LeO.bind ?_ (fun _ => ?_)
theorem asm_classes.mono : ∀ a0 k, LeO (asm_classes.f k a0) (asm_classes.f (k + 1) a0) := by
 intro a0 k
 obtain ⟨ih0, ih1, ih2⟩ := asm_classes.mono_l k
 unfold asm_classes.f
 repeat' first
  | (with_reducible exact ih0 _ _)
  | (with_reducible exact ih1 _ _)
  | (with_reducible exact ih2 _ _)
  | (with_reducible exact LeO.refl _)
  | (with_reducible exact LeO.none _)
  | (with_reducible refine LeO.ite ?_ ?_)
  | (with_reducible refine LeO.bind ?_ (fun _ => ?_))
  | exact ih0 _ _
  | exact ih1 _ _
  | exact ih2 _ _
  | exact LeO.none _
  | refine LeO.ite ?_ ?_
  | refine LeO.bind ?_ (fun _ => ?_)
set_option maxHeartbeats 8000000 in
set_option maxRecDepth 100000 in
theorem asm_classes.calls (k : Nat) (a0 : Int) (r : ByteArray) (w : World) (h : asm_classes.f k a0 = some r) :
 Calls Tryd.prog 42 #[.int .u8 a0] w fun e w' => e = .returned (.string r) ∧ Drawn0 w w' := by
 have H : (if a0 = 0 then (asm_classes.j0 k a0 true) else (asm_classes.j0 k a0 (a0 == 1))) = some r := h
 clear h
 have HC2 := Aside0.mk H
 clear H
 go_enter Tryd.func42, Tryd.ntmps42
 go_upto_region 1 with (fail)
 go_cut [3] (fun v3 wc => ∃ (kq : Nat) (x3_1 : Bool), v3 = .bool x3_1 ∧ Aside0 (asm_classes.j0 kq a0 x3_1 = some r) ∧ Aside0 (kq ≤ k) ∧ Drawn0 w wc)
 case first =>
  have H := HC2.out
  clear HC2
  by_cases c3 : a0 = 0
  · rw [if_pos c3] at H
    have c3b0 : (a0 == 0) = true := beq_iff_eq.mpr c3
    have c3b1 : (a0 != 0) = false := bne_eq_false_iff_eq.mpr c3
    clear c3
    (first | rw [c3b0] | (simp only [i64_w, i32_w]; rw [c3b0]) | skip)
    have H' := Aside0.mk H
    clear H
    go_wp2
    go_meet
    case rel => exact ⟨_, (true), (by first | rfl | (simp; done) | (simp [*]; done)), H', ⟨by first | omega | exact Nat.le_refl _⟩, by repeat (first | exact Drawn0.refl _ | apply Drawn0.step)⟩
  · rw [if_neg c3] at H
    have c3b0 : (a0 == 0) = false := beq_eq_false_iff_ne.mpr c3
    have c3b1 : (a0 != 0) = true := bne_iff_ne.mpr c3
    (first | rw [c3b0] | (simp only [i64_w, i32_w]; rw [c3b0]) | skip)
    have H' := Aside0.mk H
    clear H
    go_wp2
    go_meet
    case rel => exact ⟨_, ((a0 == 1)), (by first | rfl | (simp; done) | (simp [*]; done)), H', ⟨by first | omega | exact Nat.le_refl _⟩, by repeat (first | exact Drawn0.refl _ | apply Drawn0.step)⟩
 case rest =>
  clear HC2
  try clear p2
  try clear c3
  try clear c3b0
  try clear c3b1
  obtain ⟨kq, x3_1, rfl, HA, HJ1, ⟨mc1, rfl⟩⟩ := hcut
  cases kq with
  | zero => exact absurd HA.out (by simp [asm_classes.j0])
  | succ kj1 =>
   have H := HA.out
   clear HA
   simp only [asm_classes.j0] at H
   by_cases c4 : x3_1 = true
   · subst c4
     have H1 : (some (⟨#[]⟩ : ByteArray)) = some r := by rw [if_pos rfl] at H; exact H
     clear H
     have H := H1
     clear H1
     obtain rfl := Option.some.inj H
     go_wp2
     go_ret
     exact ⟨by first | rfl | (simp; done) | (simp [*]; done), by repeat (first | exact Drawn0.refl _ | apply Drawn0.step)⟩
   · replace c4 := Bool.eq_false_iff.mpr c4
     subst c4
     have H1 : (if a0 ≥ 2 then (asm_classes.j1 kj1 a0 (decide (a0 ≤ 13))) else (asm_classes.j1 kj1 a0 false)) = some r := by rw [if_neg (show ¬ (false = true) by decide)] at H; exact H
     clear H
     have H := H1
     clear H1
     have HC5 := Aside0.mk H
     clear H
     go_upto_region 3 with (fail)
     go_cut [10] (fun v10 wc => ∃ (kq : Nat) (x10_4 : Bool), v10 = .bool x10_4 ∧ Aside0 (asm_classes.j1 kq a0 x10_4 = some r) ∧ Aside0 (kq ≤ kj1) ∧ Drawn0 w wc)
     case first =>
      have H := HC5.out
      clear HC5
      by_cases c6 : a0 ≥ 2
      · rw [if_pos c6] at H
        have c6b0 : decide (2 ≤ a0) = true := decide_eq_true c6
        clear c6
        (first | rw [c6b0] | (simp only [i64_w, i32_w]; rw [c6b0]) | skip)
        have H' := Aside0.mk H
        clear H
        go_wp2
        go_meet
        case rel => exact ⟨_, (decide (a0 ≤ 13)), (by first | rfl | (simp; done) | (simp [*]; done)), H', ⟨by have := HJ1.out; first | omega | exact Nat.le_refl _⟩, by repeat (first | exact Drawn0.refl _ | apply Drawn0.step)⟩
      · rw [if_neg c6] at H
        have c6b0 : decide (2 ≤ a0) = false := decide_eq_false c6
        clear c6
        (first | rw [c6b0] | (simp only [i64_w, i32_w]; rw [c6b0]) | skip)
        have H' := Aside0.mk H
        clear H
        go_wp2
        go_meet
        case rel => exact ⟨_, (false), (by first | rfl | (simp; done) | (simp [*]; done)), H', ⟨by have := HJ1.out; first | omega | exact Nat.le_refl _⟩, by repeat (first | exact Drawn0.refl _ | apply Drawn0.step)⟩
     case rest =>
      clear HC5
      try clear c1
      try clear p2
      try clear c3
      try clear c3b0
      try clear c3b1
      try clear c4
      try clear c6
      try clear c6b0
      try clear p2
      obtain ⟨kq, x10_4, rfl, HA, HJ4, ⟨mc4, rfl⟩⟩ := hcut
      cases kq with
      | zero => exact absurd HA.out (by simp [asm_classes.j1])
      | succ kj4 =>
       have H := HA.out
       clear HA
       simp only [asm_classes.j1] at H
       by_cases c7 : x10_4 = true
       · subst c7
         have H1 : (some (⟨#[65, 66, 67]⟩ : ByteArray)) = some r := by rw [if_pos rfl] at H; exact H
         clear H
         have H := H1
         clear H1
         obtain rfl := Option.some.inj H
         go_wp2
         go_ret
         exact ⟨by first | rfl | (simp; done) | (simp [*]; done), by repeat (first | exact Drawn0.refl _ | apply Drawn0.step)⟩
       · replace c7 := Bool.eq_false_iff.mpr c7
         subst c7
         have H1 : (if a0 = 24 then (asm_classes.j2 kj4 a0 true) else (if a0 = 28 then (asm_classes.j2 kj4 a0 true) else (asm_classes.j2 kj4 a0 (a0 == 29)))) = some r := by rw [if_neg (show ¬ (false = true) by decide)] at H; exact H
         clear H
         have H := H1
         clear H1
         have HC8 := Aside0.mk H
         clear H
         go_upto_region 5 with (fail)
         go_cut [17] (fun v17 wc => ∃ (kq : Nat) (x17_7 : Bool), v17 = .bool x17_7 ∧ Aside0 (asm_classes.j2 kq a0 x17_7 = some r) ∧ Aside0 (kq ≤ kj4) ∧ Drawn0 w wc)
         case first =>
          have H := HC8.out
          clear HC8
          by_cases c9 : a0 = 24
          · rw [if_pos c9] at H
            have c9b0 : (a0 == 24) = true := beq_iff_eq.mpr c9
            have c9b1 : (a0 != 24) = false := bne_eq_false_iff_eq.mpr c9
            clear c9
            (first | rw [c9b0] | (simp only [i64_w, i32_w]; rw [c9b0]) | skip)
            have H' := Aside0.mk H
            clear H
            go_wp2
            go_meet
            case rel => exact ⟨_, (true), (by first | rfl | (simp; done) | (simp [*]; done)), H', ⟨by have := HJ1.out; have := HJ4.out; first | omega | exact Nat.le_refl _⟩, by repeat (first | exact Drawn0.refl _ | apply Drawn0.step)⟩
          · rw [if_neg c9] at H
            have c9b0 : (a0 == 24) = false := beq_eq_false_iff_ne.mpr c9
            have c9b1 : (a0 != 24) = true := bne_iff_ne.mpr c9
            (first | rw [c9b0] | (simp only [i64_w, i32_w]; rw [c9b0]) | skip)
            by_cases c10 : a0 = 28
            · rw [if_pos c10] at H
              have c10b0 : (a0 == 28) = true := beq_iff_eq.mpr c10
              have c10b1 : (a0 != 28) = false := bne_eq_false_iff_eq.mpr c10
              clear c10
              have H' := Aside0.mk H
              clear H
              go_wp2
              go_meet
              case rel => exact ⟨_, (true), (by first | rfl | (simp; done) | (simp [*]; done)), H', ⟨by have := HJ1.out; have := HJ4.out; first | omega | exact Nat.le_refl _⟩, by repeat (first | exact Drawn0.refl _ | apply Drawn0.step)⟩
            · rw [if_neg c10] at H
              have c10b0 : (a0 == 28) = false := beq_eq_false_iff_ne.mpr c10
              have c10b1 : (a0 != 28) = true := bne_iff_ne.mpr c10
              have H' := Aside0.mk H
              clear H
              go_wp2
              go_meet
              case rel => exact ⟨_, ((a0 == 29)), (by first | rfl | (simp; done) | (simp [*]; done)), H', ⟨by have := HJ1.out; have := HJ4.out; first | omega | exact Nat.le_refl _⟩, by repeat (first | exact Drawn0.refl _ | apply Drawn0.step)⟩
         case rest =>
          clear HC8
          try clear c1
          try clear p2
          try clear c3
          try clear c3b0
          try clear c3b1
          try clear c4
          try clear c6
          try clear c6b0
          try clear c7
          try clear c9
          try clear c9b0
          try clear c9b1
          try clear c10
          try clear c10b0
          try clear c10b1
          try clear p2
          obtain ⟨kq, x17_7, rfl, HA, HJ7, ⟨mc7, rfl⟩⟩ := hcut
          cases kq with
          | zero => exact absurd HA.out (by simp [asm_classes.j2])
          | succ kj7 =>
           have H := HA.out
           clear HA
           simp only [asm_classes.j2] at H
           by_cases c11 : x17_7 = true
           · subst c11
             have H1 : (some (⟨#[73]⟩ : ByteArray)) = some r := by rw [if_pos rfl] at H; exact H
             clear H
             have H := H1
             clear H1
             obtain rfl := Option.some.inj H
             go_wp2
             go_ret
             exact ⟨by first | rfl | (simp; done) | (simp [*]; done), by repeat (first | exact Drawn0.refl _ | apply Drawn0.step)⟩
           · replace c11 := Bool.eq_false_iff.mpr c11
             subst c11
             have H1 : (if a0 = 14 then (some (⟨#[65, 73]⟩ : ByteArray)) else (if a0 = 22 then (some (⟨#[65, 73]⟩ : ByteArray)) else (if a0 = 23 then (some (⟨#[65, 73]⟩ : ByteArray)) else (if a0 = 25 then (some (⟨#[65, 73]⟩ : ByteArray)) else (if a0 = 26 then (some (⟨#[65, 73]⟩ : ByteArray)) else (if a0 = 27 then (some (⟨#[65, 73]⟩ : ByteArray)) else (some (⟨#[65, 66, 73]⟩ : ByteArray)))))))) = some r := by rw [if_neg (show ¬ (false = true) by decide)] at H; exact H
             clear H
             have H := H1
             clear H1
             by_cases c12 : a0 = 14
             · rw [if_pos c12] at H
               have c12b0 : (a0 == 14) = true := beq_iff_eq.mpr c12
               have c12b1 : (a0 != 14) = false := bne_eq_false_iff_eq.mpr c12
               clear c12
               obtain rfl := Option.some.inj H
               go_wp2
               go_ret
               exact ⟨by first | rfl | (simp; done) | (simp [*]; done), by repeat (first | exact Drawn0.refl _ | apply Drawn0.step)⟩
             · rw [if_neg c12] at H
               have c12b0 : (a0 == 14) = false := beq_eq_false_iff_ne.mpr c12
               have c12b1 : (a0 != 14) = true := bne_iff_ne.mpr c12
               by_cases c13 : a0 = 22
               · rw [if_pos c13] at H
                 have c13b0 : (a0 == 22) = true := beq_iff_eq.mpr c13
                 have c13b1 : (a0 != 22) = false := bne_eq_false_iff_eq.mpr c13
                 clear c13
                 obtain rfl := Option.some.inj H
                 go_wp2
                 go_ret
                 exact ⟨by first | rfl | (simp; done) | (simp [*]; done), by repeat (first | exact Drawn0.refl _ | apply Drawn0.step)⟩
               · rw [if_neg c13] at H
                 have c13b0 : (a0 == 22) = false := beq_eq_false_iff_ne.mpr c13
                 have c13b1 : (a0 != 22) = true := bne_iff_ne.mpr c13
                 by_cases c14 : a0 = 23
                 · rw [if_pos c14] at H
                   have c14b0 : (a0 == 23) = true := beq_iff_eq.mpr c14
                   have c14b1 : (a0 != 23) = false := bne_eq_false_iff_eq.mpr c14
                   clear c14
                   obtain rfl := Option.some.inj H
                   go_wp2
                   go_ret
                   exact ⟨by first | rfl | (simp; done) | (simp [*]; done), by repeat (first | exact Drawn0.refl _ | apply Drawn0.step)⟩
                 · rw [if_neg c14] at H
                   have c14b0 : (a0 == 23) = false := beq_eq_false_iff_ne.mpr c14
                   have c14b1 : (a0 != 23) = true := bne_iff_ne.mpr c14
                   by_cases c15 : a0 = 25
                   · rw [if_pos c15] at H
                     have c15b0 : (a0 == 25) = true := beq_iff_eq.mpr c15
                     have c15b1 : (a0 != 25) = false := bne_eq_false_iff_eq.mpr c15
                     clear c15
                     obtain rfl := Option.some.inj H
                     go_wp2
                     go_ret
                     exact ⟨by first | rfl | (simp; done) | (simp [*]; done), by repeat (first | exact Drawn0.refl _ | apply Drawn0.step)⟩
                   · rw [if_neg c15] at H
                     have c15b0 : (a0 == 25) = false := beq_eq_false_iff_ne.mpr c15
                     have c15b1 : (a0 != 25) = true := bne_iff_ne.mpr c15
                     by_cases c16 : a0 = 26
                     · rw [if_pos c16] at H
                       have c16b0 : (a0 == 26) = true := beq_iff_eq.mpr c16
                       have c16b1 : (a0 != 26) = false := bne_eq_false_iff_eq.mpr c16
                       clear c16
                       obtain rfl := Option.some.inj H
                       go_wp2
                       go_ret
                       exact ⟨by first | rfl | (simp; done) | (simp [*]; done), by repeat (first | exact Drawn0.refl _ | apply Drawn0.step)⟩
                     · rw [if_neg c16] at H
                       have c16b0 : (a0 == 26) = false := beq_eq_false_iff_ne.mpr c16
                       have c16b1 : (a0 != 26) = true := bne_iff_ne.mpr c16
                       by_cases c17 : a0 = 27
                       · rw [if_pos c17] at H
                         have c17b0 : (a0 == 27) = true := beq_iff_eq.mpr c17
                         have c17b1 : (a0 != 27) = false := bne_eq_false_iff_eq.mpr c17
                         clear c17
                         obtain rfl := Option.some.inj H
                         go_wp2
                         go_ret
                         exact ⟨by first | rfl | (simp; done) | (simp [*]; done), by repeat (first | exact Drawn0.refl _ | apply Drawn0.step)⟩
                       · rw [if_neg c17] at H
                         have c17b0 : (a0 == 27) = false := beq_eq_false_iff_ne.mpr c17
                         have c17b1 : (a0 != 27) = true := bne_iff_ne.mpr c17
                         obtain rfl := Option.some.inj H
                         go_wp2
                         go_ret
                         exact ⟨by first | rfl | (simp; done) | (simp [*]; done), by repeat (first | exact Drawn0.refl _ | apply Drawn0.step)⟩

/-! ### slices_Index_byte_byte: function 73 -/
def slices_Index_byte_byte.l0 : Nat → List Int → Int → Int → Int → Option (Int)
 | 0, _, _, _, _ => none
 | k + 1, x0, x1, x7, x8 => if x8 < x7 then (if 0 ≤ x8 then (if x8 < (x0.length : Int) then (if x1 = (rd x0 x8) then (some x8) else (slices_Index_byte_byte.l0 k x0 x1 x7 (wrap64 (x8 + 1)))) else (none)) else (none)) else (some (-1))
def slices_Index_byte_byte.f (k : Nat) (l0 : List Int) (a1 : Int) : Option (Int) := slices_Index_byte_byte.l0 k l0 a1 (l0.length : Int) 0
theorem slices_Index_byte_byte.mono_l : ∀ k, (∀ y0 y1 y2 y3, LeO (slices_Index_byte_byte.l0 k y0 y1 y2 y3) (slices_Index_byte_byte.l0 (k + 1) y0 y1 y2 y3))
 | 0 => fun _ _ _ _ r h => by simp [slices_Index_byte_byte.l0] at h
 | k + 1 => by
  have ih0 := slices_Index_byte_byte.mono_l k
  · intro y0 y1 y2 y3
    unfold slices_Index_byte_byte.l0
    repeat' first
    | (with_reducible exact ih0 _ _ _ _)
    | (with_reducible exact LeO.refl _)
    | (with_reducible exact LeO.none _)
    | (with_reducible refine LeO.ite ?_ ?_)
    | (with_reducible refine LeO.bind ?_ (fun _ => ?_))
    | exact ih0 _ _ _ _
    | exact LeO.none _
    | refine LeO.ite ?_ ?_
    | refine LeO.bind ?_ (fun _ => ?_)
theorem slices_Index_byte_byte.mono : ∀ a0 a1 k, LeO (slices_Index_byte_byte.f k a0 a1) (slices_Index_byte_byte.f (k + 1) a0 a1) := by
 intro a0 a1 k
 have ih0 := slices_Index_byte_byte.mono_l k
 unfold slices_Index_byte_byte.f
 repeat' first
  | (with_reducible exact ih0 _ _ _ _)
  | (with_reducible exact LeO.refl _)
  | (with_reducible exact LeO.none _)
  | (with_reducible refine LeO.ite ?_ ?_)
  | (with_reducible refine LeO.bind ?_ (fun _ => ?_))
  | exact ih0 _ _ _ _
  | exact LeO.none _
  | refine LeO.ite ?_ ?_
  | refine LeO.bind ?_ (fun _ => ?_)
set_option maxHeartbeats 8000000 in
set_option maxRecDepth 100000 in
theorem slices_Index_byte_byte.calls (k : Nat) (A0 : Option Addr) (c0 : Nat) (l0 : List Int) (a1 : Int) (r : Int) (w : World) (hr0 : Kd.C (Kd.int .u8) w A0 l0.length l0) (hc0 : l0.length ≤ c0) (h : slices_Index_byte_byte.f k l0 a1 = some r) :
 Calls Tryd.prog 73 #[.slice A0 l0.length c0, .int .u8 a1] w fun e w' => e = .returned (.int .i64 r) ∧ Drawn0 w w' := by
 have HR0 := Aside0.mk hr0
 have HC0 := Aside0.mk hc0
 clear hr0 hc0
 have H : (slices_Index_byte_byte.l0 k l0 a1 (l0.length : Int) 0) = some r := h
 clear h
 have H' := Aside0.mk H
 clear H
 go_enter Tryd.func73, Tryd.ntmps73
 go_wp2
 go_loopg [8] k (fun kq v8 w' => ∃ (x8_1 : Int), v8 = .int .i64 x8_1 ∧ Aside0 (slices_Index_byte_byte.l0 kq l0 a1 (l0.length : Int) x8_1 = some r) ∧ Aside0 (kq ≤ k) ∧ Drawn0 w w')
 case atStart => exact ⟨(0), (by first | rfl | (simp; done) | (simp [*]; done)), H', ⟨Nat.le_refl _⟩, by repeat (first | exact Drawn0.refl _ | apply Drawn0.step)⟩
 case round =>
  clear H'
  try clear p2
  obtain ⟨x8_1, rfl, HA, HK1, ⟨m1, rfl⟩⟩ := hrel
  cases gk with
  | zero => exact absurd HA.out (by simp [slices_Index_byte_byte.l0])
  | succ k1 =>
   have H := HA.out
   clear HA
   simp only [slices_Index_byte_byte.l0] at H
   by_cases c3 : x8_1 < (l0.length : Int)
   · rw [if_pos c3] at H
     have c3b0 : decide (x8_1 < (l0.length : Int)) = true := decide_eq_true c3
     clear c3
     by_cases c4 : 0 ≤ x8_1
     · rw [if_pos c4] at H
       have c4b0 : decide (0 ≤ x8_1) = true := decide_eq_true c4
       clear c4
       by_cases c5 : x8_1 < (l0.length : Int)
       · rw [if_pos c5] at H
         have c5b0 : decide (x8_1 < (l0.length : Int)) = true := decide_eq_true c5
         clear c5
         by_cases c6 : a1 = (rd l0 x8_1)
         · rw [if_pos c6] at H
           have c6b0 : (a1 == (rd l0 x8_1)) = true := beq_iff_eq.mpr c6
           have c6b1 : (a1 != (rd l0 x8_1)) = false := bne_eq_false_iff_eq.mpr c6
           clear c6
           obtain rfl := Option.some.inj H
           have p130 : 0 ≤ (x8_1 : Int) := of_decide_eq_true (by first | (with_reducible assumption) | assumption)
           have q130 : x8_1 < (l0.length : Int) := of_decide_eq_true (by first | (with_reducible assumption) | assumption)
           obtain ⟨ad130, e130, hx130_0⟩ := Kd.at_int HR0.out x8_1 p130 q130
           cases e130
           replace p130 := eq_true p130
           replace q130 := eq_true q130
           go_wp2
           go_ret
           exact ⟨by first | rfl | (simp; done) | (simp [*]; done), by repeat (first | exact Drawn0.refl _ | apply Drawn0.step)⟩
         · rw [if_neg c6] at H
           have c6b0 : (a1 == (rd l0 x8_1)) = false := beq_eq_false_iff_ne.mpr c6
           have c6b1 : (a1 != (rd l0 x8_1)) = true := bne_iff_ne.mpr c6
           have H' := Aside0.mk H
           clear H
           have p130 : 0 ≤ (x8_1 : Int) := of_decide_eq_true (by first | (with_reducible assumption) | assumption)
           have q130 : x8_1 < (l0.length : Int) := of_decide_eq_true (by first | (with_reducible assumption) | assumption)
           obtain ⟨ad130, e130, hx130_0⟩ := Kd.at_int HR0.out x8_1 p130 q130
           cases e130
           replace p130 := eq_true p130
           replace q130 := eq_true q130
           go_wp2
           go_roundg k1
           case measure => have := HK1.out; omega
           case rel => exact ⟨(wrap64 (x8_1 + 1)), (by first | rfl | (simp; done) | (simp [*]; done)), H', ⟨by have := HK1.out; omega⟩, by repeat (first | exact Drawn0.refl _ | apply Drawn0.step)⟩
       · rw [if_neg c5] at H
         exact absurd H (by simp)
     · rw [if_neg c4] at H
       exact absurd H (by simp)
   · rw [if_neg c3] at H
     have c3b0 : decide (x8_1 < (l0.length : Int)) = false := decide_eq_false c3
     clear c3
     obtain rfl := Option.some.inj H
     go_wp2
     go_ret
     exact ⟨by first | rfl | (simp; done) | (simp [*]; done), by repeat (first | exact Drawn0.refl _ | apply Drawn0.step)⟩

/-! ### slices_Contains_byte_byte: function 61 -/
def slices_Contains_byte_byte.f (k : Nat) (l0 : List Int) (a1 : Int) : Option (Bool) := (slices_Index_byte_byte.f k l0 a1).bind fun t131 => (some (decide (t131 ≥ 0)))
theorem slices_Contains_byte_byte.mono : ∀ a0 a1 k, LeO (slices_Contains_byte_byte.f k a0 a1) (slices_Contains_byte_byte.f (k + 1) a0 a1) := by
 intro a0 a1 k
 unfold slices_Contains_byte_byte.f
 repeat' first
  | (with_reducible exact slices_Index_byte_byte.mono _ _ _)
  | (with_reducible exact LeO.refl _)
  | (with_reducible exact LeO.none _)
  | (with_reducible refine LeO.ite ?_ ?_)
  | (with_reducible refine LeO.bind ?_ (fun _ => ?_))
  | exact slices_Index_byte_byte.mono _ _ _
  | exact LeO.none _
  | refine LeO.ite ?_ ?_
  | refine LeO.bind ?_ (fun _ => ?_)
set_option maxHeartbeats 8000000 in
set_option maxRecDepth 100000 in
theorem slices_Contains_byte_byte.calls (k : Nat) (A0 : Option Addr) (c0 : Nat) (l0 : List Int) (a1 : Int) (r : Bool) (w : World) (hr0 : Kd.C (Kd.int .u8) w A0 l0.length l0) (hc0 : l0.length ≤ c0) (h : slices_Contains_byte_byte.f k l0 a1 = some r) :
 Calls Tryd.prog 61 #[.slice A0 l0.length c0, .int .u8 a1] w fun e w' => e = .returned (.bool r) ∧ Drawn0 w w' := by
 have HR0 := Aside0.mk hr0
 have HC0 := Aside0.mk hc0
 clear hr0 hc0
 have H : ((slices_Index_byte_byte.f k l0 a1).bind fun t131 => (some (decide (t131 ≥ 0)))) = some r := h
 clear h
 replace H := Option.bind_eq_some_iff.mp H
 obtain ⟨t131, A30, H⟩ := H
 replace H : (some (decide (t131 ≥ 0))) = some r := H
 have A3 := Aside0.mk A30
 clear A30
 obtain rfl := Option.some.inj H
 go_enter Tryd.func61, Tryd.ntmps61
 go_wp2_with (first | ((with_reducible refine gate_callee (f := 73) rfl ?_); refine goesL_ (some 7) rfl rfl Tryd.func73 (by kernel_rfl) rfl #[.slice A0 l0.length c0, .int .u8 a1] rfl (by (try simp only [List.map_toArray, List.map_cons, List.map_nil]); first | done | rfl | (simp only [List.length_drop, List.length_take]; rfl)) ?_; (with_reducible refine (slices_Index_byte_byte.calls k _ _ l0 a1 t131 _ ?side1 ?side2 A3.out).mono ?_); (case side1 => repeat (first | exact HR0.out | (with_reducible refine Kd.C_alloc ?_ _) | (with_reducible refine Kd.C_drewN ?_ _) | (with_reducible refine Kd.C_drew ?_))); (case side2 => exact HC0.out); rintro e w' ⟨rfl, ⟨nd, rfl⟩⟩; refine ⟨_, rfl, ?_⟩))
 go_ret
 exact ⟨by first | rfl | (simp; done) | (simp [*]; done), by repeat (first | exact Drawn0.refl _ | apply Drawn0.step)⟩

/-! ### asm_blank: function 34 -/
def asm_blank.f (a0 : Int) : Option (Bool) := if a0 = 32 then (some true) else (some (a0 == 9))
set_option maxHeartbeats 8000000 in
set_option maxRecDepth 100000 in
theorem asm_blank.calls (a0 : Int) (r : Bool) (w : World) (h : asm_blank.f a0 = some r) :
 Calls Tryd.prog 34 #[.int .i32 a0] w fun e w' => e = .returned (.bool r) ∧ Drawn0 w w' := by
 have H : (if a0 = 32 then (some true) else (some (a0 == 9))) = some r := h
 clear h
 by_cases c2 : a0 = 32
 · rw [if_pos c2] at H
   have c2b0 : (a0 == 32) = true := beq_iff_eq.mpr c2
   have c2b1 : (a0 != 32) = false := bne_eq_false_iff_eq.mpr c2
   clear c2
   obtain rfl := Option.some.inj H
   go_enter Tryd.func34, Tryd.ntmps34
   go_wp2
   go_ret
   exact ⟨by first | rfl | (simp; done) | (simp [*]; done), by repeat (first | exact Drawn0.refl _ | apply Drawn0.step)⟩
 · rw [if_neg c2] at H
   have c2b0 : (a0 == 32) = false := beq_eq_false_iff_ne.mpr c2
   have c2b1 : (a0 != 32) = true := bne_iff_ne.mpr c2
   obtain rfl := Option.some.inj H
   go_enter Tryd.func34, Tryd.ntmps34
   go_wp2
   go_ret
   exact ⟨by first | rfl | (simp; done) | (simp [*]; done), by repeat (first | exact Drawn0.refl _ | apply Drawn0.step)⟩

/-! ### ontimeref05_Names: function 46 -/
def ontimeref05_Names.f  : Option (List ByteArray) := some (([(⟨#[110, 111, 112]⟩ : ByteArray), (⟨#[104, 97, 108, 116]⟩ : ByteArray), (⟨#[97, 100, 100]⟩ : ByteArray), (⟨#[115, 117, 98]⟩ : ByteArray), (⟨#[109, 117, 108]⟩ : ByteArray), (⟨#[100, 105, 118]⟩ : ByteArray), (⟨#[109, 111, 100]⟩ : ByteArray), (⟨#[97, 110, 100]⟩ : ByteArray), (⟨#[111, 114]⟩ : ByteArray), (⟨#[120, 111, 114]⟩ : ByteArray), (⟨#[115, 104, 108]⟩ : ByteArray), (⟨#[115, 104, 114]⟩ : ByteArray), (⟨#[101, 113]⟩ : ByteArray), (⟨#[108, 116]⟩ : ByteArray), (⟨#[108, 105]⟩ : ByteArray), (⟨#[97, 100, 100, 105]⟩ : ByteArray), (⟨#[115, 104, 108, 105]⟩ : ByteArray), (⟨#[111, 114, 105]⟩ : ByteArray), (⟨#[108, 100]⟩ : ByteArray), (⟨#[115, 116]⟩ : ByteArray), (⟨#[108, 100, 115]⟩ : ByteArray), (⟨#[115, 116, 115]⟩ : ByteArray), (⟨#[98, 101, 113, 122]⟩ : ByteArray), (⟨#[98, 110, 101, 122]⟩ : ByteArray), (⟨#[106, 109, 112]⟩ : ByteArray), (⟨#[98, 111, 117, 110, 100]⟩ : ByteArray), (⟨#[105, 110]⟩ : ByteArray), (⟨#[111, 117, 116]⟩ : ByteArray), (⟨#[108, 111, 99, 107]⟩ : ByteArray), (⟨#[117, 110, 108, 111, 99, 107]⟩ : ByteArray)] : List ByteArray))
set_option maxHeartbeats 8000000 in
set_option maxRecDepth 100000 in
theorem ontimeref05_Names.calls  (r : List ByteArray) (w : World) (h : ontimeref05_Names.f  = some r) :
 Calls Tryd.prog 46 #[] w fun e w' => ∃ v0_ : Value, e = .returned (v0_) ∧ Kd.R Kd.string 9 w' w.heap.size (fun _ => True) v0_ r ∧ Below w.heap.size w w' := by
 have HB := Aside0.mk (Below.refl w.heap.size w)
 have H : (some (([(⟨#[110, 111, 112]⟩ : ByteArray), (⟨#[104, 97, 108, 116]⟩ : ByteArray), (⟨#[97, 100, 100]⟩ : ByteArray), (⟨#[115, 117, 98]⟩ : ByteArray), (⟨#[109, 117, 108]⟩ : ByteArray), (⟨#[100, 105, 118]⟩ : ByteArray), (⟨#[109, 111, 100]⟩ : ByteArray), (⟨#[97, 110, 100]⟩ : ByteArray), (⟨#[111, 114]⟩ : ByteArray), (⟨#[120, 111, 114]⟩ : ByteArray), (⟨#[115, 104, 108]⟩ : ByteArray), (⟨#[115, 104, 114]⟩ : ByteArray), (⟨#[101, 113]⟩ : ByteArray), (⟨#[108, 116]⟩ : ByteArray), (⟨#[108, 105]⟩ : ByteArray), (⟨#[97, 100, 100, 105]⟩ : ByteArray), (⟨#[115, 104, 108, 105]⟩ : ByteArray), (⟨#[111, 114, 105]⟩ : ByteArray), (⟨#[108, 100]⟩ : ByteArray), (⟨#[115, 116]⟩ : ByteArray), (⟨#[108, 100, 115]⟩ : ByteArray), (⟨#[115, 116, 115]⟩ : ByteArray), (⟨#[98, 101, 113, 122]⟩ : ByteArray), (⟨#[98, 110, 101, 122]⟩ : ByteArray), (⟨#[106, 109, 112]⟩ : ByteArray), (⟨#[98, 111, 117, 110, 100]⟩ : ByteArray), (⟨#[105, 110]⟩ : ByteArray), (⟨#[111, 117, 116]⟩ : ByteArray), (⟨#[108, 111, 99, 107]⟩ : ByteArray), (⟨#[117, 110, 108, 111, 99, 107]⟩ : ByteArray)] : List ByteArray))) = some r := h
 clear h
 obtain ⟨y165, hy165⟩ : ∃ y_ : List ByteArray, y_ = (([(⟨#[110, 111, 112]⟩ : ByteArray), (⟨#[104, 97, 108, 116]⟩ : ByteArray), (⟨#[97, 100, 100]⟩ : ByteArray), (⟨#[115, 117, 98]⟩ : ByteArray), (⟨#[109, 117, 108]⟩ : ByteArray), (⟨#[100, 105, 118]⟩ : ByteArray), (⟨#[109, 111, 100]⟩ : ByteArray), (⟨#[97, 110, 100]⟩ : ByteArray), (⟨#[111, 114]⟩ : ByteArray), (⟨#[120, 111, 114]⟩ : ByteArray), (⟨#[115, 104, 108]⟩ : ByteArray), (⟨#[115, 104, 114]⟩ : ByteArray), (⟨#[101, 113]⟩ : ByteArray), (⟨#[108, 116]⟩ : ByteArray), (⟨#[108, 105]⟩ : ByteArray), (⟨#[97, 100, 100, 105]⟩ : ByteArray), (⟨#[115, 104, 108, 105]⟩ : ByteArray), (⟨#[111, 114, 105]⟩ : ByteArray), (⟨#[108, 100]⟩ : ByteArray), (⟨#[115, 116]⟩ : ByteArray), (⟨#[108, 100, 115]⟩ : ByteArray), (⟨#[115, 116, 115]⟩ : ByteArray), (⟨#[98, 101, 113, 122]⟩ : ByteArray), (⟨#[98, 110, 101, 122]⟩ : ByteArray), (⟨#[106, 109, 112]⟩ : ByteArray), (⟨#[98, 111, 117, 110, 100]⟩ : ByteArray), (⟨#[105, 110]⟩ : ByteArray), (⟨#[111, 117, 116]⟩ : ByteArray), (⟨#[108, 111, 99, 107]⟩ : ByteArray), (⟨#[117, 110, 108, 111, 99, 107]⟩ : ByteArray)] : List ByteArray)) := ⟨_, rfl⟩
 replace H : (some y165) = some r := by first | (rw [hy165]; with_reducible exact H) | (have H2_ := (Option.bind_some _ _).symm.trans H; rw [hy165]; with_reducible exact H2_) | (have H2_ := (Option.bind_some _ _).symm.trans H; with_reducible exact H2_) | with_reducible exact H | (rw [hy165]; exact H) | exact H
 have Ny165 := Aside0.mk hy165
 clear hy165
 obtain rfl := Option.some.inj H
 go_enter Tryd.func46, Tryd.ntmps46
 go_wp2_with (first | ((with_reducible refine gate_dst (N := 1) rfl ?_); refine Kd.R_lit Kd.string _ 9 ?hg (N := 1) ?hd (xs := ([(⟨#[110, 111, 112]⟩ : ByteArray), (⟨#[104, 97, 108, 116]⟩ : ByteArray), (⟨#[97, 100, 100]⟩ : ByteArray), (⟨#[115, 117, 98]⟩ : ByteArray), (⟨#[109, 117, 108]⟩ : ByteArray), (⟨#[100, 105, 118]⟩ : ByteArray), (⟨#[109, 111, 100]⟩ : ByteArray), (⟨#[97, 110, 100]⟩ : ByteArray), (⟨#[111, 114]⟩ : ByteArray), (⟨#[120, 111, 114]⟩ : ByteArray), (⟨#[115, 104, 108]⟩ : ByteArray), (⟨#[115, 104, 114]⟩ : ByteArray), (⟨#[101, 113]⟩ : ByteArray), (⟨#[108, 116]⟩ : ByteArray), (⟨#[108, 105]⟩ : ByteArray), (⟨#[97, 100, 100, 105]⟩ : ByteArray), (⟨#[115, 104, 108, 105]⟩ : ByteArray), (⟨#[111, 114, 105]⟩ : ByteArray), (⟨#[108, 100]⟩ : ByteArray), (⟨#[115, 116]⟩ : ByteArray), (⟨#[108, 100, 115]⟩ : ByteArray), (⟨#[115, 116, 115]⟩ : ByteArray), (⟨#[98, 101, 113, 122]⟩ : ByteArray), (⟨#[98, 110, 101, 122]⟩ : ByteArray), (⟨#[106, 109, 112]⟩ : ByteArray), (⟨#[98, 111, 117, 110, 100]⟩ : ByteArray), (⟨#[105, 110]⟩ : ByteArray), (⟨#[111, 117, 116]⟩ : ByteArray), (⟨#[108, 111, 99, 107]⟩ : ByteArray), (⟨#[117, 110, 108, 111, 99, 107]⟩ : ByteArray)] : List ByteArray)) (inner := [.string (⟨#[110, 111, 112]⟩ : ByteArray), .string (⟨#[104, 97, 108, 116]⟩ : ByteArray), .string (⟨#[97, 100, 100]⟩ : ByteArray), .string (⟨#[115, 117, 98]⟩ : ByteArray), .string (⟨#[109, 117, 108]⟩ : ByteArray), .string (⟨#[100, 105, 118]⟩ : ByteArray), .string (⟨#[109, 111, 100]⟩ : ByteArray), .string (⟨#[97, 110, 100]⟩ : ByteArray), .string (⟨#[111, 114]⟩ : ByteArray), .string (⟨#[120, 111, 114]⟩ : ByteArray), .string (⟨#[115, 104, 108]⟩ : ByteArray), .string (⟨#[115, 104, 114]⟩ : ByteArray), .string (⟨#[101, 113]⟩ : ByteArray), .string (⟨#[108, 116]⟩ : ByteArray), .string (⟨#[108, 105]⟩ : ByteArray), .string (⟨#[97, 100, 100, 105]⟩ : ByteArray), .string (⟨#[115, 104, 108, 105]⟩ : ByteArray), .string (⟨#[111, 114, 105]⟩ : ByteArray), .string (⟨#[108, 100]⟩ : ByteArray), .string (⟨#[115, 116]⟩ : ByteArray), .string (⟨#[108, 100, 115]⟩ : ByteArray), .string (⟨#[115, 116, 115]⟩ : ByteArray), .string (⟨#[98, 101, 113, 122]⟩ : ByteArray), .string (⟨#[98, 110, 101, 122]⟩ : ByteArray), .string (⟨#[106, 109, 112]⟩ : ByteArray), .string (⟨#[98, 111, 117, 110, 100]⟩ : ByteArray), .string (⟨#[105, 110]⟩ : ByteArray), .string (⟨#[111, 117, 116]⟩ : ByteArray), .string (⟨#[108, 111, 99, 107]⟩ : ByteArray), .string (⟨#[117, 110, 108, 111, 99, 107]⟩ : ByteArray)]) (ok := fun _ => True) (okp := fun _ => True) ?hr ?hp (fun _ hk => hk) trivial (Below.refl _ _) (Nat.le_refl _) (by simp) ?_; (case hd => rfl); (case hg => rfl); (case hr => first | (go_simp; done) | (go_simp; rfl)); (case hp => exact (Reps.one (show Kd.M Kd.string _ _ _ (⟨#[110, 111, 112]⟩ : ByteArray) [.string (⟨#[110, 111, 112]⟩ : ByteArray)] from rfl) (Reps.one (show Kd.M Kd.string _ _ _ (⟨#[104, 97, 108, 116]⟩ : ByteArray) [.string (⟨#[104, 97, 108, 116]⟩ : ByteArray)] from rfl) (Reps.one (show Kd.M Kd.string _ _ _ (⟨#[97, 100, 100]⟩ : ByteArray) [.string (⟨#[97, 100, 100]⟩ : ByteArray)] from rfl) (Reps.one (show Kd.M Kd.string _ _ _ (⟨#[115, 117, 98]⟩ : ByteArray) [.string (⟨#[115, 117, 98]⟩ : ByteArray)] from rfl) (Reps.one (show Kd.M Kd.string _ _ _ (⟨#[109, 117, 108]⟩ : ByteArray) [.string (⟨#[109, 117, 108]⟩ : ByteArray)] from rfl) (Reps.one (show Kd.M Kd.string _ _ _ (⟨#[100, 105, 118]⟩ : ByteArray) [.string (⟨#[100, 105, 118]⟩ : ByteArray)] from rfl) (Reps.one (show Kd.M Kd.string _ _ _ (⟨#[109, 111, 100]⟩ : ByteArray) [.string (⟨#[109, 111, 100]⟩ : ByteArray)] from rfl) (Reps.one (show Kd.M Kd.string _ _ _ (⟨#[97, 110, 100]⟩ : ByteArray) [.string (⟨#[97, 110, 100]⟩ : ByteArray)] from rfl) (Reps.one (show Kd.M Kd.string _ _ _ (⟨#[111, 114]⟩ : ByteArray) [.string (⟨#[111, 114]⟩ : ByteArray)] from rfl) (Reps.one (show Kd.M Kd.string _ _ _ (⟨#[120, 111, 114]⟩ : ByteArray) [.string (⟨#[120, 111, 114]⟩ : ByteArray)] from rfl) (Reps.one (show Kd.M Kd.string _ _ _ (⟨#[115, 104, 108]⟩ : ByteArray) [.string (⟨#[115, 104, 108]⟩ : ByteArray)] from rfl) (Reps.one (show Kd.M Kd.string _ _ _ (⟨#[115, 104, 114]⟩ : ByteArray) [.string (⟨#[115, 104, 114]⟩ : ByteArray)] from rfl) (Reps.one (show Kd.M Kd.string _ _ _ (⟨#[101, 113]⟩ : ByteArray) [.string (⟨#[101, 113]⟩ : ByteArray)] from rfl) (Reps.one (show Kd.M Kd.string _ _ _ (⟨#[108, 116]⟩ : ByteArray) [.string (⟨#[108, 116]⟩ : ByteArray)] from rfl) (Reps.one (show Kd.M Kd.string _ _ _ (⟨#[108, 105]⟩ : ByteArray) [.string (⟨#[108, 105]⟩ : ByteArray)] from rfl) (Reps.one (show Kd.M Kd.string _ _ _ (⟨#[97, 100, 100, 105]⟩ : ByteArray) [.string (⟨#[97, 100, 100, 105]⟩ : ByteArray)] from rfl) (Reps.one (show Kd.M Kd.string _ _ _ (⟨#[115, 104, 108, 105]⟩ : ByteArray) [.string (⟨#[115, 104, 108, 105]⟩ : ByteArray)] from rfl) (Reps.one (show Kd.M Kd.string _ _ _ (⟨#[111, 114, 105]⟩ : ByteArray) [.string (⟨#[111, 114, 105]⟩ : ByteArray)] from rfl) (Reps.one (show Kd.M Kd.string _ _ _ (⟨#[108, 100]⟩ : ByteArray) [.string (⟨#[108, 100]⟩ : ByteArray)] from rfl) (Reps.one (show Kd.M Kd.string _ _ _ (⟨#[115, 116]⟩ : ByteArray) [.string (⟨#[115, 116]⟩ : ByteArray)] from rfl) (Reps.one (show Kd.M Kd.string _ _ _ (⟨#[108, 100, 115]⟩ : ByteArray) [.string (⟨#[108, 100, 115]⟩ : ByteArray)] from rfl) (Reps.one (show Kd.M Kd.string _ _ _ (⟨#[115, 116, 115]⟩ : ByteArray) [.string (⟨#[115, 116, 115]⟩ : ByteArray)] from rfl) (Reps.one (show Kd.M Kd.string _ _ _ (⟨#[98, 101, 113, 122]⟩ : ByteArray) [.string (⟨#[98, 101, 113, 122]⟩ : ByteArray)] from rfl) (Reps.one (show Kd.M Kd.string _ _ _ (⟨#[98, 110, 101, 122]⟩ : ByteArray) [.string (⟨#[98, 110, 101, 122]⟩ : ByteArray)] from rfl) (Reps.one (show Kd.M Kd.string _ _ _ (⟨#[106, 109, 112]⟩ : ByteArray) [.string (⟨#[106, 109, 112]⟩ : ByteArray)] from rfl) (Reps.one (show Kd.M Kd.string _ _ _ (⟨#[98, 111, 117, 110, 100]⟩ : ByteArray) [.string (⟨#[98, 111, 117, 110, 100]⟩ : ByteArray)] from rfl) (Reps.one (show Kd.M Kd.string _ _ _ (⟨#[105, 110]⟩ : ByteArray) [.string (⟨#[105, 110]⟩ : ByteArray)] from rfl) (Reps.one (show Kd.M Kd.string _ _ _ (⟨#[111, 117, 116]⟩ : ByteArray) [.string (⟨#[111, 117, 116]⟩ : ByteArray)] from rfl) (Reps.one (show Kd.M Kd.string _ _ _ (⟨#[108, 111, 99, 107]⟩ : ByteArray) [.string (⟨#[108, 111, 99, 107]⟩ : ByteArray)] from rfl) (Reps.one (show Kd.M Kd.string _ _ _ (⟨#[117, 110, 108, 111, 99, 107]⟩ : ByteArray) [.string (⟨#[117, 110, 108, 111, 99, 107]⟩ : ByteArray)] from rfl) (Reps.none _ _)))))))))))))))))))))))))))))))); intro v166 w1 ho2 hb hg_ hnew_; clear hg_ hnew_; (first | rw [← Ny165.out] at ho2 | (simp only [Int.reduceToNat] at ho2; rw [← Ny165.out] at ho2)); have n0_ := Aside0.mk (Kd.R_lower ho2 (below_size (by repeat (first | (with_reducible first | exact HB.out | apply below_alloc | apply pw_below_drewN | apply below_drew1) | exact HB.out)))); have n1_ := Aside0.mk (below_step (by repeat (first | (with_reducible first | exact HB.out | apply below_alloc | apply pw_below_drewN | apply below_drew1) | exact HB.out)) hb); clear HB; have HO167 := n0_; have HB := n1_; clear n0_ n1_; clear hb ho2))
 go_ret
 exact ⟨_, by first | rfl | (simp [errW_none, errW_some] <;> rfl) | (simp [*, errW_none, errW_some] <;> rfl), by (with_reducible repeat (first | apply Kd.R_alloc | apply Kd.R_drewN | apply Kd.R_drew)); exact HO167.out, by repeat (first | (with_reducible first | exact HB.out | apply below_alloc | apply pw_below_drewN | apply below_drew1) | exact HB.out)⟩

end Go.Proofs.YtchlcncffillbaaDoor.P
