import Derived.Test.YtchlcncffillbaaDoorES
import Derived.Outline
import Derived.Lib.SmallJoins
namespace Go.Proofs.YtchlcncffillbaaDoor.P
open Go.RowKit Go.Proofs.YtchlcncffillbaaDoorW.PrintWords Go.Proofs.YtchlcncffillbaaDoorW.PrintLast Go.Proofs.YtchlcncffillbaaDoorW.PrintMore

/-- The bytes of a string, as numbers. -/
def nat8 (s : ByteArray) : List Int := s.data.toList.map fun b => (b.toNat : Int)
theorem nat8_length (s : ByteArray) : (nat8 s).length = s.size := by unfold nat8; rw [List.length_map, Array.length_toList]; rfl
theorem nat8_getD (s : ByteArray) (j : Nat) : (nat8 s).getD j 0 = ((s.data.toList.getD j 0).toNat : Int) := by
  simp only [nat8, List.getD_eq_getElem?_getD, List.getElem?_map]
  cases s.data.toList[j]? <;> rfl
/-- Does an operand occur? -/
def hasB (s : ByteArray) (c : Int) : Bool := (nat8 s).contains c

theorem index_l0 (l : List Int) (c : Int) (hl : l.length ≤ 1000000) : ∀ (d k i : Nat), i + d = l.length → d < k →
    ∃ r, slices_Index_byte_byte.l0 k l c (l.length : Int) i = some r ∧ decide (r ≥ 0) = (l.drop i).contains c := by
  intro d
  induction d with
  | zero =>
    intro k i hi hk
    obtain ⟨k, rfl⟩ : ∃ m, k = m + 1 := ⟨k - 1, by omega⟩
    refine ⟨-1, ?_, ?_⟩
    · simp only [slices_Index_byte_byte.l0]; rw [if_neg (by omega)]
    · rw [List.drop_eq_nil_of_le (by omega)]; rfl
  | succ d ih =>
    intro k i hi hk
    obtain ⟨k, rfl⟩ : ∃ m, k = m + 1 := ⟨k - 1, by omega⟩
    have hlt : i < l.length := by omega
    have hd : l.drop i = l[i] :: l.drop (i + 1) := List.drop_eq_getElem_cons hlt
    have hrd : rd l (i : Int) = l[i] := by simp [rd, List.getD_eq_getElem?_getD, hlt]
    simp only [slices_Index_byte_byte.l0]
    rw [if_pos (by omega), if_pos (by omega), if_pos (by omega), hrd, hd, List.contains_cons]
    by_cases h : c = l[i]
    · rw [if_pos h]
      refine ⟨_, rfl, ?_⟩
      simp [h]
    · rw [if_neg h]
      obtain ⟨r, hr, hr'⟩ := ih k (i + 1) (by omega) (by omega)
      refine ⟨r, ?_, ?_⟩
      · rw [← hr]; congr 1; unfold wrap64; omega
      · rw [hr']; simp [h]

theorem contains_f (l : List Int) (c : Int) (hl : l.length ≤ 1000000) : slices_Contains_byte_byte.f (l.length + 1) l c = some (l.contains c) := by
  obtain ⟨r, hr, hr'⟩ := index_l0 l c hl l.length (l.length + 1) 0 (by omega) (by omega)
  unfold slices_Contains_byte_byte.f slices_Index_byte_byte.f
  rw [show (0 : Int) = ((0 : Nat) : Int) from rfl, hr]
  simp only [Option.bind_some]
  rw [show ((0 : Nat) : Int) = (0 : Int) from rfl, hr']
  rfl

theorem below_bytes (w : World) (e : TypeId) (s : ByteArray) : Below w.heap.size w (Lib.bytesWorld w e s) :=
  ⟨rfl, rfl, rfl, by rw [Lib.bytesWorld_size]; omega, fun k hk => Lib.bytesWorld_at_old w e s k hk⟩

set_option maxHeartbeats 400000 in
set_option maxRecDepth 100000 in
theorem hasC (s : ByteArray) (c : Int) (hs : s.size ≤ 1000000) (w : World) :
    Calls Tryd.prog 45 #[.string s, .int .u8 c] w fun e w' => e = .returned (.bool (hasB s c)) ∧ Below w.heap.size w w' := by
  have hc := Lib.run_convert_string_bytes (P := Tryd.prog) w 9 36 5 s Tryd.underlying9 Tryd.underlying36 Tryd.underlying5
  have hR : Kd.C (Kd.int .u8) (Lib.bytesWorld w 5 s) (some ⟨w.heap.size, 0, none⟩) (nat8 s).length (nat8 s) :=
    Kd.C_of_reads (d := (0 : Int)) (h1 := fun _ => rfl) ⟨rfl, by rw [nat8_length]; omega, fun _ => ⟨_, rfl, fun j hj => by
      rw [add_plain, Lib.bytesWorld_cell _ _ _ _ (by rw [← nat8_length]; exact hj), nat8_getD]⟩⟩
  have hcap : (nat8 s).length ≤ grownCap w s.size 0 5 := by rw [nat8_length]; exact grownCap_ge w s.size 0 5
  have H := slices_Contains_byte_byte.calls ((nat8 s).length + 1) (some ⟨w.heap.size, 0, none⟩) (grownCap w s.size 0 5) (nat8 s) c _ (Lib.bytesWorld w 5 s) hR hcap (show _ = some (hasB s c) from contains_f (nat8 s) c (by rw [nat8_length]; omega))
  rw [nat8_length] at H
  clear hR hcap
  go_enter Tryd.func45, Tryd.ntmps45
  go_wp2_with fail
  refine H.mono ?_
  rintro e w1 ⟨rfl, hd⟩
  clear H hc
  go_wp2
  go_ret
  exact ⟨rfl, (below_bytes w 5 s).trans (hd.below.mono (by rw [Lib.bytesWorld_size]; omega))⟩

/-- An operand's place among those of an instruction, its letter, its bounds. -/
def opd (a b c i : Int) : Nat → Int | 0 => a | 1 => b | 2 => c | _ => i
def ltr : Nat → Int | 0 => 97 | 1 => 98 | 2 => 99 | _ => 105
def loOf (R : S76) (j : Nat) : Int := if hasB R.f1 (ltr j) = true then (if j = 3 then R.f2 else 0) else 0
def hiOf (R : S76) (j : Nat) : Int := if hasB R.f1 (ltr j) = true then (if j = 3 then R.f3 else 15) else 0
def chk (R : S76) (a b c i : Int) (j : Nat) : Bool := decide (loOf R j ≤ opd a b c i j) && decide (opd a b c i j ≤ hiOf R j)
def validR (R : S76) (a b c i : Int) : Bool := chk R a b c i 0 && (chk R a b c i 1 && (chk R a b c i 2 && chk R a b c i 3))

theorem chk_is (R : S76) (a b c i : Int) (j : Nat) (bb : Bool) (x : Int) (hx : opd a b c i j = x) (h : hasB R.f1 (ltr j) = bb) :
    chk R a b c i j = (decide ((if bb = true then (if j = 3 then R.f2 else 0) else 0) ≤ x) && decide (x ≤ (if bb = true then (if j = 3 then R.f3 else 15) else 0))) := by
  unfold chk loOf hiOf; rw [hx, h]
theorem validR_false {R : S76} {a b c i : Int} (j : Nat) (hj : j < 4) (h : chk R a b c i j = false) : validR R a b c i = false := by
  unfold validR
  rcases (by omega : j = 0 ∨ j = 1 ∨ j = 2 ∨ j = 3) with rfl | rfl | rfl | rfl <;> simp [h]
theorem ret_bool {a b : Bool} (h : a = b) : Ending.returned (.bool a) = .returned (.bool b) := by rw [h]
theorem all_succ {p : Nat → Prop} {k : Nat} (h : ∀ j, j < k → p j) (hk : p k) : ∀ j, j < k + 1 → p j := fun j hj => by
  rcases Nat.lt_or_ge j k with h' | h'
  · exact h j h'
  · obtain rfl : j = k := by omega
    exact hk

set_option maxHeartbeats 800000 in
set_option maxRecDepth 100000 in
theorem valid_lt (n : Nat) (hn : n < 30) (a b c i : Int) (hs : (rowOf n).f1.size ≤ 1000000) (w : World) :
    Calls Tryd.prog 29 #[.agg #[.int .u8 n, .int .i64 a, .int .i64 b, .int .i64 c, .int .i64 i]] w fun e w' => e = .returned (.bool (validR (rowOf n) a b c i)) ∧ Below w.heap.size w w' := by
  have hu48 := Tryd.underlying48
  have hu76 := Tryd.underlying76
  have hu36 := Tryd.underlying36
  have HF := findC_lt n hn
  obtain ⟨R, hR⟩ : ∃ R, R = rowOf n := ⟨_, rfl⟩
  rw [← hR] at HF hs ⊢
  clear hR
  go_enter Tryd.func29, Tryd.ntmps29
  go_wp2_with fail
  refine (HF _).mono ?_
  rintro e w1 ⟨rfl, hb⟩
  clear HF
  have kc := Joins.run_convert_bytes_const_at (P := Tryd.prog) (w1.alloc (.cells #[.string R.f0, .string R.f1, .int .i64 R.f2, .int .i64 R.f3, .string R.f4, .string R.f5] 76)) 36 5 #[.int .u8 97, .int .u8 98, .int .u8 99, .int .u8 105] 4 4 (w1.heap.size + 1) (by simp) Tryd.underlying36 Tryd.underlying5
  go_wp2_with fail
  have hz : w.heap.size < w1.heap.size := by have := hb.size; simp at this; omega
  have j0 : w1.heap[w.heap.size]? = some (.cells #[.int .u8 n, .int .i64 a, .int .i64 b, .int .i64 c, .int .i64 i] 48 (0, 0)) := by
    rw [hb.block _ (by simp)]; exact heap_alloc_new w _
  have hB := Aside0.mk ((((Below.refl w.heap.size w).alloc (Nat.le_refl _) (.cells #[.int .u8 n, .int .i64 a, .int .i64 b, .int .i64 c, .int .i64 i] 48)).trans (hb.mono (by simp))).alloc (by omega) (.cells #[.string R.f0, .string R.f1, .int .i64 R.f2, .int .i64 R.f3, .string R.f4, .string R.f5] 76) |>.alloc (by simp; omega) (.cells #[.int .u8 97, .int .u8 98, .int .u8 99, .int .u8 105] 5 (4, 5)))
  have b0 := Aside0.mk (blk_alloc (blk_alloc j0 (.cells #[.string R.f0, .string R.f1, .int .i64 R.f2, .int .i64 R.f3, .string R.f4, .string R.f5] 76)) (.cells #[.int .u8 97, .int .u8 98, .int .u8 99, .int .u8 105] 5 (4, 5)))
  have b1 := Aside0.mk (blk_alloc (heap_alloc_new w1 (.cells #[.string R.f0, .string R.f1, .int .i64 R.f2, .int .i64 R.f3, .string R.f4, .string R.f5] 76)) (.cells #[.int .u8 97, .int .u8 98, .int .u8 99, .int .u8 105] 5 (4, 5)))
  have b2 := Aside0.mk (heap_alloc_new (w1.alloc (.cells #[.string R.f0, .string R.f1, .int .i64 R.f2, .int .i64 R.f3, .string R.f4, .string R.f5] 76)) (.cells #[.int .u8 97, .int .u8 98, .int .u8 99, .int .u8 105] 5 (4, 5)))
  rw [World.size_alloc] at b2
  clear hb j0 kc
  have hz' := Aside0.mk hz
  clear hz
  generalize (w1.alloc (.cells #[.string R.f0, .string R.f1, .int .i64 R.f2, .int .i64 R.f3, .string R.f4, .string R.f5] 76)).alloc (.cells #[.int .u8 97, .int .u8 98, .int .u8 99, .int .u8 105] 5 (4, 5)) = W3 at *
  generalize w1.heap.size = B at *
  go_loopw [21] (fun v wr => ∃ k : Nat, k ≤ 4 ∧ v = .int .i64 k ∧ Aside0 (∀ j, j < k → chk R a b c i j = true) ∧ Aside0 (wr.heap[w.heap.size]? = some (.cells #[.int .u8 n, .int .i64 a, .int .i64 b, .int .i64 c, .int .i64 i] 48 (0, 0)))
    ∧ Aside0 (wr.heap[B]? = some (.cells #[.string R.f0, .string R.f1, .int .i64 R.f2, .int .i64 R.f3, .string R.f4, .string R.f5] 76 (0, 0))) ∧ Aside0 (wr.heap[B + 1]? = some (.cells #[.int .u8 97, .int .u8 98, .int .u8 99, .int .u8 105] 5 (4, 5))) ∧ Aside0 (Below w.heap.size w wr)) (fun v _ => 5 - (intOf v).toNat)
  case atStart => exact ⟨0, by omega, rfl, ⟨fun j hj => by omega⟩, b0, b1, b2, hB⟩
  case round =>
    clear b0 b1 b2 hB
    obtain ⟨k, hk, rfl, hchk, b0, b1, b2, hB⟩ := hrel
    have e0 := blk_cell b0.out
    have e1 := blk_cell b1.out
    have e2 := fun j => cell_of_row wr (B + 1) j _ 5 (4, 5) b2.out
    rcases (by omega : k = 0 ∨ k = 1 ∨ k = 2 ∨ k = 3 ∨ k = 4) with rfl | rfl | rfl | rfl | rfl
    · cases hh : hasB R.f1 97
      · have HH := hasC R.f1 97 hs wr
        rw [hh] at HH
        have hc : Hid (chk R a b c i 0 = (decide (0 ≤ a) && decide (a ≤ 0))) := (chk_is R a b c i 0 false a rfl hh).trans rfl
        clear hh
        have x0 : wr.cell? ⟨w.heap.size, 1, none⟩ = some (.int .i64 a) := (e0 1).trans rfl
        have x1 : wr.cell? ⟨B, 1, none⟩ = some (.string R.f1) := (e1 1).trans rfl
        have x2 : wr.cell? ⟨B + 1, 0, none⟩ = some (.int .u8 97) := (e2 0).trans rfl
        clear e0 e1 e2
        go_wp2_with (first | (go_at_call 45; refine HH.mono ?_; rintro e w2 ⟨rfl, hb⟩) | (go_at_call 38; go_in))
        all_goals first
          | (go_roundw
             case rel => exact ⟨1, by omega, rfl, ⟨all_succ hchk.out (by rw [hc.out]; simp; omega)⟩, blk_below b0.out hb |> Aside0.mk, ⟨blk_below b1.out hb⟩, ⟨blk_below b2.out hb⟩, ⟨hB.out.trans (hb.mono hB.out.size)⟩⟩
             case measure => simp [intOf])
          | (go_ret
             exact ⟨ret_bool (validR_false 0 (by omega) (by rw [hc.out]; simp; omega)).symm, hB.out.trans (hb.mono hB.out.size)⟩)
      · have HH := hasC R.f1 97 hs wr
        rw [hh] at HH
        have hc : Hid (chk R a b c i 0 = (decide (0 ≤ a) && decide (a ≤ 15))) := (chk_is R a b c i 0 true a rfl hh).trans rfl
        clear hh
        have x0 : wr.cell? ⟨w.heap.size, 1, none⟩ = some (.int .i64 a) := (e0 1).trans rfl
        have x1 : wr.cell? ⟨B, 1, none⟩ = some (.string R.f1) := (e1 1).trans rfl
        have x2 : wr.cell? ⟨B + 1, 0, none⟩ = some (.int .u8 97) := (e2 0).trans rfl
        clear e0 e1 e2
        go_wp2_with (first | (go_at_call 45; refine HH.mono ?_; rintro e w2 ⟨rfl, hb⟩) | (go_at_call 38; go_in))
        all_goals first
          | (go_roundw
             case rel => exact ⟨1, by omega, rfl, ⟨all_succ hchk.out (by rw [hc.out]; simp; omega)⟩, blk_below b0.out hb |> Aside0.mk, ⟨blk_below b1.out hb⟩, ⟨blk_below b2.out hb⟩, ⟨hB.out.trans (hb.mono hB.out.size)⟩⟩
             case measure => simp [intOf])
          | (go_ret
             exact ⟨ret_bool (validR_false 0 (by omega) (by rw [hc.out]; simp; omega)).symm, hB.out.trans (hb.mono hB.out.size)⟩)
    · cases hh : hasB R.f1 98
      · have HH := hasC R.f1 98 hs wr
        rw [hh] at HH
        have hc : Hid (chk R a b c i 1 = (decide (0 ≤ b) && decide (b ≤ 0))) := (chk_is R a b c i 1 false b rfl hh).trans rfl
        clear hh
        have x0 : wr.cell? ⟨w.heap.size, 2, none⟩ = some (.int .i64 b) := (e0 2).trans rfl
        have x1 : wr.cell? ⟨B, 1, none⟩ = some (.string R.f1) := (e1 1).trans rfl
        have x2 : wr.cell? ⟨B + 1, 1, none⟩ = some (.int .u8 98) := (e2 1).trans rfl
        clear e0 e1 e2
        go_wp2_with (first | (go_at_call 45; refine HH.mono ?_; rintro e w2 ⟨rfl, hb⟩) | (go_at_call 38; go_in))
        all_goals first
          | (go_roundw
             case rel => exact ⟨2, by omega, rfl, ⟨all_succ hchk.out (by rw [hc.out]; simp; omega)⟩, blk_below b0.out hb |> Aside0.mk, ⟨blk_below b1.out hb⟩, ⟨blk_below b2.out hb⟩, ⟨hB.out.trans (hb.mono hB.out.size)⟩⟩
             case measure => simp [intOf])
          | (go_ret
             exact ⟨ret_bool (validR_false 1 (by omega) (by rw [hc.out]; simp; omega)).symm, hB.out.trans (hb.mono hB.out.size)⟩)
      · have HH := hasC R.f1 98 hs wr
        rw [hh] at HH
        have hc : Hid (chk R a b c i 1 = (decide (0 ≤ b) && decide (b ≤ 15))) := (chk_is R a b c i 1 true b rfl hh).trans rfl
        clear hh
        have x0 : wr.cell? ⟨w.heap.size, 2, none⟩ = some (.int .i64 b) := (e0 2).trans rfl
        have x1 : wr.cell? ⟨B, 1, none⟩ = some (.string R.f1) := (e1 1).trans rfl
        have x2 : wr.cell? ⟨B + 1, 1, none⟩ = some (.int .u8 98) := (e2 1).trans rfl
        clear e0 e1 e2
        go_wp2_with (first | (go_at_call 45; refine HH.mono ?_; rintro e w2 ⟨rfl, hb⟩) | (go_at_call 38; go_in))
        all_goals first
          | (go_roundw
             case rel => exact ⟨2, by omega, rfl, ⟨all_succ hchk.out (by rw [hc.out]; simp; omega)⟩, blk_below b0.out hb |> Aside0.mk, ⟨blk_below b1.out hb⟩, ⟨blk_below b2.out hb⟩, ⟨hB.out.trans (hb.mono hB.out.size)⟩⟩
             case measure => simp [intOf])
          | (go_ret
             exact ⟨ret_bool (validR_false 1 (by omega) (by rw [hc.out]; simp; omega)).symm, hB.out.trans (hb.mono hB.out.size)⟩)
    · cases hh : hasB R.f1 99
      · have HH := hasC R.f1 99 hs wr
        rw [hh] at HH
        have hc : Hid (chk R a b c i 2 = (decide (0 ≤ c) && decide (c ≤ 0))) := (chk_is R a b c i 2 false c rfl hh).trans rfl
        clear hh
        have x0 : wr.cell? ⟨w.heap.size, 3, none⟩ = some (.int .i64 c) := (e0 3).trans rfl
        have x1 : wr.cell? ⟨B, 1, none⟩ = some (.string R.f1) := (e1 1).trans rfl
        have x2 : wr.cell? ⟨B + 1, 2, none⟩ = some (.int .u8 99) := (e2 2).trans rfl
        clear e0 e1 e2
        go_wp2_with (first | (go_at_call 45; refine HH.mono ?_; rintro e w2 ⟨rfl, hb⟩) | (go_at_call 38; go_in))
        all_goals first
          | (go_roundw
             case rel => exact ⟨3, by omega, rfl, ⟨all_succ hchk.out (by rw [hc.out]; simp; omega)⟩, blk_below b0.out hb |> Aside0.mk, ⟨blk_below b1.out hb⟩, ⟨blk_below b2.out hb⟩, ⟨hB.out.trans (hb.mono hB.out.size)⟩⟩
             case measure => simp [intOf])
          | (go_ret
             exact ⟨ret_bool (validR_false 2 (by omega) (by rw [hc.out]; simp; omega)).symm, hB.out.trans (hb.mono hB.out.size)⟩)
      · have HH := hasC R.f1 99 hs wr
        rw [hh] at HH
        have hc : Hid (chk R a b c i 2 = (decide (0 ≤ c) && decide (c ≤ 15))) := (chk_is R a b c i 2 true c rfl hh).trans rfl
        clear hh
        have x0 : wr.cell? ⟨w.heap.size, 3, none⟩ = some (.int .i64 c) := (e0 3).trans rfl
        have x1 : wr.cell? ⟨B, 1, none⟩ = some (.string R.f1) := (e1 1).trans rfl
        have x2 : wr.cell? ⟨B + 1, 2, none⟩ = some (.int .u8 99) := (e2 2).trans rfl
        clear e0 e1 e2
        go_wp2_with (first | (go_at_call 45; refine HH.mono ?_; rintro e w2 ⟨rfl, hb⟩) | (go_at_call 38; go_in))
        all_goals first
          | (go_roundw
             case rel => exact ⟨3, by omega, rfl, ⟨all_succ hchk.out (by rw [hc.out]; simp; omega)⟩, blk_below b0.out hb |> Aside0.mk, ⟨blk_below b1.out hb⟩, ⟨blk_below b2.out hb⟩, ⟨hB.out.trans (hb.mono hB.out.size)⟩⟩
             case measure => simp [intOf])
          | (go_ret
             exact ⟨ret_bool (validR_false 2 (by omega) (by rw [hc.out]; simp; omega)).symm, hB.out.trans (hb.mono hB.out.size)⟩)
    · cases hh : hasB R.f1 105
      · have HH := hasC R.f1 105 hs wr
        rw [hh] at HH
        have hc : Hid (chk R a b c i 3 = (decide (0 ≤ i) && decide (i ≤ 0))) := (chk_is R a b c i 3 false i rfl hh).trans rfl
        clear hh
        have x0 : wr.cell? ⟨w.heap.size, 4, none⟩ = some (.int .i64 i) := (e0 4).trans rfl
        have x1 : wr.cell? ⟨B, 1, none⟩ = some (.string R.f1) := (e1 1).trans rfl
        have x2 : wr.cell? ⟨B + 1, 3, none⟩ = some (.int .u8 105) := (e2 3).trans rfl
        clear e0 e1 e2
        go_wp2_with (first | (go_at_call 45; refine HH.mono ?_; rintro e w2 ⟨rfl, hb⟩) | (go_at_call 38; go_in))
        all_goals first
          | (go_roundw
             case rel => exact ⟨4, by omega, rfl, ⟨all_succ hchk.out (by rw [hc.out]; simp; omega)⟩, blk_below b0.out hb |> Aside0.mk, ⟨blk_below b1.out hb⟩, ⟨blk_below b2.out hb⟩, ⟨hB.out.trans (hb.mono hB.out.size)⟩⟩
             case measure => simp [intOf])
          | (go_ret
             exact ⟨ret_bool (validR_false 3 (by omega) (by rw [hc.out]; simp; omega)).symm, hB.out.trans (hb.mono hB.out.size)⟩)
      · have HH := hasC R.f1 105 hs wr
        rw [hh] at HH
        have hc : Hid (chk R a b c i 3 = (decide (R.f2 ≤ i) && decide (i ≤ R.f3))) := (chk_is R a b c i 3 true i rfl hh).trans rfl
        clear hh
        have x0 : wr.cell? ⟨w.heap.size, 4, none⟩ = some (.int .i64 i) := (e0 4).trans rfl
        have x1 : wr.cell? ⟨B, 1, none⟩ = some (.string R.f1) := (e1 1).trans rfl
        have x2 : wr.cell? ⟨B + 1, 3, none⟩ = some (.int .u8 105) := (e2 3).trans rfl
        clear e0 e1 e2
        go_wp2_with (first | (go_at_call 45; refine HH.mono ?_; rintro e w2 ⟨rfl, hb⟩; have y0 : w2.cell? ⟨B, 2, none⟩ = some (.int .i64 R.f2) := (blk_cell (blk_below b1.out hb) 2).trans rfl; have y1 : w2.cell? ⟨B, 3, none⟩ = some (.int .i64 R.f3) := (blk_cell (blk_below b1.out hb) 3).trans rfl) | (go_at_call 38; go_in))
        go_quiet (fail)
        replace hb := pw_below_drewN hb nq
        go_wp2
        all_goals first
          | (go_roundw
             case rel => exact ⟨4, by omega, rfl, ⟨all_succ hchk.out (by rw [hc.out]; simp; omega)⟩, blk_below b0.out hb |> Aside0.mk, ⟨blk_below b1.out hb⟩, ⟨blk_below b2.out hb⟩, ⟨hB.out.trans (hb.mono hB.out.size)⟩⟩
             case measure => simp [intOf])
          | (go_ret
             exact ⟨ret_bool (validR_false 3 (by omega) (by rw [hc.out]; simp; omega)).symm, hB.out.trans (hb.mono hB.out.size)⟩)
    · clear e0 e1 e2
      have hv : Hid (validR R a b c i = true) := by
        unfold validR
        rw [hchk.out 0 (by omega), hchk.out 1 (by omega), hchk.out 2 (by omega), hchk.out 3 (by omega)]
        rfl
      go_wp2
      go_ret
      exact ⟨ret_bool hv.out.symm, hB.out⟩

set_option maxHeartbeats 400000 in
set_option maxRecDepth 100000 in
theorem valid_ge (o : Int) (h : 30 ≤ o) (h' : o ≤ 255) (a b c i : Int) (w : World) :
    Calls Tryd.prog 29 #[.agg #[.int .u8 o, .int .i64 a, .int .i64 b, .int .i64 c, .int .i64 i]] w fun e w' => e = .returned (.bool false) ∧ Below w.heap.size w w' := by
  have hu48 := Tryd.underlying48
  have hu76 := Tryd.underlying76
  have HF := findC_ge o h h'
  clear h h'
  go_enter Tryd.func29, Tryd.ntmps29
  go_wp2_with (go_at_call 37; refine (HF _).mono ?_; rintro e w1 ⟨rfl, hb⟩)
  go_ret
  exact ⟨rfl, (((Below.refl w.heap.size w).alloc (Nat.le_refl _) _).trans (hb.mono (by simp))).alloc (by have := hb.size; simp at this; omega) _⟩

theorem rows_f1 (n : Nat) (h : n < 30) : (rowOf n).f1.size ≤ 3 := by
  have : ∀ m : Fin 30, (rowOf m.1).f1.size ≤ 3 := by decide +kernel
  exact this ⟨n, h⟩

/-- What isa.Valid answers. -/
def isa_Valid.f (o a b c i : Int) : Option Bool := if 0 ≤ o then (if o < 30 then some (validR (rowOf o.toNat) a b c i) else if o ≤ 255 then some false else none) else none
theorem isa_Valid.calls (a0_0 : Int) (a0_1 : Int) (a0_2 : Int) (a0_3 : Int) (a0_4 : Int) (r : Bool) (w : World) (h : isa_Valid.f a0_0 a0_1 a0_2 a0_3 a0_4 = some r) :
    Calls Tryd.prog 29 #[.agg #[.int .u8 a0_0, .int .i64 a0_1, .int .i64 a0_2, .int .i64 a0_3, .int .i64 a0_4]] w fun e w' => e = .returned (.bool r) ∧ Below w.heap.size w w' := by
  unfold isa_Valid.f at h
  by_cases h0 : 0 ≤ a0_0
  · rw [if_pos h0] at h
    obtain ⟨n, rfl⟩ := Int.eq_ofNat_of_zero_le h0
    by_cases h1 : (n : Int) < 30
    · rw [if_pos h1, Int.toNat_natCast] at h
      obtain rfl := Option.some.inj h
      exact valid_lt n (by omega) _ _ _ _ (by have := rows_f1 n (by omega); omega) w
    · rw [if_neg h1] at h
      by_cases h2 : (n : Int) ≤ 255
      · rw [if_pos h2] at h
        obtain rfl := Option.some.inj h
        exact valid_ge n (by omega) h2 _ _ _ _ w
      · rw [if_neg h2] at h
        cases h
  · rw [if_neg h0] at h
    cases h

end Go.Proofs.YtchlcncffillbaaDoor.P
