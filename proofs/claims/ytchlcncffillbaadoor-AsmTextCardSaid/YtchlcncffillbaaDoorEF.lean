/- asm.Format: the text of valid code, the error for any other. -/
import Derived.Test.YtchlcncffillbaaDoorET
import Derived.Test.YtchlcncffillbaaDoorEB
namespace Go.Proofs.YtchlcncffillbaaDoor.P
open Go.RowKit Go.Proofs.YtchlcncffillbaaDoorW.PrintWords Go.Proofs.YtchlcncffillbaaDoorW.PrintLast Go.Proofs.YtchlcncffillbaaDoorW.PrintMore

theorem builder_below {T e B b : Nat} {bs : List Value} {w w' : World} (h : Lib.IsBuilder T e B b bs w) (hb : Below w.heap.size w w') : Lib.IsBuilder T e B b bs w' := by
  rcases h with ⟨h1, v, h2, h3, h4⟩ | ⟨h1, v, h2, h3, h4⟩
  · exact .inl ⟨h1, v, blk_below h2 hb, pw_own_below h3 hb, h4⟩
  · exact .inr ⟨h1, v, blk_below h2 hb, pw_own_below h3 hb, h4⟩
theorem builder_base {T e B B' b : Nat} {bs : List Value} {w : World} (h : Lib.IsBuilder T e B b bs w) (hB : B' ≤ B) : Lib.IsBuilder T e B' b bs w := by
  rcases h with ⟨h1, v, h2, h3, h4⟩ | ⟨h1, v, h2, h3, h4⟩
  · exact .inl ⟨by omega, v, h2, own_weaken h3 hB, h4⟩
  · exact .inr ⟨by omega, v, h2, own_weaken h3 hB, h4⟩

set_option maxHeartbeats 400000 in
set_option maxRecDepth 100000 in
theorem format_bad (A0 : Option Addr) (c0 : Nat) (l0 : List S48) (r : Int) (hr : r ≠ 0) (w : World) (hr0 : Kd.C k48 w A0 l0.length l0) (hc0 : l0.length ≤ c0) (h : asm_check.f (l0.length + 1) l0 = some r) :
    Calls Tryd.prog 13 #[.slice A0 l0.length c0] w fun e w' => e = .returned (.tuple #[.string ⟨#[]⟩, .int .i64 r]) ∧ Below w.heap.size w w' := by
  have H := asm_check.calls (l0.length + 1) A0 c0 l0 r w hr0 hc0 h
  have hd : (r == 0) = false := beq_eq_false_iff_ne.mpr hr
  have hd' : (r != 0) = true := bne_iff_ne.mpr hr
  clear h hr0 hc0 hr
  go_enter Tryd.func13, Tryd.ntmps13
  go_wp2_with (go_at_call 24; refine H.mono ?_; rintro e w' ⟨rfl, hb⟩)
  go_ret2
  exact ⟨rfl, hb⟩

set_option maxHeartbeats 1600000 in
set_option maxRecDepth 100000 in
theorem format_ok (A0 : Option Addr) (c0 : Nat) (l0 : List S48) (hl : l0.length ≤ 4096) (hv : ∀ x ∈ l0, vS x = true) (w : World) (hr0 : Kd.C k48 w A0 l0.length l0) (hc0 : l0.length ≤ c0) (hE : Env w) (h : asm_check.f (l0.length + 1) l0 = some 0) :
    Calls Tryd.prog 13 #[.slice A0 l0.length c0] w fun e w' => e = .returned (.tuple #[.string (textS l0), .int .i64 0]) ∧ Below w.heap.size w w' := by
  have hu48 := Tryd.underlying48
  have hu57 := Tryd.underlying57
  have H := asm_check.calls (l0.length + 1) A0 c0 l0 0 w hr0 hc0 h
  have HV := Aside0.mk hv
  have HR := Aside0.mk hr0
  clear h hv hr0 hc0
  go_enter Tryd.func13, Tryd.ntmps13
  go_wp2_with (go_at_call 24; refine H.mono ?_; rintro e w1 ⟨rfl, hb⟩)
  have hB := Aside0.mk (hb.alloc hb.size (.cells #[.pointer none, .slice none 0 0] 57))
  have hIB := Aside0.mk (builder_base (Lib.fresh_isBuilder 57 5 w1) hb.size)
  clear hb H
  generalize w1.alloc (.cells #[.pointer none, .slice none 0 0] 57) = W3 at *
  generalize w1.heap.size = b at *
  go_loopw [15] (fun v wr => ∃ k : Nat, k ≤ l0.length ∧ v = .int .i64 k ∧ Aside0 (Lib.IsBuilder 57 5 w.heap.size b (Lib.byteCells (textL (l0.take k))) wr) ∧ Aside0 (Below w.heap.size w wr)) (fun v _ => l0.length - (intOf v).toNat)
  case atStart => exact ⟨0, by omega, rfl, hIB, hB⟩
  case round =>
    clear hIB hB
    obtain ⟨k, hk, rfl, hIB, hB⟩ := hrel
    by_cases hlt : k < l0.length
    · obtain ⟨ad, e, hx0, hx1, hx2, hx3, hx4⟩ := at_T48 (Kd.C_below HR.out hB.out) (k : Int) (by omega) (by omega)
      cases e
      rw [rd_at l0 k hlt] at hx0 hx1 hx2 hx3 hx4
      rw [Int.toNat_natCast] at hx0 hx1 hx2 hx3 hx4
      have hvx := HV.out _ (List.getElem_mem hlt)
      have hT := textL_snoc l0 k hlt
      have hln := textL_len (l0.take k) (fun x hx => HV.out x (List.mem_of_mem_take hx))
      rw [List.length_take, Nat.min_eq_left hk] at hln
      generalize l0[k] = x at *
      have hsz := lineS_size hvx
      have HLN := asm_line.calls x.f0 x.f1 x.f2 x.f3 x.f4 (lineS x) (wr.alloc (.cells #[.int .u8 x.f0, .int .i64 x.f1, .int .i64 x.f2, .int .i64 x.f3, .int .i64 x.f4] 48)) ((hE.below hB.out).below ((Below.refl _ _).alloc (Nat.le_refl _) _)) (line_f hvx)
      have hT' : Lib.byteCells (textL (l0.take (k + 1))) = (Lib.byteCells (textL (l0.take k)) ++ Lib.strCells (lineS x)) ++ [.int .u8 10] := by
        rw [hT]; simp [Lib.byteCells, Lib.strCells]
      have HT := Lib.hid hT'
      clear hT hT' hvx
      have hbl : (Lib.byteCells (textL (l0.take k))).length ≤ 76 * k := by rw [Lib.byteCells_length]; exact hln
      clear hln
      generalize Lib.byteCells (textL (l0.take k)) = bs at *
      generalize lineS x = ln at *
      go_wp2_with fail
      refine HLN.mono ?_
      rintro e w4 ⟨rfl, hb4⟩
      have hb4' : Below wr.heap.size wr w4 := ((Below.refl _ _).alloc (Nat.le_refl _) _).trans (hb4.mono (by simp))
      have hB4 := Aside0.mk (hB.out.trans (hb4'.mono hB.out.size))
      have HW := builder_WriteString w.heap.size b bs ln w4 (builder_below hIB.out hb4') (by omega) (hB4.out.size)
      clear hb4 hb4' HLN hIB
      go_wp2_with fail
      refine HW.mono ?_
      rintro e w5 ⟨rfl, hI5, hb5⟩
      have hB5 := Aside0.mk (hB4.out.trans hb5)
      have HW2 := builder_WriteByte w.heap.size b (bs ++ Lib.strCells ln) 10 w5 (.inr hI5) (by rw [List.length_append, Lib.strCells_length]; omega) hB5.out.size
      clear HW hI5 hb5 hB4
      go_wp2_with fail
      refine HW2.mono ?_
      rintro e w6 ⟨rfl, hI6, hb6⟩
      have hB6 := Aside0.mk (hB5.out.trans hb6)
      have hI6' := Aside0.mk hI6
      clear HW2 hb6 hB5 hI6
      go_wp2
      go_roundw
      case rel => exact ⟨k + 1, by omega, by go_num, ⟨by rw [HT.out]; exact .inr hI6'.out⟩, hB6⟩
      case measure => simp [intOf]; omega
    · have hkl : k = l0.length := by omega
      have HS := Tryd.Builder_String_any w.heap.size b (textL (l0.take k)) wr hIB.out hB.out.size
      rw [hkl, List.take_length] at HS
      clear hIB hkl
      go_wp2_with (go_at_call 28; refine HS.mono ?_; rintro e w7 ⟨rfl, hb7⟩)
      go_ret2
      exact ⟨rfl, hB.out.trans hb7⟩

/-- What asm.Format answers. -/
def asm_Format.f (l0 : List S48) : Option (ByteArray × Int) :=
  if 4096 < l0.length then some (⟨#[]⟩, 5) else if l0.all isOp = true then (if l0.all vS = true then some (textS l0, 0) else some (⟨#[]⟩, 3)) else none
theorem asm_Format.calls (A0 : Option Addr) (c0 : Nat) (l0 : List S48) (r1 : ByteArray) (r2 : Int) (w : World) (hr0 : Kd.C k48 w A0 l0.length l0) (hc0 : l0.length ≤ c0) (hE : Env w) (h : asm_Format.f l0 = some (r1, r2)) :
    Calls Tryd.prog 13 #[.slice A0 l0.length c0] w fun e w' => e = .returned (.tuple #[.string r1, .int .i64 r2]) ∧ Below w.heap.size w w' := by
  unfold asm_Format.f at h
  by_cases h1 : 4096 < l0.length
  · rw [if_pos h1] at h
    simp only [Option.some.injEq, Prod.mk.injEq] at h
    obtain ⟨rfl, rfl⟩ := h
    exact format_bad A0 c0 l0 5 (by decide) w hr0 hc0 (check_full l0 h1 _)
  · rw [if_neg h1] at h
    by_cases h2 : l0.all isOp = true
    · rw [if_pos h2] at h
      have hc := check_f l0 (by omega) (List.all_eq_true.1 h2) (l0.length + 1) (by omega)
      by_cases h3 : l0.all vS = true
      · rw [if_pos h3] at h hc
        simp only [Option.some.injEq, Prod.mk.injEq] at h
        obtain ⟨rfl, rfl⟩ := h
        exact format_ok A0 c0 l0 (by omega) (List.all_eq_true.1 h3) w hr0 hc0 hE hc
      · rw [if_neg h3] at h hc
        simp only [Option.some.injEq, Prod.mk.injEq] at h
        obtain ⟨rfl, rfl⟩ := h
        exact format_bad A0 c0 l0 3 (by decide) w hr0 hc0 hc
    · rw [if_neg h2] at h
      cases h
end Go.Proofs.YtchlcncffillbaaDoor.P
