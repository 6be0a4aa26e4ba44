/- asm.read and the function that it returns: an operand's text read as a number. -/
import Derived.Test.YtchlcncffillbaaDoorEL
namespace Go.Proofs.YtchlcncffillbaaDoor.P
open Go.RowKit Go.Proofs.YtchlcncffillbaaDoorW.PrintWords Go.Proofs.YtchlcncffillbaaDoorW.PrintLast Go.Proofs.YtchlcncffillbaaDoorW.PrintMore

set_option maxHeartbeats 400000 in
set_option maxRecDepth 100000 in
theorem readC (c : Int) (w : World) : Calls Tryd.prog 51 #[.int .u8 c] w fun e w' => e = .returned (.func (.func 66) #[] #[.pointer (some ⟨w.heap.size, 0, none⟩)]) ∧ w' = w.alloc (.cells #[.int .u8 c] 5) := by
  go_enter Tryd.func51, Tryd.ntmps51
  go_wp2
  go_ret
  exact ⟨rfl, rfl⟩

/-- What strconv.Atoi answers: the number, and whether there is no error. -/
def atoiV (s : ByteArray) : Int := match Lib.atoiAll s.data.toList with | .ok v => v | .range => Lib.atoiSat s.data.toList | _ => 0
def atoiB (s : ByteArray) : Bool := match Lib.atoiAll s.data.toList with | .ok _ => true | _ => false
/-- The value of the error. -/
def IsErr (b : Bool) (v : Value) : Prop := if b = true then v = .nilIface else ∃ N, v = .iface 126 (.pointer (some ⟨N, 0, none⟩))

theorem atoiC (s : ByteArray) (hs : s.size ≤ 281474976710656) (w : World) (hE : Env w) : Calls Tryd.prog 68 #[.string s] w fun e w' => ∃ v, e = .returned (.tuple #[.int .i64 (atoiV s), v]) ∧ IsErr (atoiB s) v ∧ Below w.heap.size w w' := by
  unfold atoiV atoiB
  cases h : Lib.atoiAll s.data.toList
  · rename_i v
    refine (Tryd.strconv_Atoi_ok s (by omega) v h w).mono fun e w' ⟨he, hw⟩ => ⟨_, he, by simp [IsErr], ?_⟩
    rcases hw with rfl | ⟨t, rfl⟩
    · exact Below.refl _ _
    · exact below_bytes _ _ _
  · obtain ⟨tp, p, hv⟩ := hE.errSyntax
    exact (Any.strconv_Atoi_syntax_var Tryd.laysC172 s hs h tp p w hv).mono fun e w' ⟨N, he, _, _, hb⟩ => ⟨_, he, ⟨N, rfl⟩, hb⟩
  · obtain ⟨tp, p, hv⟩ := hE.errRange
    exact (Any.strconv_Atoi_range_var Tryd.laysC172 s hs h tp p w hv).mono fun e w' ⟨N, he, _, _, hb⟩ => ⟨_, he, ⟨N, rfl⟩, hb⟩

/-- The text that is read as a number. -/
def numText (c : Int) (s : ByteArray) : ByteArray := if c = 73 then s else ⟨(Lib.trimPrefix s.data.toList [114]).toArray⟩
theorem numText_size (c : Int) (s : ByteArray) : (numText c s).size ≤ s.size := by
  unfold numText
  split
  · omega
  · rw [size_mk, ← size_list s]
    unfold Lib.trimPrefix
    split <;> simp

set_option maxHeartbeats 800000 in
set_option maxRecDepth 100000 in
theorem rd1C (c : Int) (s : ByteArray) (hs : s.size ≤ 281474976710656) (a : Addr) (w : World) (hE : Env w) (hc : w.cell? a = some (.int .u8 c)) :
    Calls Tryd.prog 66 #[.string s, .pointer (some a)] w fun e w' => e = .returned (.tuple #[.int .i64 (atoiV (numText c s)), .bool (atoiB (numText c s))]) ∧ Below w.heap.size w w' := by
  have hT := Tryd.strings_TrimPrefix s ⟨#[114]⟩ w
  have hA := atoiC (numText c s) (by have := numText_size c s; omega) w hE
  by_cases h : c = 73
  · subst h
    have e1 : numText 73 s = s := rfl
    rw [e1] at hA ⊢
    generalize atoiV s = x at *
    cases hb : atoiB s
    · rw [hb] at hA
      clear hb hT
      go_enter Tryd.func66, Tryd.ntmps66
      go_wp2_with (go_at_call 68; refine hA.mono ?_; rintro e w' ⟨v, rfl, ⟨N, rfl⟩, hb⟩)
      go_quiet (fail)
      go_wp2
      go_ret2
      exact ⟨rfl, pw_below_drewN hb nq⟩
    · rw [hb] at hA
      clear hb hT
      go_enter Tryd.func66, Tryd.ntmps66
      go_wp2_with (go_at_call 68; refine hA.mono ?_; rintro e w' ⟨v, rfl, hv, hb⟩; obtain rfl : v = .nilIface := hv)
      go_quiet (fail)
      go_wp2
      go_ret2
      exact ⟨rfl, pw_below_drewN hb nq⟩
  · have e1 : numText c s = ⟨(Lib.trimPrefix s.data.toList [114]).toArray⟩ := by unfold numText; rw [if_neg h]
    rw [show (⟨(Lib.trimPrefix s.data.toList (⟨#[114]⟩ : ByteArray).data.toList).toArray⟩ : ByteArray) = numText c s from e1.symm] at hT
    clear e1
    generalize numText c s = T at *
    generalize atoiV T = x at *
    have h1 : (c == 73) = false := beq_eq_false_iff_ne.mpr h
    have h2 : (c != 73) = true := bne_iff_ne.mpr h
    clear h
    cases hb : atoiB T
    · rw [hb] at hA
      clear hb
      go_enter Tryd.func66, Tryd.ntmps66
      go_wp2_with (first | (go_at_call 67; refine hT.mono ?_; rintro e w' ⟨rfl, rfl⟩) | (go_at_call 68; refine hA.mono ?_; rintro e w' ⟨v, rfl, ⟨N, rfl⟩, hb⟩))
      go_quiet (fail)
      go_wp2
      go_ret2
      exact ⟨rfl, pw_below_drewN hb nq⟩
    · rw [hb] at hA
      clear hb
      go_enter Tryd.func66, Tryd.ntmps66
      go_wp2_with (first | (go_at_call 67; refine hT.mono ?_; rintro e w' ⟨rfl, rfl⟩) | (go_at_call 68; refine hA.mono ?_; rintro e w' ⟨v, rfl, hv, hb⟩; obtain rfl : v = .nilIface := hv))
      go_quiet (fail)
      go_wp2
      go_ret2
      exact ⟨rfl, pw_below_drewN hb nq⟩
end Go.Proofs.YtchlcncffillbaaDoor.P
