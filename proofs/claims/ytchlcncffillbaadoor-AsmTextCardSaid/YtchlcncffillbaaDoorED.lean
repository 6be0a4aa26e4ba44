/- What strings.Split, strings.Cut and strings.FieldsFunc (with asm.blank) answer, in the form of the printed contracts. -/
import Derived.Test.YtchlcncffillbaaDoorES
import Derived.Test.YtchlcncffillbaaDoorShelf
namespace Go.Proofs.YtchlcncffillbaaDoor.P
open Go.RowKit Go.Shelf Go.Proofs.YtchlcncffillbaaDoorW.PrintWords Go.Proofs.YtchlcncffillbaaDoorW.PrintLast Go.Proofs.YtchlcncffillbaaDoorW.PrintMore

def strings_Split.f (a0 a1 : ByteArray) : Option (List ByteArray) := if a0.size < 4294967281 ∧ 1 ≤ a1.size then some (Lib.splitB a1 0 (Lib.countB a0 a1) a0) else none
theorem strings_Split.calls (a0 : ByteArray) (a1 : ByteArray) (r : List ByteArray) (w : World) (hE : Env w) (h : strings_Split.f a0 a1 = some r) :
    Calls Tryd.prog 31 #[.string a0, .string a1] w fun e w' => ∃ v0_ : Value, e = .returned v0_ ∧ Kd.R Kd.string 9 w' w.heap.size (fun _ => True) v0_ r ∧ Below w.heap.size w w' := by
  unfold strings_Split.f at h
  split at h
  · rename_i hc
    obtain rfl := Option.some.inj h
    obtain ⟨m, hm⟩ := hE.maxLen
    refine (Tryd.strings_Split a0 a1 m w hc.1 hm hc.2).mono fun e w' ⟨he, hw⟩ => ?_
    have hl : (Lib.splitB a1 0 (Lib.countB a0 a1) a0).length = Lib.countB a0 a1 + 1 := Lib.splitB_all a1 hc.2 0 _ a0 rfl
    have hcnt : Lib.countB a0 a1 ≤ a0.size := Lib.countB_le a1 hc.2 a0.size a0 (Nat.le_refl _)
    refine ⟨_, he, ?_, ?_⟩
    · subst hw
      have ho := World.ownsRow_lit (base := w.heap.size) (e := 9) (size := 1) w ((Lib.splitB a1 0 (Lib.countB a0 a1) a0).map Value.string).toArray (Lib.countB a0 a1 + 1) (Nat.le_refl _) (by unfold maxLen; omega) (by simp [hl])
      rw [← hl] at ho ⊢
      exact Kd.R_of_own (by simpa [encs] using ho) (fun _ _ => trivial)
    · subst hw
      exact (Below.refl _ _).alloc (Nat.le_refl _) _
  · cases h

def strings_Cut.f (a0 a1 : ByteArray) : Option (ByteArray × ByteArray × Bool) :=
  if a0.size < 4294967281 then some (⟨(Lib.cut a0.data.toList a1.data.toList).1.toArray⟩, ⟨(Lib.cut a0.data.toList a1.data.toList).2.1.toArray⟩, (Lib.cut a0.data.toList a1.data.toList).2.2) else none
theorem strings_Cut.calls (a0 : ByteArray) (a1 : ByteArray) (r1 : ByteArray) (r2 : ByteArray) (r3 : Bool) (w : World) (hE : Env w) (h : strings_Cut.f a0 a1 = some (r1, r2, r3)) :
    Calls Tryd.prog 32 #[.string a0, .string a1] w fun e w' => e = .returned (.tuple #[.string r1, .string r2, .bool r3]) ∧ Below w.heap.size w w' := by
  unfold strings_Cut.f at h
  split at h
  · rename_i hc
    simp only [Option.some.injEq, Prod.mk.injEq] at h
    obtain ⟨rfl, rfl, rfl⟩ := h
    obtain ⟨m, hm⟩ := hE.maxLen
    refine (Tryd.strings_Cut a0 a1 m w hc hm).mono fun e w' ⟨he, n, hw⟩ => ⟨he, ?_⟩
    subst hw
    exact pw_below_drewN (Below.refl _ _) n
  · cases h

/-- asm.blank, on runes. -/
def blankP (r : Nat) : Bool := if (r : Int) = 32 then true else ((r : Int) == 9)
theorem blank_pays (w : World) : PredAt Tryd.prog 34 #[] encR blankP w := fun W r _ => by
  unfold FnGives
  have h : asm_blank.f r = some (blankP r) := by unfold asm_blank.f blankP; split <;> rfl
  refine (asm_blank.calls r _ W h).mono fun e w' ⟨he, hd⟩ => ⟨he, ?_⟩
  exact hd.out

def strings_FieldsFunc.f (a0 : ByteArray) : Option (List ByteArray) := if a0.size ≤ 4294967296 then some (Lib.goFieldsP blankP a0) else none
theorem strings_FieldsFunc.calls (a0 : ByteArray) (r : List ByteArray) (w : World) (hE : Env w) (h : strings_FieldsFunc.f a0 = some r) :
    Calls Tryd.prog 33 #[.string a0, .func (.func 34) #[] #[]] w fun e w' => ∃ v0_ : Value, e = .returned v0_ ∧ Kd.R Kd.string 9 w' w.heap.size (fun _ => True) v0_ r ∧ Below w.heap.size w w' := by
  unfold strings_FieldsFunc.f at h
  split at h
  · rename_i hc
    obtain rfl := Option.some.inj h
    have eg := enters_of Tryd.func34 (by kernel_rfl) rfl
    refine (Tryd.strings_FieldsFunc 34 #[] eg blankP a0 w hc (blank_pays w)).mono fun e w' ⟨A, he, hA, ho, hb⟩ => ⟨_, he, ?_, hb⟩
    exact Kd.R_of_own (by simpa [encs] using ho) (fun _ _ => trivial)
  · cases h

end Go.Proofs.YtchlcncffillbaaDoor.P
