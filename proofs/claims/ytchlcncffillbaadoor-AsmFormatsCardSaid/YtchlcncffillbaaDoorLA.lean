/- Plain words: what a function with rounds tells once it has rounds enough; byte lists. -/
import Derived.Test.YtchlcncffillbaaDoorP0
import Derived.Lib.Strings
namespace Go.Proofs.YtchlcncffillbaaDoor.L
open Go.RowKit Go.Proofs.YtchlcncffillbaaDoorW.PrintWords Go.Proofs.YtchlcncffillbaaDoorW.PrintLast Go.Proofs.YtchlcncffillbaaDoorW.PrintMore

/-- With rounds enough, f tells v. -/
def Tells {α : Type} (f : Nat → Option α) (v : α) : Prop := ∃ K, ∀ k, K ≤ k → f k = some v
theorem Tells.ex {α : Type} {f : Nat → Option α} {v : α} (h : Tells f v) : ∃ k, f k = some v := let ⟨K, h⟩ := h; ⟨K, h K (Nat.le_refl _)⟩
theorem Tells.ofMono {α : Type} {f : Nat → Option α} {v : α} (k0 : Nat) (m : ∀ k, LeO (f k) (f (k + 1))) (h : f k0 = some v) : Tells f v := by
  refine ⟨k0, fun k hk => ?_⟩
  obtain ⟨d, rfl⟩ : ∃ d, k = k0 + d := ⟨k - k0, by omega⟩
  clear hk
  induction d with
  | zero => exact h
  | succ d ih => exact m _ _ ih
theorem Tells.const {α : Type} {v : α} : Tells (fun _ => some v) v := ⟨0, fun _ _ => rfl⟩
theorem Tells.of {α : Type} {x : Option α} {v : α} (h : x = some v) : Tells (fun _ => x) v := ⟨0, fun _ _ => h⟩
theorem Tells.bind {α β : Type} {g : Nat → Option α} {h : Nat → α → Option β} {a : α} {v : β} (h1 : Tells g a) (h2 : Tells (fun k => h k a) v) : Tells (fun k => (g k).bind (h k)) v := by
  obtain ⟨K1, h1⟩ := h1
  obtain ⟨K2, h2⟩ := h2
  refine ⟨K1 + K2, fun k hk => ?_⟩
  show (g k).bind (h k) = some v
  rw [h1 k (by omega)]
  exact h2 k (by omega)
theorem Tells.succ {α : Type} {f : Nat → Option α} {v : α} (h : Tells (fun k => f (k + 1)) v) : Tells f v := by
  obtain ⟨K, h⟩ := h
  refine ⟨K + 1, fun k hk => ?_⟩
  obtain ⟨m, rfl⟩ : ∃ m, k = m + 1 := ⟨k - 1, by omega⟩
  exact h m (by omega)
theorem Tells.pos {α : Type} {c : Prop} [Decidable c] {a b : Nat → Option α} {v : α} (hc : c) (h : Tells a v) : Tells (fun k => if c then a k else b k) v := by
  simpa only [if_pos hc] using h
theorem Tells.neg {α : Type} {c : Prop} [Decidable c] {a b : Nat → Option α} {v : α} (hc : ¬ c) (h : Tells b v) : Tells (fun k => if c then a k else b k) v := by
  simpa only [if_neg hc] using h
theorem Tells.congr {α : Type} {f g : Nat → Option α} {v : α} (h : Tells g v) (e : ∀ k, f k = g k) : Tells f v := by
  obtain ⟨K, h⟩ := h
  exact ⟨K, fun k hk => (e k).trans (h k hk)⟩
theorem Tells.unique {α : Type} {f : Nat → Option α} {u v : α} (h : Tells f u) (h' : Tells f v) : u = v := by
  obtain ⟨K, h⟩ := h
  obtain ⟨K', h'⟩ := h'
  exact Option.some.inj ((h (K + K') (by omega)).symm.trans (h' (K + K') (by omega)))

theorem w64 {x : Int} (h : -9223372036854775808 ≤ x ∧ x ≤ 9223372036854775807) : wrap64 x = x := by unfold wrap64; omega
theorem w64n (i : Nat) (h : i < 9223372036854775807) : wrap64 ((i : Int) + 1) = ((i + 1 : Nat) : Int) := by unfold wrap64; omega

/-- A byte string out of its list. -/
abbrev B (l : List UInt8) : ByteArray := ⟨l.toArray⟩
theorem B_data (s : ByteArray) : B s.data.toList = s := by cases s; simp
theorem B_list (l : List UInt8) : (B l).data.toList = l := by simp
theorem B_size (l : List UInt8) : (B l).size = l.length := by show l.toArray.size = _; simp
theorem B_toList (l : List UInt8) : (B l).toList = l := by rw [ByteArray.toList_eq]
theorem toList_data (s : ByteArray) : s.toList = s.data.toList := ByteArray.toList_eq s
theorem B_append (l m : List UInt8) : B l ++ B m = B (l ++ m) := by apply ByteArray.ext; simp
theorem B_extract (l : List UInt8) (a b : Nat) : (B l).extract a b = B ((l.drop a).take (b - a)) := by rw [Lib.extract_eq]
theorem B_inj {l m : List UInt8} (h : B l = B m) : l = m := by rw [← B_list l, ← B_list m, h]
theorem B_bt (l : List UInt8) (i : Nat) (h : i < l.length) : bt (B l) (i : Int) = (l[i].toNat : Int) := by
  unfold bt
  rw [dif_pos (by rw [B_size]; simpa using h)]
  rfl
theorem rdOf_at {α : Type} (d : α) (l : List α) (i : Nat) (h : i < l.length) : rdOf d l (i : Int) = l[i] := by simp [rdOf, List.getD_eq_getElem?_getD, h]
end Go.Proofs.YtchlcncffillbaaDoor.L
