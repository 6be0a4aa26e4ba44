/- What asm.check and asm.Format answer, as plain Lean over the list of the instructions. -/
import Derived.Test.YtchlcncffillbaaDoorEL
import Derived.Test.YtchlcncffillbaaDoorP10
namespace Go.Proofs.YtchlcncffillbaaDoor.P
open Go.RowKit Go.Proofs.YtchlcncffillbaaDoorW.PrintWords Go.Proofs.YtchlcncffillbaaDoorW.PrintLast Go.Proofs.YtchlcncffillbaaDoorW.PrintMore

/-- The opcode is a byte. -/
def isOp (x : S48) : Bool := decide (0 ≤ x.f0) && decide (x.f0 ≤ 255)
/-- A valid instruction. -/
def vS (x : S48) : Bool := decide (0 ≤ x.f0) && (decide (x.f0 < 30) && validR (rowOf x.f0.toNat) x.f1 x.f2 x.f3 x.f4)
def lineS (x : S48) : ByteArray := lineB x.f0.toNat x.f1 x.f2 x.f3 x.f4
def textL (l : List S48) : List UInt8 := l.flatMap fun x => (lineS x).data.toList ++ [10]
def textS (l : List S48) : ByteArray := ⟨(textL l).toArray⟩

theorem valid_f (x : S48) (h : isOp x = true) : isa_Valid.f x.f0 x.f1 x.f2 x.f3 x.f4 = some (vS x) := by
  unfold isOp at h
  simp only [Bool.and_eq_true, decide_eq_true_eq] at h
  unfold isa_Valid.f vS
  rw [if_pos h.1]
  by_cases h1 : x.f0 < 30
  · rw [if_pos h1]; simp [h.1, h1]
  · rw [if_neg h1, if_pos h.2]; simp [h1]

theorem chk_bounds {R : S76} {a b c i : Int} {j : Nat} (h : chk R a b c i j = true) (h2 : -200000 ≤ R.f2) (h3 : R.f3 ≤ 200000) : -200000 ≤ opd a b c i j ∧ opd a b c i j ≤ 200000 := by
  unfold chk loOf hiOf at h
  simp only [Bool.and_eq_true, decide_eq_true_eq] at h
  obtain ⟨h0, h1⟩ := h
  split at h0 <;> split at h1 <;> (try split at h0) <;> (try split at h1) <;> omega
theorem rows_bounds (n : Nat) (h : n < 30) : -200000 ≤ (rowOf n).f2 ∧ (rowOf n).f3 ≤ 200000 := by
  have : ∀ m : Fin 30, -200000 ≤ (rowOf m.1).f2 ∧ (rowOf m.1).f3 ≤ 200000 := by decide +kernel
  exact this ⟨n, h⟩
theorem vS_op {x : S48} (h : vS x = true) : 0 ≤ x.f0 ∧ x.f0 < 30 ∧ validR (rowOf x.f0.toNat) x.f1 x.f2 x.f3 x.f4 = true := by
  unfold vS at h
  simp only [Bool.and_eq_true, decide_eq_true_eq] at h
  exact h
theorem vS_small {x : S48} (h : vS x = true) : (-200000 ≤ x.f1 ∧ x.f1 ≤ 200000) ∧ (-200000 ≤ x.f2 ∧ x.f2 ≤ 200000) ∧ (-200000 ≤ x.f3 ∧ x.f3 ≤ 200000) ∧ (-200000 ≤ x.f4 ∧ x.f4 ≤ 200000) := by
  obtain ⟨h0, h1, h2⟩ := vS_op h
  obtain ⟨b1, b2⟩ := rows_bounds x.f0.toNat (by omega)
  unfold validR at h2
  simp only [Bool.and_eq_true] at h2
  exact ⟨chk_bounds h2.1 b1 b2, chk_bounds h2.2.1 b1 b2, chk_bounds h2.2.2.1 b1 b2, chk_bounds h2.2.2.2 b1 b2⟩
theorem line_f {x : S48} (h : vS x = true) : asm_line.f x.f0 x.f1 x.f2 x.f3 x.f4 = some (lineS x) := by
  obtain ⟨h0, h1, _⟩ := vS_op h
  obtain ⟨⟨a1, a2⟩, ⟨b1, b2⟩, ⟨c1, c2⟩, ⟨d1, d2⟩⟩ := vS_small h
  unfold asm_line.f
  rw [if_pos ⟨h0, h1, ⟨by omega, by omega⟩, ⟨by omega, by omega⟩, ⟨by omega, by omega⟩, ⟨by omega, by omega⟩⟩]
  rfl
theorem lineS_size {x : S48} (h : vS x = true) : (lineS x).size ≤ 75 := by
  obtain ⟨h0, h1, _⟩ := vS_op h
  obtain ⟨⟨a1, a2⟩, ⟨b1, b2⟩, ⟨c1, c2⟩, ⟨d1, d2⟩⟩ := vS_small h
  unfold lineS
  rw [← line_is]
  exact lineTo_size _ (by omega) _ _ _ _ ⟨by omega, by omega⟩ ⟨by omega, by omega⟩ ⟨by omega, by omega⟩ ⟨by omega, by omega⟩ _

theorem rd_at (l : List S48) (i : Nat) (h : i < l.length) : rd_T48 l (i : Int) = l[i] := by simp [rd_T48, List.getD_eq_getElem?_getD, h]

theorem check_l0 (l : List S48) (hl : l.length ≤ 4096) (ho : ∀ x ∈ l, isOp x = true) : ∀ (d k i : Nat), i + d = l.length → d < k →
    asm_check.l0 k l (l.length : Int) i = some (if (l.drop i).all vS = true then 0 else 3) := by
  intro d
  induction d with
  | zero =>
    intro k i hi hk
    obtain ⟨k, rfl⟩ : ∃ m, k = m + 1 := ⟨k - 1, by omega⟩
    simp only [asm_check.l0]; rw [if_neg (by omega), List.drop_eq_nil_of_le (by omega)]; rfl
  | succ d ih =>
    intro k i hi hk
    obtain ⟨k, rfl⟩ : ∃ m, k = m + 1 := ⟨k - 1, by omega⟩
    have hlt : i < l.length := by omega
    have hd : l.drop i = l[i] :: l.drop (i + 1) := List.drop_eq_getElem_cons hlt
    simp only [asm_check.l0]
    rw [if_pos (by omega), if_pos (by omega), if_pos (by omega), rd_at l i hlt, valid_f _ (ho _ (List.getElem_mem hlt)), hd, List.all_cons]
    simp only [Option.bind_some]
    by_cases h : vS l[i] = true
    · rw [if_pos h, show wrap64 ((i : Int) + 1) = ((i + 1 : Nat) : Int) by unfold wrap64; omega, ih k (i + 1) (by omega) (by omega), h]
      simp
    · rw [if_neg h]
      simp [h]

theorem check_f (l : List S48) (hl : l.length ≤ 4096) (ho : ∀ x ∈ l, isOp x = true) (k : Nat) (hk : l.length < k) :
    asm_check.f k l = some (if l.all vS = true then 0 else 3) := by
  unfold asm_check.f
  rw [if_neg (by omega)]
  have := check_l0 l hl ho l.length k 0 (by omega) hk
  rw [List.drop_zero] at this
  exact this
theorem check_full (l : List S48) (hl : 4096 < l.length) (k : Nat) : asm_check.f k l = some 5 := by
  unfold asm_check.f
  rw [if_pos (by omega)]

theorem textL_snoc (l : List S48) (i : Nat) (h : i < l.length) : textL (l.take (i + 1)) = textL (l.take i) ++ ((lineS l[i]).data.toList ++ [10]) := by
  unfold textL
  have e : l.take (i + 1) = l.take i ++ [l[i]] := by rw [List.take_add_one, List.getElem?_eq_getElem h]; rfl
  rw [e, List.flatMap_append]
  simp only [List.flatMap_cons, List.flatMap_nil, List.append_nil]
theorem textL_len (l : List S48) (h : ∀ x ∈ l, vS x = true) : (textL l).length ≤ 76 * l.length := by
  induction l with
  | nil => simp [textL]
  | cons x l ih =>
    have h1 := ih (fun y hy => h y (List.mem_cons_of_mem _ hy))
    have h2 := lineS_size (h x List.mem_cons_self)
    unfold textL at h1 ⊢
    simp only [List.flatMap_cons, List.length_append, List.length_cons, List.length_nil, size_list]
    omega
end Go.Proofs.YtchlcncffillbaaDoor.P
