/- The reference's Decimal, Line and Format tell what the package's do. -/
import Derived.Test.YtchlcncffillbaaDoorLA
import Derived.Test.YtchlcncffillbaaDoorP3
import Derived.Test.YtchlcncffillbaaDoorP4
import Derived.Test.YtchlcncffillbaaDoorET
import Derived.Test.YtchlcncffillbaaDoorEF
import Derived.Test.YtchlcncffillbaaDoorF0
import Derived.Lib.ItoaMem
namespace Go.Proofs.YtchlcncffillbaaDoor.L
open Go.RowKit Go.Proofs.YtchlcncffillbaaDoor.P Go.Proofs.YtchlcncffillbaaDoorW.PrintWords Go.Proofs.YtchlcncffillbaaDoorW.PrintLast Go.Proofs.YtchlcncffillbaaDoorW.PrintMore

theorem dig (i : Nat) (h : i < 10) : (⟨#[48, 49, 50, 51, 52, 53, 54, 55, 56, 57]⟩ : ByteArray).extract i (i + 1) = B [UInt8.ofNat (48 + i)] := by
  have : ∀ m : Fin 10, (⟨#[48, 49, 50, 51, 52, 53, 54, 55, 56, 57]⟩ : ByteArray).extract m.1 (m.1 + 1) = B [UInt8.ofNat (48 + m.1)] := by decide +kernel
  exact this ⟨i, h⟩

theorem decimal_nat (u : Nat) (hu : u ≤ 9223372036854775807) : Tells (fun k => ontimeref05_Decimal.f k u) (B (Lib.decDigits u)) := by
  induction u using Nat.strongRecOn with
  | ind u ih =>
  have hm : Int.tmod (u : Int) 10 = ((u % 10 : Nat) : Int) := by rw [Int.tmod_eq_emod_of_nonneg (by omega)]; omega
  have hd : Int.tdiv (u : Int) 10 = ((u / 10 : Nat) : Int) := by rw [Int.tdiv_eq_ediv_of_nonneg (by omega)]; omega
  have hlt : u % 10 < 10 := Nat.mod_lt _ (by omega)
  refine Tells.succ ?_
  simp only [ontimeref05_Decimal.f, hm, hd, w64n _ (show u % 10 < 9223372036854775807 by omega), w64 (x := ((u / 10 : Nat) : Int)) ⟨by omega, by omega⟩, Int.toNat_natCast, dig _ hlt]
  refine Tells.neg (by omega) ?_
  refine Tells.pos (by omega) ?_
  refine Tells.pos (by omega) ?_
  refine Tells.pos (by omega) ?_
  by_cases h : u < 10
  · refine Tells.pos (by omega) ?_
    rw [Lib.decDigits_one h, Nat.mod_eq_of_lt h]
    exact Tells.const
  · refine Tells.neg (by omega) ?_
    refine Tells.bind (ih (u / 10) (by omega) (by omega)) ?_
    have hs : (Lib.decDigits (u / 10)).length ≤ 21 := by
      rw [← Lib.itoa_nonneg]
      have := Lib.itoa_length_le ((u / 10 : Nat) : Int) (by omega) (by omega)
      omega
    refine Tells.pos (by rw [B_size, B_size]; simp only [List.length_cons, List.length_nil]; omega) ?_
    refine Tells.of ?_
    rw [B_append]
    conv => rhs; rw [Lib.decDigits, dif_neg h]

theorem itoa_small (x : Int) (h : -9223372036854775807 ≤ x ∧ x ≤ 9223372036854775807) : (Lib.itoa x).length ≤ 21 := Lib.itoa_length_le x (by omega) h.2
theorem decimal (x : Int) (h : -9223372036854775807 ≤ x ∧ x ≤ 9223372036854775807) : Tells (fun k => ontimeref05_Decimal.f k x) (B (Lib.itoa x)) := by
  by_cases hx : x < 0
  · refine Tells.succ ?_
    obtain ⟨u, rfl⟩ : ∃ u : Nat, x = -(u : Int) := ⟨x.natAbs, by omega⟩
    simp only [ontimeref05_Decimal.f, Int.neg_neg]
    rw [w64 ⟨by omega, by omega⟩]
    refine Tells.pos hx ?_
    refine Tells.bind (decimal_nat u (by omega)) ?_
    have := itoa_small u ⟨by omega, by omega⟩
    rw [Lib.itoa_nonneg] at this
    refine Tells.pos (by rw [B_size]; omega) ?_
    refine Tells.of ?_
    rw [Lib.itoa_neg u (by omega), show (⟨#[45]⟩ : ByteArray) = B [45] from rfl, B_append]
    rfl
  · obtain ⟨u, rfl⟩ : ∃ u : Nat, x = (u : Int) := ⟨x.toNat, by omega⟩
    rw [Lib.itoa_nonneg]
    exact decimal_nat u (by omega)

/-- The letters of the operands, in the reference. -/
def shp (n : Nat) : List UInt8 := (clsB n).data.toList.map (· + 32)
theorem shape_eq (n : Nat) (h : n < 30) : Tells (fun k => ontimeref05_Shape.f k n) (B (shp n)) := by
  have : ∀ m : Fin 30, ontimeref05_Shape.f 5 (m.1 : Nat) = some (B (shp m.1)) := by decide +kernel
  exact Tells.ofMono 5 (fun k => ontimeref05_Shape.mono _ k) (this ⟨n, h⟩)
def namesL : List ByteArray := (ontimeref05_Names.f).getD []
theorem names_eq : ontimeref05_Names.f = some namesL := rfl
theorem names_len : namesL.length = 30 := rfl
theorem names_at (n : Nat) (h : n < 30) : rdOf ByteArray.empty namesL (n : Int) = B (rowOf n).f0.data.toList := by
  have : ∀ m : Fin 30, rdOf ByteArray.empty namesL ((m.1 : Nat) : Int) = B (rowOf m.1).f0.data.toList := by decide +kernel
  exact this ⟨n, h⟩

theorem line_l0 (n : Nat) (hn : n < 30) (o a b c i : Int) (ha : -200000 ≤ a ∧ a ≤ 200000) (hb : -200000 ≤ b ∧ b ≤ 200000) (hc : -200000 ≤ c ∧ c ≤ 200000) (hi : -200000 ≤ i ∧ i ≤ 200000) :
    ∀ (d j : Nat) (pre : List UInt8), j + d = (clsB n).data.toList.length → pre.length + 25 * d ≤ 1000000 →
    Tells (fun k => ontimeref05_Line.l0 k (B pre) (B (shp n)) j o a b c i) (B (pre ++ ((clsB n).data.toList.drop j).flatMap (piece a b c i))) := by
  intro d
  induction d with
  | zero =>
    intro j pre hj hp
    refine Tells.succ ?_
    simp only [ontimeref05_Line.l0]
    refine Tells.neg (by rw [B_size, shp, List.length_map]; omega) ?_
    rw [List.drop_eq_nil_of_le (by omega), List.flatMap_nil, List.append_nil]
    exact Tells.const
  | succ d ih =>
    intro j pre hj hp
    have hlt : j < (clsB n).data.toList.length := by omega
    have hls : j < (shp n).length := by rw [shp, List.length_map]; exact hlt
    have hd : (clsB n).data.toList.drop j = (clsB n).data.toList[j] :: (clsB n).data.toList.drop (j + 1) := List.drop_eq_getElem_cons hlt
    have hin := (cls_in n hn).2 _ (List.getElem_mem hlt)
    have hsz := (cls_in n hn).1
    have hx : (shp n)[j] = (clsB n).data.toList[j] + 32 := by simp [shp]
    rw [hd, List.flatMap_cons]
    generalize (clsB n).data.toList[j] = y at hin hx
    refine Tells.succ ?_
    simp only [ontimeref05_Line.l0, B_bt _ _ hls, hx, w64n _ (show j < 9223372036854775807 by rw [size_list] at hlt; omega)]
    refine Tells.pos (by rw [B_size]; omega) ?_
    refine Tells.pos (by omega) ?_
    have key : ∀ (x : Int) (r : List UInt8), (-200000 ≤ x ∧ x ≤ 200000) → r.length ≤ 2 → piece a b c i y = r ++ Lib.itoa x →
        Tells (fun k => if (B pre).size + r.length ≤ 9223372036854775807 then (ontimeref05_Decimal.f k x).bind fun t => if (B pre ++ B r).size + t.size ≤ 9223372036854775807 then ontimeref05_Line.l0 k ((B pre ++ B r) ++ t) (B (shp n)) ((j + 1 : Nat) : Int) o a b c i else none else none)
          (B (pre ++ (piece a b c i y ++ ((clsB n).data.toList.drop (j + 1)).flatMap (piece a b c i)))) := by
      intro x r hx hr he
      have hl := itoa_small x ⟨by omega, by omega⟩
      refine Tells.pos (by rw [B_size]; omega) ?_
      refine Tells.bind (decimal x ⟨by omega, by omega⟩) ?_
      simp only [B_append]
      refine Tells.pos (by rw [B_size, B_size, List.length_append]; omega) ?_
      rw [he]
      have := ih (j + 1) (pre ++ r ++ Lib.itoa x) (by omega) (by simp only [List.length_append]; omega)
      simpa only [List.append_assoc] using this
    rcases hin with rfl | rfl | rfl | rfl
    · refine Tells.pos (by decide) ?_
      exact key a [32, 114] ha (by decide) rfl
    · refine Tells.neg (by decide) ?_
      refine Tells.pos (by decide) ?_
      exact key b [32, 114] hb (by decide) rfl
    · refine Tells.neg (by decide) ?_
      refine Tells.neg (by decide) ?_
      refine Tells.pos (by decide) ?_
      exact key c [32, 114] hc (by decide) rfl
    · refine Tells.neg (by decide) ?_
      refine Tells.neg (by decide) ?_
      refine Tells.neg (by decide) ?_
      exact key i [32] hi (by decide) rfl

theorem line_eq {x : S48} (h : vS x = true) : Tells (fun k => ontimeref05_Line.f k x.f0 x.f1 x.f2 x.f3 x.f4) (lineS x) := by
  obtain ⟨h0, h1, _⟩ := vS_op h
  obtain ⟨ha, hb, hc, hd⟩ := vS_small h
  obtain ⟨n, hn⟩ : ∃ n : Nat, x.f0 = n := ⟨x.f0.toNat, by omega⟩
  unfold ontimeref05_Line.f
  rw [names_eq]
  simp only [Option.bind_some, hn]
  refine Tells.pos (by omega) ?_
  refine Tells.pos (by rw [names_len]; omega) ?_
  refine Tells.bind (shape_eq n (by omega)) ?_
  rw [names_at n (by omega)]
  have hs := (cls_in n (by omega)).1
  have hr := rows_f0 n (by omega)
  have := line_l0 n (by omega) n x.f1 x.f2 x.f3 x.f4 ha hb hc hd _ 0 (rowOf n).f0.data.toList (Nat.zero_add _) (by rw [size_list, size_list]; omega)
  rw [List.drop_zero] at this
  have e : lineS x = B ((rowOf n).f0.data.toList ++ (clsB n).data.toList.flatMap (piece x.f1 x.f2 x.f3 x.f4)) := by
    unfold lineS lineB
    rw [hn]; rfl
  rw [e]
  exact this

theorem format_l0 (l : List S48) (hl : l.length ≤ 4096) (h : ∀ x ∈ l, vS x = true) : ∀ (d i : Nat), i + d = l.length →
    Tells (fun k => ontimeref05_Format.l0 k l (B (textL (l.take i))) i) (textS l) := by
  intro d
  induction d with
  | zero =>
    intro i hi
    refine Tells.succ ?_
    simp only [ontimeref05_Format.l0]
    refine Tells.neg (by omega) ?_
    rw [List.take_of_length_le (by omega)]
    exact Tells.const
  | succ d ih =>
    intro i hi
    have hlt : i < l.length := by omega
    have hv := h _ (List.getElem_mem hlt)
    refine Tells.succ ?_
    simp only [ontimeref05_Format.l0, rd_at l i hlt, w64n i (by omega)]
    refine Tells.pos (by omega) ?_
    refine Tells.pos (by omega) ?_
    refine Tells.bind (line_eq hv) ?_
    have hs := lineS_size hv
    have ht := textL_len (l.take i) (fun x hx => h x (List.mem_of_mem_take hx))
    rw [List.length_take] at ht
    have hB : (B (textL (l.take i))).size ≤ 76 * 4096 := by rw [B_size]; omega
    have e : B (textL (l.take i)) ++ lineS l[i] = B (textL (l.take i) ++ (lineS l[i]).data.toList) := by rw [← B_append, B_data]
    refine Tells.pos (by omega) ?_
    refine Tells.pos (by rw [e, B_size, List.length_append, size_list]; rw [B_size] at hB; omega) ?_
    rw [e, show (⟨#[10]⟩ : ByteArray) = B [10] from rfl, B_append, List.append_assoc, ← textL_snoc l i hlt]
    exact ih (i + 1) (by omega)

theorem format_eq (l : List S48) (hl : l.length ≤ 4096) (h : ∀ x ∈ l, vS x = true) : Tells (fun k => ontimeref05_Format.f k l) (textS l) := by
  have := format_l0 l hl h l.length 0 (by omega)
  exact this

theorem valid_l0 (l : List S48) (hl : l.length ≤ 100000) (ho : ∀ x ∈ l, isOp x = true) : ∀ (d i : Nat), i + d = l.length →
    Tells (fun k => ontimelaw05_valid.l0 k l i) (if (l.drop i).all vS = true then 1 else 0) := by
  intro d
  induction d with
  | zero =>
    intro i hi
    refine Tells.succ ?_
    simp only [ontimelaw05_valid.l0]
    refine Tells.neg (by omega) ?_
    rw [List.drop_eq_nil_of_le (by omega)]
    exact Tells.const
  | succ d ih =>
    intro i hi
    have hlt : i < l.length := by omega
    have hd : l.drop i = l[i] :: l.drop (i + 1) := List.drop_eq_getElem_cons hlt
    refine Tells.succ ?_
    simp only [ontimelaw05_valid.l0, rd_at l i hlt, w64n i (by omega), valid_f _ (ho _ (List.getElem_mem hlt)), Option.bind_some]
    refine Tells.pos (by omega) ?_
    refine Tells.pos (by omega) ?_
    rw [hd, List.all_cons]
    by_cases h : vS l[i] = true
    · refine Tells.pos h ?_
      rw [h, Bool.true_and]
      exact ih (i + 1) (by omega)
    · refine Tells.neg h ?_
      simp only [h, Bool.false_and]
      exact Tells.const
theorem valid_eq (l : List S48) (hl : l.length ≤ 100000) (ho : ∀ x ∈ l, isOp x = true) : Tells (fun k => ontimelaw05_valid.f k l) (if l.all vS = true then 1 else 0) := by
  have := valid_l0 l hl ho l.length 0 (by omega)
  rw [List.drop_zero] at this
  exact this

theorem op_of_ok {l : List S48} (ok : ∀ x ∈ l, F.okI x) : ∀ x ∈ l, isOp x = true := by
  intro x hx
  have := (ok x hx).1
  unfold isOp
  simp only [Bool.and_eq_true, decide_eq_true_eq]
  omega
theorem asm_format (l : List S48) (hl : l.length ≤ 4096) (ho : ∀ x ∈ l, isOp x = true) : asm_Format.f l = some (if l.all vS = true then (textS l, 0) else (⟨#[]⟩, 3)) := by
  unfold asm_Format.f
  rw [if_neg (by omega)]
  have : l.all isOp = true := List.all_eq_true.2 ho
  rw [if_pos this]
  by_cases h : l.all vS = true
  · simp only [if_pos h]
  · simp only [if_neg h]
end Go.Proofs.YtchlcncffillbaaDoor.L
