/- Several texts of this claim, one behind the other. -/
import Derived.Test.YtchlcncffillbaaDoorP0
import Derived.Lib.Strings
import Derived.Test.YtchlcncffillbaaDoorP3
import Derived.Test.YtchlcncffillbaaDoorP4
import Derived.Test.YtchlcncffillbaaDoorET
import Derived.Test.YtchlcncffillbaaDoorEF
import Derived.Test.YtchlcncffillbaaDoorF0
import Derived.Lib.ItoaMem
import Derived.Lib.FieldsP
import Derived.Test.YtchlcncffillbaaDoorEQ
import Derived.Test.YtchlcncffillbaaDoorP5
import Derived.Test.YtchlcncffillbaaDoorEI
import Derived.Test.YtchlcncffillbaaDoorP7
import Derived.Test.YtchlcncffillbaaDoorP8
import Derived.Test.YtchlcncffillbaaDoorP9
import Derived.Test.YtchlcncffillbaaDoorP11
import Derived.Lib.SplitLaws
import Derived.Lib.IndexBytes
import Derived.Test.YtchlcncffillbaaDoorP14
import Derived.KernelRfl
/- Plain words: what a function with rounds tells once it has rounds enough; byte lists. -/
namespace Go.Proofs.YtchlcncffillbaaDoor.L
open Go.RowKit Go.Proofs.YtchlcncffillbaaDoorW.PrintWords Go.Proofs.YtchlcncffillbaaDoorW.PrintLast Go.Proofs.YtchlcncffillbaaDoorW.PrintMore

/-- With rounds enough, f tells v. -/
def Tells {α : Type} (f : Nat → Option α) (v : α) : Prop := ∃ K, ∀ k, K ≤ k → f k = some v
theorem Tells.ex {α : Type} {f : Nat → Option α} {v : α} (h : Tells f v) : ∃ k, f k = some v := let ⟨K, h⟩ := h; ⟨K, h K (Nat.le_refl _)⟩
theorem Tells.ofMono {α : Type} {f : Nat → Option α} {v : α} (k0 : Nat) (m : ∀ k, LeO (f k) (f (k + 1))) (h : f k0 = some v) : Tells f v := by
  refine ⟨k0, fun k hk => ?_⟩
  obtain ⟨d, rfl⟩ : ∃ d, k = k0 + d := ⟨k - k0, by omega⟩
  clear hk
  induction d with
  | zero => exact h
  | succ d ih => exact m _ _ ih
theorem Tells.const {α : Type} {v : α} : Tells (fun _ => some v) v := ⟨0, fun _ _ => rfl⟩
theorem Tells.of {α : Type} {x : Option α} {v : α} (h : x = some v) : Tells (fun _ => x) v := ⟨0, fun _ _ => h⟩
theorem Tells.bind {α β : Type} {g : Nat → Option α} {h : Nat → α → Option β} {a : α} {v : β} (h1 : Tells g a) (h2 : Tells (fun k => h k a) v) : Tells (fun k => (g k).bind (h k)) v := by
  obtain ⟨K1, h1⟩ := h1
  obtain ⟨K2, h2⟩ := h2
  refine ⟨K1 + K2, fun k hk => ?_⟩
  show (g k).bind (h k) = some v
  rw [h1 k (by omega)]
  exact h2 k (by omega)
theorem Tells.succ {α : Type} {f : Nat → Option α} {v : α} (h : Tells (fun k => f (k + 1)) v) : Tells f v := by
  obtain ⟨K, h⟩ := h
  refine ⟨K + 1, fun k hk => ?_⟩
  obtain ⟨m, rfl⟩ : ∃ m, k = m + 1 := ⟨k - 1, by omega⟩
  exact h m (by omega)
theorem Tells.pos {α : Type} {c : Prop} [Decidable c] {a b : Nat → Option α} {v : α} (hc : c) (h : Tells a v) : Tells (fun k => if c then a k else b k) v := by
  simpa only [if_pos hc] using h
theorem Tells.neg {α : Type} {c : Prop} [Decidable c] {a b : Nat → Option α} {v : α} (hc : ¬ c) (h : Tells b v) : Tells (fun k => if c then a k else b k) v := by
  simpa only [if_neg hc] using h
theorem Tells.congr {α : Type} {f g : Nat → Option α} {v : α} (h : Tells g v) (e : ∀ k, f k = g k) : Tells f v := by
  obtain ⟨K, h⟩ := h
  exact ⟨K, fun k hk => (e k).trans (h k hk)⟩
theorem Tells.unique {α : Type} {f : Nat → Option α} {u v : α} (h : Tells f u) (h' : Tells f v) : u = v := by
  obtain ⟨K, h⟩ := h
  obtain ⟨K', h'⟩ := h'
  exact Option.some.inj ((h (K + K') (by omega)).symm.trans (h' (K + K') (by omega)))

theorem w64 {x : Int} (h : -9223372036854775808 ≤ x ∧ x ≤ 9223372036854775807) : wrap64 x = x := by unfold wrap64; omega
theorem w64n (i : Nat) (h : i < 9223372036854775807) : wrap64 ((i : Int) + 1) = ((i + 1 : Nat) : Int) := by unfold wrap64; omega

/-- A byte string out of its list. -/
abbrev B (l : List UInt8) : ByteArray := ⟨l.toArray⟩
theorem B_data (s : ByteArray) : B s.data.toList = s := by cases s; simp
theorem B_list (l : List UInt8) : (B l).data.toList = l := by simp
theorem B_size (l : List UInt8) : (B l).size = l.length := by show l.toArray.size = _; simp
theorem B_toList (l : List UInt8) : (B l).toList = l := by rw [ByteArray.toList_eq]
theorem toList_data (s : ByteArray) : s.toList = s.data.toList := ByteArray.toList_eq s
theorem B_append (l m : List UInt8) : B l ++ B m = B (l ++ m) := by apply ByteArray.ext; simp
theorem B_extract (l : List UInt8) (a b : Nat) : (B l).extract a b = B ((l.drop a).take (b - a)) := by rw [Lib.extract_eq]
theorem B_inj {l m : List UInt8} (h : B l = B m) : l = m := by rw [← B_list l, ← B_list m, h]
theorem B_bt (l : List UInt8) (i : Nat) (h : i < l.length) : bt (B l) (i : Int) = (l[i].toNat : Int) := by
  unfold bt
  rw [dif_pos (by rw [B_size]; simpa using h)]
  rfl
theorem rdOf_at {α : Type} (d : α) (l : List α) (i : Nat) (h : i < l.length) : rdOf d l (i : Int) = l[i] := by simp [rdOf, List.getD_eq_getElem?_getD, h]
end Go.Proofs.YtchlcncffillbaaDoor.L

/- The reference's Decimal, Line and Format tell what the package's do. -/
namespace Go.Proofs.YtchlcncffillbaaDoor.L
open Go.RowKit Go.Proofs.YtchlcncffillbaaDoor.P Go.Proofs.YtchlcncffillbaaDoorW.PrintWords Go.Proofs.YtchlcncffillbaaDoorW.PrintLast Go.Proofs.YtchlcncffillbaaDoorW.PrintMore

theorem dig (i : Nat) (h : i < 10) : (⟨#[48, 49, 50, 51, 52, 53, 54, 55, 56, 57]⟩ : ByteArray).extract i (i + 1) = B [UInt8.ofNat (48 + i)] := by
  have : ∀ m : Fin 10, (⟨#[48, 49, 50, 51, 52, 53, 54, 55, 56, 57]⟩ : ByteArray).extract m.1 (m.1 + 1) = B [UInt8.ofNat (48 + m.1)] := by decide +kernel
  exact this ⟨i, h⟩

theorem decimal_nat (u : Nat) (hu : u ≤ 9223372036854775807) : Tells (fun k => ontimeref05_Decimal.f k u) (B (Lib.decDigits u)) := by
  induction u using Nat.strongRecOn with
  | ind u ih =>
  have hm : Int.tmod (u : Int) 10 = ((u % 10 : Nat) : Int) := by rw [Int.tmod_eq_emod_of_nonneg (by omega)]; omega
  have hd : Int.tdiv (u : Int) 10 = ((u / 10 : Nat) : Int) := by rw [Int.tdiv_eq_ediv_of_nonneg (by omega)]; omega
  have hlt : u % 10 < 10 := Nat.mod_lt _ (by omega)
  refine Tells.succ ?_
  simp only [ontimeref05_Decimal.f, hm, hd, w64n _ (show u % 10 < 9223372036854775807 by omega), w64 (x := ((u / 10 : Nat) : Int)) ⟨by omega, by omega⟩, Int.toNat_natCast, dig _ hlt]
  refine Tells.neg (by omega) ?_
  refine Tells.pos (by omega) ?_
  refine Tells.pos (by omega) ?_
  refine Tells.pos (by omega) ?_
  by_cases h : u < 10
  · refine Tells.pos (by omega) ?_
    rw [Lib.decDigits_one h, Nat.mod_eq_of_lt h]
    exact Tells.const
  · refine Tells.neg (by omega) ?_
    refine Tells.bind (ih (u / 10) (by omega) (by omega)) ?_
    have hs : (Lib.decDigits (u / 10)).length ≤ 21 := by
      rw [← Lib.itoa_nonneg]
      have := Lib.itoa_length_le ((u / 10 : Nat) : Int) (by omega) (by omega)
      omega
    refine Tells.pos (by rw [B_size, B_size]; simp only [List.length_cons, List.length_nil]; omega) ?_
    refine Tells.of ?_
    rw [B_append]
    conv => rhs; rw [Lib.decDigits, dif_neg h]

theorem itoa_small (x : Int) (h : -9223372036854775807 ≤ x ∧ x ≤ 9223372036854775807) : (Lib.itoa x).length ≤ 21 := Lib.itoa_length_le x (by omega) h.2
theorem decimal (x : Int) (h : -9223372036854775807 ≤ x ∧ x ≤ 9223372036854775807) : Tells (fun k => ontimeref05_Decimal.f k x) (B (Lib.itoa x)) := by
  by_cases hx : x < 0
  · refine Tells.succ ?_
    obtain ⟨u, rfl⟩ : ∃ u : Nat, x = -(u : Int) := ⟨x.natAbs, by omega⟩
    simp only [ontimeref05_Decimal.f, Int.neg_neg]
    rw [w64 ⟨by omega, by omega⟩]
    refine Tells.pos hx ?_
    refine Tells.bind (decimal_nat u (by omega)) ?_
    have := itoa_small u ⟨by omega, by omega⟩
    rw [Lib.itoa_nonneg] at this
    refine Tells.pos (by rw [B_size]; omega) ?_
    refine Tells.of ?_
    rw [Lib.itoa_neg u (by omega), show (⟨#[45]⟩ : ByteArray) = B [45] from rfl, B_append]
    rfl
  · obtain ⟨u, rfl⟩ : ∃ u : Nat, x = (u : Int) := ⟨x.toNat, by omega⟩
    rw [Lib.itoa_nonneg]
    exact decimal_nat u (by omega)

/-- The letters of the operands, in the reference. -/
def shp (n : Nat) : List UInt8 := (clsB n).data.toList.map (· + 32)
theorem shape_eq (n : Nat) (h : n < 30) : Tells (fun k => ontimeref05_Shape.f k n) (B (shp n)) := by
  have : ∀ m : Fin 30, ontimeref05_Shape.f 5 (m.1 : Nat) = some (B (shp m.1)) := by decide +kernel
  exact Tells.ofMono 5 (fun k => ontimeref05_Shape.mono _ k) (this ⟨n, h⟩)
def namesL : List ByteArray := (ontimeref05_Names.f).getD []
theorem names_eq : ontimeref05_Names.f = some namesL := rfl
theorem names_len : namesL.length = 30 := rfl
theorem names_at (n : Nat) (h : n < 30) : rdOf ByteArray.empty namesL (n : Int) = B (rowOf n).f0.data.toList := by
  have : ∀ m : Fin 30, rdOf ByteArray.empty namesL ((m.1 : Nat) : Int) = B (rowOf m.1).f0.data.toList := by decide +kernel
  exact this ⟨n, h⟩

theorem line_l0 (n : Nat) (hn : n < 30) (o a b c i : Int) (ha : -200000 ≤ a ∧ a ≤ 200000) (hb : -200000 ≤ b ∧ b ≤ 200000) (hc : -200000 ≤ c ∧ c ≤ 200000) (hi : -200000 ≤ i ∧ i ≤ 200000) :
    ∀ (d j : Nat) (pre : List UInt8), j + d = (clsB n).data.toList.length → pre.length + 25 * d ≤ 1000000 →
    Tells (fun k => ontimeref05_Line.l0 k (B pre) (B (shp n)) j o a b c i) (B (pre ++ ((clsB n).data.toList.drop j).flatMap (piece a b c i))) := by
  intro d
  induction d with
  | zero =>
    intro j pre hj hp
    refine Tells.succ ?_
    simp only [ontimeref05_Line.l0]
    refine Tells.neg (by rw [B_size, shp, List.length_map]; omega) ?_
    rw [List.drop_eq_nil_of_le (by omega), List.flatMap_nil, List.append_nil]
    exact Tells.const
  | succ d ih =>
    intro j pre hj hp
    have hlt : j < (clsB n).data.toList.length := by omega
    have hls : j < (shp n).length := by rw [shp, List.length_map]; exact hlt
    have hd : (clsB n).data.toList.drop j = (clsB n).data.toList[j] :: (clsB n).data.toList.drop (j + 1) := List.drop_eq_getElem_cons hlt
    have hin := (cls_in n hn).2 _ (List.getElem_mem hlt)
    have hsz := (cls_in n hn).1
    have hx : (shp n)[j] = (clsB n).data.toList[j] + 32 := by simp [shp]
    rw [hd, List.flatMap_cons]
    generalize (clsB n).data.toList[j] = y at hin hx
    refine Tells.succ ?_
    simp only [ontimeref05_Line.l0, B_bt _ _ hls, hx, w64n _ (show j < 9223372036854775807 by rw [size_list] at hlt; omega)]
    refine Tells.pos (by rw [B_size]; omega) ?_
    refine Tells.pos (by omega) ?_
    have key : ∀ (x : Int) (r : List UInt8), (-200000 ≤ x ∧ x ≤ 200000) → r.length ≤ 2 → piece a b c i y = r ++ Lib.itoa x →
        Tells (fun k => if (B pre).size + r.length ≤ 9223372036854775807 then (ontimeref05_Decimal.f k x).bind fun t => if (B pre ++ B r).size + t.size ≤ 9223372036854775807 then ontimeref05_Line.l0 k ((B pre ++ B r) ++ t) (B (shp n)) ((j + 1 : Nat) : Int) o a b c i else none else none)
          (B (pre ++ (piece a b c i y ++ ((clsB n).data.toList.drop (j + 1)).flatMap (piece a b c i)))) := by
      intro x r hx hr he
      have hl := itoa_small x ⟨by omega, by omega⟩
      refine Tells.pos (by rw [B_size]; omega) ?_
      refine Tells.bind (decimal x ⟨by omega, by omega⟩) ?_
      simp only [B_append]
      refine Tells.pos (by rw [B_size, B_size, List.length_append]; omega) ?_
      rw [he]
      have := ih (j + 1) (pre ++ r ++ Lib.itoa x) (by omega) (by simp only [List.length_append]; omega)
      simpa only [List.append_assoc] using this
    rcases hin with rfl | rfl | rfl | rfl
    · refine Tells.pos (by decide) ?_
      exact key a [32, 114] ha (by decide) rfl
    · refine Tells.neg (by decide) ?_
      refine Tells.pos (by decide) ?_
      exact key b [32, 114] hb (by decide) rfl
    · refine Tells.neg (by decide) ?_
      refine Tells.neg (by decide) ?_
      refine Tells.pos (by decide) ?_
      exact key c [32, 114] hc (by decide) rfl
    · refine Tells.neg (by decide) ?_
      refine Tells.neg (by decide) ?_
      refine Tells.neg (by decide) ?_
      exact key i [32] hi (by decide) rfl

theorem line_eq {x : S48} (h : vS x = true) : Tells (fun k => ontimeref05_Line.f k x.f0 x.f1 x.f2 x.f3 x.f4) (lineS x) := by
  obtain ⟨h0, h1, _⟩ := vS_op h
  obtain ⟨ha, hb, hc, hd⟩ := vS_small h
  obtain ⟨n, hn⟩ : ∃ n : Nat, x.f0 = n := ⟨x.f0.toNat, by omega⟩
  unfold ontimeref05_Line.f
  rw [names_eq]
  simp only [Option.bind_some, hn]
  refine Tells.pos (by omega) ?_
  refine Tells.pos (by rw [names_len]; omega) ?_
  refine Tells.bind (shape_eq n (by omega)) ?_
  rw [names_at n (by omega)]
  have hs := (cls_in n (by omega)).1
  have hr := rows_f0 n (by omega)
  have := line_l0 n (by omega) n x.f1 x.f2 x.f3 x.f4 ha hb hc hd _ 0 (rowOf n).f0.data.toList (Nat.zero_add _) (by rw [size_list, size_list]; omega)
  rw [List.drop_zero] at this
  have e : lineS x = B ((rowOf n).f0.data.toList ++ (clsB n).data.toList.flatMap (piece x.f1 x.f2 x.f3 x.f4)) := by
    unfold lineS lineB
    rw [hn]; rfl
  rw [e]
  exact this

theorem format_l0 (l : List S48) (hl : l.length ≤ 4096) (h : ∀ x ∈ l, vS x = true) : ∀ (d i : Nat), i + d = l.length →
    Tells (fun k => ontimeref05_Format.l0 k l (B (textL (l.take i))) i) (textS l) := by
  intro d
  induction d with
  | zero =>
    intro i hi
    refine Tells.succ ?_
    simp only [ontimeref05_Format.l0]
    refine Tells.neg (by omega) ?_
    rw [List.take_of_length_le (by omega)]
    exact Tells.const
  | succ d ih =>
    intro i hi
    have hlt : i < l.length := by omega
    have hv := h _ (List.getElem_mem hlt)
    refine Tells.succ ?_
    simp only [ontimeref05_Format.l0, rd_at l i hlt, w64n i (by omega)]
    refine Tells.pos (by omega) ?_
    refine Tells.pos (by omega) ?_
    refine Tells.bind (line_eq hv) ?_
    have hs := lineS_size hv
    have ht := textL_len (l.take i) (fun x hx => h x (List.mem_of_mem_take hx))
    rw [List.length_take] at ht
    have hB : (B (textL (l.take i))).size ≤ 76 * 4096 := by rw [B_size]; omega
    have e : B (textL (l.take i)) ++ lineS l[i] = B (textL (l.take i) ++ (lineS l[i]).data.toList) := by rw [← B_append, B_data]
    refine Tells.pos (by omega) ?_
    refine Tells.pos (by rw [e, B_size, List.length_append, size_list]; rw [B_size] at hB; omega) ?_
    rw [e, show (⟨#[10]⟩ : ByteArray) = B [10] from rfl, B_append, List.append_assoc, ← textL_snoc l i hlt]
    exact ih (i + 1) (by omega)

theorem format_eq (l : List S48) (hl : l.length ≤ 4096) (h : ∀ x ∈ l, vS x = true) : Tells (fun k => ontimeref05_Format.f k l) (textS l) := by
  have := format_l0 l hl h l.length 0 (by omega)
  exact this

theorem valid_l0 (l : List S48) (hl : l.length ≤ 100000) (ho : ∀ x ∈ l, isOp x = true) : ∀ (d i : Nat), i + d = l.length →
    Tells (fun k => ontimelaw05_valid.l0 k l i) (if (l.drop i).all vS = true then 1 else 0) := by
  intro d
  induction d with
  | zero =>
    intro i hi
    refine Tells.succ ?_
    simp only [ontimelaw05_valid.l0]
    refine Tells.neg (by omega) ?_
    rw [List.drop_eq_nil_of_le (by omega)]
    exact Tells.const
  | succ d ih =>
    intro i hi
    have hlt : i < l.length := by omega
    have hd : l.drop i = l[i] :: l.drop (i + 1) := List.drop_eq_getElem_cons hlt
    refine Tells.succ ?_
    simp only [ontimelaw05_valid.l0, rd_at l i hlt, w64n i (by omega), valid_f _ (ho _ (List.getElem_mem hlt)), Option.bind_some]
    refine Tells.pos (by omega) ?_
    refine Tells.pos (by omega) ?_
    rw [hd, List.all_cons]
    by_cases h : vS l[i] = true
    · refine Tells.pos h ?_
      rw [h, Bool.true_and]
      exact ih (i + 1) (by omega)
    · refine Tells.neg h ?_
      simp only [h, Bool.false_and]
      exact Tells.const
theorem valid_eq (l : List S48) (hl : l.length ≤ 100000) (ho : ∀ x ∈ l, isOp x = true) : Tells (fun k => ontimelaw05_valid.f k l) (if l.all vS = true then 1 else 0) := by
  have := valid_l0 l hl ho l.length 0 (by omega)
  rw [List.drop_zero] at this
  exact this

theorem op_of_ok {l : List S48} (ok : ∀ x ∈ l, F.okI x) : ∀ x ∈ l, isOp x = true := by
  intro x hx
  have := (ok x hx).1
  unfold isOp
  simp only [Bool.and_eq_true, decide_eq_true_eq]
  omega
theorem asm_format (l : List S48) (hl : l.length ≤ 4096) (ho : ∀ x ∈ l, isOp x = true) : asm_Format.f l = some (if l.all vS = true then (textS l, 0) else (⟨#[]⟩, 3)) := by
  unfold asm_Format.f
  rw [if_neg (by omega)]
  have : l.all isOp = true := List.all_eq_true.2 ho
  rw [if_pos this]
  by_cases h : l.all vS = true
  · simp only [if_pos h]
  · simp only [if_neg h]
end Go.Proofs.YtchlcncffillbaaDoor.L

/- strings.FieldsFunc with a predicate that two ASCII bytes alone meet goes byte by byte. -/
namespace Go.Proofs.YtchlcncffillbaaDoor.L

/-- A space or a tab. -/
def isB (c : UInt8) : Bool := c == 32 || c == 9
/-- The words of a text: cut at blanks, no word empty. -/
def fieldsB : List UInt8 → List UInt8 → List (List UInt8)
  | cur, [] => if cur = [] then [] else [cur]
  | cur, c :: l => if isB c = true then (if cur = [] then fieldsB [] l else cur :: fieldsB [] l) else fieldsB (cur ++ [c]) l
theorem fieldsB_app (t : List UInt8) (h : ∀ x ∈ t, isB x = false) : ∀ (cur l : List UInt8), fieldsB cur (t ++ l) = fieldsB (cur ++ t) l := by
  induction t with
  | nil => intro cur l; simp
  | cons x t ih =>
    intro cur l
    rw [List.cons_append, fieldsB, if_neg (by rw [h x List.mem_cons_self]; decide), ih (fun y hy => h y (List.mem_cons_of_mem _ hy)), List.append_assoc]
    rfl

/-- Blank, on runes. -/
def blankR (r : Nat) : Bool := if (r : Int) = 32 then true else ((r : Int) == 9)
theorem blankR_iff (r : Nat) : blankR r = true ↔ r = 32 ∨ r = 9 := by
  unfold blankR
  split <;> simp <;> omega
theorem isB_iff (c : UInt8) : isB c = true ↔ c.toNat = 32 ∨ c.toNat = 9 := by
  unfold isB
  simp only [Bool.or_eq_true, beq_iff_eq, ← UInt8.toNat_inj]
  rfl
theorem isB_false (c : UInt8) (h : ¬ (c.toNat = 32 ∨ c.toNat = 9)) : isB c = false := by
  cases hb : isB c
  · rfl
  · exact absurd ((isB_iff c).1 hb) h

theorem decN (n b0 b1 b2 b3 : Nat) (hn : 1 ≤ n) : let D := Lib.decodeN n b0 b1 b2 b3
    1 ≤ D.2 ∧ D.2 ≤ n ∧ D.2 ≤ 4 ∧ ((D.2 = 1 ∧ D.1 = b0) ∨ (D.1 ≠ 32 ∧ D.1 ≠ 9 ∧ 128 ≤ b0 ∧ (2 ≤ D.2 → 128 ≤ b1) ∧ (3 ≤ D.2 → 128 ≤ b2) ∧ (4 ≤ D.2 → 128 ≤ b3))) := by
  intro D
  have hD : D = Lib.decodeN n b0 b1 b2 b3 := rfl
  clear_value D
  subst hD
  unfold Lib.decodeN
  repeat' split
  all_goals dsimp only
  · exact ⟨by omega, by omega, by omega, Or.inl ⟨rfl, rfl⟩⟩
  all_goals exact ⟨by omega, by omega, by omega, Or.inr ⟨by omega, by omega, by omega, by omega, by omega, by omega⟩⟩

theorem dec_step (s : ByteArray) (pos : Nat) (h : pos < s.size) :
    1 ≤ (Utf8.decode s pos).2 ∧ pos + (Utf8.decode s pos).2 ≤ s.size ∧
    (blankR (Utf8.decode s pos).1 = true → (Utf8.decode s pos).2 = 1 ∧ isB (s.data.toList.getD pos 0) = true) ∧
    (blankR (Utf8.decode s pos).1 = false → ∀ x ∈ (s.data.toList.drop pos).take (Utf8.decode s pos).2, isB x = false) := by
  have hd := decN (s.size - pos) (s.get! pos).toNat (s.get! (pos + 1)).toNat (s.get! (pos + 2)).toNat (s.get! (pos + 3)).toNat (by omega)
  rw [← Lib.decode_at] at hd
  generalize Utf8.decode s pos = D at *
  obtain ⟨r, m⟩ := D
  obtain ⟨h1, h2, h3, h4⟩ := hd
  simp only at *
  refine ⟨h1, by omega, ?_, ?_⟩
  · intro hb
    have hb' := (blankR_iff r).1 hb
    rcases h4 with ⟨h4, h5⟩ | ⟨h5, h6, _⟩
    · refine ⟨h4, (isB_iff _).2 ?_⟩
      rw [Lib.getD_get!', ← h5]
      exact hb'
    · omega
  · intro hb x hx
    have hb' : ¬ (r = 32 ∨ r = 9) := fun hc => by
      rw [(blankR_iff r).2 hc] at hb
      cases hb
    obtain ⟨j, hj, rfl⟩ := List.getElem_of_mem hx
    have hjm : j < m := by
      rw [List.length_take] at hj
      omega
    have hjl : pos + j < s.data.toList.length := by
      rw [List.length_take, List.length_drop] at hj
      omega
    have e : ((s.data.toList.drop pos).take m)[j] = s.get! (pos + j) := by
      rw [List.getElem_take, List.getElem_drop, ← Lib.getD_get!', List.getD_eq_getElem?_getD, List.getElem?_eq_getElem hjl]
      rfl
    rw [e]
    refine isB_false _ ?_
    rcases h4 with ⟨h4, h5⟩ | ⟨_, _, h5, h6, h7, h8⟩
    · have : j = 0 := by omega
      subst this
      rw [Nat.add_zero, ← h5]
      exact hb'
    · have : j = 0 ∨ j = 1 ∨ j = 2 ∨ j = 3 := by omega
      rcases this with rfl | rfl | rfl | rfl
      · rw [Nat.add_zero]; omega
      · have := h6 (by omega); omega
      · have := h7 (by omega); omega
      · have := h8 (by omega); omega

theorem spansB_eq (s : ByteArray) : ∀ (f pos : Nat) (st : Option Nat) (acc : List (Nat × Nat)), s.size ≤ pos + f → pos ≤ s.size → (∀ a, st = some a → a < pos) →
    acc.map (fun p => Lib.pieceU s.data.toList p.1 p.2) ++ fieldsB (Lib.openPiece s.data.toList st pos) (s.data.toList.drop pos) = (Lib.closeSpans s (Lib.spansFromP blankR s f pos st acc)).map (fun p => Lib.pieceU s.data.toList p.1 p.2)
  | 0, pos, st, acc, h, hp, hst => by
    obtain rfl : pos = s.size := by omega
    have hd : s.data.toList.drop s.size = [] := List.drop_eq_nil_of_le (by rw [← Lib.size_eq]; exact Nat.le_refl _)
    rw [hd]
    cases st with
    | none => simp [Lib.spansFromP, Lib.closeSpans, Lib.openPiece, fieldsB]
    | some a =>
      have := Lib.pieceU_ne s.data.toList a s.size (hst a rfl) (by rw [← Lib.size_eq]; exact Nat.le_refl _)
      simp [Lib.spansFromP, Lib.closeSpans, Lib.openPiece, this, fieldsB]
  | f + 1, pos, st, acc, h, hp, hst => by
    by_cases hlt : pos < s.size
    · obtain ⟨hw, hwn, hT, hF⟩ := dec_step s pos hlt
      have hsplit : s.data.toList.drop pos = (s.data.toList.drop pos).take (Utf8.decode s pos).2 ++ s.data.toList.drop (pos + (Utf8.decode s pos).2) := by
        rw [← List.drop_drop, List.take_append_drop]
      simp only [Lib.spansFromP, if_pos hlt]
      cases hsp : blankR (Utf8.decode s pos).1 with
      | true =>
        obtain ⟨h1, hbl⟩ := hT hsp
        have hcons : s.data.toList.drop pos = s.data.toList.getD pos 0 :: s.data.toList.drop (pos + 1) := by
          have hl : pos < s.data.toList.length := by rw [← Lib.size_eq]; exact hlt
          rw [List.drop_eq_getElem_cons hl, List.getD_eq_getElem?_getD, List.getElem?_eq_getElem hl]
          rfl
        simp only [if_true, h1]
        rw [hcons]
        cases st with
        | none =>
          have ih := spansB_eq s f (pos + 1) none acc (by omega) (by omega) (fun a h => by cases h)
          rw [fieldsB, if_pos hbl]
          simpa [Lib.openPiece] using ih
        | some a =>
          have hpn := Lib.pieceU_ne s.data.toList a pos (hst a rfl) (by rw [← Lib.size_eq]; omega)
          have ih := spansB_eq s f (pos + 1) none (acc ++ [(a, pos)]) (by omega) (by omega) (fun a h => by cases h)
          rw [fieldsB, if_pos hbl]
          simpa [Lib.openPiece, hpn] using ih
      | false =>
        simp only [Bool.false_eq_true, if_false]
        rw [hsplit, fieldsB_app _ (hF hsp)]
        cases st with
        | none =>
          have ih := spansB_eq s f (pos + (Utf8.decode s pos).2) (some pos) acc (by omega) hwn (fun a h => by cases h; omega)
          have e : ([] : List UInt8) ++ (s.data.toList.drop pos).take (Utf8.decode s pos).2 = Lib.pieceU s.data.toList pos (pos + (Utf8.decode s pos).2) := by
            unfold Lib.pieceU
            rw [List.nil_append, Nat.add_sub_cancel_left]
          simp only [Lib.openPiece] at ih ⊢
          rw [e]
          exact ih
        | some a =>
          have ih := spansB_eq s f (pos + (Utf8.decode s pos).2) (some a) acc (by omega) hwn (fun b h => by cases h; have := hst a rfl; omega)
          simp only [Lib.openPiece] at ih ⊢
          rw [Lib.pieceU_grow _ _ _ _ (Nat.le_of_lt (hst a rfl))]
          exact ih
    · obtain rfl : pos = s.size := by omega
      have hd : s.data.toList.drop s.size = [] := List.drop_eq_nil_of_le (by rw [← Lib.size_eq]; exact Nat.le_refl _)
      rw [hd, Lib.spansFromP_end blankR s _ _ _ _ hlt]
      cases st with
      | none => simp [Lib.closeSpans, Lib.openPiece, fieldsB]
      | some a =>
        have := Lib.pieceU_ne s.data.toList a s.size (hst a rfl) (by rw [← Lib.size_eq]; exact Nat.le_refl _)
        simp [Lib.closeSpans, Lib.openPiece, this, fieldsB]

theorem goFields_bytes (s : ByteArray) : Lib.goFieldsP blankR s = (fieldsB [] s.data.toList).map fun l => (⟨l.toArray⟩ : ByteArray) := by
  have h := spansB_eq s s.size 0 none [] (by omega) (Nat.zero_le _) (fun a h => by cases h)
  simp only [List.map_nil, List.nil_append, Lib.openPiece, List.drop_zero] at h
  unfold Lib.goFieldsP Lib.spansOfP
  rw [h, List.map_map]
  congr 1
  funext p
  simp [Lib.pieceU, Lib.extract_eq]

theorem fieldsB_plain : ∀ (l cur : List UInt8), (∀ x ∈ cur, isB x = false) → ∀ w ∈ fieldsB cur l, w ≠ [] ∧ (∀ x ∈ w, isB x = false) ∧ w.length ≤ cur.length + l.length
  | [], cur, h, w, hw => by
    unfold fieldsB at hw
    split at hw
    · cases hw
    · obtain rfl := List.mem_singleton.1 hw
      exact ⟨by assumption, h, by simp⟩
  | c :: l, cur, h, w, hw => by
    unfold fieldsB at hw
    split at hw
    · split at hw
      · have := fieldsB_plain l [] (fun x hx => by cases hx) w hw
        simp only [List.length_nil, List.length_cons] at this ⊢
        exact ⟨this.1, this.2.1, by omega⟩
      · rcases List.mem_cons.1 hw with rfl | hw
        · exact ⟨by assumption, h, by omega⟩
        · have := fieldsB_plain l [] (fun x hx => by cases hx) w hw
          simp only [List.length_nil, List.length_cons] at this ⊢
          exact ⟨this.1, this.2.1, by omega⟩
    · rename_i hc
      have := fieldsB_plain l (cur ++ [c]) (fun x hx => by
        rcases List.mem_append.1 hx with hx | hx
        · exact h x hx
        · obtain rfl := List.mem_singleton.1 hx
          exact Bool.eq_false_iff.2 hc) w hw
      simp only [List.length_append, List.length_cons, List.length_nil] at this ⊢
      exact ⟨this.1, this.2.1, by omega⟩
theorem fieldsB_length : ∀ (l cur : List UInt8), (fieldsB cur l).length ≤ l.length + 1
  | [], cur => by unfold fieldsB; split <;> simp
  | c :: l, cur => by
    unfold fieldsB
    have h1 := fieldsB_length l []
    have h2 := fieldsB_length l (cur ++ [c])
    split
    · split <;> simp only [List.length_cons] <;> omega
    · simp only [List.length_cons]; omega
end Go.Proofs.YtchlcncffillbaaDoor.L

/- Numbers and registers, as the reference reads them; and strconv.Atoi at a numeral that strconv.Itoa wrote. -/
namespace Go.Proofs.YtchlcncffillbaaDoor.L
open Go.RowKit Go.Proofs.YtchlcncffillbaaDoor.P Go.Proofs.YtchlcncffillbaaDoorW.PrintWords Go.Proofs.YtchlcncffillbaaDoorW.PrintLast Go.Proofs.YtchlcncffillbaaDoorW.PrintMore

/-- A decimal digit. -/
def isD (c : UInt8) : Bool := decide (48 ≤ c.toNat) && decide (c.toNat ≤ 57)
/-- What digits spell, behind what was spelled before. -/
def val (n : Nat) (l : List UInt8) : Nat := l.foldl (fun n c => 10 * n + (c.toNat - 48)) n
theorem val_cons (n : Nat) (c : UInt8) (l : List UInt8) : val n (c :: l) = val (10 * n + (c.toNat - 48)) l := by unfold val; rw [List.foldl_cons]
theorem val_append (n : Nat) (a b : List UInt8) : val n (a ++ b) = val (val n a) b := by unfold val; rw [List.foldl_append]
theorem ofNat_toNat (n : Nat) (h : n < 256) : (UInt8.ofNat n).toNat = n := by
  rw [UInt8.toNat_ofNat']; exact Nat.mod_eq_of_lt (by omega)
theorem dec_facts (u : Nat) : val 0 (Lib.decDigits u) = u ∧ (Lib.decDigits u).all isD = true ∧ Lib.decDigits u ≠ [] := by
  induction u using Nat.strongRecOn with
  | ind u ih =>
    rw [Lib.decDigits]
    by_cases h : u < 10
    · rw [dif_pos h]
      refine ⟨?_, ?_, by simp⟩
      · rw [val_cons, ofNat_toNat _ (by omega)]
        show 10 * 0 + (48 + u - 48) = u
        omega
      · simp only [List.all_cons, List.all_nil, isD, ofNat_toNat _ (show 48 + u < 256 by omega), Bool.and_true, Bool.and_eq_true, decide_eq_true_eq]
        omega
    · rw [dif_neg h]
      obtain ⟨h1, h2, h3⟩ := ih (u / 10) (by omega)
      refine ⟨?_, ?_, by simp⟩
      · rw [val_append, h1, val_cons, ofNat_toNat _ (by omega)]
        show 10 * (u / 10) + (48 + u % 10 - 48) = u
        omega
      · rw [List.all_append, h2]
        simp only [List.all_cons, List.all_nil, isD, ofNat_toNat _ (show 48 + u % 10 < 256 by omega), Bool.and_true, Bool.true_and, Bool.and_eq_true, decide_eq_true_eq]
        omega
theorem dec_head (u : Nat) : ∃ c r, Lib.decDigits u = c :: r ∧ isD c = true := by
  obtain ⟨_, h2, h3⟩ := dec_facts u
  cases h : Lib.decDigits u with
  | nil => exact absurd h h3
  | cons c r =>
    rw [h] at h2
    exact ⟨c, r, rfl, (by simpa using h2 : _ ∧ _).1⟩

/-- The sign, the digits. -/
def sgn (t : List UInt8) : Int × List UInt8 := match t with
  | [] => (1, [])
  | c :: r => if c = 45 then (-1, r) else (1, c :: r)
/-- How the reference reads a number. -/
def numV (t : List UInt8) : Int × Bool :=
  if (sgn t).2 = [] ∨ 8 < t.length then (0, false) else if (sgn t).2.all isD = true then ((sgn t).1 * (val 0 (sgn t).2 : Nat), Lib.itoa ((sgn t).1 * (val 0 (sgn t).2 : Nat)) == t) else (0, false)
theorem itoa_sgn (v : Int) : sgn (Lib.itoa v) = (if v < 0 then -1 else 1, Lib.decDigits v.natAbs) := by
  by_cases h : v < 0
  · obtain ⟨u, rfl⟩ : ∃ u : Nat, v = -(u : Int) := ⟨v.natAbs, by omega⟩
    rw [Lib.itoa_neg u (by omega), if_pos h]
    simp [sgn]
  · obtain ⟨u, rfl⟩ : ∃ u : Nat, v = (u : Int) := ⟨v.toNat, by omega⟩
    rw [Lib.itoa_nonneg, if_neg h]
    obtain ⟨c, r, hc, hd⟩ := dec_head u
    rw [Int.natAbs_natCast, hc]
    have h45 : c ≠ 45 := by
      rintro rfl
      simp [isD] at hd
    simp [sgn, h45]
theorem numV_itoa (v : Int) (h : (Lib.itoa v).length ≤ 8) : numV (Lib.itoa v) = (v, true) := by
  obtain ⟨h1, h2, h3⟩ := dec_facts v.natAbs
  unfold numV
  rw [itoa_sgn]
  simp only
  rw [if_neg (by simp only [h3, false_or]; omega), if_pos h2, h1]
  have e : (if v < 0 then (-1 : Int) else 1) * (v.natAbs : Int) = v := by split <;> omega
  rw [e]
  simp
theorem numV_true {t : List UInt8} (h : (numV t).2 = true) : t = Lib.itoa (numV t).1 ∧ t.length ≤ 8 := by
  unfold numV at h ⊢
  split at h
  · cases h
  · split at h
    · rename_i h1 h2
      rw [if_neg h1, if_pos h2]
      exact ⟨(beq_iff_eq.1 h).symm, by omega⟩
    · cases h
theorem val_le : ∀ (l : List UInt8) (n : Nat), (l.all isD = true) → val n l + 1 ≤ (n + 1) * 10 ^ l.length
  | [], n, _ => by simp [val]
  | c :: l, n, h => by
    rw [List.all_cons, Bool.and_eq_true] at h
    have ih := val_le l (10 * n + (c.toNat - 48)) h.2
    have hc : c.toNat - 48 ≤ 9 := by
      have := h.1
      simp only [isD, Bool.and_eq_true, decide_eq_true_eq] at this
      omega
    rw [val_cons, List.length_cons, Nat.pow_succ]
    refine Nat.le_trans ih ?_
    rw [← Nat.mul_assoc, Nat.mul_right_comm]
    exact Nat.mul_le_mul_right _ (by omega)

theorem dig_step (n c : Nat) (hn : n < 100000000) (hc : 48 ≤ c ∧ c ≤ 57) : wrap64 (wrap64 (10 * (n : Int)) + ((c : Int) - 48) % 256) = ((10 * n + (c - 48) : Nat) : Int) := by
  unfold wrap64; omega
theorem num_l0 (t : List UInt8) (sg : Int) (hsg : sg = 1 ∨ sg = -1) (ht : t.length ≤ 8) : ∀ (d i n : Nat), i + d = t.length → n < 10 ^ i →
    Tells (fun k => ontimeref05_number.l0 k (B t) sg n i) (if (t.drop i).all isD = true then (sg * (val n (t.drop i) : Nat), Lib.itoa (sg * (val n (t.drop i) : Nat)) == t) else (0, false)) := by
  intro d
  induction d with
  | zero =>
    intro i n hi hn
    have hn8 : n < 100000000 := Nat.lt_of_lt_of_le hn (Nat.le_trans (Nat.pow_le_pow_right (by omega) (show i ≤ 8 by omega)) (by decide))
    clear hn
    rw [List.drop_eq_nil_of_le (by omega)]
    refine Tells.succ ?_
    simp only [ontimeref05_number.l0]
    refine Tells.neg (by rw [B_size]; omega) ?_
    have hv : wrap64 (sg * (n : Int)) = sg * (n : Int) := w64 (by rcases hsg with rfl | rfl <;> omega)
    rw [hv]
    refine Tells.bind (decimal _ (by rcases hsg with rfl | rfl <;> omega)) ?_
    refine Tells.of ?_
    rw [B_toList, B_toList]
    simp [val]
  | succ d ih =>
    intro i n hi hn
    have hlt : i < t.length := by omega
    have hd : t.drop i = t[i] :: t.drop (i + 1) := List.drop_eq_getElem_cons hlt
    have hn8 : n < 100000000 := Nat.lt_of_lt_of_le hn (Nat.le_trans (Nat.pow_le_pow_right (by omega) (show i ≤ 8 by omega)) (by decide))
    have hpow : 10 ^ (i + 1) = 10 ^ i * 10 := Nat.pow_succ 10 i
    rw [hd, List.all_cons, val_cons]
    have hc256 : t[i].toNat < 256 := t[i].toNat_lt
    generalize t[i] = c at *
    refine Tells.succ ?_
    have hbt : bt (B t) (i : Int) = (c.toNat : Int) := by
      have := B_bt t i hlt
      rw [this]
      congr 1
      have := congrArg List.head? hd
      simp only [List.head?_cons, List.head?_drop, List.getElem?_eq_getElem hlt, Option.some.injEq] at this
      rw [this]
    simp only [ontimeref05_number.l0, hbt]
    refine Tells.pos (by rw [B_size]; omega) ?_
    refine Tells.pos (by omega) ?_
    by_cases h1 : (c.toNat : Int) < 48
    · refine Tells.pos h1 ?_
      rw [show isD c = false by simp [isD]; omega]
      exact Tells.const
    · refine Tells.neg h1 ?_
      by_cases h2 : (c.toNat : Int) > 57
      · refine Tells.pos h2 ?_
        rw [show isD c = false by simp [isD]; omega]
        exact Tells.const
      · refine Tells.neg h2 ?_
        rw [show isD c = true by simp [isD]; omega, Bool.true_and]
        rw [dig_step n c.toNat hn8 ⟨by omega, by omega⟩, w64n i (by omega)]
        exact ih (i + 1) (10 * n + (c.toNat - 48)) (by omega) (by rw [hpow]; omega)

theorem number_eq (t : List UInt8) (ht : t.length ≤ 1000000) : Tells (fun k => ontimeref05_number.f k (B t)) (numV t) := by
  have j2 : ∀ (at_ : Nat) (sg : Int), (sg = 1 ∨ sg = -1) → at_ ≤ t.length → sgn t = (sg, t.drop at_) → Tells (fun k => ontimeref05_number.j1 k (B t) at_ sg) (numV t) := by
    intro at_ sg hsg hat hs
    refine Tells.succ ?_
    simp only [ontimeref05_number.j1]
    by_cases he : t.length = at_
    · refine Tells.pos (by rw [B_size]; omega) ?_
      refine Tells.succ ?_
      simp only [ontimeref05_number.j2]
      refine Tells.pos trivial ?_
      refine Tells.of ?_
      unfold numV
      rw [if_pos (Or.inl (by rw [hs]; exact List.drop_eq_nil_of_le (by omega)))]
    · refine Tells.neg (by rw [B_size]; omega) ?_
      refine Tells.succ ?_
      simp only [ontimeref05_number.j2]
      by_cases h8 : 8 < t.length
      · refine Tells.pos (by rw [B_size]; simp; omega) ?_
        refine Tells.of ?_
        unfold numV
        rw [if_pos (Or.inr h8)]
      · refine Tells.neg (by rw [B_size]; simp; omega) ?_
        have h0 := num_l0 t sg hsg (by omega) (t.length - at_) at_ 0 (by omega) (Nat.pow_pos (by omega))
        have e : numV t = (if (t.drop at_).all isD = true then (sg * (val 0 (t.drop at_) : Nat), Lib.itoa (sg * (val 0 (t.drop at_) : Nat)) == t) else (0, false)) := by
          unfold numV
          rw [hs, if_neg]
          rintro (h | h)
          · have := congrArg List.length h
            simp only [List.length_drop, List.length_nil] at this
            omega
          · omega
        rw [e]
        exact h0
  unfold ontimeref05_number.f
  cases t with
  | nil =>
    refine Tells.neg (by decide) ?_
    refine Tells.succ ?_
    simp only [ontimeref05_number.j0]
    refine Tells.neg (by decide) ?_
    exact j2 0 1 (Or.inl rfl) (Nat.zero_le _) rfl
  | cons c r =>
    refine Tells.pos (by rw [B_size, List.length_cons]; omega) ?_
    refine Tells.pos (by rw [B_size, List.length_cons]; omega) ?_
    have hb : bt (B (c :: r)) 0 = (c.toNat : Int) := B_bt (c :: r) 0 (by simp)
    rw [hb]
    refine Tells.succ ?_
    simp only [ontimeref05_number.j0]
    by_cases h : c = 45
    · subst h
      refine Tells.pos (by decide) ?_
      exact j2 1 (-1) (Or.inr rfl) (by simp) (by simp [sgn])
    · refine Tells.neg ?_ ?_
      · rw [beq_iff_eq]
        intro hc
        exact h (UInt8.toNat_inj.1 (by rw [show (45 : UInt8).toNat = 45 from rfl]; omega))
      · exact j2 0 1 (Or.inl rfl) (Nat.zero_le _) (by simp [sgn, h])

/-- How the reference reads a register. -/
def regV (s : List UInt8) : Int × Bool := match s with
  | a :: c :: r => if a = 114 then (if c = 45 then (0, false) else numV (c :: r)) else (0, false)
  | _ => (0, false)
theorem register_eq (s : List UInt8) (hs : s.length ≤ 1000000) : Tells (fun k => ontimeref05_register.f k (B s)) (regV s) := by
  unfold ontimeref05_register.f
  match s with
  | [] =>
    refine Tells.pos (by decide) ?_
    exact Tells.const
  | [a] =>
    refine Tells.pos (by rw [B_size]; simp) ?_
    exact Tells.const
  | a :: c :: r =>
    have hb0 : bt (B (a :: c :: r)) 0 = (a.toNat : Int) := B_bt (a :: c :: r) 0 (by simp)
    have hb1 : bt (B (a :: c :: r)) 1 = (c.toNat : Int) := B_bt (a :: c :: r) 1 (by simp)
    simp only [List.length_cons] at hs
    refine Tells.neg (by rw [B_size]; simp only [List.length_cons]; omega) ?_
    refine Tells.pos (by rw [B_size]; simp only [List.length_cons]; omega) ?_
    rw [hb0, hb1, show regV (a :: c :: r) = if a = 114 then (if c = 45 then (0, false) else numV (c :: r)) else (0, false) from rfl]
    by_cases h : a = 114
    · subst h
      rw [if_pos rfl]
      refine Tells.pos (by decide) ?_
      refine Tells.pos (by rw [B_size]; simp only [List.length_cons]; omega) ?_
      by_cases h2 : c = 45
      · subst h2
        rw [if_pos rfl]
        refine Tells.pos (by decide) ?_
        exact Tells.const
      · rw [if_neg h2]
        refine Tells.neg (fun hc => h2 (UInt8.toNat_inj.1 (by rw [show (45 : UInt8).toNat = 45 from rfl]; omega))) ?_
        refine Tells.pos (by rw [B_size]; simp only [List.length_cons]; omega) ?_
        rw [B_extract, B_size, List.drop_succ_cons, List.drop_zero, List.take_of_length_le (by simp)]
        refine Tells.bind (number_eq (c :: r) (by simp only [List.length_cons]; omega)) ?_
        exact Tells.const
    · rw [if_neg h]
      refine Tells.neg (fun hc => h (UInt8.toNat_inj.1 (by rw [show (114 : UInt8).toNat = 114 from rfl]; omega))) ?_
      exact Tells.const

/-- strconv.Atoi at what strconv.Itoa wrote. -/
theorem parse_val : ∀ (l : List UInt8) (n : Nat), l.all isD = true → (n + 1) * 10 ^ l.length ≤ 1844674407370955162 → Lib.parseUint10 n l = .ok (val n l)
  | [], n, _, _ => rfl
  | c :: l, n, h, hb => by
    rw [List.all_cons, Bool.and_eq_true] at h
    have hc := h.1
    simp only [isD, Bool.and_eq_true, decide_eq_true_eq] at hc
    rw [List.length_cons, Nat.pow_succ] at hb
    have hp : 1 ≤ 10 ^ l.length := Nat.one_le_pow _ _ (by omega)
    have h10 : (n + 1) * 10 ≤ 1844674407370955162 := by
      refine Nat.le_trans ?_ hb
      rw [← Nat.mul_assoc, Nat.mul_right_comm]
      exact Nat.le_mul_of_pos_right _ (by omega)
    unfold Lib.parseUint10
    rw [if_pos hc, if_neg (by omega), if_neg (by omega), val_cons, Nat.mul_comm n 10]
    refine parse_val l _ h.2 (Nat.le_trans ?_ hb)
    rw [← Nat.mul_assoc, Nat.mul_right_comm]
    exact Nat.mul_le_mul_right _ (by omega)
theorem dec_small (u : Nat) (h : u ≤ 200000) : (Lib.decDigits u).length ≤ 6 := by
  rw [Lib.decDigits_length]
  have step : ∀ v, Lib.nDigits v = if v < 10 then 1 else Lib.nDigits (v / 10) + 1 := fun v => by
    split
    · exact Lib.nDigits_small (by assumption)
    · exact Lib.nDigits_big (by assumption)
  rw [step u]; split <;> try omega
  rw [step]; split <;> try omega
  rw [step]; split <;> try omega
  rw [step]; split <;> try omega
  rw [step]; split <;> try omega
  rw [step]; split <;> omega
theorem itoa_len8 (v : Int) (h : -200000 ≤ v ∧ v ≤ 200000) : (Lib.itoa v).length ≤ 7 := by
  have := dec_small v.natAbs (by omega)
  unfold Lib.itoa
  split
  · simp only [List.length_cons]; omega
  · rw [show v.toNat = v.natAbs by omega]; omega
theorem mag_dec (u : Nat) (h : u ≤ 200000) : Lib.parseMag (Lib.decDigits u) = .ok u := by
  obtain ⟨h1, h2, h3⟩ := dec_facts u
  have hl := dec_small u h
  unfold Lib.parseMag
  rw [if_neg h3, parse_val _ 0 h2 (Nat.le_trans (Nat.mul_le_mul_left _ (Nat.pow_le_pow_right (by omega) hl)) (by decide)), h1]
theorem atoi_itoa (v : Int) (h : -200000 ≤ v ∧ v ≤ 200000) : Lib.atoiAll (Lib.itoa v) = .ok v := by
  by_cases hv : v < 0
  · obtain ⟨u, rfl⟩ : ∃ u : Nat, v = -(u : Int) := ⟨v.natAbs, by omega⟩
    have hp := mag_dec u (by omega)
    rw [Lib.itoa_neg u (by omega)]
    unfold Lib.atoiAll
    simp only [show ((45 : UInt8).toNat = 45) = True by simp, or_true, if_true]
    simp only [not_true_eq_false, false_and, if_false, true_and]
    rw [hp]
    simp only
    rw [if_neg (by omega)]
  · obtain ⟨u, rfl⟩ : ∃ u : Nat, v = (u : Int) := ⟨v.toNat, by omega⟩
    have hp := mag_dec u (by omega)
    rw [Lib.itoa_nonneg]
    obtain ⟨c, r, hc, hd⟩ := dec_head u
    rw [hc] at hp ⊢
    simp only [isD, Bool.and_eq_true, decide_eq_true_eq] at hd
    have e1 : (c.toNat = 43) = False := eq_false (by omega)
    have e2 : (c.toNat = 45) = False := eq_false (by omega)
    unfold Lib.atoiAll
    simp only [e1, e2, or_false, if_false]
    simp only [not_false_eq_true, true_and, false_and, if_false]
    rw [hp]
    simp only
    rw [if_neg (by omega)]
theorem atoiV_itoa (v : Int) (h : -200000 ≤ v ∧ v ≤ 200000) : atoiV (B (Lib.itoa v)) = v ∧ atoiB (B (Lib.itoa v)) = true := by
  unfold atoiV atoiB
  rw [B_list, atoi_itoa v h]
  exact ⟨rfl, rfl⟩
end Go.Proofs.YtchlcncffillbaaDoor.L

/- The words of a line: asm.instruction and the reference read the words of an instruction's own line, and no others. -/
namespace Go.Proofs.YtchlcncffillbaaDoor.L
open Go.RowKit Go.Proofs.YtchlcncffillbaaDoor.P Go.Proofs.YtchlcncffillbaaDoorW.PrintWords Go.Proofs.YtchlcncffillbaaDoorW.PrintLast Go.Proofs.YtchlcncffillbaaDoorW.PrintMore

def nameL (n : Nat) : List UInt8 := (rowOf n).f0.data.toList
def lettersL (n : Nat) : List UInt8 := (clsB n).data.toList
def opX (x : S48) (c : UInt8) : Int := opC x.f1 x.f2 x.f3 x.f4 c
/-- An operand's word. -/
def opW (c : UInt8) (v : Int) : List UInt8 := (if c = 73 then [] else [114]) ++ Lib.itoa v
/-- The words of an instruction's line. -/
def wordsOf (x : S48) : List (List UInt8) := nameL x.f0.toNat :: (lettersL x.f0.toNat).map fun c => opW c (opX x c)
def setOps (x : S48) : List UInt8 → S48 → S48
  | [], y => y
  | c :: cs, y => setOps x cs (opSet y c (opX x c))

theorem lineS_join (x : S48) : (lineS x).data.toList = Lib.join (wordsOf x) [32] := by
  unfold lineS lineB wordsOf
  rw [Lib.join_cons, B_list]
  unfold Lib.joinTail nameL lettersL
  rw [List.map_map, List.flatMap_def]
  rfl

theorem app_inj : ∀ (a b s t : List UInt8), 32 ∉ a → 32 ∉ b → (s = [] ∨ s.head? = some 32) → (t = [] ∨ t.head? = some 32) → a ++ s = b ++ t → a = b ∧ s = t
  | [], [], s, t, _, _, _, _, h => ⟨rfl, h⟩
  | [], y :: b, s, t, _, hb, hs, _, h => by
    rcases hs with rfl | hs
    · simp at h
    · rw [List.nil_append] at h
      rw [h] at hs
      simp only [List.cons_append, List.head?_cons, Option.some.injEq] at hs
      exact absurd (by rw [hs]; exact List.mem_cons_self) hb
  | x :: a, [], s, t, ha, _, _, ht, h => by
    rcases ht with rfl | ht
    · simp at h
    · rw [List.nil_append] at h
      rw [← h] at ht
      simp only [List.cons_append, List.head?_cons, Option.some.injEq] at ht
      exact absurd (by rw [ht]; exact List.mem_cons_self) ha
  | x :: a, y :: b, s, t, ha, hb, hs, ht, h => by
    simp only [List.cons_append, List.cons.injEq] at h
    obtain ⟨rfl, h⟩ := h
    obtain ⟨rfl, rfl⟩ := app_inj a b s t (fun hm => ha (List.mem_cons_of_mem _ hm)) (fun hm => hb (List.mem_cons_of_mem _ hm)) hs ht h
    exact ⟨rfl, rfl⟩
theorem tail_head (r : List (List UInt8)) : Lib.joinTail [32] r = [] ∧ r = [] ∨ (Lib.joinTail [32] r).head? = some 32 := by
  cases r with
  | nil => exact Or.inl ⟨rfl, rfl⟩
  | cons z r => exact Or.inr rfl
theorem join_inj : ∀ (a b : List (List UInt8)), (∀ w ∈ a, 32 ∉ w) → (∀ w ∈ b, 32 ∉ w) → a ≠ [] → b ≠ [] → Lib.join a [32] = Lib.join b [32] → a = b
  | [], _, _, _, h, _, _ => absurd rfl h
  | _ :: _, [], _, _, _, h, _ => absurd rfl h
  | x :: r, y :: s, ha, hb, _, _, h => by
    rw [Lib.join_cons, Lib.join_cons] at h
    obtain ⟨rfl, ht⟩ := app_inj x y _ _ (ha x List.mem_cons_self) (hb y List.mem_cons_self) (by rcases tail_head r with h | h; exact Or.inl h.1; exact Or.inr h) (by rcases tail_head s with h | h; exact Or.inl h.1; exact Or.inr h) h
    congr 1
    cases r with
    | nil =>
      cases s with
      | nil => rfl
      | cons z s => simp [Lib.joinTail] at ht
    | cons z r =>
      cases s with
      | nil => simp [Lib.joinTail] at ht
      | cons z' s =>
        have e : ∀ (z : List UInt8) (r : List (List UInt8)), Lib.joinTail [32] (z :: r) = 32 :: Lib.join (z :: r) [32] := fun z r => by rw [Lib.join_cons]; simp [Lib.joinTail]
        rw [e, e, List.cons.injEq] at ht
        exact join_inj (z :: r) (z' :: s) (fun w hw => ha w (List.mem_cons_of_mem _ hw)) (fun w hw => hb w (List.mem_cons_of_mem _ hw)) (by simp) (by simp) ht.2

theorem itoa_plain (v : Int) : ∀ c ∈ Lib.itoa v, isB c = false := by
  have hd : ∀ (u : Nat), ∀ c ∈ Lib.decDigits u, isB c = false := fun u c hc => by
    have := List.all_eq_true.1 (dec_facts u).2.1 c hc
    simp only [isD, Bool.and_eq_true, decide_eq_true_eq] at this
    exact isB_false c (by omega)
  unfold Lib.itoa
  split
  · intro c hc
    rcases List.mem_cons.1 hc with rfl | hc
    · decide
    · exact hd _ c hc
  · exact hd _
theorem names_plain (n : Nat) (h : n < 30) : nameL n ≠ [] ∧ ∀ c ∈ nameL n, isB c = false := by
  have : ∀ m : Fin 30, nameL m.1 ≠ [] ∧ ∀ c ∈ nameL m.1, isB c = false := by decide +kernel
  exact this ⟨n, h⟩
theorem words_plain (x : S48) (h : vS x = true) : ∀ w ∈ wordsOf x, w ≠ [] ∧ ∀ c ∈ w, isB c = false := by
  intro w hw
  rcases List.mem_cons.1 hw with rfl | hw
  · exact names_plain _ (by obtain ⟨h0, h1, _⟩ := vS_op h; omega)
  · obtain ⟨c, hc, rfl⟩ := List.mem_map.1 hw
    refine ⟨?_, ?_⟩
    · unfold opW
      intro h0
      have := (List.append_eq_nil_iff.1 h0).2
      have h1 := congrArg sgn this
      rw [itoa_sgn] at h1
      simp only [sgn, Prod.mk.injEq] at h1
      exact (dec_facts _).2.2 h1.2
    · intro d hd
      unfold opW at hd
      rcases List.mem_append.1 hd with hd | hd
      · split at hd
        · cases hd
        · rw [List.mem_singleton.1 hd]; decide
      · exact itoa_plain _ d hd
theorem no32 {w : List UInt8} (h : ∀ c ∈ w, isB c = false) : 32 ∉ w := fun hm => by
  have := h 32 hm
  revert this
  decide

/-! ### A valid instruction's shape -/
theorem shapes (n : Nat) (h : n < 30) : (lettersL n, hasB (rowOf n).f1 97, hasB (rowOf n).f1 98, hasB (rowOf n).f1 99, hasB (rowOf n).f1 105) ∈
    [(([] : List UInt8), false, false, false, false), ([65, 66, 67], true, true, true, false), ([73], false, false, false, true), ([65, 73], true, false, false, true), ([65, 66, 73], true, true, false, true)] := by
  have : ∀ m : Fin 30, (lettersL m.1, hasB (rowOf m.1).f1 97, hasB (rowOf m.1).f1 98, hasB (rowOf m.1).f1 99, hasB (rowOf m.1).f1 105) ∈
    [(([] : List UInt8), false, false, false, false), ([65, 66, 67], true, true, true, false), ([73], false, false, false, true), ([65, 73], true, false, false, true), ([65, 66, 73], true, true, false, true)] := by decide +kernel
  exact this ⟨n, h⟩
theorem chk_off {R : S76} {a b c i : Int} {j : Nat} (hb : hasB R.f1 (ltr j) = false) (h : chk R a b c i j = true) : opd a b c i j = 0 := by
  unfold chk loOf hiOf at h
  simp only [hb, Bool.false_eq_true, if_false, Bool.and_eq_true, decide_eq_true_eq] at h
  omega
theorem chk_on {R : S76} {a b c i : Int} {j : Nat} (hj : j ≠ 3) (hb : hasB R.f1 (ltr j) = true) (h : chk R a b c i j = true) : 0 ≤ opd a b c i j ∧ opd a b c i j ≤ 15 := by
  unfold chk loOf hiOf at h
  simp only [hb, if_true, if_neg hj, Bool.and_eq_true, decide_eq_true_eq] at h
  exact h
theorem vS_shape {x : S48} (h : vS x = true) : (∃ n : Nat, n < 30 ∧ x.f0 = n) ∧ setOps x (lettersL x.f0.toNat) ⟨x.f0, 0, 0, 0, 0⟩ = x ∧
    ∀ c ∈ lettersL x.f0.toNat, (c = 65 ∨ c = 66 ∨ c = 67 ∨ c = 73) ∧ (c ≠ 73 → 0 ≤ opX x c) ∧ (-200000 ≤ opX x c ∧ opX x c ≤ 200000) := by
  obtain ⟨h0, h1, hv⟩ := vS_op h
  obtain ⟨s1, s2, s3, s4⟩ := vS_small h
  have hs := shapes x.f0.toNat (by omega)
  unfold validR at hv
  simp only [Bool.and_eq_true] at hv
  obtain ⟨k0, k1, k2, k3⟩ := hv
  refine ⟨⟨x.f0.toNat, by omega, by omega⟩, ?_⟩
  obtain ⟨o, a, b, c, i⟩ := x
  simp only at *
  generalize hL : lettersL o.toNat = L at *
  generalize ha : hasB (rowOf o.toNat).f1 97 = ba at *
  generalize hb : hasB (rowOf o.toNat).f1 98 = bb at *
  generalize hc : hasB (rowOf o.toNat).f1 99 = bc at *
  generalize hi : hasB (rowOf o.toNat).f1 105 = bi at *
  simp only [List.mem_cons, Prod.mk.injEq, List.not_mem_nil, or_false] at hs
  rcases hs with ⟨rfl, rfl, rfl, rfl, rfl⟩ | ⟨rfl, rfl, rfl, rfl, rfl⟩ | ⟨rfl, rfl, rfl, rfl, rfl⟩ | ⟨rfl, rfl, rfl, rfl, rfl⟩ | ⟨rfl, rfl, rfl, rfl, rfl⟩
  · have e0 : a = 0 := chk_off (j := 0) ha k0
    have e1 : b = 0 := chk_off (j := 1) hb k1
    have e2 : c = 0 := chk_off (j := 2) hc k2
    have e3 : i = 0 := chk_off (j := 3) hi k3
    subst e0 e1 e2 e3
    exact ⟨rfl, by simp⟩
  · have e0 := chk_on (j := 0) (by decide) ha k0
    have e1 := chk_on (j := 1) (by decide) hb k1
    have e2 := chk_on (j := 2) (by decide) hc k2
    have e3 : i = 0 := chk_off (j := 3) hi k3
    subst e3
    refine ⟨rfl, fun d hd => ?_⟩
    simp only [List.mem_cons, List.not_mem_nil, or_false] at hd
    rcases hd with rfl | rfl | rfl
    · exact ⟨by simp, fun _ => e0.1, s1⟩
    · exact ⟨by simp, fun _ => e1.1, s2⟩
    · exact ⟨by simp, fun _ => e2.1, s3⟩
  · have e0 : a = 0 := chk_off (j := 0) ha k0
    have e1 : b = 0 := chk_off (j := 1) hb k1
    have e2 : c = 0 := chk_off (j := 2) hc k2
    subst e0 e1 e2
    refine ⟨rfl, fun d hd => ?_⟩
    simp only [List.mem_cons, List.not_mem_nil, or_false] at hd
    subst hd
    exact ⟨by simp, fun hn => absurd rfl hn, s4⟩
  · have e0 := chk_on (j := 0) (by decide) ha k0
    have e1 : b = 0 := chk_off (j := 1) hb k1
    have e2 : c = 0 := chk_off (j := 2) hc k2
    subst e1 e2
    refine ⟨rfl, fun d hd => ?_⟩
    simp only [List.mem_cons, List.not_mem_nil, or_false] at hd
    rcases hd with rfl | rfl
    · exact ⟨by simp, fun _ => e0.1, s1⟩
    · exact ⟨by simp, fun hn => absurd rfl hn, s4⟩
  · have e0 := chk_on (j := 0) (by decide) ha k0
    have e1 := chk_on (j := 1) (by decide) hb k1
    have e2 : c = 0 := chk_off (j := 2) hc k2
    subst e2
    refine ⟨rfl, fun d hd => ?_⟩
    simp only [List.mem_cons, List.not_mem_nil, or_false] at hd
    rcases hd with rfl | rfl | rfl
    · exact ⟨by simp, fun _ => e0.1, s1⟩
    · exact ⟨by simp, fun _ => e1.1, s2⟩
    · exact ⟨by simp, fun hn => absurd rfl hn, s4⟩

/-! ### asm.instruction -/
theorem readAll_f0 : ∀ (L : List UInt8) (W : List ByteArray) (y x : S48), readAll L W y = some x → x.f0 = y.f0
  | [], _, y, x, h => by simp only [readAll, Option.some.injEq] at h; rw [h]
  | c :: cs, [], y, x, h => by simp [readAll] at h
  | c :: cs, s :: ss, y, x, h => by
    simp only [readAll] at h
    split at h
    · rw [readAll_f0 cs ss _ x h, opSet_f0]
    · cases h
theorem instr_true {ws : List (List UInt8)} (hne : ws ≠ []) (hp : ∀ w ∈ ws, ∀ c ∈ w, isB c = false) {x : S48} (h : instr (ws.map B) = (x, true)) : vS x = true ∧ ws = wordsOf x := by
  unfold instr at h
  split at h
  · cases h
  · rename_i n hn
    unfold instrN at h
    split at h
    · split at h
      · rename_i y hy
        simp only [Prod.mk.injEq, Bool.and_eq_true, beq_iff_eq] at h
        obtain ⟨rfl, hv, hl⟩ := h
        refine ⟨hv, join_inj _ _ (fun w hw => no32 (hp w hw)) (fun w hw => no32 (words_plain y hv w hw).2) hne (by simp [wordsOf]) ?_⟩
        rw [toList_data, toList_data, lineS_join] at hl
        rw [hl]
        unfold joinW
        rw [B_list, List.map_map]
        congr 1
        exact (List.map_id' _).symm.trans (List.map_congr_left fun w _ => by simp)
      · cases h
    · cases h
theorem numText_op (c : UInt8) (v : Int) : numText c.toNat (B (opW c v)) = B (Lib.itoa v) := by
  unfold numText opW
  by_cases h : c = 73
  · subst h
    rw [if_pos (by decide), if_pos rfl]
    rfl
  · rw [if_neg (fun hc => h (UInt8.toNat_inj.1 (by rw [show (73 : UInt8).toNat = 73 from rfl]; omega))), if_neg h, B_list]
    rfl
theorem readAll_words (x : S48) : ∀ (L : List UInt8) (y : S48), (∀ c ∈ L, -200000 ≤ opX x c ∧ opX x c ≤ 200000) → readAll L ((L.map fun c => opW c (opX x c)).map B) y = some (setOps x L y)
  | [], y, _ => rfl
  | c :: cs, y, h => by
    obtain ⟨h1, h2⟩ := atoiV_itoa (opX x c) (h c List.mem_cons_self)
    simp only [List.map_cons, readAll, numText_op, h1, h2, if_true, setOps]
    exact readAll_words x cs _ (fun d hd => h d (List.mem_cons_of_mem _ hd))
theorem names_ne (i j : Nat) (hi : i < 30) (hj : j < 30) (h : i ≠ j) : (rowOf i).f0 ≠ (rowOf j).f0 := by
  have : ∀ a b : Fin 30, a ≠ b → (rowOf a.1).f0 ≠ (rowOf b.1).f0 := by decide +kernel
  exact this ⟨i, hi⟩ ⟨j, hj⟩ (fun he => h (congrArg Fin.val he))
theorem first_words {x : S48} (h : vS x = true) : firstFrom 30 0 (B (nameL x.f0.toNat)) = some x.f0.toNat := by
  obtain ⟨⟨n, hn, he⟩, _⟩ := vS_shape h
  have e : x.f0.toNat = n := by omega
  rw [e, nameL, B_data, first_at _ (30 - n) n (by omega) (fun j hj => names_ne j n (by omega) hn (by omega))]
  obtain ⟨d, hd⟩ : ∃ d, 30 - n = d + 1 := ⟨29 - n, by omega⟩
  rw [hd]
  unfold firstFrom
  rw [if_pos rfl]
theorem joinW_map (ws : List (List UInt8)) : joinW (ws.map B) = B (Lib.join ws [32]) := by
  unfold joinW
  rw [List.map_map, show (fun x : ByteArray => x.data.toList) ∘ B = id from funext fun l => by simp, List.map_id]
theorem instr_words {x : S48} (h : vS x = true) : instr ((wordsOf x).map B) = (x, true) := by
  obtain ⟨⟨n, hn, he⟩, hset, hop⟩ := vS_shape h
  have e : x.f0.toNat = n := by omega
  unfold instr
  have hr : rdOf ByteArray.empty ((wordsOf x).map B) 0 = B (nameL x.f0.toNat) := rfl
  rw [hr, first_words h]
  simp only
  rw [e] at hset hop
  rw [instrN_some (x := x) (by rw [e]; simp only [wordsOf, List.length_map, List.length_cons, e]; unfold lettersL; rw [size_list])]
  · rw [joinW_map, toList_data, B_toList, lineS_join]
    simp [h]
  · have := readAll_words x (lettersL n) ⟨x.f0, 0, 0, 0, 0⟩ (fun c hc => (hop c hc).2.2)
    rw [hset] at this
    rw [e]
    unfold wordsOf
    rw [e, List.map_cons, List.tail_cons, ← he]
    exact this

/-- What a line's words are read as. -/
def readW (ws : List (List UInt8)) : Option S48 := if (instr (ws.map B)).2 = true then some (instr (ws.map B)).1 else none
theorem readW_some {ws : List (List UInt8)} (hne : ws ≠ []) (hp : ∀ w ∈ ws, ∀ c ∈ w, isB c = false) {x : S48} : readW ws = some x ↔ vS x = true ∧ ws = wordsOf x := by
  unfold readW
  constructor
  · intro h
    split at h
    · rename_i h2
      have := Option.some.inj h
      exact instr_true hne hp (Prod.ext this h2)
    · cases h
  · rintro ⟨h1, rfl⟩
    rw [instr_words h1]
    rfl
theorem readW_words {x : S48} (h : vS x = true) : readW (wordsOf x) = some x := by
  unfold readW
  rw [instr_words h]
  rfl
end Go.Proofs.YtchlcncffillbaaDoor.L

/- The reference's Read: the same words, the same instruction. -/
namespace Go.Proofs.YtchlcncffillbaaDoor.L
set_option linter.unusedVariables false
open Go.RowKit Go.Proofs.YtchlcncffillbaaDoor.P Go.Proofs.YtchlcncffillbaaDoorW.PrintWords Go.Proofs.YtchlcncffillbaaDoorW.PrintLast Go.Proofs.YtchlcncffillbaaDoorW.PrintMore

/-- How the reference reads an operand. -/
def opR (c : UInt8) (s : List UInt8) : Int × Bool := if c = 73 then numV s else regV s
def foldR : List UInt8 → List (List UInt8) → S48 → Option S48
  | [], _, x => some x
  | _ :: _, [], _ => none
  | c :: cs, s :: ss, x => if (opR c s).2 = true then foldR cs ss (opSet x c (opR c s).1) else none
def readN (n : Nat) (ws : List (List UInt8)) : Option S48 :=
  if ws.length = (lettersL n).length + 1 then (foldR (lettersL n) ws.tail ⟨n, 0, 0, 0, 0⟩).bind fun x => if vS x = true then some x else none else none
def readR (ws : List (List UInt8)) : Option S48 := (firstFrom 30 0 (B (ws.headD []))).bind fun n => readN n ws

theorem opX_set (y : S48) (c d : UInt8) (v : Int) (hc : c = 65 ∨ c = 66 ∨ c = 67 ∨ c = 73) (hd : d = 65 ∨ d = 66 ∨ d = 67 ∨ d = 73) : opX (opSet y c v) d = if d = c then v else opX y d := by
  rcases hc with rfl | rfl | rfl | rfl <;> rcases hd with rfl | rfl | rfl | rfl <;> rfl
theorem foldR_keep (c : UInt8) (hc : c = 65 ∨ c = 66 ∨ c = 67 ∨ c = 73) : ∀ (L : List UInt8) (W : List (List UInt8)) (y x : S48), (∀ d ∈ L, d = 65 ∨ d = 66 ∨ d = 67 ∨ d = 73) → c ∉ L → foldR L W y = some x → opX x c = opX y c
  | [], _, y, x, _, _, h => by simp only [foldR, Option.some.injEq] at h; rw [h]
  | _ :: _, [], _, _, _, _, h => by simp [foldR] at h
  | d :: ds, s :: ss, y, x, hL, hn, h => by
    simp only [foldR] at h
    split at h
    · rw [foldR_keep c hc ds ss _ x (fun e he => hL e (List.mem_cons_of_mem _ he)) (fun hm => hn (List.mem_cons_of_mem _ hm)) h, opX_set _ _ _ _ (hL d List.mem_cons_self) hc, if_neg]
      rintro rfl
      exact hn List.mem_cons_self
    · cases h
theorem opR_true {c : UInt8} {s : List UInt8} (h : (opR c s).2 = true) : s = opW c (opR c s).1 := by
  unfold opR opW at *
  by_cases hc : c = 73
  · simp only [if_pos hc] at h ⊢
    exact (numV_true h).1
  · simp only [if_neg hc] at h ⊢
    unfold regV at h ⊢
    split at h
    · rename_i a d r
      split at h
      · rename_i ha
        split at h
        · cases h
        · rename_i hd
          simp only [if_pos ha, if_neg hd]
          rw [← (numV_true h).1, ha]
          rfl
      · cases h
    · cases h
theorem foldR_true : ∀ (L : List UInt8) (W : List (List UInt8)) (y x : S48), (∀ d ∈ L, d = 65 ∨ d = 66 ∨ d = 67 ∨ d = 73) → L.Nodup → W.length = L.length → foldR L W y = some x → W = (L.map fun c => opW c (opX x c)) ∧ x.f0 = y.f0
  | [], W, y, x, _, _, hl, h => by
    simp only [foldR, Option.some.injEq] at h
    rw [List.length_nil, List.length_eq_zero_iff] at hl
    exact ⟨by rw [hl]; rfl, by rw [h]⟩
  | _ :: _, [], _, _, _, _, _, h => by simp [foldR] at h
  | c :: cs, s :: ss, y, x, hL, hn, hl, h => by
    simp only [foldR] at h
    rw [List.nodup_cons] at hn
    split at h
    · rename_i h1
      obtain ⟨e1, e2⟩ := foldR_true cs ss _ x (fun e he => hL e (List.mem_cons_of_mem _ he)) hn.2 (by simpa using hl) h
      have hk := foldR_keep c (hL c List.mem_cons_self) cs ss _ x (fun e he => hL e (List.mem_cons_of_mem _ he)) hn.1 h
      rw [opX_set _ _ _ _ (hL c List.mem_cons_self) (hL c List.mem_cons_self), if_pos rfl] at hk
      refine ⟨?_, by rw [e2, opSet_f0]⟩
      rw [List.map_cons, ← e1, hk, ← opR_true h1]
    · cases h
theorem letters_in (n : Nat) (h : n < 30) : (∀ d ∈ lettersL n, d = 65 ∨ d = 66 ∨ d = 67 ∨ d = 73) ∧ (lettersL n).Nodup := by
  have : ∀ m : Fin 30, (∀ d ∈ lettersL m.1, d = 65 ∨ d = 66 ∨ d = 67 ∨ d = 73) ∧ (lettersL m.1).Nodup := by decide +kernel
  exact this ⟨n, h⟩
theorem firstFrom_some : ∀ (f k : Nat) (s : ByteArray) (n : Nat), firstFrom f k s = some n → n < k + f ∧ (rowOf n).f0 = s
  | 0, k, s, n, h => by simp [firstFrom] at h
  | f + 1, k, s, n, h => by
    simp only [firstFrom] at h
    split at h
    · rename_i hs
      obtain rfl := Option.some.inj h
      exact ⟨by omega, hs⟩
    · obtain ⟨h1, h2⟩ := firstFrom_some f (k + 1) s n h
      exact ⟨by omega, h2⟩
theorem readR_true {ws : List (List UInt8)} (hne : ws ≠ []) {x : S48} (h : readR ws = some x) : vS x = true ∧ ws = wordsOf x := by
  unfold readR at h
  obtain ⟨n, hn, h⟩ := Option.bind_eq_some_iff.1 h
  obtain ⟨h30, hname⟩ := firstFrom_some _ _ _ _ hn
  unfold readN at h
  split at h
  · rename_i hl
    obtain ⟨y, hy, h⟩ := Option.bind_eq_some_iff.1 h
    split at h
    · rename_i hv
      obtain rfl := Option.some.inj h
      obtain ⟨hL, hnd⟩ := letters_in n (by omega)
      obtain ⟨e1, e2⟩ := foldR_true _ _ _ _ hL hnd (by rw [List.length_tail, hl]; omega) hy
      refine ⟨hv, ?_⟩
      have e3 : y.f0.toNat = n := by rw [e2]; simp
      unfold wordsOf
      rw [e3, ← e1, nameL, hname, B_list]
      cases ws with
      | nil => exact absurd rfl hne
      | cons w ws => rfl
    · cases h
  · cases h
theorem opR_words {x : S48} {c : UInt8} (h1 : c ≠ 73 → 0 ≤ opX x c) (h2 : -200000 ≤ opX x c ∧ opX x c ≤ 200000) : opR c (opW c (opX x c)) = (opX x c, true) := by
  have hl := itoa_len8 _ h2
  unfold opR opW
  by_cases hc : c = 73
  · simp only [if_pos hc]
    exact numV_itoa _ (by omega)
  · simp only [if_neg hc]
    obtain ⟨u, hu⟩ : ∃ u : Nat, opX x c = (u : Int) := ⟨(opX x c).toNat, by have := h1 hc; omega⟩
    rw [hu] at hl ⊢
    have hn := numV_itoa u (by omega)
    rw [Lib.itoa_nonneg] at hn ⊢
    obtain ⟨d, r, hd, hD⟩ := dec_head u
    rw [hd] at hn ⊢
    have h45 : d ≠ 45 := by
      rintro rfl
      simp [isD] at hD
    show (if (114 : UInt8) = 114 then (if d = 45 then (0, false) else numV (d :: r)) else (0, false)) = _
    rw [if_pos rfl, if_neg h45, hn]
theorem foldR_words (x : S48) : ∀ (L : List UInt8) (y : S48), (∀ c ∈ L, (c ≠ 73 → 0 ≤ opX x c) ∧ (-200000 ≤ opX x c ∧ opX x c ≤ 200000)) → foldR L (L.map fun c => opW c (opX x c)) y = some (setOps x L y)
  | [], y, _ => rfl
  | c :: cs, y, h => by
    have := opR_words (h c List.mem_cons_self).1 (h c List.mem_cons_self).2
    simp only [List.map_cons, foldR, this, if_true, setOps]
    exact foldR_words x cs _ (fun d hd => h d (List.mem_cons_of_mem _ hd))
theorem readR_words {x : S48} (h : vS x = true) : readR (wordsOf x) = some x := by
  obtain ⟨⟨n, hn, he⟩, hset, hop⟩ := vS_shape h
  have e : x.f0.toNat = n := by omega
  unfold readR
  rw [show (wordsOf x).headD [] = nameL x.f0.toNat from rfl, first_words h, Option.bind_some]
  unfold readN
  rw [if_pos (by simp [wordsOf])]
  have := foldR_words x (lettersL x.f0.toNat) ⟨x.f0, 0, 0, 0, 0⟩ (fun c hc => (hop c hc).2)
  rw [hset] at this
  have hcast : ((x.f0.toNat : Nat) : Int) = x.f0 := by omega
  rw [hcast, show (wordsOf x).tail = (lettersL x.f0.toNat).map fun c => opW c (opX x c) from rfl, this, Option.bind_some, if_pos h]
theorem readR_eq {ws : List (List UInt8)} (hne : ws ≠ []) (hp : ∀ w ∈ ws, ∀ c ∈ w, isB c = false) : readR ws = readW ws := by
  cases hR : readR ws with
  | some x =>
    obtain ⟨h1, h2⟩ := readR_true hne hR
    exact ((readW_some hne hp).2 ⟨h1, h2⟩).symm
  | none =>
    cases hW : readW ws with
    | none => rfl
    | some x =>
      obtain ⟨h1, h2⟩ := (readW_some hne hp).1 hW
      rw [h2, readR_words h1] at hR
      cases hR

/-! ### The program's Read -/
theorem valid04 (x : S48) (n : Nat) (hn : n < 30) (hx : x.f0 = n) : Tells (fun k => ontimeref04_Valid.f k x.f0 x.f1 x.f2 x.f3 x.f4) (vS x) := by
  have T : ∀ m : Fin 30, ∃ L lo hi, ontimeref04_Format.f 10 (m.1 : Nat) = some (L, lo, hi, true) ∧ hasB (rowOf m.1).f1 97 = decide (0 < L.size) ∧ hasB (rowOf m.1).f1 98 = decide ((L.size : Int) > 1) ∧ hasB (rowOf m.1).f1 99 = decide ((L.size : Int) > 2) ∧
      (if lo > hi then hasB (rowOf m.1).f1 105 = false else hasB (rowOf m.1).f1 105 = true ∧ (rowOf m.1).f2 = lo ∧ (rowOf m.1).f3 = hi) := by
    intro m
    have e : ∀ m : Fin 30, (match ontimeref04_Format.f 10 (m.1 : Nat) with
        | some (L, lo, hi, ok) => ok && (hasB (rowOf m.1).f1 97 == decide (0 < L.size)) && (hasB (rowOf m.1).f1 98 == decide ((L.size : Int) > 1)) && (hasB (rowOf m.1).f1 99 == decide ((L.size : Int) > 2)) &&
          (if lo > hi then hasB (rowOf m.1).f1 105 == false else hasB (rowOf m.1).f1 105 == true && (rowOf m.1).f2 == lo && (rowOf m.1).f3 == hi)
        | none => false) = true := by decide +kernel
    have em := e m
    split at em
    · rename_i L lo hi ok hf
      simp only [Bool.and_eq_true, beq_iff_eq] at em
      obtain ⟨⟨⟨⟨rfl, h1⟩, h2⟩, h3⟩, h4⟩ := em
      refine ⟨L, lo, hi, hf, h1, h2, h3, ?_⟩
      split at h4
      · rename_i hlt
        rw [if_pos hlt]
        simpa using h4
      · rename_i hlt
        rw [if_neg hlt]
        simp only [Bool.and_eq_true, beq_iff_eq] at h4
        exact ⟨h4.1.1, h4.1.2, h4.2⟩
    · cases em
  obtain ⟨L, lo, hi, hF, h1, h2, h3, h4⟩ := T ⟨n, hn⟩
  have hT : Tells (fun k => ontimeref04_Format.f k x.f0) (L, lo, hi, true) := by
    rw [hx]
    exact Tells.ofMono 10 (fun k => ontimeref04_Format.mono _ k) hF
  have hN : x.f0.toNat = n := by omega
  have e : vS x = validR (rowOf n) x.f1 x.f2 x.f3 x.f4 := by
    unfold vS
    rw [hN, hx]
    have hlt : (n : Int) < 30 := by omega
    simp [hlt]
  rw [e]
  obtain ⟨o, a, b, c, i⟩ := x
  simp only at *
  clear T hF e hN
  have hreg : ∀ (v : Int) (bb : Bool), ontimeref04_reg.f v bb = some (if bb = true then decide (0 ≤ v) && decide (v < 16) else v == 0) := by
    intro v bb
    unfold ontimeref04_reg.f
    cases bb
    · simp
    · by_cases hv : v ≥ 0
      · simp [hv]
      · simp [hv]
  have hck : ∀ j, j < 3 → chk (rowOf n) a b c i j = (if hasB (rowOf n).f1 (ltr j) = true then decide (0 ≤ opd a b c i j) && decide (opd a b c i j < 16) else opd a b c i j == 0) := by
    intro j hj
    unfold chk loOf hiOf
    rw [if_neg (show j ≠ 3 by omega)]
    by_cases hb : hasB (rowOf n).f1 (ltr j) = true
    · simp only [if_pos hb]
      congr 1
      rw [if_neg (show j ≠ 3 by omega), decide_eq_decide]
      omega
    · simp only [if_neg hb]
      rw [Bool.eq_iff_iff]
      simp
      omega
  have c0 := hck 0 (by decide)
  have c1 := hck 1 (by decide)
  have c2 := hck 2 (by decide)
  have c3 : chk (rowOf n) a b c i 3 = (if lo > hi then i == 0 else (decide (i ≥ lo) && decide (i ≤ hi))) := by
    unfold chk loOf hiOf
    split at h4
    · rename_i hlt
      rw [if_pos hlt]
      have : hasB (rowOf n).f1 (ltr 3) = false := h4
      simp only [this, Bool.false_eq_true, if_false]
      rw [Bool.eq_iff_iff]
      simp [opd]
      omega
    · rename_i hlt
      rw [if_neg hlt]
      have : hasB (rowOf n).f1 (ltr 3) = true := h4.1
      simp only [this, if_true, h4.2.1, h4.2.2]
      rfl
  simp only [ltr, opd] at c0 c1 c2
  rw [h1] at c0
  rw [h2] at c1
  rw [h3] at c2
  have j0 : ∀ bb : Bool, Tells (fun k => ontimeref04_Valid.j0 k lo hi bb o a b c i) (!bb && chk (rowOf n) a b c i 3) := by
    intro bb
    refine Tells.succ ?_
    simp only [ontimeref04_Valid.j0]
    cases bb
    · refine Tells.neg (by decide) ?_
      rw [c3]
      by_cases hlt : lo > hi
      · refine Tells.pos hlt ?_
        refine Tells.of ?_
        simp [hlt]
      · refine Tells.neg hlt ?_
        refine Tells.of ?_
        simp only [if_neg hlt]
        by_cases hg : i ≥ lo
        · simp [hg]
        · simp [hg]
    · refine Tells.pos rfl ?_
      exact Tells.const
  unfold ontimeref04_Valid.f
  refine Tells.bind hT ?_
  refine Tells.pos rfl ?_
  simp only [hreg, Option.bind_some]
  unfold validR
  rw [c0, c1, c2]
  generalize (if decide (0 < L.size) = true then decide (0 ≤ a) && decide (a < 16) else a == 0) = q0
  generalize (if decide ((L.size : Int) > 1) = true then decide (0 ≤ b) && decide (b < 16) else b == 0) = q1
  generalize (if decide ((L.size : Int) > 2) = true then decide (0 ≤ c) && decide (c < 16) else c == 0) = q2
  cases q0
  · refine Tells.neg (by decide) ?_
    have := j0 true
    simpa using this
  · refine Tells.pos rfl ?_
    cases q1
    · refine Tells.neg (by decide) ?_
      have := j0 true
      simpa using this
    · refine Tells.pos rfl ?_
      have := j0 (!q2)
      simpa using this

/-- What Read hands back. -/
def enc (r : Option S48) : Int × Int × Int × Int × Int × Int := match r with
  | some x => (x.f0, x.f1, x.f2, x.f3, x.f4, 1)
  | none => (0, 0, 0, 0, 0, -1)

theorem shp_at (n j : Nat) (h : j < (lettersL n).length) (h2 : j < (shp n).length) : (shp n)[j] = (lettersL n)[j] + 32 := by
  unfold shp lettersL at *
  simp

theorem read_l2 (n : Nat) (hn : n < 30) (ws : List (List UInt8)) (hw : ∀ w ∈ ws, w.length ≤ 1000000) (hl : ws.length = (lettersL n).length + 1) : ∀ (d j : Nat) (y : S48), j + d = (lettersL n).length → y.f0 = n →
    Tells (fun k => ontimeref05_Read.l2 k (ws.map B) (B (shp n)) j y.f0 y.f1 y.f2 y.f3 y.f4) (enc ((foldR ((lettersL n).drop j) (ws.drop (j + 1)) y).bind fun x => if vS x = true then some x else none)) := by
  have hls : (shp n).length = (lettersL n).length := by unfold shp lettersL; rw [List.length_map]
  have hl3 : (lettersL n).length ≤ 3 := by unfold lettersL; rw [size_list]; exact (cls_in n hn).1
  intro d
  induction d with
  | zero =>
    intro j y hj hy
    refine Tells.succ ?_
    simp only [ontimeref05_Read.l2]
    refine Tells.neg (by rw [B_size]; omega) ?_
    refine Tells.bind (valid04 y n hn hy) ?_
    rw [List.drop_eq_nil_of_le (by omega)]
    simp only [foldR, Option.bind_some]
    by_cases hv : vS y = true
    · refine Tells.pos hv ?_
      rw [if_pos hv]
      exact Tells.const
    · refine Tells.neg hv ?_
      rw [if_neg hv]
      exact Tells.const
  | succ d ih =>
    intro j y hj hy
    have hlt : j < (lettersL n).length := by omega
    have hlw : j + 1 < ws.length := by omega
    have hd : (lettersL n).drop j = (lettersL n)[j] :: (lettersL n).drop (j + 1) := List.drop_eq_getElem_cons hlt
    have hdw : ws.drop (j + 1) = ws[j + 1] :: ws.drop (j + 1 + 1) := List.drop_eq_getElem_cons hlw
    have hin := (letters_in n hn).1 _ (List.getElem_mem hlt)
    have hbt : bt (B (shp n)) (j : Int) = (((lettersL n)[j] + 32 : UInt8).toNat : Int) := by
      rw [B_bt _ _ (by omega), shp_at n j hlt (by omega)]
    have hrd : rdOf ByteArray.empty (ws.map B) (((j + 1 : Nat) : Int)) = B ws[j + 1] := by
      rw [rdOf_at _ _ _ (by rw [List.length_map]; exact hlw), List.getElem_map]
    have hsz := hw _ (List.getElem_mem hlw)
    rw [hd, hdw]
    generalize (lettersL n)[j] = c at *
    generalize ws[j + 1] = s at *
    refine Tells.succ ?_
    simp only [ontimeref05_Read.l2, w64n j (by omega), hrd, hbt, foldR]
    refine Tells.pos (by rw [B_size]; omega) ?_
    refine Tells.pos (by omega) ?_
    refine Tells.pos (by rw [List.length_map]; omega) ?_
    refine Tells.bind (register_eq s hsz) ?_
    refine Tells.pos (by omega) ?_
    have j4 : ∀ (v : Int) (ok : Bool), (v, ok) = opR c s → Tells (fun k => ontimeref05_Read.j4 k (ws.map B) (B (shp n)) j v ok y.f0 y.f1 y.f2 y.f3 y.f4)
        (enc ((if (opR c s).2 = true then foldR ((lettersL n).drop (j + 1)) (ws.drop (j + 1 + 1)) (opSet y c (opR c s).1) else none).bind fun x => if vS x = true then some x else none)) := by
      intro v ok ho
      rw [← ho]
      refine Tells.succ ?_
      simp only [ontimeref05_Read.j4, w64n j (by omega), hbt]
      cases ok
      · refine Tells.neg (by decide) ?_
        exact Tells.const
      · refine Tells.pos (by first | rfl | trivial) ?_
        refine Tells.pos (by omega) ?_
        refine Tells.pos (by rw [B_size]; omega) ?_
        have step := ih (j + 1) (opSet y c v) (by omega) (by rw [opSet_f0]; exact hy)
        rw [if_pos rfl]
        rcases hin with rfl | rfl | rfl | rfl
        · refine Tells.pos (by decide) ?_
          exact step
        · refine Tells.neg (by decide) ?_
          refine Tells.pos (by decide) ?_
          exact step
        · refine Tells.neg (by decide) ?_
          refine Tells.neg (by decide) ?_
          refine Tells.pos (by decide) ?_
          exact step
        · refine Tells.neg (by decide) ?_
          refine Tells.neg (by decide) ?_
          refine Tells.neg (by decide) ?_
          exact step
    rcases hin with rfl | rfl | rfl | rfl
    · refine Tells.neg (by decide) ?_
      exact j4 _ _ rfl
    · refine Tells.neg (by decide) ?_
      exact j4 _ _ rfl
    · refine Tells.neg (by decide) ?_
      exact j4 _ _ rfl
    · refine Tells.pos (by decide) ?_
      refine Tells.bind (number_eq s hsz) ?_
      exact j4 _ _ rfl

theorem namesL_at (j : Nat) (h : j < 30) : rdOf ByteArray.empty namesL (j : Int) = (rowOf j).f0 := by rw [names_at j h, B_data]
theorem read_l1 (ws : List (List UInt8)) (hne : ws ≠ []) (hw : ∀ w ∈ ws, w.length ≤ 1000000) (hwl : ws.length ≤ 1000000) : ∀ (d j : Nat), j + d = 30 →
    Tells (fun k => ontimeref05_Read.l1 k (ws.map B) namesL j) (enc ((firstFrom d j (B (ws.headD []))).bind fun n => readN n ws)) := by
  have h0 : rdOf ByteArray.empty (ws.map B) 0 = B (ws.headD []) := by
    cases ws with
    | nil => exact absurd rfl hne
    | cons w ws => rfl
  have hpos : 0 < ws.length := List.length_pos_iff.2 hne
  intro d
  induction d with
  | zero =>
    intro j hj
    refine Tells.succ ?_
    simp only [ontimeref05_Read.l1]
    refine Tells.neg (by rw [names_len]; omega) ?_
    exact Tells.const
  | succ d ih =>
    intro j hj
    refine Tells.succ ?_
    simp only [ontimeref05_Read.l1, namesL_at j (by omega), h0, w64n j (by omega)]
    refine Tells.pos (by rw [names_len]; omega) ?_
    refine Tells.pos (by omega) ?_
    refine Tells.pos (by rw [List.length_map]; omega) ?_
    unfold firstFrom
    by_cases hs : (rowOf j).f0 = B (ws.headD [])
    · refine Tells.pos (by rw [hs]) ?_
      rw [if_pos hs, Option.bind_some, show ((j : Int) % 256) = (j : Int) by omega]
      refine Tells.bind (shape_eq j (by omega)) ?_
      have hls : (shp j).length = (lettersL j).length := by unfold shp lettersL; rw [List.length_map]
      have hl3 : (lettersL j).length ≤ 3 := by unfold lettersL; rw [size_list]; exact (cls_in j (by omega)).1
      unfold readN
      by_cases hl : ws.length = (lettersL j).length + 1
      · refine Tells.pos (by rw [List.length_map, B_size, w64n _ (by omega)]; omega) ?_
        rw [if_pos hl]
        have := read_l2 j (by omega) ws hw hl _ 0 ⟨j, 0, 0, 0, 0⟩ (Nat.zero_add _) rfl
        rw [List.drop_zero, Nat.zero_add, List.drop_one] at this
        exact this
      · refine Tells.neg (by rw [List.length_map, B_size, w64n _ (by omega)]; omega) ?_
        rw [if_neg hl]
        exact Tells.const
    · refine Tells.neg ?_ ?_
      · intro he
        rw [toList_data, toList_data] at he
        exact hs (by rw [← B_data (rowOf j).f0, he, B_data])
      · rw [if_neg hs]
        exact ih (j + 1) (by omega)

theorem words_j (s : List UInt8) (hs : s.length ≤ 100000) : ∀ (d i : Nat) (acc cur : List (List UInt8) × List UInt8), i + d = s.length → acc.1.length + d ≤ 200000 → acc.2.length + d ≤ 200000 →
    Tells (fun k => ontimeref05_words.l0 k (B s) (acc.1.map B) (B acc.2) i) ((acc.1 ++ fieldsB acc.2 (s.drop i)).map B) := by
  intro d
  induction d with
  | zero =>
    intro i acc _ hi h1 h2
    obtain ⟨acc, cur⟩ := acc
    simp only at *
    rw [List.drop_eq_nil_of_le (by omega)]
    refine Tells.succ ?_
    simp only [ontimeref05_words.l0]
    refine Tells.pos (by rw [B_size]; omega) ?_
    refine Tells.pos (by rw [B_size]; omega) ?_
    refine Tells.succ ?_
    simp only [ontimeref05_words.j1, w64n i (by omega)]
    refine Tells.pos (by first | rfl | trivial) ?_
    unfold fieldsB
    have last : ∀ a : List ByteArray, Tells (fun k => ontimeref05_words.l0 k (B s) a (⟨#[]⟩ : ByteArray) ((i + 1 : Nat) : Int)) a := by
      intro a
      refine Tells.succ ?_
      simp only [ontimeref05_words.l0]
      refine Tells.neg (by rw [B_size]; omega) ?_
      exact Tells.const
    by_cases hc : cur = []
    · refine Tells.pos (by rw [B_toList]; exact hc) ?_
      rw [if_pos hc, List.append_nil]
      exact last _
    · refine Tells.neg (by rw [B_toList]; exact hc) ?_
      refine Tells.pos (by rw [List.length_map]; omega) ?_
      rw [if_neg hc, List.map_append]
      exact last _
  | succ d ih =>
    intro i acc _ hi h1 h2
    obtain ⟨acc, cur⟩ := acc
    simp only at *
    have hlt : i < s.length := by omega
    have hd : s.drop i = s[i] :: s.drop (i + 1) := List.drop_eq_getElem_cons hlt
    have hbt := B_bt s i hlt
    have hex : (B s).extract i (i + 1) = B [s[i]] := by rw [B_extract, hd, Nat.add_sub_cancel_left]; rfl
    rw [hd]
    generalize s[i] = c at *
    have hcb : ∀ bb : Bool, bb = isB c → Tells (fun k => ontimeref05_words.j1 k (B s) (acc.map B) (B cur) i bb) ((acc ++ fieldsB cur (c :: s.drop (i + 1))).map B) := by
      intro bb hb
      refine Tells.succ ?_
      simp only [ontimeref05_words.j1, w64n i (by omega), Int.toNat_natCast, hex]
      unfold fieldsB
      cases bb
      · refine Tells.neg (by decide) ?_
        rw [if_neg (by rw [← hb]; decide)]
        refine Tells.pos (by omega) ?_
        refine Tells.pos (by omega) ?_
        refine Tells.pos (by rw [B_size]; omega) ?_
        refine Tells.pos (by rw [B_size, B_size]; simp only [List.length_cons, List.length_nil]; omega) ?_
        rw [B_append]
        exact ih (i + 1) (acc, cur ++ [c]) ([], []) (by omega) (by simp only; omega) (by simp only [List.length_append, List.length_cons, List.length_nil]; omega)
      · refine Tells.pos (by first | rfl | trivial) ?_
        rw [if_pos hb.symm]
        by_cases hc : cur = []
        · refine Tells.pos (by rw [B_toList]; exact hc) ?_
          rw [if_pos hc]
          exact ih (i + 1) (acc, []) ([], []) (by omega) (by simp only; omega) (by simp only [List.length_nil]; omega)
        · refine Tells.neg (by rw [B_toList]; exact hc) ?_
          refine Tells.pos (by rw [List.length_map]; omega) ?_
          rw [if_neg hc]
          have := ih (i + 1) (acc ++ [cur], []) ([], []) (by omega) (by simp only [List.length_append, List.length_cons, List.length_nil]; omega) (by simp only [List.length_nil]; omega)
          simp only [List.map_append, List.map_cons, List.map_nil, List.append_assoc, List.cons_append, List.nil_append] at this ⊢
          exact this
    refine Tells.succ ?_
    simp only [ontimeref05_words.l0, hbt]
    refine Tells.pos (by rw [B_size]; omega) ?_
    refine Tells.neg (by rw [B_size]; omega) ?_
    refine Tells.pos (by omega) ?_
    refine Tells.pos (by rw [B_size]; omega) ?_
    by_cases h32 : (c.toNat : Int) = 32
    · refine Tells.pos h32 ?_
      exact hcb true ((isB_iff c).2 (by omega)).symm
    · refine Tells.neg h32 ?_
      refine hcb _ ?_
      rw [Bool.eq_iff_iff, beq_iff_eq, isB_iff]
      omega
theorem words_eq (s : List UInt8) (hs : s.length ≤ 100000) : Tells (fun k => ontimeref05_words.f k (B s)) ((fieldsB [] s).map B) := by
  have := words_j s hs s.length 0 ([], []) ([], []) (by omega) (by simp only [List.length_nil]; omega) (by simp only [List.length_nil]; omega)
  simp only [List.map_nil, List.nil_append, List.drop_zero] at this
  exact this

/-- A line without its comment. -/
def strip (l : List UInt8) : List UInt8 := l.takeWhile (fun c => !(c == 59))
/-- What Read tells of a line. -/
def readLine (s : List UInt8) : Int × Int × Int × Int × Int × Int := if fieldsB [] (strip s) = [] then (0, 0, 0, 0, 0, 0) else enc (readW (fieldsB [] (strip s)))
theorem read_j1 (s : List UInt8) (hs : s.length ≤ 100000) : Tells (fun k => ontimeref05_Read.j1 k (B s)) (if fieldsB [] s = [] then (0, 0, 0, 0, 0, 0) else enc (readW (fieldsB [] s))) := by
  refine Tells.succ ?_
  simp only [ontimeref05_Read.j1]
  refine Tells.bind (words_eq s hs) ?_
  have hp := fieldsB_plain s [] (fun x hx => by cases hx)
  have hl := fieldsB_length s []
  generalize fieldsB [] s = ws at *
  by_cases h : ws = []
  · refine Tells.pos (by rw [h]; rfl) ?_
    rw [if_pos h]
    exact Tells.const
  · have hpos : 0 < ws.length := List.length_pos_iff.2 h
    refine Tells.neg (by rw [List.length_map]; omega) ?_
    rw [if_neg h, names_eq]
    simp only [Option.bind_some]
    rw [← readR_eq h (fun w hw => (hp w hw).2.1)]
    exact read_l1 ws h (fun w hw => by have := (hp w hw).2.2; simp only [List.length_nil] at this; omega) (by omega) 30 0 rfl

theorem read_l0 (s : List UInt8) (hs : s.length ≤ 100000) : ∀ (d i : Nat), i + d = s.length → (∀ c ∈ s.take i, (!(c == 59)) = true) → Tells (fun k => ontimeref05_Read.l0 k (B s) i) (readLine s) := by
  intro d
  induction d with
  | zero =>
    intro i hi hp
    refine Tells.succ ?_
    simp only [ontimeref05_Read.l0]
    refine Tells.neg (by rw [B_size]; omega) ?_
    have e : strip s = s := by
      unfold strip
      rw [List.take_of_length_le (by omega)] at hp
      conv => lhs; rw [← List.append_nil s]
      rw [List.takeWhile_append_of_pos hp]
      simp
    have := read_j1 s hs
    unfold readLine
    rw [e]
    exact this
  | succ d ih =>
    intro i hi hp
    have hlt : i < s.length := by omega
    have hd : s.drop i = s[i] :: s.drop (i + 1) := List.drop_eq_getElem_cons hlt
    refine Tells.succ ?_
    simp only [ontimeref05_Read.l0, B_bt s i hlt, w64n i (by omega), Int.toNat_natCast]
    refine Tells.pos (by rw [B_size]; omega) ?_
    refine Tells.pos (by omega) ?_
    by_cases h : s[i] = 59
    · refine Tells.pos (by rw [h]; rfl) ?_
      refine Tells.pos (by rw [B_size]; omega) ?_
      have e : strip s = s.take i := by
        unfold strip
        conv => lhs; rw [← List.take_append_drop i s]
        rw [List.takeWhile_append_of_pos hp, hd, List.takeWhile_cons_of_neg (by simp [h]), List.append_nil]
      rw [B_extract, List.drop_zero, Nat.sub_zero]
      have := read_j1 (s.take i) (by rw [List.length_take]; omega)
      unfold readLine
      rw [e]
      exact this
    · refine Tells.neg (fun hc => h (UInt8.toNat_inj.1 (by rw [show (59 : UInt8).toNat = 59 from rfl]; omega))) ?_
      refine ih (i + 1) (by omega) (fun c hc => ?_)
      rw [List.take_add_one, List.getElem?_eq_getElem hlt] at hc
      rcases List.mem_append.1 hc with hc | hc
      · exact hp c hc
      · simp only [Option.toList_some, List.mem_singleton] at hc
        subst hc
        simp [h]
theorem read_eq (s : List UInt8) (hs : s.length ≤ 100000) : Tells (fun k => ontimeref05_Read.f k (B s)) (readLine s) :=
  read_l0 s hs s.length 0 (by omega) (fun c hc => by simp at hc)
end Go.Proofs.YtchlcncffillbaaDoor.L

/- asm.Parse and the reference's Parse tell the same of every text of at most 65536 bytes. -/
namespace Go.Proofs.YtchlcncffillbaaDoor.L
set_option linter.unusedVariables false
set_option linter.unusedSimpArgs false
open Go.RowKit Go.Proofs.YtchlcncffillbaaDoor.P Go.Proofs.YtchlcncffillbaaDoorW.PrintWords Go.Proofs.YtchlcncffillbaaDoorW.PrintLast Go.Proofs.YtchlcncffillbaaDoorW.PrintMore

/-- The pieces between the bytes c. -/
def splitC (c : UInt8) : List UInt8 → List UInt8 → List (List UInt8)
  | cur, [] => [cur]
  | cur, x :: l => if x = c then cur :: splitC c [] l else splitC c (cur ++ [x]) l
/-- What stands ahead of the first c. -/
def upto (c : UInt8) (l : List UInt8) : List UInt8 := l.takeWhile (fun x => !(x == c))
theorem upto_none {c : UInt8} : ∀ {l : List UInt8}, c ∉ l → upto c l = l
  | [], _ => rfl
  | x :: l, h => by
    have hx : (!(x == c)) = true := by
      simp only [Bool.not_eq_true', beq_eq_false_iff_ne]
      rintro rfl
      exact h List.mem_cons_self
    unfold upto
    rw [List.takeWhile_cons_of_pos (p := fun x => !(x == c)) hx]
    congr 1
    exact upto_none (fun hm => h (List.mem_cons_of_mem _ hm))
theorem upto_cons_eq (c : UInt8) (l : List UInt8) : upto c (c :: l) = [] := by
  unfold upto
  rw [List.takeWhile_cons_of_neg (by simp)]
theorem upto_cons_ne {c x : UInt8} (h : x ≠ c) (l : List UInt8) : upto c (x :: l) = x :: upto c l := by
  unfold upto
  rw [List.takeWhile_cons_of_pos (by simpa using h)]
theorem upto_split {c : UInt8} : ∀ {l : List UInt8}, c ∈ l → l = upto c l ++ c :: l.drop ((upto c l).length + 1)
  | [], h => by cases h
  | x :: l, h => by
    by_cases hx : x = c
    · subst hx
      rw [upto_cons_eq]
      rfl
    · rw [upto_cons_ne hx, List.cons_append, List.length_cons, List.drop_succ_cons]
      congr 1
      exact upto_split (by
        rcases List.mem_cons.1 h with h | h
        · exact absurd h.symm hx
        · exact h)
theorem upto_take (c : UInt8) (l : List UInt8) : l.take (upto c l).length = upto c l := by
  by_cases h : c ∈ l
  · conv => lhs; rw [upto_split h]
    rw [List.take_left']
    rw [← upto_split h]
  · rw [upto_none h, List.take_length]
theorem upto_not (c : UInt8) : ∀ (l : List UInt8), ∀ x ∈ upto c l, x ≠ c
  | [], x, hx => by cases hx
  | y :: l, x, hx => by
    by_cases hy : y = c
    · subst hy
      rw [upto_cons_eq] at hx
      cases hx
    · rw [upto_cons_ne hy] at hx
      rcases List.mem_cons.1 hx with rfl | hx
      · exact hy
      · exact upto_not c l x hx
theorem splitC_cut (c : UInt8) : ∀ (l cur : List UInt8), splitC c cur l = if c ∈ l then (cur ++ upto c l) :: splitC c [] (l.drop ((upto c l).length + 1)) else [cur ++ l]
  | [], cur => by simp [splitC]
  | x :: l, cur => by
    rw [show splitC c cur (x :: l) = (if x = c then cur :: splitC c [] l else splitC c (cur ++ [x]) l) from rfl]
    by_cases hx : x = c
    · subst hx
      rw [if_pos rfl, if_pos List.mem_cons_self, upto_cons_eq, List.append_nil]
      rfl
    · rw [if_neg hx, splitC_cut c l (cur ++ [x]), upto_cons_ne hx]
      have : c ∈ x :: l ↔ c ∈ l := by
        rw [List.mem_cons]
        exact ⟨fun h => h.resolve_left (fun he => hx he.symm), Or.inr⟩
      by_cases hc : c ∈ l
      · rw [if_pos hc, if_pos (this.2 hc), List.append_assoc, List.length_cons, List.drop_succ_cons]
        rfl
      · rw [if_neg hc, if_neg (fun h => hc (this.1 h)), List.append_assoc]
        rfl
theorem splitC_len (c : UInt8) : ∀ (l cur : List UInt8), (splitC c cur l).length ≤ l.length + 1 ∧ ∀ p ∈ splitC c cur l, p.length ≤ cur.length + l.length
  | [], cur => by simp [splitC]
  | x :: l, cur => by
    have h1 := splitC_len c l []
    have h2 := splitC_len c l (cur ++ [x])
    unfold splitC
    simp only [List.length_nil, List.length_append, List.length_cons, Nat.zero_add] at h1 h2
    split
    · simp only [List.length_cons]
      refine ⟨by omega, fun p hp => ?_⟩
      rcases List.mem_cons.1 hp with rfl | hp
      · omega
      · have := h1.2 p hp; omega
    · simp only [List.length_cons]
      refine ⟨by omega, fun p hp => ?_⟩
      have := h2.2 p hp; omega

theorem indexByte_eq (c : UInt8) : ∀ l : List UInt8, Lib.indexByte l c = if c ∈ l then ((upto c l).length : Int) else -1
  | [] => by simp [Lib.indexByte]
  | x :: l => by
    unfold Lib.indexByte
    by_cases hx : x = c
    · subst hx
      rw [if_pos (by simp), if_pos List.mem_cons_self, upto_cons_eq]
      rfl
    · rw [if_neg (by simpa using hx), indexByte_eq c l, upto_cons_ne hx]
      by_cases hc : c ∈ l
      · rw [if_pos hc, if_neg (by simp), if_pos (List.mem_cons_of_mem _ hc)]
        rfl
      · rw [if_neg hc, if_pos (by decide), if_neg]
        intro h
        rcases List.mem_cons.1 h with h | h
        · exact hx h.symm
        · exact hc h
theorem cut_one (c : UInt8) (l : List UInt8) : (Lib.cut l [c]).1 = upto c l := by
  unfold Lib.cut
  rw [Lib.index_one, indexByte_eq]
  by_cases hc : c ∈ l
  · rw [if_pos hc, if_pos (by omega)]
    exact upto_take c l
  · rw [if_neg hc, if_neg (by decide)]
    exact (upto_none hc).symm
theorem splitK_eq (c : UInt8) : ∀ (k : Nat) (l : List UInt8), l.count c = k → Lib.splitK [c] 0 k l = splitC c [] l
  | 0, l, h => by
    have hc : c ∉ l := List.count_eq_zero.1 h
    rw [splitC_cut, if_neg hc]
    rfl
  | k + 1, l, h => by
    have hc : c ∈ l := List.count_pos_iff.1 (by omega)
    unfold Lib.splitK
    rw [Lib.index_one, indexByte_eq, if_pos hc, if_neg (by simp), splitC_cut, if_pos hc, List.nil_append]
    simp only [Int.toNat_natCast, Nat.add_zero, Nat.zero_add, List.length_cons, List.length_nil]
    rw [upto_take, splitK_eq c k]
    have h2 := congrArg (List.count c) (upto_split hc)
    rw [List.count_append, List.count_cons_self, h, List.count_eq_zero.2 (fun hm => upto_not c l c hm rfl)] at h2
    omega
theorem split_eq (c : UInt8) (s : List UInt8) (hs : s.length < 4294967281) : strings_Split.f (B s) (B [c]) = some ((splitC c [] s).map B) := by
  unfold strings_Split.f
  rw [if_pos ⟨by rw [B_size]; exact hs, by rw [B_size]; simp⟩]
  congr 1
  have h := Lib.splitB_data (B [c]) 0 (Lib.countB (B s) (B [c])) (B s)
  rw [B_list, B_list] at h
  have hk : Lib.countB (B s) (B [c]) = s.count c := by
    unfold Lib.countB
    rw [B_list, B_list]
    exact Lib.count_one c s
  rw [hk] at h ⊢
  rw [splitK_eq c _ s rfl] at h
  rw [← h, List.map_map, show B ∘ (fun x : ByteArray => x.data.toList) = id from funext fun x => B_data x, List.map_id]
theorem cut_eq (s : List UInt8) (hs : s.length < 4294967281) : ∃ p, strings_Cut.f (B s) (B [59]) = some (B (strip s), p) := by
  unfold strings_Cut.f
  rw [if_pos (by rw [B_size]; exact hs), B_list, B_list]
  refine ⟨(⟨(Lib.cut s [59]).2.1.toArray⟩, (Lib.cut s [59]).2.2), ?_⟩
  rw [cut_one]
  rfl
theorem blank_same : blankP = blankR := rfl
theorem fields_eq (s : List UInt8) (hs : s.length ≤ 4294967296) : strings_FieldsFunc.f (B s) = some ((fieldsB [] s).map B) := by
  unfold strings_FieldsFunc.f
  rw [if_pos (by rw [B_size]; exact hs), blank_same, goFields_bytes, B_list]

/-- The lines of a text, read one after the other. -/
def parseL : List (List UInt8) → List S48 → Int → List S48 × Int × Int
  | [], acc, _ => (acc, 0, 0)
  | l :: ls, acc, n =>
    if fieldsB [] (strip l) = [] then parseL ls acc (n + 1)
    else match readW (fieldsB [] (strip l)) with
      | none => ([], n, 3)
      | some x => if 4096 ≤ acc.length then ([], n, 5) else parseL ls (acc ++ [x]) (n + 1)
/-- What Parse answers. -/
def parseS (s : List UInt8) : List S48 × Int × Int := if 65536 < s.length then ([], 0, 5) else parseL (splitC 10 [] s) [] 1

theorem strip_len (s : List UInt8) : (strip s).length ≤ s.length := by
  unfold strip
  exact (List.takeWhile_prefix _).length_le
theorem instr_f {ws : List (List UInt8)} (hne : ws ≠ []) (hl : ws.length ≤ 100000) (hw : ∀ w ∈ ws, w.length ≤ 100000) :
    asm_instruction.f (ws.map B) = some ((instr (ws.map B)).1.f0, (instr (ws.map B)).1.f1, (instr (ws.map B)).1.f2, (instr (ws.map B)).1.f3, (instr (ws.map B)).1.f4, (instr (ws.map B)).2) := by
  unfold asm_instruction.f
  rw [if_pos]
  refine ⟨by rw [List.length_map]; exact List.length_pos_iff.2 hne, by rw [List.length_map]; exact hl, fun s hs => ?_⟩
  obtain ⟨w, hw', rfl⟩ := List.mem_map.1 hs
  rw [B_size]
  exact hw w hw'

theorem asm_l0 (ls : List (List UInt8)) (hls : ls.length ≤ 100000) (hll : ∀ l ∈ ls, l.length ≤ 70000) : ∀ (d i : Nat) (acc : List S48), i + d = ls.length → acc.length ≤ 4096 →
    Tells (fun k => asm_Parse.l0 k acc (ls.map B) (ls.length : Int) i) (parseL (ls.drop i) acc ((i + 1 : Nat) : Int)) := by
  intro d
  induction d with
  | zero =>
    intro i acc hi ha
    refine Tells.succ ?_
    simp only [asm_Parse.l0]
    refine Tells.neg (by omega) ?_
    rw [List.drop_eq_nil_of_le (by omega)]
    exact Tells.const
  | succ d ih =>
    intro i acc hi ha
    have hlt : i < ls.length := by omega
    have hd : ls.drop i = ls[i] :: ls.drop (i + 1) := List.drop_eq_getElem_cons hlt
    have hz := hll _ (List.getElem_mem hlt)
    have hrd : rdOf ByteArray.empty (ls.map B) (i : Int) = B ls[i] := by rw [rdOf_at _ _ _ (by rw [List.length_map]; exact hlt), List.getElem_map]
    rw [hd]
    generalize ls[i] = l at *
    refine Tells.succ ?_
    obtain ⟨p, hp⟩ := cut_eq l (by omega)
    have hsl := strip_len l
    simp only [asm_Parse.l0, hrd, w64n i (by omega), show (⟨#[59]⟩ : ByteArray) = B [59] from rfl, hp, Option.bind_some, fields_eq (strip l) (by omega)]
    refine Tells.pos (by omega) ?_
    refine Tells.pos (by omega) ?_
    refine Tells.pos (by rw [List.length_map]; omega) ?_
    have hpl := fieldsB_plain (strip l) [] (fun x hx => by cases hx)
    have hfl := fieldsB_length (strip l) []
    unfold parseL
    generalize fieldsB [] (strip l) = ws at *
    have hnext : ((i + 1 : Nat) : Int) + 1 = ((i + 1 + 1 : Nat) : Int) := by omega
    by_cases hws : ws = []
    · refine Tells.pos (by rw [hws]; rfl) ?_
      rw [if_pos hws, hnext]
      exact ih (i + 1) acc (by omega) ha
    · have hpos : 0 < ws.length := List.length_pos_iff.2 hws
      refine Tells.neg (by rw [List.length_map]; omega) ?_
      rw [if_neg hws, instr_f hws (by omega) (fun w hw => by have := (hpl w hw).2.2; simp only [List.length_nil] at this; omega)]
      simp only [Option.bind_some]
      unfold readW
      by_cases hok : (instr (ws.map B)).2 = true
      · refine Tells.pos hok ?_
        rw [if_pos hok]
        simp only
        by_cases hf : acc.length = 4096
        · refine Tells.pos (by omega) ?_
          rw [if_pos (by omega)]
          exact Tells.const
        · refine Tells.neg (by omega) ?_
          refine Tells.pos (by omega) ?_
          rw [if_neg (by omega), hnext]
          exact ih (i + 1) _ (by omega) (by simp only [List.length_append, List.length_cons, List.length_nil]; omega)
      · refine Tells.neg hok ?_
        rw [if_neg hok]
        exact Tells.const

theorem asm_parse (s : List UInt8) (hs : s.length ≤ 1000000) : Tells (fun k => asm_Parse.f k (B s)) (parseS s) := by
  unfold asm_Parse.f parseS
  by_cases h : 65536 < s.length
  · refine Tells.pos (by rw [B_size]; omega) ?_
    rw [if_pos h]
    exact Tells.const
  · refine Tells.neg (by rw [B_size]; omega) ?_
    rw [if_neg h, show (⟨#[10]⟩ : ByteArray) = B [10] from rfl, split_eq 10 s (by omega)]
    simp only [Option.bind_some, List.length_map]
    obtain ⟨h1, h2⟩ := splitC_len 10 s []
    have := asm_l0 (splitC 10 [] s) (by omega) (fun l hl => by have := h2 l hl; simp only [List.length_nil] at this; omega) _ 0 [] (Nat.zero_add _) (by simp)
    exact this

/-! ### the reference -/
theorem ref_j2 (s : List UInt8) (hs : s.length ≤ 70000) (m : Nat) (hm : m ≤ s.length) (acc : List S48) (n : Nat) (hn : n ≤ 100000) (r : List S48 → List S48 × Int × Int)
    (rest : ∀ acc' : List S48, acc'.length ≤ 4096 → Tells (fun k => ontimeref05_Parse.l0 k (B (s.drop (m + 1))) acc' ((n + 1 : Nat) : Int)) (r acc')) (ha : acc.length ≤ 4096) :
    Tells (fun k => ontimeref05_Parse.j2 k (B s) acc n m) (if fieldsB [] (strip (s.take m)) = [] then r acc else match readW (fieldsB [] (strip (s.take m))) with | none => ([], (n : Int), 3) | some x => if 4096 ≤ acc.length then ([], (n : Int), 5) else r (acc ++ [x])) := by
  refine Tells.succ ?_
  have hmn : mn (wrap64 ((m : Int) + 1)) ((B s).size : Int) = ((min (m + 1) s.length : Nat) : Int) := by
    rw [w64n m (by omega), B_size]
    unfold mn
    split <;> omega
  have hex : (B s).extract (min (m + 1) s.length) (B s).size = B (s.drop (m + 1)) := by
    rw [B_extract, B_size]
    congr 1
    rcases Nat.lt_or_ge m s.length with h | h
    · rw [Nat.min_eq_left (by omega), List.take_of_length_le (by rw [List.length_drop]; omega)]
    · rw [Nat.min_eq_right (by omega), List.drop_eq_nil_of_le (by omega), List.drop_eq_nil_of_le (by omega)]
      simp
  have hex0 : (B s).extract 0 m = B (s.take m) := by rw [B_extract, List.drop_zero, Nat.sub_zero]
  simp only [ontimeref05_Parse.j2, hmn, Int.toNat_natCast, hex, hex0, w64n n (by omega)]
  refine Tells.pos (by omega) ?_
  refine Tells.pos (by rw [B_size]; omega) ?_
  refine Tells.bind (read_eq (s.take m) (by rw [List.length_take]; omega)) ?_
  unfold readLine
  by_cases hf : fieldsB [] (strip (s.take m)) = []
  · rw [if_pos hf, if_pos hf]
    refine Tells.neg (by decide) ?_
    refine Tells.neg (by decide) ?_
    refine Tells.pos (by omega) ?_
    refine Tells.pos (by rw [B_size]; omega) ?_
    exact rest acc ha
  · rw [if_neg hf, if_neg hf]
    cases readW (fieldsB [] (strip (s.take m))) with
    | none =>
      refine Tells.pos (by decide) ?_
      exact Tells.const
    | some x =>
      refine Tells.neg (by simp [enc]) ?_
      refine Tells.pos rfl ?_
      by_cases h4 : 4096 ≤ acc.length
      · refine Tells.pos (by omega) ?_
        simp only [if_pos h4]
        exact Tells.const
      · refine Tells.neg (by omega) ?_
        refine Tells.pos (by omega) ?_
        refine Tells.pos (by omega) ?_
        refine Tells.pos (by rw [B_size]; omega) ?_
        simp only [if_neg h4]
        exact rest _ (by simp only [List.length_append, List.length_cons, List.length_nil]; omega)

theorem ref_l1 (s : List UInt8) (hs : s.length ≤ 70000) (acc : List S48) (n : Nat) (v : List S48 × Int × Int) (h : Tells (fun k => ontimeref05_Parse.j2 k (B s) acc n ((upto 10 s).length : Nat)) v) :
    ∀ (d i : Nat), i + d = (upto 10 s).length → Tells (fun k => ontimeref05_Parse.l1 k (B s) acc n i) v := by
  have hle : (upto 10 s).length ≤ s.length := (List.takeWhile_prefix _).length_le
  intro d
  induction d with
  | zero =>
    intro i hi
    have hi' : i = (upto 10 s).length := by omega
    refine Tells.succ ?_
    simp only [ontimeref05_Parse.l1]
    by_cases hlt : i < s.length
    · refine Tells.pos (by rw [B_size]; omega) ?_
      refine Tells.pos (by omega) ?_
      have hc : 10 ∈ s := by
        cases hm : decide (10 ∈ s) with
        | true => exact of_decide_eq_true hm
        | false =>
          have := of_decide_eq_false hm
          rw [upto_none this] at hi'
          omega
      have h10 : s[i] = 10 := by
        have h1 : s[i]? = some 10 := by
          rw [upto_split hc, hi', List.getElem?_append_right (Nat.le_refl _), Nat.sub_self]
          rfl
        rw [List.getElem?_eq_getElem hlt] at h1
        exact Option.some.inj h1
      refine Tells.pos (by rw [B_bt s i hlt, h10]; rfl) ?_
      rw [hi']
      exact h
    · refine Tells.neg (by rw [B_size]; omega) ?_
      rw [hi']
      exact h
  | succ d ih =>
    intro i hi
    have hlt : i < s.length := by omega
    refine Tells.succ ?_
    simp only [ontimeref05_Parse.l1, w64n i (by omega)]
    refine Tells.pos (by rw [B_size]; omega) ?_
    refine Tells.pos (by omega) ?_
    refine Tells.neg ?_ ?_
    · rw [B_bt s i hlt]
      intro hc
      have hm : s[i] ∈ upto 10 s := by
        rw [← upto_take 10 s]
        exact List.mem_iff_getElem.2 ⟨i, by rw [List.length_take]; omega, by rw [List.getElem_take]⟩
      exact upto_not 10 s _ hm (UInt8.toNat_inj.1 (by rw [show (10 : UInt8).toNat = 10 from rfl]; omega))
    · exact ih (i + 1) (by omega)

theorem parseL_nil (acc : List S48) (n : Int) : parseL (splitC 10 [] []) acc n = (acc, 0, 0) := rfl
theorem ref_l0 : ∀ (z : Nat) (s : List UInt8), s.length = z → s.length ≤ 70000 → ∀ (acc : List S48) (n : Nat), n + s.length ≤ 100000 → acc.length ≤ 4096 →
    Tells (fun k => ontimeref05_Parse.l0 k (B s) acc n) (parseL (splitC 10 [] s) acc n) := by
  intro z
  induction z using Nat.strongRecOn with
  | ind z ih =>
    intro s hz hs acc n hn ha
    refine Tells.succ ?_
    simp only [ontimeref05_Parse.l0]
    by_cases h0 : s = []
    · subst h0
      refine Tells.neg (by decide) ?_
      rw [parseL_nil]
      exact Tells.const
    · have hpos : 0 < s.length := List.length_pos_iff.2 h0
      have hle : (upto 10 s).length ≤ s.length := (List.takeWhile_prefix _).length_le
      refine Tells.pos (by rw [B_size]; omega) ?_
      refine ref_l1 s hs acc n _ ?_ (upto 10 s).length 0 (Nat.zero_add _)
      have hdl : (s.drop ((upto 10 s).length + 1)).length ≤ s.length - 1 := by rw [List.length_drop]; omega
      have := ref_j2 s hs (upto 10 s).length hle acc n (by omega) (fun acc' => parseL (splitC 10 [] (s.drop ((upto 10 s).length + 1))) acc' ((n + 1 : Nat) : Int))
        (fun acc' ha' => ih _ (by omega) _ rfl (by omega) acc' (n + 1) (by omega) ha') ha
      rw [upto_take] at this
      have e : parseL (splitC 10 [] s) acc n = (if fieldsB [] (strip (upto 10 s)) = [] then parseL (splitC 10 [] (s.drop ((upto 10 s).length + 1))) acc ((n + 1 : Nat) : Int)
          else match readW (fieldsB [] (strip (upto 10 s))) with
            | none => ([], (n : Int), 3)
            | some x => if 4096 ≤ acc.length then ([], (n : Int), 5) else parseL (splitC 10 [] (s.drop ((upto 10 s).length + 1))) (acc ++ [x]) ((n + 1 : Nat) : Int)) := by
        rw [splitC_cut]
        by_cases hc : 10 ∈ s
        · rw [if_pos hc, List.nil_append, parseL]
          rfl
        · rw [if_neg hc, List.nil_append, parseL, upto_none hc, List.drop_eq_nil_of_le (by omega)]
          simp only [parseL_nil]
          rfl
      rw [e]
      exact this

theorem ref_parse (s : List UInt8) (hs : s.length ≤ 1000000) : Tells (fun k => ontimeref05_Parse.f k (B s)) (parseS s) := by
  unfold ontimeref05_Parse.f parseS
  by_cases h : 65536 < s.length
  · refine Tells.pos (by rw [B_size]; omega) ?_
    rw [if_pos h]
    exact Tells.const
  · refine Tells.neg (by rw [B_size]; omega) ?_
    rw [if_neg h]
    exact ref_l0 _ s rfl (by omega) [] 1 (by omega) (by simp)

/-! ### Same -/
instance : DecidableEq S48 := fun x y => decidable_of_iff (x.f0 = y.f0 ∧ x.f1 = y.f1 ∧ x.f2 = y.f2 ∧ x.f3 = y.f3 ∧ x.f4 = y.f4) (by
  obtain ⟨x0, x1, x2, x3, x4⟩ := x
  obtain ⟨y0, y1, y2, y3, y4⟩ := y
  simp only [S48.mk.injEq])
theorem same_l0 (a b : List S48) (hab : a.length = b.length) (ha : a.length ≤ 100000) : ∀ (d i : Nat), i + d = a.length → Tells (fun k => ontimeref05_Same.l0 k a b i) (decide (a.drop i = b.drop i)) := by
  intro d
  induction d with
  | zero =>
    intro i hi
    refine Tells.succ ?_
    simp only [ontimeref05_Same.l0]
    refine Tells.neg (by omega) ?_
    rw [List.drop_eq_nil_of_le (by omega), List.drop_eq_nil_of_le (by omega)]
    exact Tells.const
  | succ d ih =>
    intro i hi
    have h1 : i < a.length := by omega
    have h2 : i < b.length := by omega
    have e1 : a.drop i = a[i] :: a.drop (i + 1) := List.drop_eq_getElem_cons h1
    have e2 : b.drop i = b[i] :: b.drop (i + 1) := List.drop_eq_getElem_cons h2
    refine Tells.succ ?_
    simp only [ontimeref05_Same.l0, rd_at a i h1, rd_at b i h2, w64n i (by omega), e1, e2]
    generalize a[i] = x
    generalize b[i] = y
    refine Tells.pos (by omega) ?_
    refine Tells.pos (by omega) ?_
    refine Tells.pos (by omega) ?_
    by_cases hxy : x = y
    · subst hxy
      refine Tells.neg (by simp) ?_
      have := ih (i + 1) (by omega)
      simpa using this
    · refine Tells.pos ?_ ?_
      · obtain ⟨x0, x1, x2, x3, x4⟩ := x
        obtain ⟨y0, y1, y2, y3, y4⟩ := y
        simp only [S48.mk.injEq, not_and] at hxy
        simp only [Bool.or_eq_true, Bool.not_eq_true', beq_eq_false_iff_ne]
        by_cases g0 : x0 = y0
        · by_cases g1 : x1 = y1
          · by_cases g2 : x2 = y2
            · by_cases g3 : x3 = y3
              · exact Or.inr (Or.inr (Or.inr (Or.inr (hxy g0 g1 g2 g3))))
              · exact Or.inr (Or.inr (Or.inr (Or.inl g3)))
            · exact Or.inr (Or.inr (Or.inl g2))
          · exact Or.inr (Or.inl g1)
        · exact Or.inl g0
      · have : decide (x :: a.drop (i + 1) = y :: b.drop (i + 1)) = false := decide_eq_false (fun h => hxy (List.cons.inj h).1)
        rw [this]
        exact Tells.const
theorem same_eq (a b : List S48) (ha : a.length ≤ 100000) : Tells (fun k => ontimeref05_Same.f k a b) (decide (a = b)) := by
  unfold ontimeref05_Same.f
  by_cases h : a.length = b.length
  · refine Tells.pos (by omega) ?_
    have := same_l0 a b h ha a.length 0 (by omega)
    simpa using this
  · refine Tells.neg (by omega) ?_
    rw [decide_eq_false (fun e => h (congrArg List.length e))]
    exact Tells.const
theorem same_self (a : List S48) (ha : a.length ≤ 100000) : Tells (fun k => ontimeref05_Same.f k a a) true := by
  have := same_eq a a ha
  simpa using this

theorem parseL_len : ∀ (ls : List (List UInt8)) (acc : List S48) (n : Int), acc.length ≤ 4096 → (parseL ls acc n).1.length ≤ 4096
  | [], acc, n, h => h
  | l :: ls, acc, n, h => by
    unfold parseL
    split
    · exact parseL_len ls acc _ h
    · split
      · simp
      · split
        · simp
        · exact parseL_len ls _ _ (by simp only [List.length_append, List.length_cons, List.length_nil]; omega)
theorem parseS_len (s : List UInt8) : (parseS s).1.length ≤ 4096 := by
  unfold parseS
  split
  · simp
  · exact parseL_len _ _ _ (by simp)
end Go.Proofs.YtchlcncffillbaaDoor.L

/- Laws of the reading of texts, line by line. -/
namespace Go.Proofs.YtchlcncffillbaaDoor.L
set_option linter.unusedVariables false
set_option linter.unusedSimpArgs false
open Go.RowKit Go.Proofs.YtchlcncffillbaaDoor.P Go.Proofs.YtchlcncffillbaaDoorW.PrintWords Go.Proofs.YtchlcncffillbaaDoorW.PrintLast Go.Proofs.YtchlcncffillbaaDoorW.PrintMore

/-- The words of a line, without its comment. -/
def W (l : List UInt8) : List (List UInt8) := fieldsB [] (strip l)
theorem parseL_congr : ∀ (a b : List (List UInt8)) (acc : List S48) (n : Int), a.map W = b.map W → parseL a acc n = parseL b acc n
  | [], [], acc, n, _ => rfl
  | [], _ :: _, _, _, h => by cases h
  | _ :: _, [], _, _, h => by cases h
  | x :: a, y :: b, acc, n, h => by
    simp only [List.map_cons, List.cons.injEq] at h
    obtain ⟨h1, h2⟩ := h
    unfold W at h1
    unfold parseL
    rw [h1]
    split
    · exact parseL_congr a b acc _ h2
    · split
      · rfl
      · split
        · rfl
        · exact parseL_congr a b _ _ h2
theorem parseS_congr {a b : List UInt8} (ha : a.length ≤ 65536) (hb : b.length ≤ 65536) (h : (splitC 10 [] a).map W = (splitC 10 [] b).map W) : parseS a = parseS b := by
  unfold parseS
  rw [if_neg (by omega), if_neg (by omega)]
  exact parseL_congr _ _ _ _ h
theorem strip_append (a b : List UInt8) : strip (a ++ b) = if 59 ∈ a then strip a else a ++ strip b := by
  induction a with
  | nil => simp
  | cons x a ih =>
    show upto 59 (x :: (a ++ b)) = _
    by_cases hx : x = 59
    · subst hx
      rw [upto_cons_eq, if_pos List.mem_cons_self]
      exact (upto_cons_eq 59 a).symm
    · rw [upto_cons_ne hx]
      have e : (59 ∈ x :: a) ↔ 59 ∈ a := by
        rw [List.mem_cons]
        exact ⟨fun h => h.resolve_left (fun he => hx he.symm), Or.inr⟩
      have ih' : upto 59 (a ++ b) = _ := ih
      rw [ih']
      by_cases h : 59 ∈ a
      · rw [if_pos h, if_pos (e.2 h)]
        exact (upto_cons_ne hx a).symm
      · rw [if_neg h, if_neg (fun h' => h (e.1 h'))]
        rfl
theorem strip_none {a : List UInt8} (h : 59 ∉ a) : strip a = a := upto_none h
theorem splitC_app (c : UInt8) : ∀ (A cur m : List UInt8), c ∉ A → splitC c cur (A ++ m) = splitC c (cur ++ A) m
  | [], cur, m, _ => by simp
  | x :: A, cur, m, h => by
    rw [List.cons_append, show splitC c cur (x :: (A ++ m)) = (if x = c then cur :: splitC c [] (A ++ m) else splitC c (cur ++ [x]) (A ++ m)) from rfl,
      if_neg (fun he => h (by rw [he]; exact List.mem_cons_self)), splitC_app c A (cur ++ [x]) m (fun hm => h (List.mem_cons_of_mem _ hm)), List.append_assoc]
    rfl
theorem splitC_nl (c : UInt8) (A m : List UInt8) (h : c ∉ A) : splitC c [] (A ++ c :: m) = A :: splitC c [] m := by
  rw [splitC_app c A [] _ h, List.nil_append, show splitC c A (c :: m) = (if c = c then A :: splitC c [] m else splitC c (A ++ [c]) m) from rfl, if_pos rfl]
theorem fieldsB_end (b : UInt8) (hb : isB b = true) : ∀ (l cur : List UInt8), fieldsB cur (l ++ [b]) = fieldsB cur l
  | [], cur => by
    simp only [List.nil_append, fieldsB, hb, if_true]
  | x :: l, cur => by
    rw [List.cons_append]
    unfold fieldsB
    rw [fieldsB_end b hb l [], fieldsB_end b hb l (cur ++ [x])]
theorem fieldsB_join : ∀ (ws : List (List UInt8)), (∀ w ∈ ws, w ≠ [] ∧ ∀ c ∈ w, isB c = false) → ws ≠ [] → fieldsB [] (Lib.join ws [32]) = ws
  | [], _, h => absurd rfl h
  | [w], h, _ => by
    rw [Lib.join_one]
    have := fieldsB_app w (h w List.mem_cons_self).2 [] []
    rw [List.append_nil, List.nil_append] at this
    rw [this, fieldsB, if_neg (h w List.mem_cons_self).1]
  | w :: v :: ws, h, _ => by
    have e : Lib.join (w :: v :: ws) [32] = w ++ 32 :: Lib.join (v :: ws) [32] := by
      rw [Lib.join_cons, Lib.join_cons]
      simp [Lib.joinTail]
    rw [e, fieldsB_app w (h w List.mem_cons_self).2, List.nil_append, fieldsB, if_pos (by decide), if_neg (h w List.mem_cons_self).1, fieldsB_join (v :: ws) (fun u hu => h u (List.mem_cons_of_mem _ hu)) (by simp)]

/-! ### The line of an instruction -/
def lineL (x : S48) : List UInt8 := (lineS x).data.toList
/-- Neither a newline nor a semicolon. -/
def okc (c : UInt8) : Bool := !(c == 10) && !(c == 59)
theorem itoa_okc (v : Int) : ∀ c ∈ Lib.itoa v, okc c = true := by
  have hd : ∀ (u : Nat), ∀ c ∈ Lib.decDigits u, okc c = true := fun u c hc => by
    have := List.all_eq_true.1 (dec_facts u).2.1 c hc
    simp only [isD, Bool.and_eq_true, decide_eq_true_eq] at this
    unfold okc
    simp only [Bool.and_eq_true, Bool.not_eq_true', beq_eq_false_iff_ne]
    constructor
    · rintro rfl
      revert this; decide
    · rintro rfl
      revert this; decide
  unfold Lib.itoa
  split
  · intro c hc
    rcases List.mem_cons.1 hc with rfl | hc
    · decide
    · exact hd _ c hc
  · exact hd _
theorem names_okc (n : Nat) (h : n < 30) : ∀ c ∈ nameL n, okc c = true := by
  have : ∀ m : Fin 30, ∀ c ∈ nameL m.1, okc c = true := by decide +kernel
  exact this ⟨n, h⟩
theorem word_okc (x : S48) (h : vS x = true) : ∀ w ∈ wordsOf x, ∀ c ∈ w, okc c = true := by
  intro w hw
  rcases List.mem_cons.1 hw with rfl | hw
  · exact names_okc _ (by obtain ⟨h0, h1, _⟩ := vS_op h; omega)
  · obtain ⟨c, hc, rfl⟩ := List.mem_map.1 hw
    intro d hd
    unfold opW at hd
    rcases List.mem_append.1 hd with hd | hd
    · split at hd
      · cases hd
      · rw [List.mem_singleton.1 hd]; decide
    · exact itoa_okc _ d hd
theorem join_okc : ∀ (ws : List (List UInt8)), (∀ w ∈ ws, ∀ c ∈ w, okc c = true) → ∀ c ∈ Lib.join ws [32], okc c = true
  | [], _, c, hc => by simp [Lib.join_nil] at hc
  | [w], h, c, hc => by
    rw [Lib.join_one] at hc
    exact h w List.mem_cons_self c hc
  | w :: v :: ws, h, c, hc => by
    have e : Lib.join (w :: v :: ws) [32] = w ++ 32 :: Lib.join (v :: ws) [32] := by
      rw [Lib.join_cons, Lib.join_cons]
      simp [Lib.joinTail]
    rw [e] at hc
    rcases List.mem_append.1 hc with hc | hc
    · exact h w List.mem_cons_self c hc
    · rcases List.mem_cons.1 hc with rfl | hc
      · decide
      · exact join_okc (v :: ws) (fun u hu => h u (List.mem_cons_of_mem _ hu)) c hc
theorem line_okc {x : S48} (h : vS x = true) : ∀ c ∈ lineL x, okc c = true := by
  unfold lineL
  rw [lineS_join]
  exact join_okc _ (word_okc x h)
theorem okc_no {l : List UInt8} (h : ∀ c ∈ l, okc c = true) : 10 ∉ l ∧ 59 ∉ l := ⟨fun hm => absurd (h _ hm) (by decide), fun hm => absurd (h _ hm) (by decide)⟩
theorem line_W {x : S48} (h : vS x = true) : W (lineL x) = wordsOf x := by
  unfold W
  rw [strip_none (okc_no (line_okc h)).2]
  unfold lineL
  rw [lineS_join]
  exact fieldsB_join _ (words_plain x h) (by simp [wordsOf])

theorem textL_cons (x : S48) (l : List S48) : textL (x :: l) = lineL x ++ 10 :: textL l := by
  unfold textL lineL
  rw [List.flatMap_cons, List.append_assoc]
  rfl
theorem splitC_text : ∀ (l : List S48) (r : List UInt8), (∀ x ∈ l, vS x = true) → splitC 10 [] (textL l ++ r) = l.map lineL ++ splitC 10 [] r
  | [], r, _ => rfl
  | x :: l, r, h => by
    rw [textL_cons, List.append_assoc, List.cons_append, splitC_nl 10 _ _ (okc_no (line_okc (h x List.mem_cons_self))).1, splitC_text l r (fun y hy => h y (List.mem_cons_of_mem _ hy))]
    rfl
theorem parseL_line {x : S48} (h : vS x = true) (l : List UInt8) (hl : W l = wordsOf x) (ls : List (List UInt8)) (acc : List S48) (n : Int) (ha : acc.length < 4096) : parseL (l :: ls) acc n = parseL ls (acc ++ [x]) (n + 1) := by
  unfold W at hl
  rw [parseL, hl, if_neg (by simp [wordsOf]), readW_words h]
  simp only
  rw [if_neg (by omega)]
theorem parseL_blank (l : List UInt8) (hl : W l = []) (ls : List (List UInt8)) (acc : List S48) (n : Int) : parseL (l :: ls) acc n = parseL ls acc (n + 1) := by
  unfold W at hl
  rw [parseL, if_pos hl]
theorem parseL_lines : ∀ (l : List S48) (ls : List (List UInt8)) (acc : List S48) (n : Int), (∀ x ∈ l, vS x = true) → acc.length + l.length ≤ 4096 →
    parseL (l.map lineL ++ ls) acc n = parseL ls (acc ++ l) (n + l.length)
  | [], ls, acc, n, _, _ => by simp
  | x :: l, ls, acc, n, h, ha => by
    rw [List.length_cons] at ha
    rw [List.map_cons, List.cons_append, parseL_line (h x List.mem_cons_self) _ (line_W (h x List.mem_cons_self)) _ _ _ (by omega),
      parseL_lines l ls _ _ (fun y hy => h y (List.mem_cons_of_mem _ hy)) (by simp only [List.length_append, List.length_cons, List.length_nil]; omega), List.append_assoc, List.length_cons]
    congr 1
    omega
theorem parse_text (l : List S48) (h : ∀ x ∈ l, vS x = true) (hl : l.length ≤ 4096) (ht : (textL l).length ≤ 65536) : parseS (textL l) = (l, 0, 0) := by
  unfold parseS
  rw [if_neg (by omega)]
  have := splitC_text l [] h
  rw [List.append_nil] at this
  rw [this, parseL_lines l _ [] 1 h (by simpa using hl), parseL_nil]
  rfl

/-! ### What Parse answers -/
theorem parseL_valid : ∀ (ls : List (List UInt8)) (acc : List S48) (n : Int), (∀ x ∈ acc, vS x = true) → (∀ x ∈ (parseL ls acc n).1, vS x = true) ∧ (parseL ls acc n).1.length ≤ acc.length + ls.length
  | [], acc, n, h => ⟨h, by simp [parseL]⟩
  | l :: ls, acc, n, h => by
    unfold parseL
    split
    · have := parseL_valid ls acc (n + 1) h
      exact ⟨this.1, by rw [List.length_cons]; omega⟩
    · rename_i hne
      split
      · exact ⟨by simp, by simp⟩
      · rename_i x hx
        split
        · exact ⟨by simp, by simp⟩
        · have hv := ((readW_some hne (fun w hw => (fieldsB_plain _ [] (fun x hx => by cases hx) w hw).2.1)).1 hx).1
          have := parseL_valid ls (acc ++ [x]) (n + 1) (fun y hy => by
            rcases List.mem_append.1 hy with hy | hy
            · exact h y hy
            · rw [List.mem_singleton.1 hy]; exact hv)
          simp only [List.length_append, List.length_cons, List.length_nil] at this ⊢
          exact ⟨this.1, by omega⟩
theorem parseL_end : ∀ (ls : List (List UInt8)) (acc : List S48) (n : Int), ((parseL ls acc n).2.2 = 0 ∧ (parseL ls acc n).2.1 = 0) ∨ (((parseL ls acc n).2.2 = 3 ∨ (parseL ls acc n).2.2 = 5) ∧ (parseL ls acc n).1 = [] ∧ n ≤ (parseL ls acc n).2.1 ∧ (parseL ls acc n).2.1 < n + ls.length)
  | [], acc, n => Or.inl ⟨rfl, rfl⟩
  | l :: ls, acc, n => by
    unfold parseL
    split
    · rcases parseL_end ls acc (n + 1) with h | ⟨h1, h2, h3, h4⟩
      · exact Or.inl h
      · exact Or.inr ⟨h1, h2, by omega, by rw [List.length_cons]; omega⟩
    · split
      · exact Or.inr ⟨Or.inl rfl, rfl, Int.le_refl _, by dsimp only; rw [List.length_cons]; omega⟩
      · split
        · exact Or.inr ⟨Or.inr rfl, rfl, Int.le_refl _, by dsimp only; rw [List.length_cons]; omega⟩
        · rename_i x _ _
          rcases parseL_end ls (acc ++ [x]) (n + 1) with h | ⟨h1, h2, h3, h4⟩
          · exact Or.inl h
          · exact Or.inr ⟨h1, h2, by omega, by rw [List.length_cons]; omega⟩
theorem parseL_shift (a0 : List S48) (d : Int) : ∀ (ls : List (List UInt8)) (acc : List S48) (n : Int), a0.length + acc.length + ls.length ≤ 4096 →
    parseL ls (a0 ++ acc) (n + d) = if (parseL ls acc n).2.2 = 0 then (a0 ++ (parseL ls acc n).1, 0, 0) else ([], (parseL ls acc n).2.1 + d, (parseL ls acc n).2.2)
  | [], acc, n, _ => rfl
  | l :: ls, acc, n, h => by
    rw [List.length_cons] at h
    unfold parseL
    split
    · have := parseL_shift a0 d ls acc (n + 1) (by omega)
      rw [show n + d + 1 = n + 1 + d by omega]
      exact this
    · split
      · rw [if_neg (by simp)]
      · rename_i x _
        have e1 : ¬ 4096 ≤ (a0 ++ acc).length := by rw [List.length_append]; omega
        have e2 : ¬ 4096 ≤ acc.length := by omega
        simp only [if_neg e1, if_neg e2]
        have := parseL_shift a0 d ls (acc ++ [x]) (n + 1) (by simp only [List.length_append, List.length_cons, List.length_nil]; omega)
        rw [show n + d + 1 = n + 1 + d by omega, List.append_assoc]
        exact this

/-! ### Comments -/
/-- The text without its comments. -/
def plainL : Bool → List UInt8 → List UInt8
  | _, [] => []
  | sk, c :: l => if c = 10 then 10 :: plainL false l else if c = 59 then plainL true l else if sk = true then plainL true l else c :: plainL false l
theorem plainL_len : ∀ (l : List UInt8) (sk : Bool), (plainL sk l).length ≤ l.length
  | [], sk => by simp [plainL]
  | c :: l, sk => by
    have h1 := plainL_len l true
    have h2 := plainL_len l false
    unfold plainL
    split
    · simp only [List.length_cons]; omega
    · split
      · simp only [List.length_cons]; omega
      · split
        · simp only [List.length_cons]; omega
        · simp only [List.length_cons]; omega
theorem W_same {a b : List UInt8} (h : strip a = strip b) : W a = W b := by unfold W; rw [h]
theorem plain_split : ∀ (l : List UInt8) (sk : Bool) (cur cur' : List UInt8), strip cur' = cur → 59 ∉ cur → (sk = true ↔ 59 ∈ cur') → (splitC 10 cur (plainL sk l)).map W = (splitC 10 cur' l).map W
  | [], sk, cur, cur', h1, h2, h3 => by
    simp only [plainL, splitC, List.map_cons, List.map_nil]
    rw [W_same (a := cur) (b := cur') (by rw [h1, strip_none h2])]
  | c :: l, sk, cur, cur', h1, h2, h3 => by
    have key : ∀ (c : UInt8) (m cur : List UInt8), splitC 10 cur (c :: m) = if c = 10 then cur :: splitC 10 [] m else splitC 10 (cur ++ [c]) m := fun _ _ _ => rfl
    unfold plainL
    rw [key c l cur']
    by_cases hc : c = 10
    · subst hc
      rw [if_pos rfl, if_pos rfl, key, if_pos rfl, List.map_cons, List.map_cons, plain_split l false [] [] rfl (by simp) (by simp), W_same (a := cur) (b := cur') (by rw [h1, strip_none h2])]
    · rw [if_neg hc, if_neg hc]
      by_cases h9 : c = 59
      · subst h9
        rw [if_pos rfl]
        refine plain_split l true cur (cur' ++ [59]) ?_ h2 (by simp)
        rw [strip_append]
        by_cases hm : 59 ∈ cur'
        · rw [if_pos hm, h1]
        · rw [if_neg hm, ← h1, strip_none hm]
          show cur' ++ upto 59 [59] = cur'
          rw [upto_cons_eq, List.append_nil]
      · rw [if_neg h9]
        by_cases hs : sk = true
        · rw [if_pos hs]
          have hm := h3.1 hs
          refine plain_split l true cur (cur' ++ [c]) ?_ h2 (by simp [hm])
          rw [strip_append, if_pos hm, h1]
        · rw [if_neg hs, key, if_neg hc]
          have hm : 59 ∉ cur' := fun hm => hs (h3.2 hm)
          have e : cur' = cur := by rw [← h1, strip_none hm]
          subst e
          have hn : 59 ∉ cur' ++ [c] := by
            simp only [List.mem_append, List.mem_singleton, not_or]
            exact ⟨hm, fun he => h9 he.symm⟩
          exact plain_split l false (cur' ++ [c]) (cur' ++ [c]) (strip_none hn) hn ⟨fun h => absurd h (by decide), fun h => absurd h hn⟩
def more13 : List UInt8 := [32, 59, 32, 115, 116, 32, 114, 49, 32, 114, 50, 32, 51]
/-- The text with a comment behind every line. -/
def moreL : List UInt8 → List UInt8
  | [] => []
  | c :: l => if c = 10 then more13 ++ 10 :: moreL l else c :: moreL l
theorem moreL_len : ∀ l : List UInt8, (moreL l).length ≤ 14 * l.length
  | [] => by simp [moreL]
  | c :: l => by
    have := moreL_len l
    unfold moreL
    split
    · simp only [List.length_append, List.length_cons, more13, List.length_nil]; omega
    · simp only [List.length_cons]; omega
theorem W_more (cur : List UInt8) : W (cur ++ more13) = W cur := by
  unfold W
  rw [strip_append]
  by_cases hm : 59 ∈ cur
  · rw [if_pos hm]
  · rw [if_neg hm, strip_none hm, show strip more13 = [32] by decide, fieldsB_end 32 (by decide)]
theorem more_split : ∀ (l cur : List UInt8), (splitC 10 cur (moreL l)).map W = (splitC 10 cur l).map W
  | [], cur => rfl
  | c :: l, cur => by
    have key : ∀ (c : UInt8) (m cur : List UInt8), splitC 10 cur (c :: m) = if c = 10 then cur :: splitC 10 [] m else splitC 10 (cur ++ [c]) m := fun _ _ _ => rfl
    unfold moreL
    rw [key c l cur]
    by_cases hc : c = 10
    · subst hc
      rw [if_pos rfl, if_pos rfl, splitC_app 10 more13 cur _ (by decide), key, if_pos rfl, List.map_cons, List.map_cons, W_more, more_split l []]
    · rw [if_neg hc, if_neg hc, key, if_neg hc]
      exact more_split l _
end Go.Proofs.YtchlcncffillbaaDoor.L

/- The examples of the chapter hold. -/
namespace Go.Proofs.YtchlcncffillbaaDoor.L
open Go.RowKit Go.Proofs.YtchlcncffillbaaDoor.P Go.Proofs.YtchlcncffillbaaDoorW.PrintWords Go.Proofs.YtchlcncffillbaaDoorW.PrintLast Go.Proofs.YtchlcncffillbaaDoorW.PrintMore
theorem awake_true : Tells ontimelaw05_awake.f true := Tells.ofMono 30 (fun k => ontimelaw05_awake.mono k) (by kernel_rfl)
end Go.Proofs.YtchlcncffillbaaDoor.L
