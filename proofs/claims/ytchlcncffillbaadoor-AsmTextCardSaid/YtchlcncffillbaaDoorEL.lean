/- asm.line: the line of an instruction, for whatever registers and immediate operand that are ints. -/
import Derived.Test.YtchlcncffillbaaDoorEV
import Derived.Test.YtchlcncffillbaaDoorShelf
import Derived.Lib.AppendIntMem
import Derived.Lib.ItoaLen
namespace Go.Proofs.YtchlcncffillbaaDoor.P
open Go.RowKit Go.Proofs.YtchlcncffillbaaDoorW.PrintWords Go.Proofs.YtchlcncffillbaaDoorW.PrintLast Go.Proofs.YtchlcncffillbaaDoorW.PrintMore

/-- The operands' letters of an opcode. -/
def clsB (n : Nat) : ByteArray := (asm_classes.f 5 n).getD ⟨#[]⟩
theorem cls_eq (n : Nat) (h : n < 30) : asm_classes.f 5 (n : Int) = some (clsB n) := by
  have : ∀ m : Fin 30, asm_classes.f 5 ((m.1 : Nat) : Int) = some (clsB m.1) := by decide +kernel
  exact this ⟨n, h⟩
theorem cls_in (n : Nat) (h : n < 30) : (clsB n).size ≤ 3 ∧ ∀ c ∈ (clsB n).data.toList, c = 65 ∨ c = 66 ∨ c = 67 ∨ c = 73 := by
  have : ∀ m : Fin 30, (clsB m.1).size ≤ 3 ∧ ∀ c ∈ (clsB m.1).data.toList, c = 65 ∨ c = 66 ∨ c = 67 ∨ c = 73 := by decide +kernel
  exact this ⟨n, h⟩
theorem rows_f0 (n : Nat) (h : n < 30) : (rowOf n).f0.size ≤ 6 := by
  have : ∀ m : Fin 30, (rowOf m.1).f0.size ≤ 6 := by decide +kernel
  exact this ⟨n, h⟩

def opC (a b c i : Int) (l : UInt8) : Int := if l = 65 then a else if l = 66 then b else if l = 67 then c else i
/-- An operand, as it is written behind what stands before it. -/
def piece (a b c i : Int) (l : UInt8) : List UInt8 := 32 :: ((if l = 73 then [] else [114]) ++ Lib.itoa (opC a b c i l))
def lineTo (n : Nat) (a b c i : Int) (k : Nat) : ByteArray := ⟨((rowOf n).f0.data.toList ++ ((clsB n).data.toList.take k).flatMap (piece a b c i)).toArray⟩
def lineB (n : Nat) (a b c i : Int) : ByteArray := ⟨((rowOf n).f0.data.toList ++ (clsB n).data.toList.flatMap (piece a b c i)).toArray⟩

def isI64 (x : Int) : Prop := -9223372036854775808 ≤ x ∧ x ≤ 9223372036854775807
instance (x : Int) : Decidable (isI64 x) := by unfold isI64; infer_instance

theorem itoaC (x : Int) (hx : isI64 x) (w : World) (hE : Env w) : Calls Tryd.prog 59 #[.int .i64 x] w fun e w' => e = .returned (.string ⟨(Lib.itoa x).toArray⟩) ∧ Below w.heap.size w w' := by
  refine (Tryd.strconv_Itoa x hx.1 hx.2 w hE.pow10).mono fun e w' ⟨he, k, os, hw⟩ => ⟨he, ?_⟩
  subst hw
  exact Lib.below_grow _ _ (Nat.le_refl _) _ _

theorem take_piece (n : Nat) (a b c i : Int) (k : Nat) (x : UInt8) (hx : (clsB n).data.toList[k]? = some x) :
    lineTo n a b c i (k + 1) = lineTo n a b c i k ++ ⟨(piece a b c i x).toArray⟩ := by
  unfold lineTo
  have : (clsB n).data.toList.take (k + 1) = (clsB n).data.toList.take k ++ [x] := by
    rw [List.take_add_one, hx]; rfl
  rw [this, List.flatMap_append]
  simp only [List.flatMap_cons, List.flatMap_nil, List.append_nil]
  rw [← List.append_assoc]
  apply ByteArray.ext
  simp

theorem piece_len (a b c i : Int) (ha : isI64 a) (hb : isI64 b) (hc : isI64 c) (hi : isI64 i) (x : UInt8) : (piece a b c i x).length ≤ 23 := by
  have h : isI64 (opC a b c i x) := by
    unfold opC
    split
    · exact ha
    · split
      · exact hb
      · split
        · exact hc
        · exact hi
  have := Lib.itoa_length_le _ h.1 h.2
  unfold piece
  split <;> simp <;> omega
theorem flat_len (a b c i : Int) (ha : isI64 a) (hb : isI64 b) (hc : isI64 c) (hi : isI64 i) : ∀ l : List UInt8, (l.flatMap (piece a b c i)).length ≤ 23 * l.length
  | [] => by simp
  | x :: l => by
    have := flat_len a b c i ha hb hc hi l
    have := piece_len a b c i ha hb hc hi x
    simp only [List.flatMap_cons, List.length_append, List.length_cons]
    omega
theorem size_mk (l : List UInt8) : (⟨l.toArray⟩ : ByteArray).size = l.length := by show l.toArray.size = _; simp
theorem size_list (s : ByteArray) : s.data.toList.length = s.size := Array.length_toList
theorem lineTo_size (n : Nat) (hn : n < 30) (a b c i : Int) (ha : isI64 a) (hb : isI64 b) (hc : isI64 c) (hi : isI64 i) (k : Nat) : (lineTo n a b c i k).size ≤ 75 := by
  unfold lineTo
  rw [size_mk, List.length_append, size_list]
  have h0 := rows_f0 n hn
  have h1 := (cls_in n hn).1
  have h2 := flat_len a b c i ha hb hc hi ((clsB n).data.toList.take k)
  have h3 : ((clsB n).data.toList.take k).length ≤ 3 := by rw [List.length_take, size_list]; omega
  omega
theorem line_is (n : Nat) (a b c i : Int) : lineTo n a b c i (clsB n).size = lineB n a b c i := by
  unfold lineTo lineB
  rw [List.take_of_length_le (by rw [size_list]; omega)]
theorem ret_str {a b : ByteArray} (h : a = b) : Ending.returned (.string a) = .returned (.string b) := by rw [h]
theorem str_eq {a b : ByteArray} (h : a = b) : Value.string a = .string b := by rw [h]

set_option maxHeartbeats 400000 in
set_option maxRecDepth 100000 in
/-- write's second function: an r, and the number. -/
theorem regC (x : Int) (hx : isI64 x) (w : World) (hE : Env w) : Calls Tryd.prog 60 #[.int .i64 x] w fun e w' => e = .returned (.string (⟨#[114]⟩ ++ ⟨(Lib.itoa x).toArray⟩)) ∧ Below w.heap.size w w' := by
  have H := itoaC x hx w hE
  have hl : (⟨(Lib.itoa x).toArray⟩ : ByteArray).size ≤ 21 := by rw [size_mk]; exact Lib.itoa_length_le _ hx.1 hx.2
  generalize (⟨(Lib.itoa x).toArray⟩ : ByteArray) = T at *
  clear hE hx
  go_enter Tryd.func60, Tryd.ntmps60
  go_wp2_with (go_at_call 59; refine H.mono ?_; rintro e w' ⟨rfl, hb⟩)
  go_ret
  exact ⟨rfl, hb⟩

set_option maxHeartbeats 1600000 in
set_option maxRecDepth 100000 in
theorem line_lt (n : Nat) (hn : n < 30) (a b c i : Int) (ha : isI64 a) (hb : isI64 b) (hc : isI64 c) (hi : isI64 i) (w : World) (hE : Env w) :
    Calls Tryd.prog 26 #[.agg #[.int .u8 n, .int .i64 a, .int .i64 b, .int .i64 c, .int .i64 i]] w fun e w' => e = .returned (.string (lineB n a b c i)) ∧ Below w.heap.size w w' := by
  have hu48 := Tryd.underlying48
  have hM : isa_Mnemonic.f 20 n = some (rowOf n).f0 := by unfold isa_Mnemonic.f; rw [find_lt n hn]; rfl
  have CM := fun w => isa_Mnemonic.calls 20 n (rowOf n).f0 w hM
  have CC := fun w => asm_classes.calls 5 n (clsB n) w (cls_eq n hn)
  clear hM
  obtain ⟨hs, hin⟩ := cls_in n hn
  have HIN := Lib.hid hin
  clear hin
  have hsz := lineTo_size n hn a b c i ha hb hc hi
  have HSZ := Lib.hid hsz
  clear hsz
  have HL0 := Lib.hid (show lineTo n a b c i 0 = (rowOf n).f0 by unfold lineTo; simp)
  go_enter Tryd.func26, Tryd.ntmps26
  go_wp2_with fail
  refine (CM _).mono ?_
  rintro e w1 ⟨rfl, hb1⟩
  have q0 : w1.cell? ⟨w.heap.size, 0, none⟩ = some (.int .u8 n) := by rw [hb1.cell (by simp)]; go_simp
  go_wp2_with fail
  refine (CC _).mono ?_
  rintro e w2 ⟨rfl, hd⟩
  have kc := Lib.run_convert_string_bytes (P := Tryd.prog) w2 9 36 5 (clsB n) Tryd.underlying9 Tryd.underlying36 Tryd.underlying5
  go_wp2_with fail
  have hB := Aside0.mk ((((((Below.refl w.heap.size w).alloc (Nat.le_refl _) (.cells #[.int .u8 n, .int .i64 a, .int .i64 b, .int .i64 c, .int .i64 i] 48)).trans (hb1.mono (by simp)))).trans (hd.below.mono (by have := hb1.size; simp at this; omega))).trans ((below_bytes w2 5 (clsB n)).mono (by have := hb1.size; have := hd.below.size; simp at *; omega)))
  have b0 := Aside0.mk (blk_below (blk_below (blk_below (heap_alloc_new w (.cells #[.int .u8 n, .int .i64 a, .int .i64 b, .int .i64 c, .int .i64 i] 48)) hb1) hd.below) (below_bytes w2 5 (clsB n)))
  have q3 : Aside0 (∀ j, j < (clsB n).size → (Lib.bytesWorld w2 5 (clsB n)).cell? ⟨w2.heap.size, j, none⟩ = some (.int .u8 ((clsB n).data.toList.getD j 0).toNat)) := ⟨fun j hj => Lib.bytesWorld_cell _ _ _ _ hj⟩
  clear hb1 hd q0 kc CM CC
  generalize Lib.bytesWorld w2 5 (clsB n) = W3 at *
  generalize w2.heap.size = B at *
  generalize hg : grownCap w2 (clsB n).size 0 5 = cap at *
  clear hg
  go_loopw [3, 14] (fun s v wr => ∃ k : Nat, k ≤ (clsB n).size ∧ s = .string (lineTo n a b c i k) ∧ v = .int .i64 k ∧ Aside0 (wr.heap[w.heap.size]? = some (.cells #[.int .u8 n, .int .i64 a, .int .i64 b, .int .i64 c, .int .i64 i] 48 (0, 0)))
    ∧ Aside0 (∀ j, j < (clsB n).size → wr.cell? ⟨B, j, none⟩ = some (.int .u8 ((clsB n).data.toList.getD j 0).toNat)) ∧ Aside0 (Below w.heap.size w wr)) (fun _ v _ => (clsB n).size - (intOf v).toNat)
  case atStart => exact ⟨0, by omega, str_eq HL0.out.symm, rfl, b0, q3, hB⟩
  case round =>
    clear b0 q3 hB HL0
    obtain ⟨k, hk, rfl, rfl, b0, q3, hB⟩ := hrel
    have hS := HSZ.out k
    by_cases hlt : k < (clsB n).size
    · have e0 := blk_cell b0.out
      have hget : (clsB n).data.toList[k]? = some ((clsB n).data.toList.getD k 0) := by
        rw [List.getD_eq_getElem?_getD, List.getElem?_eq_getElem (by rw [size_list]; exact hlt)]; rfl
      have x1 := q3.out k hlt
      have hS' := take_piece n a b c i k _ hget
      have hcase := HIN.out _ (List.mem_of_getElem? hget)
      clear hget
      generalize (clsB n).data.toList.getD k 0 = cc at *
      generalize hSS : lineTo n a b c i k = S at *
      clear hSS
      rcases hcase with rfl | rfl | rfl | rfl
      · have x0 : wr.cell? ⟨w.heap.size, 1, none⟩ = some (.int .i64 a) := (e0 1).trans rfl
        have HH := regC a ha wr (hE.below hB.out)
        have hT : (⟨(Lib.itoa a).toArray⟩ : ByteArray).size ≤ 21 := by rw [size_mk]; exact Lib.itoa_length_le _ ha.1 ha.2
        have hP : (⟨(piece a b c i 65).toArray⟩ : ByteArray) = ⟨#[32]⟩ ++ (⟨#[114]⟩ ++ ⟨(Lib.itoa a).toArray⟩) := by apply ByteArray.ext; simp [piece, opC]
        rw [hP] at hS'
        clear hP e0
        generalize (⟨(Lib.itoa a).toArray⟩ : ByteArray) = T at *
        have HS' := Lib.hid hS'
        clear hS'
        go_wp2_with (first | (go_at_call 60; refine HH.mono ?_; rintro e w4 ⟨rfl, hb4⟩) | (go_at_call 43; go_in) | (go_at_call 44; go_in))
        go_roundw
        case rel => exact ⟨k + 1, by omega, str_eq (by rw [HS'.out]), by go_num, ⟨blk_below b0.out hb4⟩, ⟨fun j hj => cell_below hb4 (q3.out j hj)⟩, ⟨hB.out.trans (hb4.mono hB.out.size)⟩⟩
        case measure => simp [intOf]; omega
      · have x0 : wr.cell? ⟨w.heap.size, 2, none⟩ = some (.int .i64 b) := (e0 2).trans rfl
        have HH := regC b hb wr (hE.below hB.out)
        have hT : (⟨(Lib.itoa b).toArray⟩ : ByteArray).size ≤ 21 := by rw [size_mk]; exact Lib.itoa_length_le _ hb.1 hb.2
        have hP : (⟨(piece a b c i 66).toArray⟩ : ByteArray) = ⟨#[32]⟩ ++ (⟨#[114]⟩ ++ ⟨(Lib.itoa b).toArray⟩) := by apply ByteArray.ext; simp [piece, opC]
        rw [hP] at hS'
        clear hP e0
        generalize (⟨(Lib.itoa b).toArray⟩ : ByteArray) = T at *
        have HS' := Lib.hid hS'
        clear hS'
        go_wp2_with (first | (go_at_call 60; refine HH.mono ?_; rintro e w4 ⟨rfl, hb4⟩) | (go_at_call 43; go_in) | (go_at_call 44; go_in))
        go_roundw
        case rel => exact ⟨k + 1, by omega, str_eq (by rw [HS'.out]), by go_num, ⟨blk_below b0.out hb4⟩, ⟨fun j hj => cell_below hb4 (q3.out j hj)⟩, ⟨hB.out.trans (hb4.mono hB.out.size)⟩⟩
        case measure => simp [intOf]; omega
      · have x0 : wr.cell? ⟨w.heap.size, 3, none⟩ = some (.int .i64 c) := (e0 3).trans rfl
        have HH := regC c hc wr (hE.below hB.out)
        have hT : (⟨(Lib.itoa c).toArray⟩ : ByteArray).size ≤ 21 := by rw [size_mk]; exact Lib.itoa_length_le _ hc.1 hc.2
        have hP : (⟨(piece a b c i 67).toArray⟩ : ByteArray) = ⟨#[32]⟩ ++ (⟨#[114]⟩ ++ ⟨(Lib.itoa c).toArray⟩) := by apply ByteArray.ext; simp [piece, opC]
        rw [hP] at hS'
        clear hP e0
        generalize (⟨(Lib.itoa c).toArray⟩ : ByteArray) = T at *
        have HS' := Lib.hid hS'
        clear hS'
        go_wp2_with (first | (go_at_call 60; refine HH.mono ?_; rintro e w4 ⟨rfl, hb4⟩) | (go_at_call 43; go_in) | (go_at_call 44; go_in))
        go_roundw
        case rel => exact ⟨k + 1, by omega, str_eq (by rw [HS'.out]), by go_num, ⟨blk_below b0.out hb4⟩, ⟨fun j hj => cell_below hb4 (q3.out j hj)⟩, ⟨hB.out.trans (hb4.mono hB.out.size)⟩⟩
        case measure => simp [intOf]; omega
      · have x0 : wr.cell? ⟨w.heap.size, 4, none⟩ = some (.int .i64 i) := (e0 4).trans rfl
        have HH := itoaC i hi wr (hE.below hB.out)
        have hT : (⟨(Lib.itoa i).toArray⟩ : ByteArray).size ≤ 21 := by rw [size_mk]; exact Lib.itoa_length_le _ hi.1 hi.2
        have hP : (⟨(piece a b c i 73).toArray⟩ : ByteArray) = ⟨#[32]⟩ ++ (⟨(Lib.itoa i).toArray⟩) := by apply ByteArray.ext; simp [piece, opC]
        rw [hP] at hS'
        clear hP e0
        generalize (⟨(Lib.itoa i).toArray⟩ : ByteArray) = T at *
        have HS' := Lib.hid hS'
        clear hS'
        go_wp2_with (first | (go_at_call 59; refine HH.mono ?_; rintro e w4 ⟨rfl, hb4⟩) | (go_at_call 43; go_in) | (go_at_call 44; go_in))
        go_roundw
        case rel => exact ⟨k + 1, by omega, str_eq (by rw [HS'.out]), by go_num, ⟨blk_below b0.out hb4⟩, ⟨fun j hj => cell_below hb4 (q3.out j hj)⟩, ⟨hB.out.trans (hb4.mono hB.out.size)⟩⟩
        case measure => simp [intOf]; omega
    · have he : k = (clsB n).size := by omega
      have HF := Lib.hid (show lineTo n a b c i k = lineB n a b c i by rw [he]; exact line_is n a b c i)
      clear he
      go_wp2
      go_ret
      exact ⟨ret_str HF.out, hB.out⟩

/-- What asm.line answers. -/
def asm_line.f (o a b c i : Int) : Option ByteArray := if 0 ≤ o ∧ o < 30 ∧ isI64 a ∧ isI64 b ∧ isI64 c ∧ isI64 i then some (lineB o.toNat a b c i) else none
theorem asm_line.calls (a0_0 : Int) (a0_1 : Int) (a0_2 : Int) (a0_3 : Int) (a0_4 : Int) (r : ByteArray) (w : World) (hE : Env w) (h : asm_line.f a0_0 a0_1 a0_2 a0_3 a0_4 = some r) :
    Calls Tryd.prog 26 #[.agg #[.int .u8 a0_0, .int .i64 a0_1, .int .i64 a0_2, .int .i64 a0_3, .int .i64 a0_4]] w fun e w' => e = .returned (.string r) ∧ Below w.heap.size w w' := by
  unfold asm_line.f at h
  split at h
  · rename_i hc
    obtain ⟨h0, h1, h2, h3, h4, h5⟩ := hc
    obtain rfl := Option.some.inj h
    obtain ⟨n, rfl⟩ := Int.eq_ofNat_of_zero_le h0
    exact line_lt n (by omega) _ _ _ _ h2 h3 h4 h5 w hE
  · cases h

end Go.Proofs.YtchlcncffillbaaDoor.P
