/- asm.instruction: the instruction of a line's words. -/
import Derived.Test.YtchlcncffillbaaDoorEQ
import Derived.Test.YtchlcncffillbaaDoorET
import Derived.Lib.QuietBelow
import Derived.Deep.RegionHeld3
namespace Go.Proofs.YtchlcncffillbaaDoor.P
set_option linter.unusedSimpArgs false
open Go.RowKit Go.Proofs.YtchlcncffillbaaDoorW.PrintWords Go.Proofs.YtchlcncffillbaaDoorW.PrintLast Go.Proofs.YtchlcncffillbaaDoorW.PrintMore

theorem add_zero_addr (a : Addr) : a.add 0 = a := by unfold Addr.add; split <;> simp_all

def opSet (x : S48) (c : UInt8) (v : Int) : S48 := if c = 65 then { x with f1 := v } else if c = 66 then { x with f2 := v } else if c = 67 then { x with f3 := v } else { x with f4 := v }
/-- The operands of a line, read one after the other. -/
def readAll : List UInt8 → List ByteArray → S48 → Option S48
  | [], _, x => some x
  | _ :: _, [], _ => none
  | c :: cs, s :: ss, x => if atoiB (numText c.toNat s) = true then readAll cs ss (opSet x c (atoiV (numText c.toNat s))) else none
def joinW (l0 : List ByteArray) : ByteArray := ⟨(Lib.join (l0.map (·.data.toList)) [32]).toArray⟩
def instrN (n : Nat) (l0 : List ByteArray) : S48 × Bool :=
  if l0.length = (clsB n).size + 1 then
    match readAll (clsB n).data.toList l0.tail ⟨n, 0, 0, 0, 0⟩ with
    | some x => (x, vS x && ((lineS x).toList == (joinW l0).toList))
    | none => (z48, false)
  else (z48, false)
def firstFrom : Nat → Nat → ByteArray → Option Nat
  | 0, _, _ => none
  | f + 1, k, s => if (rowOf k).f0 = s then some k else firstFrom f (k + 1) s
def instr (l0 : List ByteArray) : S48 × Bool := match firstFrom 30 0 (rdOf ByteArray.empty l0 0) with | none => (z48, false) | some n => instrN n l0
theorem first_at (s : ByteArray) : ∀ (d k : Nat), k + d = 30 → (∀ j, j < k → (rowOf j).f0 ≠ s) → firstFrom 30 0 s = firstFrom d k s := by
  intro d k
  induction k generalizing d with
  | zero => intro h _; rw [show d = 30 by omega]
  | succ k ih =>
    intro h hn
    rw [ih (d + 1) (by omega) (fun j hj => hn j (by omega)), firstFrom, if_neg (hn k (by omega))]
theorem instr_hit {l0 : List ByteArray} {k : Nat} (hk : k < 30) (hn : ∀ j, j < k → (rowOf j).f0 ≠ rdOf ByteArray.empty l0 0) (h : (rowOf k).f0 = rdOf ByteArray.empty l0 0) : instr l0 = instrN k l0 := by
  unfold instr
  rw [first_at _ (30 - k) k (by omega) hn]
  obtain ⟨d, hd⟩ : ∃ d, 30 - k = d + 1 := ⟨29 - k, by omega⟩
  rw [hd]
  unfold firstFrom
  rw [if_pos h]
theorem instr_miss {l0 : List ByteArray} (hn : ∀ j, j < 30 → (rowOf j).f0 ≠ rdOf ByteArray.empty l0 0) : instr l0 = (z48, false) := by
  unfold instr
  rw [first_at _ 0 30 rfl hn]
  rfl
def InstrEnd (l0 : List ByteArray) (e : Ending) : Prop := e = .returned (.tuple #[.agg #[.int .u8 (instr l0).1.f0, .int .i64 (instr l0).1.f1, .int .i64 (instr l0).1.f2, .int .i64 (instr l0).1.f3, .int .i64 (instr l0).1.f4], .bool (instr l0).2])
theorem end_of {l0 : List ByteArray} {x : S48} {b : Bool} (h : instr l0 = (x, b)) : InstrEnd l0 (.returned (.tuple #[.agg #[.int .u8 x.f0, .int .i64 x.f1, .int .i64 x.f2, .int .i64 x.f3, .int .i64 x.f4], .bool b])) := by
  unfold InstrEnd; rw [h]
theorem readAll_step {cs : List UInt8} {ws : List ByteArray} {x : S48} {m : Nat} {cc : UInt8} {s : ByteArray} (hm : m < cs.length) (hw : m + 1 < ws.length) (hcc : cs.getD m 0 = cc) (hs : rdOf ByteArray.empty ws ((m : Int) + 1) = s) :
    readAll (cs.drop m) (ws.drop (m + 1)) x = if atoiB (numText cc.toNat s) = true then readAll (cs.drop (m + 1)) (ws.drop (m + 1 + 1)) (opSet x cc (atoiV (numText cc.toNat s))) else none := by
  have h1 : cs[m] = cc := by rw [← hcc, List.getD_eq_getElem?_getD, List.getElem?_eq_getElem hm]; rfl
  have h2 : ws[m + 1] = s := by rw [← hs]; unfold rdOf; rw [show ((m : Int) + 1).toNat = m + 1 by omega, List.getD_eq_getElem?_getD, List.getElem?_eq_getElem hw]; rfl
  rw [List.drop_eq_getElem_cons hm, List.drop_eq_getElem_cons hw, h1, h2]
  rfl
theorem instrN_none {k : Nat} {l0 : List ByteArray} (h : l0.length = (clsB k).size + 1) (hr : readAll (clsB k).data.toList l0.tail ⟨k, 0, 0, 0, 0⟩ = none) : instrN k l0 = (z48, false) := by
  unfold instrN; rw [if_pos h, hr]
theorem instrN_some {k : Nat} {l0 : List ByteArray} {x : S48} (h : l0.length = (clsB k).size + 1) (hr : readAll (clsB k).data.toList l0.tail ⟨k, 0, 0, 0, 0⟩ = some x) : instrN k l0 = (x, vS x && ((lineS x).toList == (joinW l0).toList)) := by
  unfold instrN; rw [if_pos h, hr]
theorem opSet_f0 (x : S48) (c : UInt8) (v : Int) : (opSet x c v).f0 = x.f0 := by
  unfold opSet; split
  · rfl
  · split
    · rfl
    · split <;> rfl
theorem spot_none {w : World} {a : Addr} {v : Value} (h : w.cell? a = some v) : a = ⟨a.block, a.off, none⟩ ∧ a.block < w.heap.size := by
  refine ⟨?_, World.block_lt_of_cell? w a h⟩
  obtain ⟨b, o, s⟩ := a
  cases s with
  | none => rfl
  | some s =>
    unfold World.cell? at h
    split at h
    · simp at h
    · cases h
theorem cells_string {w : World} {ad : Addr} {l : List ByteArray} (hs : ad = ⟨ad.block, ad.off, none⟩) (h : Kd.C Kd.string w (some ad) l.length l) (j : Nat) (x : ByteArray) (hx : l[j]? = some x) : w.cell? ⟨ad.block, ad.off + j, none⟩ = some (.string x) := by
  have hj : j < l.length := (List.getElem?_eq_some_iff.1 hx).1
  obtain ⟨ad', e, hc⟩ := Kd.at_string h (j : Int) (by omega) (by omega)
  cases e
  rw [Int.toNat_natCast] at hc
  have hr : rdOf ByteArray.empty l (j : Int) = x := by unfold rdOf; rw [Int.toNat_natCast, List.getD_eq_getElem?_getD, hx]; rfl
  rw [hr] at hc
  have ha : ad.add j = ⟨ad.block, ad.off + j, none⟩ := by
    unfold Addr.add
    split
    · rename_i h0
      subst h0
      exact hs
    · rfl
  rw [ha] at hc
  exact hc
/-- Five stores into one block. -/
def put5 (w : World) (g : Nat) (a b c d e : Value) : World := ((((w.setCell ⟨g, 0, none⟩ a).setCell ⟨g, 1, none⟩ b).setCell ⟨g, 2, none⟩ c).setCell ⟨g, 3, none⟩ d).setCell ⟨g, 4, none⟩ e
theorem blk_put5 {w : World} {g t : Nat} {p q r s u a b c d e : Value} (h : w.heap[g]? = some (.cells #[p, q, r, s, u] t (0, 0))) : (put5 w g a b c d e).heap[g]? = some (.cells #[a, b, c, d, e] t (0, 0)) := by
  have h1 := blk_put h 0 a rfl
  have h2 := blk_put h1 1 b rfl
  have h3 := blk_put h2 2 c rfl
  have h4 := blk_put h3 3 d rfl
  have h5 := blk_put h4 4 e rfl
  exact h5
theorem size48 : (Tryd.prog.info? 48).map (·.size) = some 5 := by kernel_rfl
theorem below_put5 {B : Nat} {w0 w : World} {g : Nat} {a b c d e : Value} (h : Below B w0 w) (hg : B ≤ g) : Below B w0 (put5 w g a b c d e) :=
  ((((h.setCell (p := ⟨g, 0, none⟩) hg a).setCell (p := ⟨g, 1, none⟩) hg b).setCell (p := ⟨g, 2, none⟩) hg c).setCell (p := ⟨g, 3, none⟩) hg d).setCell (p := ⟨g, 4, none⟩) hg e

set_option maxHeartbeats 3200000 in
set_option maxRecDepth 100000 in
theorem instr_any (A0 : Option Addr) (c0 : Nat) (l0 : List ByteArray) (hl : 0 < l0.length) (hW : ∀ s ∈ l0, s.size ≤ 281474976710656) (hN : l0.length ≤ 140737488355328) (hJ : (Lib.join (l0.map (·.data.toList)) [32]).length ≤ 140737488355328) (w : World) (hr0 : Kd.C Kd.string w A0 l0.length l0) (hc0 : l0.length ≤ c0) (hE : Env w) :
    Calls Tryd.prog 35 #[.slice A0 l0.length c0] w fun e w' => InstrEnd l0 e ∧ Below w.heap.size w w' := by
  have hu48 := Tryd.underlying48
  obtain ⟨ad, e, hw0⟩ := Kd.at_string hr0 0 (by omega) (by omega)
  cases e
  rw [show (0 : Int).toNat = 0 from rfl, add_zero_addr] at hw0
  obtain ⟨hspot, hbk⟩ := spot_none hw0
  have HJ : Aside0 (∀ W, Below w.heap.size w W → Calls Tryd.prog 52 #[.slice (some ad) l0.length c0, .string ⟨#[32]⟩] W fun e w' => e = .returned (.string (joinW l0)) ∧ Below W.heap.size W w') := ⟨fun W hb => by
    have := Tryd.strings_Join ad.block ad.off c0 l0 ⟨#[32]⟩ W (fun j x hx => cells_string hspot (Kd.C_below hr0 hb) j x hx) (Nat.lt_of_lt_of_le hbk hb.size) hN hc0 hJ
    rw [hspot]
    exact this⟩
  have HWZ := Aside0.mk hW
  clear hW hN hJ hspot hbk
  have HIT := Lib.hid (fun k => @instr_hit l0 k)
  have HMISS := Lib.hid (@instr_miss l0)
  generalize rdOf ByteArray.empty l0 0 = w0 at *
  have HW0 := Aside0.mk hw0
  have HR := Aside0.mk hr0
  have HC0 := Aside0.mk hc0
  clear hw0 hr0 hc0
  go_enter Tryd.func35, Tryd.ntmps35
  go_wp2_with fail
  have hB := Aside0.mk ((Below.refl w.heap.size w).alloc (Nat.le_refl _) (.cells #[.int .u8 0, .int .i64 0, .int .i64 0, .int .i64 0, .int .i64 0] 48))
  have b0 := Aside0.mk (heap_alloc_new w (.cells #[.int .u8 0, .int .i64 0, .int .i64 0, .int .i64 0, .int .i64 0] 48))
  generalize w.alloc (.cells #[.int .u8 0, .int .i64 0, .int .i64 0, .int .i64 0, .int .i64 0] 48) = W3 at *
  go_loopw [11] (fun v wr => ∃ k : Nat, k ≤ 30 ∧ v = .int .u8 k ∧ Aside0 (∀ j, j < k → (rowOf j).f0 ≠ w0) ∧ Aside0 (wr.heap[w.heap.size]? = some (.cells #[.int .u8 0, .int .i64 0, .int .i64 0, .int .i64 0, .int .i64 0] 48 (0, 0))) ∧ Aside0 (Below w.heap.size w wr)) (fun v _ => 31 - (intOf v).toNat)
  case atStart => exact ⟨0, by omega, rfl, ⟨fun j hj => by omega⟩, b0, hB⟩
  case round =>
    clear b0 hB
    obtain ⟨k, hk, rfl, hne, b0, hB⟩ := hrel
    by_cases hlt : k < 30
    · have hM : isa_Mnemonic.f 20 k = some (rowOf k).f0 := by unfold isa_Mnemonic.f; rw [find_lt k hlt]; rfl
      have CM := fun d os => Calls.regrown_of (isa_Mnemonic.calls 20 k (rowOf k).f0 (Sort.grow (redrawn wr d) os) hM)
      have hcell := fun d os => cell_regrown (cell_below hB.out HW0.out) d os
      go_wp2_with fail
      refine wp_region_quiet_below (by kernel_rfl) (by kernel_rfl) ?_
      repeat (quiet_step (exact CM _ _))
      refine wpQuiet_nil ?_
      intro _ hw'
      obtain ⟨⟨dq, osq⟩, rfl⟩ := hw'
      have hb5 := Aside0.mk (below_regrown wr dq osq)
      have hB5 := Aside0.mk (hB.out.trans (hb5.out.mono hB.out.size))
      clear CM hcell hM
      have b5 := Aside0.mk (blk_below b0.out hb5.out)
      clear b0 hb5 hB
      generalize Sort.grow (redrawn wr dq) osq = W5 at *
      cases hq : (rowOf k).f0.toList == w0.toList
      · have hn : (rowOf k).f0 ≠ w0 := fun h => by rw [h] at hq; simp at hq
        have HN := Aside0.mk (all_succ hne.out hn)
        clear hn
        go_wp2
        go_roundw
        case rel => exact ⟨k + 1, by omega, by go_num, HN, b5, hB5⟩
        case measure => simp [intOf]; omega
      · have hit : (rowOf k).f0 = w0 := by
          have := eq_of_beq hq
          rw [Lib.toList_data, Lib.toList_data] at this
          exact ByteArray.ext (Array.toList_inj.1 this)
        have HI := Lib.hid (HIT.out k hlt hne.out hit)
        clear hit hne
        have CC := fun w => asm_classes.calls 5 k (clsB k) w (cls_eq k hlt)
        have hcs := (cls_in k hlt).1
        go_wp2_with fail
        refine (CC _).mono ?_
        rintro e w6 ⟨rfl, hd6⟩
        have h6 : Below W5.heap.size W5 w6 := ((Below.refl _ _).alloc (Nat.le_refl _) (.cells #[.int .u8 k, .int .i64 0, .int .i64 0, .int .i64 0, .int .i64 0] 48)).trans (hd6.below.mono (by simp))
        have i6 := Aside0.mk (blk_below (heap_alloc_new W5 (.cells #[.int .u8 k, .int .i64 0, .int .i64 0, .int .i64 0, .int .i64 0] 48)) hd6.below)
        have b6 := Aside0.mk (blk_below b5.out h6)
        have hB6 := Aside0.mk (hB5.out.trans (h6.mono hB5.out.size))
        have hgt := Aside0.mk (show w.heap.size < W5.heap.size from blk_lt b5.out)
        have hBG6 := Aside0.mk (show W5.heap.size < w6.heap.size from blk_lt i6.out)
        clear CC hd6 h6 b5 hB5
        generalize W5.heap.size = G at *
        by_cases hlen : l0.length = (clsB k).size + 1
        · have h1 : ((l0.length : Int) != (clsB k).size + 1) = false := by rw [bne_eq_false_iff_eq]; omega
          have HLEN := Lib.hid hlen
          clear hlen
          have kc := Lib.run_convert_string_bytes (P := Tryd.prog) w6 9 36 5 (clsB k) Tryd.underlying9 Tryd.underlying36 Tryd.underlying5
          go_wp2_with fail
          have hB7 := Aside0.mk (hB6.out.trans ((below_bytes w6 5 (clsB k)).mono hB6.out.size))
          have i7 := Aside0.mk (blk_below i6.out (below_bytes w6 5 (clsB k)))
          have b7 := Aside0.mk (blk_below b6.out (below_bytes w6 5 (clsB k)))
          have q7 : Aside0 (∀ j, j < (clsB k).size → (Lib.bytesWorld w6 5 (clsB k)).cell? ⟨w6.heap.size, j, none⟩ = some (.int .u8 ((clsB k).data.toList.getD j 0).toNat)) := ⟨fun j hj => Lib.bytesWorld_cell _ _ _ _ hj⟩
          clear kc hB6 i6 b6
          generalize Lib.bytesWorld w6 5 (clsB k) = W7 at *
          have hBG := hBG6
          clear hBG6
          generalize w6.heap.size = B at *
          generalize hg : grownCap w6 (clsB k).size 0 5 = cap at *
          clear hg
          have hst : Aside0 (readAll (clsB k).data.toList l0.tail ⟨k, 0, 0, 0, 0⟩ = readAll ((clsB k).data.toList.drop 0) (l0.drop (0 + 1)) ⟨k, 0, 0, 0, 0⟩) := ⟨by rw [List.drop_zero, List.drop_one]⟩
          go_loopw [34] (fun v wr => ∃ (m : Nat) (x : S48), m ≤ (clsB k).size ∧ v = .int .i64 m ∧ Aside0 (readAll (clsB k).data.toList l0.tail ⟨k, 0, 0, 0, 0⟩ = readAll ((clsB k).data.toList.drop m) (l0.drop (m + 1)) x) ∧ Aside0 (x.f0 = k)
            ∧ Aside0 (wr.heap[G]? = some (.cells #[.int .u8 k, .int .i64 x.f1, .int .i64 x.f2, .int .i64 x.f3, .int .i64 x.f4] 48 (0, 0))) ∧ Aside0 (wr.heap[w.heap.size]? = some (.cells #[.int .u8 0, .int .i64 0, .int .i64 0, .int .i64 0, .int .i64 0] 48 (0, 0)))
            ∧ Aside0 (∀ j, j < (clsB k).size → wr.cell? ⟨B, j, none⟩ = some (.int .u8 ((clsB k).data.toList.getD j 0).toNat)) ∧ Aside0 (Below w.heap.size w wr)) (fun v _ => (clsB k).size - (intOf v).toNat)
          case atStart => exact ⟨0, ⟨k, 0, 0, 0, 0⟩, by omega, rfl, hst, ⟨rfl⟩, i7, b7, q7, hB7⟩
          case round =>
            clear hst i7 b7 q7 hB7
            obtain ⟨m, x, hm, rfl, hst, hx0, i7, b7, q7, hB7⟩ := hrel
            by_cases hmlt : m < (clsB k).size
            · have hm1 : m + 1 < l0.length := by rw [HLEN.out]; omega
              obtain ⟨ad', e', hs⟩ := Kd.at_string (Kd.C_below HR.out hB7.out) ((m : Int) + 1) (by omega) (by omega)
              cases e'
              rw [show ((m : Int) + 1).toNat = m + 1 by omega] at hs
              unfold Addr.add at hs
              rw [if_neg (by omega)] at hs
              have hx1 := q7.out m hmlt
              generalize hss : rdOf ByteArray.empty l0 ((m : Int) + 1) = s at *
              have HSS := Lib.hid hss
              clear hss
              generalize hcc : (clsB k).data.toList.getD m 0 = cc at *
              have HCC := Lib.hid hcc
              clear hcc
              have hssz : s.size ≤ 281474976710656 := by
                rw [← HSS.out]
                unfold rdOf
                rw [show ((m : Int) + 1).toNat = m + 1 by omega, List.getD_eq_getElem?_getD, List.getElem?_eq_getElem hm1]
                exact HWZ.out _ (List.getElem_mem hm1)
              have i0' : (0 : Int) ≤ (m : Int) := by omega
              have i1' : (m : Int) < (clsB k).size := by omega
              have i2' : (0 : Int) ≤ (m : Int) + 1 := by omega
              have i3' : (m : Int) + 1 < l0.length := by omega
              have i4' : IntKind.i64.wrap ((m : Int) + 1) = (m : Int) + 1 := by rw [IntKind.wrap_i64]; omega
              have i5' : ((m : Int) + 1).toNat = m + 1 := by omega
              go_wp2_with fail
              go_region_held3 (fun w' => w'.cell? ⟨ad.block, ad.off + (m + 1), none⟩ = some (.string s)) (first | go_keep | exact cell_below hb9 (by go_keep))
                (first
                  | (go_at_call 51; refine (readC _ _).mono ?_; rintro e w8 ⟨rfl, rfl⟩)
                  | (go_at_call 66; refine (rd1C cc.toNat s hssz _ _ ?hE ?hc).mono ?_; (case hE => exact hE.below (below_alloc (below_drew hB7.out) _)); (case hc => go_simp); rintro e w9 ⟨rfl, hb9⟩))
              have h9 : Below wr.heap.size wr w9 := ((below_drew (Below.refl wr.heap.size wr)).alloc (by simp) _).trans (hb9.mono (by simp))
              have i9 := Aside0.mk (blk_below i7.out h9)
              have b9 := Aside0.mk (blk_below b7.out h9)
              have q9 : Aside0 (∀ j, j < (clsB k).size → w9.cell? ⟨B, j, none⟩ = some (.int .u8 ((clsB k).data.toList.getD j 0).toNat)) := ⟨fun j hj => cell_below h9 (q7.out j hj)⟩
              have hB9 := Aside0.mk (hB7.out.trans (h9.mono hB7.out.size))
              have hstep := readAll_step (x := x) (by rw [size_list]; exact hmlt) hm1 HCC.out HSS.out
              have hcase := (cls_in k hlt).2 cc (by rw [← HCC.out, List.getD_eq_getElem?_getD, List.getElem?_eq_getElem (by rw [size_list]; exact hmlt)]; exact List.getElem_mem _)
              rw [← hst.out] at hstep
              clear hb9 h9 i7 b7 q7 hB7 hst HCC HSS hs hx1
              generalize atoiV (numText cc.toNat s) = v at *
              cases hok : atoiB (numText cc.toNat s)
              · rw [hok, if_neg (by decide)] at hstep
                have hE6 := Lib.hid (show instr l0 = (z48, false) by rw [HI.out]; exact instrN_none HLEN.out hstep)
                have z0 := (blk_cell b9.out 0).trans rfl
                have z1 := (blk_cell b9.out 1).trans rfl
                have z2 := (blk_cell b9.out 2).trans rfl
                have z3 := (blk_cell b9.out 3).trans rfl
                have z4 := (blk_cell b9.out 4).trans rfl
                have zf := blk_frozen b9.out
                clear hstep hok hcase
                go_wp2
                refine bodyPost_ret (results_ct rfl _ _ w.heap.size 48 #[.int .u8 0, .int .i64 0, .int .i64 0, .int .i64 0, .int .i64 0] (0, 0) _ rfl (blk_put5 b9.out) Tryd.underlying48 rfl size48) rfl ?_
                exact ⟨end_of hE6.out, below_put5 hB9.out (Nat.le_refl _)⟩
              · rw [hok, if_pos rfl] at hstep
                have hst' := Aside0.mk hstep
                clear hstep hok
                rcases hcase with rfl | rfl | rfl | rfl
                · have y1 := (blk_cell i9.out 1).trans rfl
                  have yf := blk_frozen i9.out
                  go_wp2_with (go_at_call 44; go_in)
                  go_roundw
                  case rel => exact ⟨m + 1, opSet x 65 v, by omega, by go_num, ⟨hst'.out⟩, ⟨(opSet_f0 _ _ _).trans hx0.out⟩, ⟨blk_put i9.out 1 _ rfl⟩, ⟨blk_far b9.out (by have := hgt.out; simp; omega) _⟩, ⟨fun j hj => (cell_far (by show B ≠ G; have := hBG.out; omega) _).trans (q9.out j hj)⟩, ⟨hB9.out.setCell (p := ⟨G, 1, none⟩) (by have := hgt.out; simp; omega) _⟩⟩
                  case measure => simp [intOf]; omega
                · have y2 := (blk_cell i9.out 2).trans rfl
                  have yf := blk_frozen i9.out
                  go_wp2_with (go_at_call 44; go_in)
                  go_roundw
                  case rel => exact ⟨m + 1, opSet x 66 v, by omega, by go_num, ⟨hst'.out⟩, ⟨(opSet_f0 _ _ _).trans hx0.out⟩, ⟨blk_put i9.out 2 _ rfl⟩, ⟨blk_far b9.out (by have := hgt.out; simp; omega) _⟩, ⟨fun j hj => (cell_far (by show B ≠ G; have := hBG.out; omega) _).trans (q9.out j hj)⟩, ⟨hB9.out.setCell (p := ⟨G, 2, none⟩) (by have := hgt.out; simp; omega) _⟩⟩
                  case measure => simp [intOf]; omega
                · have y3 := (blk_cell i9.out 3).trans rfl
                  have yf := blk_frozen i9.out
                  go_wp2_with (go_at_call 44; go_in)
                  go_roundw
                  case rel => exact ⟨m + 1, opSet x 67 v, by omega, by go_num, ⟨hst'.out⟩, ⟨(opSet_f0 _ _ _).trans hx0.out⟩, ⟨blk_put i9.out 3 _ rfl⟩, ⟨blk_far b9.out (by have := hgt.out; simp; omega) _⟩, ⟨fun j hj => (cell_far (by show B ≠ G; have := hBG.out; omega) _).trans (q9.out j hj)⟩, ⟨hB9.out.setCell (p := ⟨G, 3, none⟩) (by have := hgt.out; simp; omega) _⟩⟩
                  case measure => simp [intOf]; omega
                · have y4 := (blk_cell i9.out 4).trans rfl
                  have yf := blk_frozen i9.out
                  go_wp2_with (go_at_call 44; go_in)
                  go_roundw
                  case rel => exact ⟨m + 1, opSet x 73 v, by omega, by go_num, ⟨hst'.out⟩, ⟨(opSet_f0 _ _ _).trans hx0.out⟩, ⟨blk_put i9.out 4 _ rfl⟩, ⟨blk_far b9.out (by have := hgt.out; simp; omega) _⟩, ⟨fun j hj => (cell_far (by show B ≠ G; have := hBG.out; omega) _).trans (q9.out j hj)⟩, ⟨hB9.out.setCell (p := ⟨G, 4, none⟩) (by have := hgt.out; simp; omega) _⟩⟩
                  case measure => simp [intOf]; omega
            · obtain rfl : m = (clsB k).size := by omega
              have hfin : readAll (clsB k).data.toList l0.tail ⟨k, 0, 0, 0, 0⟩ = some x := by
                rw [hst.out, List.drop_eq_nil_of_le (by rw [size_list]; omega)]
                rfl
              have HF := Lib.hid (HI.out.trans (instrN_some HLEN.out hfin))
              clear hst hfin q7
              obtain ⟨x0, x1, x2, x3, x4⟩ := x
              obtain rfl : x0 = k := hx0.out
              have hvf := valid_f ⟨(k : Int), x1, x2, x3, x4⟩ (by simp [isOp]; omega)
              cases hv : vS ⟨(k : Int), x1, x2, x3, x4⟩
              · rw [hv] at hvf HF
                have HV := fun W => isa_Valid.calls k x1 x2 x3 x4 false W hvf
                clear hvf hx0
                go_wp2_with fail
                replace i7 := Aside0.mk (blk_drew i7.out)
                replace b7 := Aside0.mk (blk_drew b7.out)
                replace hB7 := Aside0.mk (below_drew hB7.out)
                refine start_ (n := 12) (S := (fun w' => w'.cell? ⟨G, 0, none⟩ = some (.int .u8 k) ∧ w'.cell? ⟨G, 1, none⟩ = some (.int .i64 x1) ∧ w'.cell? ⟨G, 2, none⟩ = some (.int .i64 x2) ∧ w'.cell? ⟨G, 3, none⟩ = some (.int .i64 x3) ∧ w'.cell? ⟨G, 4, none⟩ = some (.int .i64 x4))) (ds := [10]) #[false, false, false, false, false, false, false, false, false, false, false, false] (by kernel_rfl) rfl rfl ⟨(blk_cell i7.out 0).trans rfl, (blk_cell i7.out 1).trans rfl, (blk_cell i7.out 2).trans rfl, (blk_cell i7.out 3).trans rfl, (blk_cell i7.out 4).trans rfl⟩ (fun hHeld => ?_)
                generalize wr.drew = w7 at i7 b7 hB7 hHeld ⊢
                refine take_ (i := 0) (N := some 58) (v := ?_) (a' := ?_) #[true, false, false, false, false, false, false, false, false, false, false, false] rfl rfl (by kernel_rfl) (fun _ _ _ h => h) (Or.inl ⟨by rfl, ?_⟩) hHeld ?_ ?_
                rotate_left
                · rintro w' ⟨s0, s1, s2, s3, s4⟩
                  go_simp
                  with_reducible rfl
                rotate_left
                · simp only [Act.put, List.setIfInBounds_toArray, List.set_cons_zero, List.set_cons_succ, i64_w, i32_w]
                  rfl
                refine take_ (i := 1) (N := some 59) (v := ?_) (a' := ?_) #[true, true, false, false, false, false, false, false, false, false, false, false] rfl rfl (by kernel_rfl) (fun _ _ _ h => h) (Or.inl ⟨by rfl, ?_⟩) hHeld ?_ ?_
                rotate_left
                · rintro w' ⟨s0, s1, s2, s3, s4⟩
                  go_simp
                  with_reducible rfl
                rotate_left
                · simp only [Act.put, List.setIfInBounds_toArray, List.set_cons_zero, List.set_cons_succ, i64_w, i32_w]
                  rfl
                refine one_ (i := 2) (N := some 60) #[true, true, true, false, false, false, false, false, false, false, false, false] rfl rfl (by kernel_rfl) (by decide) (fun K hK => ?_)
                refine goes_ Tryd.func29 (by kernel_rfl) rfl #[.agg #[.int .u8 k, .int .i64 x1, .int .i64 x2, .int .i64 x3, .int .i64 x4]] (by rfl) rfl rfl (by (try simp only [List.map_toArray, List.map_cons, List.map_nil]); first | done | rfl) ?_
                refine (HV _).mono ?_
                rintro e w10 ⟨rfl, hb⟩
                refine ⟨_, rfl, ?_⟩
                replace i7 := Aside0.mk (blk_below i7.out hb)
                replace b7 := Aside0.mk (blk_below b7.out hb)
                replace hB7 := Aside0.mk (hB7.out.trans (hb.mono hB7.out.size))
                clear hb hHeld
                refine hK.out _ _ ⟨(blk_cell i7.out 0).trans rfl, (blk_cell i7.out 1).trans rfl, (blk_cell i7.out 2).trans rfl, (blk_cell i7.out 3).trans rfl, (blk_cell i7.out 4).trans rfl⟩ (fun hHeld => ?_)
                clear hK K
                refine norm_ (a' := ?_) ?_ ?_
                rotate_left
                · show Act.put _ (some 60) _ = _
                  simp only [Act.put, List.setIfInBounds_toArray, List.set_cons_zero, List.set_cons_succ, i64_w, i32_w]
                  rfl
                refine pure_ (i := 3) (N := some 61) (v := ?_) (a' := ?_) #[true, true, true, true, false, false, false, false, false, false, false, false] rfl rfl (by kernel_rfl) (fun _ _ _ h => h) (Or.inl ⟨by rfl, ?_⟩) ?_ ?_
                rotate_left
                · intro w'
                  go_simp
                  with_reducible rfl
                rotate_left
                · simp only [Act.put, List.setIfInBounds_toArray, List.set_cons_zero, List.set_cons_succ, i64_w, i32_w]
                  rfl
                refine pure_ (i := 4) (N := some 62) (v := undef) (a' := ?_) #[true, true, true, true, true, false, false, false, false, false, false, false] rfl rfl (by kernel_rfl) (fun _ _ _ h => h) (Or.inr ⟨by rfl, rfl⟩) ?_ ?_
                rotate_left
                · simp only [Act.put, List.setIfInBounds_toArray, List.set_cons_zero, List.set_cons_succ, i64_w, i32_w]
                  rfl
                refine pure_ (i := 5) (N := some 63) (v := undef) (a' := ?_) #[true, true, true, true, true, true, false, false, false, false, false, false] rfl rfl (by kernel_rfl) (fun _ _ _ h => h) (Or.inr ⟨by rfl, rfl⟩) ?_ ?_
                rotate_left
                · simp only [Act.put, List.setIfInBounds_toArray, List.set_cons_zero, List.set_cons_succ, i64_w, i32_w]
                  rfl
                refine pure_ (i := 6) (N := some 64) (v := undef) (a' := ?_) #[true, true, true, true, true, true, true, false, false, false, false, false] rfl rfl (by kernel_rfl) (fun _ _ _ h => h) (Or.inr ⟨by rfl, rfl⟩) ?_ ?_
                rotate_left
                · simp only [Act.put, List.setIfInBounds_toArray, List.set_cons_zero, List.set_cons_succ, i64_w, i32_w]
                  rfl
                refine pure_ (i := 7) (N := some 65) (v := undef) (a' := ?_) #[true, true, true, true, true, true, true, true, false, false, false, false] rfl rfl (by kernel_rfl) (fun _ _ _ h => h) (Or.inr ⟨by rfl, rfl⟩) ?_ ?_
                rotate_left
                · simp only [Act.put, List.setIfInBounds_toArray, List.set_cons_zero, List.set_cons_succ, i64_w, i32_w]
                  rfl
                refine pure_ (i := 8) (N := some 66) (v := undef) (a' := ?_) #[true, true, true, true, true, true, true, true, true, false, false, false] rfl rfl (by kernel_rfl) (fun _ _ _ h => h) (Or.inr ⟨by rfl, rfl⟩) ?_ ?_
                rotate_left
                · simp only [Act.put, List.setIfInBounds_toArray, List.set_cons_zero, List.set_cons_succ, i64_w, i32_w]
                  rfl
                refine pure_ (i := 9) (N := some 67) (v := ?_) (a' := ?_) #[true, true, true, true, true, true, true, true, true, true, false, false] rfl rfl (by kernel_rfl) (fun _ _ _ h => h) (Or.inl ⟨by rfl, ?_⟩) ?_ ?_
                rotate_left
                · intro w'
                  go_simp
                  with_reducible rfl
                rotate_left
                · simp only [Act.put, List.setIfInBounds_toArray, List.set_cons_zero, List.set_cons_succ, i64_w, i32_w]
                  rfl
                have zz := b7
                have z0 := (blk_cell zz.out 0).trans rfl
                have z1 := (blk_cell zz.out 1).trans rfl
                have z2 := (blk_cell zz.out 2).trans rfl
                have z3 := (blk_cell zz.out 3).trans rfl
                have z4 := (blk_cell zz.out 4).trans rfl
                have zf := blk_frozen zz.out
                refine last_ (i := 10) (N := none) #[true, true, true, true, true, true, true, true, true, true, true, false] rfl rfl (by kernel_rfl) (by decide) (fun K hK => ?_)
                go_simp
                refine hK.out _ _ ?_
                clear hK K
                refine pure_ (i := 11) (N := some 3) (v := ?_) (a' := ?_) #[true, true, true, true, true, true, true, true, true, true, true, true] rfl rfl (by kernel_rfl) (fun _ _ _ h => h) (Or.inl ⟨by rfl, ?_⟩) ?_ ?_
                rotate_left
                · intro w'
                  go_simp
                  with_reducible rfl
                rotate_left
                · simp only [Act.put, List.setIfInBounds_toArray, List.set_cons_zero, List.set_cons_succ, i64_w, i32_w]
                  rfl
                refine done_ (by kernel_rfl) ?_
                clear z0 z1 z2 z3 z4 zf zz hHeld
                go_wp2
                refine bodyPost_ret (results_ct rfl _ _ w.heap.size 48 #[.int .u8 k, .int .i64 x1, .int .i64 x2, .int .i64 x3, .int .i64 x4] (0, 0) _ rfl (blk_put5 b7.out) Tryd.underlying48 rfl size48) rfl ?_
                exact ⟨end_of HF.out, below_put5 hB7.out (Nat.le_refl _)⟩
              · rw [hv] at hvf HF
                have HV := fun W => isa_Valid.calls k x1 x2 x3 x4 true W hvf
                have HL := fun W hE => asm_line.calls k x1 x2 x3 x4 (lineS ⟨k, x1, x2, x3, x4⟩) W hE (line_f hv)
                clear hvf hx0 hv
                generalize lineS ⟨k, x1, x2, x3, x4⟩ = LN at *
                generalize joinW l0 = JW at *
                go_wp2_with fail
                replace i7 := Aside0.mk (blk_drew i7.out)
                replace b7 := Aside0.mk (blk_drew b7.out)
                replace hB7 := Aside0.mk (below_drew hB7.out)
                refine start_ (n := 12) (S := (fun w' => w'.cell? ⟨G, 0, none⟩ = some (.int .u8 k) ∧ w'.cell? ⟨G, 1, none⟩ = some (.int .i64 x1) ∧ w'.cell? ⟨G, 2, none⟩ = some (.int .i64 x2) ∧ w'.cell? ⟨G, 3, none⟩ = some (.int .i64 x3) ∧ w'.cell? ⟨G, 4, none⟩ = some (.int .i64 x4))) (ds := [10]) #[false, false, false, false, false, false, false, false, false, false, false, false] (by kernel_rfl) rfl rfl ⟨(blk_cell i7.out 0).trans rfl, (blk_cell i7.out 1).trans rfl, (blk_cell i7.out 2).trans rfl, (blk_cell i7.out 3).trans rfl, (blk_cell i7.out 4).trans rfl⟩ (fun hHeld => ?_)
                generalize wr.drew = w7 at i7 b7 hB7 hHeld ⊢
                refine take_ (i := 0) (N := some 58) (v := ?_) (a' := ?_) #[true, false, false, false, false, false, false, false, false, false, false, false] rfl rfl (by kernel_rfl) (fun _ _ _ h => h) (Or.inl ⟨by rfl, ?_⟩) hHeld ?_ ?_
                rotate_left
                · rintro w' ⟨s0, s1, s2, s3, s4⟩
                  go_simp
                  with_reducible rfl
                rotate_left
                · simp only [Act.put, List.setIfInBounds_toArray, List.set_cons_zero, List.set_cons_succ, i64_w, i32_w]
                  rfl
                refine take_ (i := 1) (N := some 59) (v := ?_) (a' := ?_) #[true, true, false, false, false, false, false, false, false, false, false, false] rfl rfl (by kernel_rfl) (fun _ _ _ h => h) (Or.inl ⟨by rfl, ?_⟩) hHeld ?_ ?_
                rotate_left
                · rintro w' ⟨s0, s1, s2, s3, s4⟩
                  go_simp
                  with_reducible rfl
                rotate_left
                · simp only [Act.put, List.setIfInBounds_toArray, List.set_cons_zero, List.set_cons_succ, i64_w, i32_w]
                  rfl
                refine one_ (i := 2) (N := some 60) #[true, true, true, false, false, false, false, false, false, false, false, false] rfl rfl (by kernel_rfl) (by decide) (fun K hK => ?_)
                refine goes_ Tryd.func29 (by kernel_rfl) rfl #[.agg #[.int .u8 k, .int .i64 x1, .int .i64 x2, .int .i64 x3, .int .i64 x4]] (by rfl) rfl rfl (by (try simp only [List.map_toArray, List.map_cons, List.map_nil]); first | done | rfl) ?_
                refine (HV _).mono ?_
                rintro e w10 ⟨rfl, hb⟩
                refine ⟨_, rfl, ?_⟩
                replace i7 := Aside0.mk (blk_below i7.out hb)
                replace b7 := Aside0.mk (blk_below b7.out hb)
                replace hB7 := Aside0.mk (hB7.out.trans (hb.mono hB7.out.size))
                clear hb hHeld
                refine hK.out _ _ ⟨(blk_cell i7.out 0).trans rfl, (blk_cell i7.out 1).trans rfl, (blk_cell i7.out 2).trans rfl, (blk_cell i7.out 3).trans rfl, (blk_cell i7.out 4).trans rfl⟩ (fun hHeld => ?_)
                clear hK K
                refine norm_ (a' := ?_) ?_ ?_
                rotate_left
                · show Act.put _ (some 60) _ = _
                  simp only [Act.put, List.setIfInBounds_toArray, List.set_cons_zero, List.set_cons_succ, i64_w, i32_w]
                  rfl
                refine pure_ (i := 3) (N := some 61) (v := ?_) (a' := ?_) #[true, true, true, true, false, false, false, false, false, false, false, false] rfl rfl (by kernel_rfl) (fun _ _ _ h => h) (Or.inl ⟨by rfl, ?_⟩) ?_ ?_
                rotate_left
                · intro w'
                  go_simp
                  with_reducible rfl
                rotate_left
                · simp only [Act.put, List.setIfInBounds_toArray, List.set_cons_zero, List.set_cons_succ, i64_w, i32_w]
                  rfl
                refine take_ (i := 4) (N := some 62) (v := ?_) (a' := ?_) #[true, true, true, true, true, false, false, false, false, false, false, false] rfl rfl (by kernel_rfl) (fun _ _ _ h => h) (Or.inl ⟨by rfl, ?_⟩) hHeld ?_ ?_
                rotate_left
                · rintro w' ⟨s0, s1, s2, s3, s4⟩
                  go_simp
                  with_reducible rfl
                rotate_left
                · simp only [Act.put, List.setIfInBounds_toArray, List.set_cons_zero, List.set_cons_succ, i64_w, i32_w]
                  rfl
                refine pure_ (i := 6) (N := some 64) (v := ?_) (a' := ?_) #[true, true, true, true, true, false, true, false, false, false, false, false] rfl rfl (by kernel_rfl) (fun _ _ _ h => h) (Or.inl ⟨by rfl, ?_⟩) ?_ ?_
                rotate_left
                · intro w'
                  go_simp
                  with_reducible rfl
                rotate_left
                · simp only [Act.put, List.setIfInBounds_toArray, List.set_cons_zero, List.set_cons_succ, i64_w, i32_w]
                  rfl
                refine one_ (i := 5) (N := some 63) #[true, true, true, true, true, true, true, false, false, false, false, false] rfl rfl (by kernel_rfl) (by decide) (fun K hK => ?_)
                refine goes_ Tryd.func26 (by kernel_rfl) rfl #[.agg #[.int .u8 k, .int .i64 x1, .int .i64 x2, .int .i64 x3, .int .i64 x4]] (by rfl) rfl rfl (by (try simp only [List.map_toArray, List.map_cons, List.map_nil]); first | done | rfl) ?_
                refine (HL _ (hE.below hB7.out)).mono ?_
                rintro e w11 ⟨rfl, hb⟩
                refine ⟨_, rfl, ?_⟩
                replace i7 := Aside0.mk (blk_below i7.out hb)
                replace b7 := Aside0.mk (blk_below b7.out hb)
                replace hB7 := Aside0.mk (hB7.out.trans (hb.mono hB7.out.size))
                clear hb hHeld
                refine hK.out _ _ ⟨(blk_cell i7.out 0).trans rfl, (blk_cell i7.out 1).trans rfl, (blk_cell i7.out 2).trans rfl, (blk_cell i7.out 3).trans rfl, (blk_cell i7.out 4).trans rfl⟩ (fun hHeld => ?_)
                clear hK K
                refine norm_ (a' := ?_) ?_ ?_
                rotate_left
                · show Act.put _ (some 63) _ = _
                  simp only [Act.put, List.setIfInBounds_toArray, List.set_cons_zero, List.set_cons_succ, i64_w, i32_w]
                  rfl
                refine one_ (i := 7) (N := some 65) #[true, true, true, true, true, true, true, true, false, false, false, false] rfl rfl (by kernel_rfl) (by decide) (fun K hK => ?_)
                refine goes_ Tryd.func52 (by kernel_rfl) rfl #[.slice (some ad) l0.length c0, .string ⟨#[32]⟩] (by rfl) rfl rfl (by (try simp only [List.map_toArray, List.map_cons, List.map_nil]); first | done | rfl) ?_
                refine (HJ.out _ hB7.out).mono ?_
                rintro e w12 ⟨rfl, hb⟩
                refine ⟨_, rfl, ?_⟩
                replace i7 := Aside0.mk (blk_below i7.out hb)
                replace b7 := Aside0.mk (blk_below b7.out hb)
                replace hB7 := Aside0.mk (hB7.out.trans (hb.mono hB7.out.size))
                clear hb hHeld
                refine hK.out _ _ ⟨(blk_cell i7.out 0).trans rfl, (blk_cell i7.out 1).trans rfl, (blk_cell i7.out 2).trans rfl, (blk_cell i7.out 3).trans rfl, (blk_cell i7.out 4).trans rfl⟩ (fun hHeld => ?_)
                clear hK K
                refine norm_ (a' := ?_) ?_ ?_
                rotate_left
                · show Act.put _ (some 65) _ = _
                  simp only [Act.put, List.setIfInBounds_toArray, List.set_cons_zero, List.set_cons_succ, i64_w, i32_w]
                  rfl
                refine pure_ (i := 8) (N := some 66) (v := ?_) (a' := ?_) #[true, true, true, true, true, true, true, true, true, false, false, false] rfl rfl (by kernel_rfl) (fun _ _ _ h => h) (Or.inl ⟨by rfl, ?_⟩) ?_ ?_
                rotate_left
                · intro w'
                  go_simp
                  with_reducible rfl
                rotate_left
                · simp only [Act.put, List.setIfInBounds_toArray, List.set_cons_zero, List.set_cons_succ, i64_w, i32_w]
                  rfl
                refine pure_ (i := 9) (N := some 67) (v := ?_) (a' := ?_) #[true, true, true, true, true, true, true, true, true, true, false, false] rfl rfl (by kernel_rfl) (fun _ _ _ h => h) (Or.inl ⟨by rfl, ?_⟩) ?_ ?_
                rotate_left
                · intro w'
                  go_simp
                  with_reducible rfl
                rotate_left
                · simp only [Act.put, List.setIfInBounds_toArray, List.set_cons_zero, List.set_cons_succ, i64_w, i32_w]
                  rfl
                have zz := b7
                have z0 := (blk_cell zz.out 0).trans rfl
                have z1 := (blk_cell zz.out 1).trans rfl
                have z2 := (blk_cell zz.out 2).trans rfl
                have z3 := (blk_cell zz.out 3).trans rfl
                have z4 := (blk_cell zz.out 4).trans rfl
                have zf := blk_frozen zz.out
                refine last_ (i := 10) (N := none) #[true, true, true, true, true, true, true, true, true, true, true, false] rfl rfl (by kernel_rfl) (by decide) (fun K hK => ?_)
                go_simp
                refine hK.out _ _ ?_
                clear hK K
                refine pure_ (i := 11) (N := some 3) (v := ?_) (a' := ?_) #[true, true, true, true, true, true, true, true, true, true, true, true] rfl rfl (by kernel_rfl) (fun _ _ _ h => h) (Or.inl ⟨by rfl, ?_⟩) ?_ ?_
                rotate_left
                · intro w'
                  go_simp
                  with_reducible rfl
                rotate_left
                · simp only [Act.put, List.setIfInBounds_toArray, List.set_cons_zero, List.set_cons_succ, i64_w, i32_w]
                  rfl
                refine done_ (by kernel_rfl) ?_
                clear z0 z1 z2 z3 z4 zf zz hHeld
                go_wp2
                refine bodyPost_ret (results_ct rfl _ _ w.heap.size 48 #[.int .u8 k, .int .i64 x1, .int .i64 x2, .int .i64 x3, .int .i64 x4] (0, 0) _ rfl (blk_put5 b7.out) Tryd.underlying48 rfl size48) rfl ?_
                exact ⟨end_of HF.out, below_put5 hB7.out (Nat.le_refl _)⟩
        · have h1 : ((l0.length : Int) != (clsB k).size + 1) = true := by rw [bne_iff_ne]; omega
          have hE6 := Lib.hid (show instr l0 = (z48, false) by rw [HI.out]; unfold instrN; rw [if_neg hlen])
          have z0 := (blk_cell b6.out 0).trans rfl
          have z1 := (blk_cell b6.out 1).trans rfl
          have z2 := (blk_cell b6.out 2).trans rfl
          have z3 := (blk_cell b6.out 3).trans rfl
          have z4 := (blk_cell b6.out 4).trans rfl
          have zf := blk_frozen b6.out
          clear hlen
          go_wp2
          refine bodyPost_ret (results_ct rfl _ _ w.heap.size 48 #[.int .u8 0, .int .i64 0, .int .i64 0, .int .i64 0, .int .i64 0] (0, 0) _ rfl (blk_put5 b6.out) Tryd.underlying48 rfl size48) rfl ?_
          exact ⟨end_of hE6.out, below_put5 hB6.out (Nat.le_refl _)⟩
    · obtain rfl : k = 30 := by omega
      have hE6 := Lib.hid (HMISS.out hne.out)
      have z0 := (blk_cell b0.out 0).trans rfl
      have z1 := (blk_cell b0.out 1).trans rfl
      have z2 := (blk_cell b0.out 2).trans rfl
      have z3 := (blk_cell b0.out 3).trans rfl
      have z4 := (blk_cell b0.out 4).trans rfl
      have zf := blk_frozen b0.out
      go_wp2
      refine bodyPost_ret (results_ct rfl _ _ w.heap.size 48 #[.int .u8 0, .int .i64 0, .int .i64 0, .int .i64 0, .int .i64 0] (0, 0) _ rfl (blk_put5 b0.out) Tryd.underlying48 rfl size48) rfl ?_
      exact ⟨end_of hE6.out, below_put5 hB.out (Nat.le_refl _)⟩
theorem joinTail_len (M : Nat) : ∀ l : List (List UInt8), (∀ s ∈ l, s.length ≤ M) → (Lib.joinTail [32] l).length ≤ l.length * (M + 1)
  | [], _ => by simp [Lib.joinTail]
  | x :: l, h => by
    have h1 := joinTail_len M l (fun s hs => h s (List.mem_cons_of_mem _ hs))
    have h2 := h x List.mem_cons_self
    have h3 : (l.length + 1) * (M + 1) = l.length * (M + 1) + (M + 1) := by rw [Nat.add_mul, Nat.one_mul]
    unfold Lib.joinTail at h1 ⊢
    simp only [List.map_cons, List.flatten_cons, List.length_append, List.length_cons, List.length_nil, h3]
    omega
theorem join_len (M : Nat) (l : List (List UInt8)) (h : ∀ s ∈ l, s.length ≤ M) : (Lib.join l [32]).length ≤ l.length * (M + 1) := by
  cases l with
  | nil => simp [Lib.join_nil]
  | cons x l =>
    have h1 := joinTail_len M l (fun s hs => h s (List.mem_cons_of_mem _ hs))
    have h2 := h x List.mem_cons_self
    have h3 : (l.length + 1) * (M + 1) = l.length * (M + 1) + (M + 1) := by rw [Nat.add_mul, Nat.one_mul]
    rw [Lib.join_cons]
    simp only [List.length_append, List.length_cons, h3]
    omega

/-- What asm.instruction answers. -/
def asm_instruction.f (l0 : List ByteArray) : Option (Int × Int × Int × Int × Int × Bool) :=
  if 0 < l0.length ∧ l0.length ≤ 100000 ∧ (∀ s ∈ l0, s.size ≤ 100000) then some ((instr l0).1.f0, (instr l0).1.f1, (instr l0).1.f2, (instr l0).1.f3, (instr l0).1.f4, (instr l0).2) else none
theorem asm_instruction.calls (A0 : Option Addr) (c0 : Nat) (l0 : List ByteArray) (r1 : Int) (r2 : Int) (r3 : Int) (r4 : Int) (r5 : Int) (r6 : Bool) (w : World) (hr0 : Kd.C Kd.string w A0 l0.length l0) (hc0 : l0.length ≤ c0) (hE : Env w) (h : asm_instruction.f l0 = some (r1, r2, r3, r4, r5, r6)) :
    Calls Tryd.prog 35 #[.slice A0 l0.length c0] w fun e w' => e = .returned (.tuple #[.agg #[.int .u8 r1, .int .i64 r2, .int .i64 r3, .int .i64 r4, .int .i64 r5], .bool r6]) ∧ Below w.heap.size w w' := by
  unfold asm_instruction.f at h
  split at h
  · rename_i hc
    obtain ⟨h0, h1, h2⟩ := hc
    simp only [Option.some.injEq, Prod.mk.injEq] at h
    obtain ⟨rfl, rfl, rfl, rfl, rfl, rfl⟩ := h
    have hj := join_len 100000 (l0.map (·.data.toList)) (fun s hs => by
      obtain ⟨b, hb, rfl⟩ := List.mem_map.1 hs
      rw [size_list]
      exact h2 b hb)
    rw [List.length_map] at hj
    exact instr_any A0 c0 l0 h0 (fun s hs => by have := h2 s hs; omega) (by omega) (by omega) w hr0 hc0 hE
  · cases h

end Go.Proofs.YtchlcncffillbaaDoor.P
