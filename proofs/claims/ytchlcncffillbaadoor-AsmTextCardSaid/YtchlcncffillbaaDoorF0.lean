/- The frame of the nine rows: what the listed variables give, the witness world, how the arguments open. -/
import Derived.Test.YtchlcncffillbaaDoorCards
import Derived.Test.YtchlcncffillbaaDoorTie
import Derived.Test.YtchlcncffillbaaDoorP0
import Derived.Test.YtchlcncffillbaaDoorE0
import Derived.WalkKit
import Derived.ProofKit
import Derived.OpenShut
import Derived.ShutString
import Derived.ChangeOld
import Derived.Deep.DeepHandedRow
import Derived.Deep.DeepWitnessRowRef
import Derived.Deep.Slices
import Derived.Lib.LaidIn
import Derived.Lib.LaidU8
import Derived.Shelf.Vars
import Derived.SizedLaws
import Derived.DataShut
namespace Go.Proofs.YtchlcncffillbaaDoor.F
open Go.ChangeShapes Go.WideShapes Go.ChangeAt Go.RowKit
open Go.ChangeMaps (open_string shut_string)
open Go.Proofs.YtchlcncffillbaaDoor.P Go.Proofs.YtchlcncffillbaaDoorW.PrintWords

set_option maxRecDepth 100000
theorem own : ownKnob Tryd.prog.godebug = none := by kernel_rfl
theorem laidOut : laidOutB Tryd.prog = true := by kernel_rfl

/-- The list of the rows. -/
def LL : List (String × DataW Unit) := [("math/bits.deBruijn32tab", Rows.laid_math_bits_deBruijn32tab), ("math/bits.deBruijn64tab", Rows.laid_math_bits_deBruijn64tab), ("internal/strconv.uint64pow10", Rows.laid_internal_strconv_uint64pow10), ("unicode/utf8.acceptRanges", Rows.laid_unicode_utf8_acceptRanges), ("strconv.ErrRange", Rows.laid_strconv_ErrRange), ("strconv.ErrSyntax", Rows.laid_strconv_ErrSyntax), ("unicode/utf8.first", Rows.laid_unicode_utf8_first)]

theorem iface_of_reads {W : World} {n nm : String} {d : DataW Unit} {g : Nat} (hg : Tryd.prog.globalNamed n = some g) (hty : (Tryd.prog.globals[g]?).map (·.type) = some 59) {ms : Array (String × TypeId)} (hu : Tryd.prog.underlying 59 = some (.interface ms))
    (h : Lib.VarReads Tryd.prog W n (.iface nm d)) : ∃ tp p, W.var? Tryd.prog n = some #[.iface tp p] := by
  obtain ⟨g', t', cs, fuel, p, hg', ht', hvar, hd⟩ := h
  obtain rfl := Option.some.inj (hg.symm.trans hg')
  obtain rfl := Option.some.inj (hty.symm.trans ht')
  cases fuel with
  | zero => simp [DataW.trod] at hd
  | succ fuel =>
    unfold DataW.trod at hd
    rw [hu] at hd
    split at hd <;> simp_all
    obtain ⟨cs⟩ := cs
    simp_all

theorem tab_of_reads {W : World} {name : String} {k : IntKind} {zs : List Int} {g : Nat} {t e : TypeId} {n : Nat}
    (hg : Tryd.prog.globalNamed name = some g) (hty : (Tryd.prog.globals[g]?).map (·.type) = some t) (ht : Tryd.prog.underlying t = some (.array n e)) (he : Tryd.prog.underlying e = some (.int k)) (hce : Tryd.prog.cellsOf e = 1) (hct : Tryd.prog.cellsOf t = n)
    (h : Lib.VarReads Tryd.prog W name (Lib.tabData k zs)) : Lib.TabIs Tryd.prog W name k zs := by
  obtain ⟨g', t', cs, fuel, p, hg', ht', hvar, hd⟩ := h
  obtain rfl := Option.some.inj (hg.symm.trans hg')
  obtain rfl := Option.some.inj (hty.symm.trans ht')
  unfold Lib.TabIs
  rw [hvar, ← Lib.cells_of_tab ht he hce hct hd]

/-- WHAT THE ROW's LIST AND THE WORLD's SHAPE GIVE. -/
theorem env {W : World} (hL : laidMetH Tryd.prog LL W) (hS : W.ShapedOpen Tryd.prog) : Env W where
  maxLen := Go.Proofs.cell_of_shapedOpen_int (zero := #[.int .i64 0]) (t := 3) hS (of_decide_eq_true (by kernel_rfl)) (by kernel_rfl) rfl (by kernel_rfl) (by kernel_rfl) Tryd.underlying3
  pow10 := tab_of_reads (g := 5) (t := 146) (e := 131) (n := 20) (by kernel_rfl) (by kernel_rfl) (by kernel_rfl) (by kernel_rfl) (by kernel_rfl) (by kernel_rfl) (Lib.laidMet.reads hL (.tail _ (.tail _ (.head _))))
  errRange := iface_of_reads (g := 4) (by kernel_rfl) (by kernel_rfl) Tryd.underlying59 (Lib.laidMet.reads hL (.tail _ (.tail _ (.tail _ (.tail _ (.head _))))))
  errSyntax := iface_of_reads (g := 3) (by kernel_rfl) (by kernel_rfl) Tryd.underlying59 (Lib.laidMet.reads hL (.tail _ (.tail _ (.tail _ (.tail _ (.tail _ (.head _)))))))

/-! ### A world for the witness -/
noncomputable abbrev N0 : Nat := (World.settled Tryd.prog default).heap.size
def litV {H : Type} : DataW H → List Value
  | .lit (.int k n) => [.int k n]
  | _ => []
def flat1 {H : Type} : DataW H → List Value
  | .agg ds => ds.flatMap litV
  | d => litV d
def flat {H : Type} : DataW H → Array Value
  | .agg ds => (ds.flatMap flat1).toArray
  | _ => #[]
noncomputable def laidWorld (os : Os) : World :=
  let N := (World.settled Tryd.prog os).heap.size
  let w0 := World.holding Tryd.prog os ⟨#[.cells #[.string ⟨#[118, 97, 108, 117, 101, 32, 111, 117, 116, 32, 111, 102, 32, 114, 97, 110, 103, 101]⟩] 153, .cells #[.string ⟨#[105, 110, 118, 97, 108, 105, 100, 32, 115, 121, 110, 116, 97, 120]⟩] 153], #[], []⟩
  let put (h : Array Obj) (g : Nat) (cs : Array Value) : Array Obj := h.modify g fun
    | .cells _ t frozen => .cells cs t frozen
    | o => o
  let h1 := put w0.heap 1 (flat (H := Unit) Go.Pinned.utf8First)
  let h2 := put h1 2 (flat (H := Unit) Rows.laid_unicode_utf8_acceptRanges)
  let h3 := put h2 3 #[.iface 151 (.pointer (some ⟨N + 1, 0, none⟩))]
  let h4 := put h3 4 #[.iface 151 (.pointer (some ⟨N, 0, none⟩))]
  let h5 := put h4 5 (flat (H := Unit) Rows.laid_internal_strconv_uint64pow10)
  let h6 := put h5 6 (flat (H := Unit) Rows.laid_math_bits_deBruijn32tab)
  let h7 := put h6 7 (flat (H := Unit) Rows.laid_math_bits_deBruijn64tab)
  { w0 with heap := h7 }
theorem p0 (os : Os) (args : Array Value) : LaidIn Tryd.prog ((laidWorld os).forCall (fun _ _ => 0) ⟨#[], args, []⟩).memory [("math/bits.deBruijn32tab", Rows.laid_math_bits_deBruijn32tab), ("math/bits.deBruijn64tab", Rows.laid_math_bits_deBruijn64tab), ("internal/strconv.uint64pow10", Rows.laid_internal_strconv_uint64pow10), ("unicode/utf8.acceptRanges", Rows.laid_unicode_utf8_acceptRanges)] [6, 7, 5, 2] :=
  LaidIn.of_run [6, 7, 5, 2] 8 (by kernel_rfl) (by kernel_rfl) (by kernel_rfl) (by kernel_rfl)
theorem p1 (os : Os) (args : Array Value) : LaidIn Tryd.prog ((laidWorld os).forCall (fun _ _ => 0) ⟨#[], args, []⟩).memory [("strconv.ErrRange", Rows.laid_strconv_ErrRange), ("strconv.ErrSyntax", Rows.laid_strconv_ErrSyntax)] [4, N0, 3, N0 + 1] :=
  LaidIn.of_run [4, N0, 3, N0 + 1] 8 (by kernel_rfl) (by kernel_rfl) (by kernel_rfl) (by kernel_rfl)
theorem p2 (os : Os) (args : Array Value) : LaidIn Tryd.prog ((laidWorld os).forCall (fun _ _ => 0) ⟨#[], args, []⟩).memory [("unicode/utf8.first", Rows.laid_unicode_utf8_first)] [1] :=
  LaidIn.of_run [1] 8 (by kernel_rfl) (by kernel_rfl) (by kernel_rfl) (by kernel_rfl)
theorem laid_met (os : Os) (args : Array Value) : laidMet Tryd.prog LL ((laidWorld os).forCall (fun _ _ => 0) ⟨#[], args, []⟩).memory :=
  (((p0 os args).append (p1 os args) (by kernel_rfl)).append (p2 os args) (by kernel_rfl)).met

/-! ### How the arguments open -/
def okI (x : S48) : Prop := (0 ≤ x.f0 ∧ x.f0 < 256) ∧ (-9223372036854775808 ≤ x.f1 ∧ x.f1 < 9223372036854775808) ∧ (-9223372036854775808 ≤ x.f2 ∧ x.f2 < 9223372036854775808) ∧ (-9223372036854775808 ≤ x.f3 ∧ x.f3 < 9223372036854775808) ∧ (-9223372036854775808 ≤ x.f4 ∧ x.f4 < 9223372036854775808)

instance : Inhabited S48 := ⟨z48⟩
theorem instr_of_trod {H : Type} {enc : TypeId × Value → H} {W : World} {n : Nat} {cs : List Value} {x : DataW H × List MemPlace} (h : DataW.trod enc Tryd.prog W 0 (fun _ => true) true n 48 cs = some x) :
    ∃ y : S48, okI y ∧ cs = [.int .u8 y.f0, .int .i64 y.f1, .int .i64 y.f2, .int .i64 y.f3, .int .i64 y.f4] := by
  obtain ⟨xs, m, _, _, hl, hs, hf⟩ := DataW.trod_struct Tryd.underlying48 h
  rw [show Tryd.prog.cellsOf 48 = 5 by kernel_rfl] at hl
  have c1 : Tryd.prog.cellsOf 5 = 1 := by kernel_rfl
  have c2 : Tryd.prog.cellsOf 3 = 1 := by kernel_rfl
  obtain ⟨a, b, c, d, e, rfl⟩ : ∃ a b c d e, cs = [a, b, c, d, e] := by
    match cs, hl with
    | [a, b, c, d, e], _ => exact ⟨_, _, _, _, _, rfl⟩
  have g : ∀ i, i < 5 → ∃ y, xs[i]? = some y := fun i hi => ⟨xs[i]'(by rw [hs]; exact hi), List.getElem?_eq_getElem _⟩
  have f0 : DataW.trod enc Tryd.prog W 0 (fun _ => true) true m 5 (List.take (Tryd.prog.cellsOf 5) (List.drop 0 [a, b, c, d, e])) = xs[0]? := hf 0 _ rfl
  have f1 : DataW.trod enc Tryd.prog W 0 (fun _ => true) true m 3 (List.take (Tryd.prog.cellsOf 3) (List.drop 1 [a, b, c, d, e])) = xs[1]? := hf 1 _ rfl
  have f2 : DataW.trod enc Tryd.prog W 0 (fun _ => true) true m 3 (List.take (Tryd.prog.cellsOf 3) (List.drop 2 [a, b, c, d, e])) = xs[2]? := hf 2 _ rfl
  have f3 : DataW.trod enc Tryd.prog W 0 (fun _ => true) true m 3 (List.take (Tryd.prog.cellsOf 3) (List.drop 3 [a, b, c, d, e])) = xs[3]? := hf 3 _ rfl
  have f4 : DataW.trod enc Tryd.prog W 0 (fun _ => true) true m 3 (List.take (Tryd.prog.cellsOf 3) (List.drop 4 [a, b, c, d, e])) = xs[4]? := hf 4 _ rfl
  obtain ⟨y0, e0⟩ := g 0 (by decide)
  obtain ⟨y1, e1⟩ := g 1 (by decide)
  obtain ⟨y2, e2⟩ := g 2 (by decide)
  obtain ⟨y3, e3⟩ := g 3 (by decide)
  obtain ⟨y4, e4⟩ := g 4 (by decide)
  rw [e0] at f0
  rw [e1] at f1
  rw [e2] at f2
  rw [e3] at f3
  rw [e4] at f4
  simp only [c1, c2] at f0 f1 f2 f3 f4
  simp only [List.drop_zero, List.drop_succ_cons, List.take_succ_cons, List.take_zero] at f0 f1 f2 f3 f4
  obtain ⟨n0, h0, _, w0⟩ := DataW.trod_int Tryd.underlying5 f0
  obtain ⟨n1, h1, _, w1⟩ := DataW.trod_int Tryd.underlying3 f1
  obtain ⟨n2, h2, _, w2⟩ := DataW.trod_int Tryd.underlying3 f2
  obtain ⟨n3, h3, _, w3⟩ := DataW.trod_int Tryd.underlying3 f3
  obtain ⟨n4, h4, _, w4⟩ := DataW.trod_int Tryd.underlying3 f4
  simp only [List.cons.injEq, and_true] at h0 h1 h2 h3 h4
  subst h0 h1 h2 h3 h4
  refine ⟨⟨n0, n1, n2, n3, n4⟩, ?_, rfl⟩
  rw [Lit.wf_int_iff] at w0 w1 w2 w3 w4
  simp only [IntKind.min_u8, IntKind.max_u8] at w0
  simp only [IntKind.min_i64, IntKind.max_i64] at w1 w2 w3 w4
  simp only [okI]
  omega

theorem open_instrs {H : Type} {enc : TypeId × Value → H} {W : World} {v : Value} {d : DataW H} {p : List MemPlace} {base : Nat} (hok : Value.okWide Tryd.prog W .any base 22 v) (h : DataW.Trod enc Tryd.prog W 0 (fun _ => true) true 22 v d p) :
    ∃ (A : Option Addr) (l : List S48) (c : Nat), v = .slice A l.length c ∧ l.length ≤ c ∧ Kd.C k48 W A l.length l ∧ ∀ x ∈ l, okI x := by
  obtain ⟨a, len, cap, rfl⟩ := okWide_slice Tryd.underlying22 hok
  obtain ⟨fuel, hf⟩ := h
  rcases Go.Deep.open_slice Tryd.underlying22 hf with ⟨hcs, _⟩ | ⟨x, len', cap', m, n, D, Pl, hcs, _, hl, hm, hmm, _, hx⟩
  · simp [Value.cells] at hcs
    obtain ⟨rfl, rfl, rfl⟩ := hcs
    exact ⟨none, [], 0, rfl, Nat.le_refl _, ⟨rfl, by decide, fun h => absurd h (by decide)⟩, by simp⟩
  · simp [Value.cells] at hcs
    obtain ⟨rfl, rfl, rfl⟩ := hcs
    simp only [if_true] at hmm
    subst hmm
    rw [show Tryd.prog.cellsOf 48 = 5 by kernel_rfl] at hx
    obtain ⟨f, hfn⟩ := Go.Deep.choose_lt (α := S48) (p := fun i y => okI y ∧ W.cells? 0 (x.add (i * 5)) 5 = some [.int .u8 y.f0, .int .i64 y.f1, .int .i64 y.f2, .int .i64 y.f3, .int .i64 y.f4]) (fun i hi => by
      obtain ⟨cs', h1, h2⟩ := hx i hi
      obtain ⟨y, hy, rfl⟩ := instr_of_trod h2
      exact ⟨y, hy, h1⟩)
    have hlen : ((List.range len).map f).length = len := by simp
    refine ⟨some x, (List.range len).map f, m, by rw [hlen], by rw [hlen]; exact hl, ?_, ?_⟩
    · rw [hlen]
      refine ⟨hlen, by unfold maxLen at hm; omega, fun h0 => ⟨x, rfl, fun j p hp => ?_⟩⟩
      have hj : j < len := by
        have := (List.getElem?_eq_some_iff.1 hp).1
        simpa using this
      obtain rfl : f j = p := by simpa [hj] using hp
      obtain ⟨_, h2⟩ := hfn j (by omega)
      refine ⟨_, rfl, k48_mk W (f j), fun i u hu => ?_⟩
      obtain ⟨_, hlen5, hcell⟩ := World.cells?_some h2
      have hi : i < 5 := by
        have := (List.getElem?_eq_some_iff.1 hu).1
        simpa using this
      have := hcell i hi
      rw [hu] at this
      rw [← Go.Deep.add_add]
      exact this
    · intro y hy
      obtain ⟨j, hj, rfl⟩ := List.mem_map.1 hy
      exact (hfn j (by have := List.mem_range.1 hj; omega)).1

end Go.Proofs.YtchlcncffillbaaDoor.F
