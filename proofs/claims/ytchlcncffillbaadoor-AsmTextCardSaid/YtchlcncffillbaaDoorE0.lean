/- What the proofs ask of the world: the package-level variables that the library's texts read; and that they stay as they are while new memory alone is made. -/
import Derived.Test.YtchlcncffillbaaDoorProg
import Derived.Below
import Derived.Lib.LaidTab
import Derived.Lib.ItoaNum
namespace Go.Proofs.YtchlcncffillbaaDoor
open Go.RowKit

/-- The variables that the code reads, as they are laid. -/
structure Env (w : World) : Prop where
  maxLen : ∃ m, w.cell? ⟨0, 0, none⟩ = some (.int .i64 m)
  pow10 : Lib.TabIs Tryd.prog w "internal/strconv.uint64pow10" .u64 Lib.pow10Tab
  errSyntax : ∃ tp p, w.var? Tryd.prog "strconv.ErrSyntax" = some #[.iface tp p]
  errRange : ∃ tp p, w.var? Tryd.prog "strconv.ErrRange" = some #[.iface tp p]

theorem cell_below {w w' : World} (hb : Below w.heap.size w w') {a : Addr} {v : Value} (h : w.cell? a = some v) : w'.cell? a = some v :=
  (hb.cell (World.block_lt_of_cell? w a h)).trans h

theorem var_below {P : Program} {w w' : World} (hb : Below w.heap.size w w') {n : String} {v : Array Value} (h : w.var? P n = some v) : w'.var? P n = some v := by
  unfold World.var? at *
  cases hg : P.globalNamed n with
  | none => simp [hg] at h
  | some g =>
    simp only [hg, Option.bind_some] at h ⊢
    have hlt : g < w.heap.size := by
      rcases Nat.lt_or_ge g w.heap.size with h' | h'
      · exact h'
      · rw [Array.getElem?_eq_none h'] at h
        simp at h
    rw [hb.block g hlt]
    exact h

theorem Env.below {w w' : World} (h : Env w) (hb : Below w.heap.size w w') : Env w' := by
  obtain ⟨⟨m, h1⟩, h2, ⟨t1, p1, h3⟩, ⟨t2, p2, h4⟩⟩ := h
  exact ⟨⟨m, cell_below hb h1⟩, var_below hb h2, ⟨t1, p1, var_below hb h3⟩, ⟨t2, p2, var_below hb h4⟩⟩

end Go.Proofs.YtchlcncffillbaaDoor
