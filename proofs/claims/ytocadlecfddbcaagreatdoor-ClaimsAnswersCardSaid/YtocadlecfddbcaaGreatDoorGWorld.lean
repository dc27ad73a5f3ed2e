/- What the world holds of the library's tables and variables while a call runs (TG), and that it stays. -/
import Derived.Test.YtocadlecfddbcaaGreatDoorShelf
namespace Go.Proofs.YtocadlecfddbcaaGreatDoor
open Go.RowKit
def TG (w : World) : Prop :=
  Lib.TabIs Tryz.prog w "strings.asciiSpace" .u8 Lib.asciiSpaceTab ∧ Lib.WhiteTab 1 w ∧ (∃ m, w.cell? ⟨2, 0, none⟩ = some (.int .i64 m)) ∧
  (∃ tp p, w.var? Tryz.prog "strconv.ErrSyntax" = some #[.iface tp p]) ∧ (∃ tp p, w.var? Tryz.prog "strconv.ErrRange" = some #[.iface tp p]) ∧ Lib.TabIs Tryz.prog w "internal/strconv.uint64pow10" .u64 Lib.pow10Tab
theorem var_below {P : Program} {w w' : World} {name : String} {cs : Array Value} (h : w.var? P name = some cs) (hb : Below w.heap.size w w') : w'.var? P name = some cs := by
  unfold World.var? at h ⊢
  cases hg : P.globalNamed name with
  | none => rw [hg] at h; simp at h
  | some g =>
    rw [hg] at h
    simp only [Option.bind_some] at h ⊢
    have hlt : g < w.heap.size := by
      rcases Nat.lt_or_ge g w.heap.size with q | q
      · exact q
      · rw [Array.getElem?_eq_none q] at h; simp at h
    rw [hb.block g hlt]
    exact h
theorem TG_below {w w' : World} (h : TG w) (hb : Below w.heap.size w w') : TG w' := by
  obtain ⟨h1, h2, ⟨m, h3⟩, ⟨t4, p4, h4⟩, ⟨t5, p5, h5⟩, h6⟩ := h
  exact ⟨var_below h1 hb, WhiteTab_below h2 hb, ⟨m, (hb.cell (World.block_lt_of_cell? w _ h3)).trans h3⟩, ⟨t4, p4, var_below h4 hb⟩, ⟨t5, p5, var_below h5 hb⟩, var_below h6 hb⟩
end Go.Proofs.YtocadlecfddbcaaGreatDoor
