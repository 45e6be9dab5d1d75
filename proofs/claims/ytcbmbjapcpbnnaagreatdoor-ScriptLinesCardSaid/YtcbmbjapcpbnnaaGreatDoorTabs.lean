/- What the library's numerals want of the world: the table of tens, the two errors of strconv; they stay while blocks stay. -/
import Derived.Test.YtcbmbjapcpbnnaaGreatDoorG0
import Derived.Test.YtcbmbjapcpbnnaaGreatDoorWWords
import Derived.Test.YtcbmbjapcpbnnaaGreatDoorProg
import Derived.Lib.LaidTab
import Derived.Lib.ItoaMem
import Derived.Below
namespace Go.Proofs.YtcbmbjapcpbnnaaGreatDoor.G
open Go Go.RowKit
theorem var_after {P : Program} {n : String} {g : Nat} {w w' : World} {cs : Array Value} (hg : P.globalNamed n = some g) (h : w.var? P n = some cs) (hb : Below w.heap.size w w') : w'.var? P n = some cs := by
  unfold World.var? at h ⊢
  rw [hg] at h ⊢
  simp only [Option.bind_some] at h ⊢
  have hlt : g < w.heap.size := by
    rcases Nat.lt_or_ge g w.heap.size with h' | h'
    · exact h'
    · rw [Array.getElem?_eq_none h'] at h; cases h
  rw [hb.block g hlt]
  exact h
structure Tabs (w : World) : Prop where
  tens : Lib.TabIs Tryz.prog w "internal/strconv.uint64pow10" .u64 Lib.pow10Tab
  syn : ∃ t p, w.var? Tryz.prog "strconv.ErrSyntax" = some #[.iface t p]
  rng : ∃ t p, w.var? Tryz.prog "strconv.ErrRange" = some #[.iface t p]
theorem Tabs.after {w w' : World} (h : Tabs w) (hb : Below w.heap.size w w') : Tabs w' :=
  ⟨var_after (g := (Tryz.prog.globalNamed "internal/strconv.uint64pow10").getD 0) (by kernel_rfl) h.tens hb,
    by obtain ⟨t, p, h⟩ := h.syn; exact ⟨t, p, var_after (g := (Tryz.prog.globalNamed "strconv.ErrSyntax").getD 0) (by kernel_rfl) h hb⟩,
    by obtain ⟨t, p, h⟩ := h.rng; exact ⟨t, p, var_after (g := (Tryz.prog.globalNamed "strconv.ErrRange").getD 0) (by kernel_rfl) h hb⟩⟩
end Go.Proofs.YtcbmbjapcpbnnaaGreatDoor.G
