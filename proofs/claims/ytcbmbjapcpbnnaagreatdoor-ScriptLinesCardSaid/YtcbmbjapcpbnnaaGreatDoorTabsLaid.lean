/- From a row's listed variables to what the library's numerals want of the world. -/
import Derived.Test.YtcbmbjapcpbnnaaGreatDoorG0
import Derived.Test.YtcbmbjapcpbnnaaGreatDoorRows
import Derived.Test.YtcbmbjapcpbnnaaGreatDoorTabs
import Derived.Stop.LaidErr
import Derived.LaidSub
import Derived.MakeChecks
namespace Go.Proofs.YtcbmbjapcpbnnaaGreatDoor.G
open Go Go.RowKit
theorem star_err : "*" ++ "errors.errorString" = "*errors.errorString" := by decide
theorem err_row (u : TypeId) (h : Tryz.prog.typeName? 3 u = some "*errors.errorString") : u = 165 :=
  typeName_ptr_named (nm := "errors.errorString") (by rw [star_err]; kernel_rfl) (by kernel_rfl) (by decide) u (by rw [star_err]; exact h)
theorem tabs_of_laid {W : World} (l : List (String × DataW Unit)) (h : laidMetH Tryz.prog l W) (hp : (l.all fun x => x.2.handleName?.isNone) = true)
    (h1 : ∃ r, l.filter (fun x => x.1 == "internal/strconv.uint64pow10") = ("internal/strconv.uint64pow10", Lib.tabData .u64 Lib.pow10Tab) :: r)
    (h2 : ∃ r, l.filter (fun x => x.1 == "strconv.ErrSyntax") = ("strconv.ErrSyntax", .iface "*errors.errorString" (.ptr (.agg [.lit (.string [105, 110, 118, 97, 108, 105, 100, 32, 115, 121, 110, 116, 97, 120])]))) :: r)
    (h3 : ∃ r, l.filter (fun x => x.1 == "strconv.ErrRange") = ("strconv.ErrRange", .iface "*errors.errorString" (.ptr (.agg [.lit (.string [118, 97, 108, 117, 101, 32, 111, 117, 116, 32, 111, 102, 32, 114, 97, 110, 103, 101])]))) :: r) : Tabs W := by
  rw [MakeChecks.laidMetH_plain _ _ _ hp] at h
  obtain ⟨r1, e1⟩ := h1
  obtain ⟨r2, e2⟩ := h2
  obtain ⟨r3, e3⟩ := h3
  have g1 := h.filter (fun x => x.1 == "internal/strconv.uint64pow10")
  have g2 := h.filter (fun x => x.1 == "strconv.ErrSyntax")
  have g3 := h.filter (fun x => x.1 == "strconv.ErrRange")
  rw [e1] at g1
  rw [e2] at g2
  rw [e3] at g3
  refine ⟨?_, ?_, ?_⟩
  · exact Lib.tabIs_of_head (g := (Tryz.prog.globalNamed "internal/strconv.uint64pow10").getD 0) (t := 153) (e := 101) (n := 20) (by kernel_rfl) (by kernel_rfl) Tryz.underlying153 Tryz.underlying101 (by kernel_rfl) (by kernel_rfl) g1
  · obtain ⟨a0, s0, hv0, _⟩ := laid_sentinel (g := (Tryz.prog.globalNamed "strconv.ErrSyntax").getD 0) g2 (by kernel_rfl) (by kernel_rfl) Tryz.underlying29 err_row Tryz.underlying165 Tryz.underlying167 rfl rfl Tryz.underlying9 (by kernel_rfl) (by kernel_rfl)
    exact ⟨_, _, hv0⟩
  · obtain ⟨a0, s0, hv0, _⟩ := laid_sentinel (g := (Tryz.prog.globalNamed "strconv.ErrRange").getD 0) g3 (by kernel_rfl) (by kernel_rfl) Tryz.underlying29 err_row Tryz.underlying165 Tryz.underlying167 rfl rfl Tryz.underlying9 (by kernel_rfl) (by kernel_rfl)
    exact ⟨_, _, hv0⟩
end Go.Proofs.YtcbmbjapcpbnnaaGreatDoor.G
