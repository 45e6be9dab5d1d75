/- NamesAsks: any text is told to be a path, and its names, its parent, or why not; whether it stands under another one. For every two texts; no condition. -/
import Derived.Test.YtcaafbnfgijjfaaDoorG0
import Derived.Test.YtcaafbnfgijjfaaDoorG12
import Derived.Test.YtcaafbnfgijjfaaDoorPuRef1
namespace Go.Proofs.YtcaafbnfgijjfaaDoor.Pure
open Go.RowKit Go.Proofs.YtcaafbnfgijjfaaDoor.G Go.Proofs.YtcaafbnfgijjfaaDoorW.PrintWords Go.Proofs.YtcaafbnfgijjfaaDoorW.PrintLast

/-- A refusal's number is one of the nineteen. -/
theorem split_code (a : ByteArray) : dolmenalike_Code.f (splitR a).2 = some (codeOf (splitR a).2) := by
  unfold splitR restOf
  repeat' split
  all_goals rfl
theorem parent_code (a : ByteArray) : dolmenalike_Code.f (parentR a).2.2 = some (codeOf (parentR a).2.2) := by
  unfold parentR
  repeat' split
  · rfl
  · rfl
  · exact split_code a
theorem j0_f (p q : ByteArray) (x : Bool) (k : Nat) (hk : 300001 ≤ k) : dolmenlaw4_NamesAsks.j0 k p q x = some true := by
  obtain ⟨k, rfl⟩ : ∃ m, k = m + 1 := ⟨k - 1, by omega⟩
  have hl := split_len p
  rw [dolmenlaw4_NamesAsks.j0, awake_f k (by omega), split_f, refsplit_f p k (by omega), parent_f, refparent_f p k (by omega), under_f p q k (by omega), refunder_f p q k (by omega)]
  simp only [Option.bind_some]
  rw [texts_f _ _ k (by omega) (by omega), split_code, parent_code]
  simp [names_Less.f]
theorem NamesAsks : dolmenlaw4_NamesAsks.Pure := by
  intro p q _ _
  refine ⟨300001, ?_⟩
  unfold dolmenlaw4_NamesAsks.f
  rw [j0_f p q true _ (Nat.le_refl _), j0_f p q _ _ (Nat.le_refl _)]
  simp
end Go.Proofs.YtcaafbnfgijjfaaDoor.Pure
