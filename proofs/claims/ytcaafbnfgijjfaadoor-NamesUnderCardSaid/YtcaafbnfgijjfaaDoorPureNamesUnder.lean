/- NamesUnder: a path stands under itself and the root; under what stands under another one, it stands under that, too. For every three texts; no condition. -/
import Derived.Test.YtcaafbnfgijjfaaDoorG0
import Derived.Test.YtcaafbnfgijjfaaDoorG7
import Derived.Test.YtcaafbnfgijjfaaDoorPuNames
namespace Go.Proofs.YtcaafbnfgijjfaaDoor.Pure
open Go.RowKit Go.Proofs.YtcaafbnfgijjfaaDoor.G Go.Proofs.YtcaafbnfgijjfaaDoorW.PrintWords Go.Proofs.YtcaafbnfgijjfaaDoorW.PrintLast

theorem under_self (a : ByteArray) : underB a a = (splitR a).2.isNone := by unfold underB; simp
theorem under_root (a : ByteArray) : underB a (⟨#[47]⟩ : ByteArray) = (splitR a).2.isNone := by
  have : splitR (⟨#[47]⟩ : ByteArray) = ([], none) := by decide +kernel
  unfold underB; rw [this]; simp
theorem under_iff (p q : ByteArray) : underB p q = true ↔ (splitR p).2 = none ∧ (splitR q).2 = none ∧ (splitR p).1.take (splitR q).1.length = (splitR q).1 := by
  unfold underB; simp [and_assoc]
theorem under_trans (a b c : ByteArray) (h : underB a b = true) (k : underB b c = true) : underB a c = true := by
  rw [under_iff] at *
  obtain ⟨h1, h2, h3⟩ := h
  obtain ⟨_, k2, k3⟩ := k
  refine ⟨h1, k2, ?_⟩
  have hl : (splitR c).1.length ≤ (splitR b).1.length := by rw [← k3, List.length_take]; exact Nat.min_le_right _ _
  rw [← k3, ← h3, List.take_take, List.length_take]
  congr 1
  have hl2 : (splitR b).1.length ≤ (splitR a).1.length := by rw [← h3, List.length_take]; exact Nat.min_le_right _ _
  omega
/-- A path whose names are told is put together of them. -/
theorem under_anti (a b : ByteArray) (h : underB a b = true) (k : underB b a = true) : a = b := by
  rw [under_iff] at *
  obtain ⟨h1, h2, h3⟩ := h
  obtain ⟨_, k2, k3⟩ := k
  have hl : (splitR a).1.length ≤ (splitR b).1.length := by rw [← k3, List.length_take]; exact Nat.min_le_right _ _
  have he : (splitR a).1 = (splitR b).1 := by rw [← h3, List.take_of_length_le hl]
  exact split_inj a b h1 h2 he
theorem j1_f (a b : ByteArray) (x : Bool) (hx : x = underB a b) (k : Nat) (hk : 61 ≤ k) : dolmenlaw4_NamesUnder.j1 k a b x false = some true := by
  obtain ⟨k, rfl⟩ : ∃ m, k = m + 1 := ⟨k - 1, by omega⟩
  simp only [dolmenlaw4_NamesUnder.j1]
  rw [if_neg (by decide)]
  have ha := awake_f k (by omega)
  by_cases h : x = true
  · rw [if_pos h, under_f b a k (by omega)]
    simp only [Option.bind_some]
    by_cases h2 : underB b a = true
    · rw [if_pos h2, if_pos (toL_inj.2 (under_anti a b (by rw [← hx]; exact h) h2)), ha]; rfl
    · rw [if_neg h2, ha]; rfl
  · rw [if_neg h, ha]; rfl
theorem j0_f (a b c : ByteArray) (y : Bool) (k : Nat) (hk : 62 ≤ k) : dolmenlaw4_NamesUnder.j0 k a b c y = some true := by
  obtain ⟨k, rfl⟩ : ∃ m, k = m + 1 := ⟨k - 1, by omega⟩
  simp only [dolmenlaw4_NamesUnder.j0]
  have ha := awake_f k (by omega)
  have hj := j1_f a b (underB a b) rfl k (by omega)
  rw [ha, split_f, under_f a b k (by omega), under_f a a k (by omega), under_f a ⟨#[47]⟩ k (by omega), under_f b c k (by omega), under_f a c k (by omega), under_self, under_root]
  simp only [Option.bind_some]
  cases hn : (splitR a).2 with
  | none =>
    simp only [Option.isNone_none, if_true, bne_self_eq_false, Bool.false_eq_true, if_false]
    by_cases hx : underB a b = true
    · rw [if_pos hx]
      by_cases h2 : underB b c = true
      · rw [if_pos h2, under_trans a b c hx h2]
        simp only [Bool.not_true]
        rw [hj]; simp
      · rw [if_neg h2, hj]; simp
    · rw [if_neg hx, hj]; simp
  | some e =>
    simp only [Option.isNone_some, bne_self_eq_false, Bool.false_eq_true, if_false]
    have hx : underB a b = false := by unfold underB; rw [hn]; simp
    rw [hx] at hj
    simp [hx, hj]
theorem NamesUnder : dolmenlaw4_NamesUnder.Pure := by
  intro a b c _ _ _
  refine ⟨100, ?_⟩
  unfold dolmenlaw4_NamesUnder.f
  rw [j0_f _ _ _ _ 100 (by decide), j0_f _ _ _ _ 100 (by decide)]
  simp
end Go.Proofs.YtcaafbnfgijjfaaDoor.Pure
