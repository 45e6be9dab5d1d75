/- The printed alike.Sum of two numbers. -/
import Derived.Test.YtcaafbnfgijjfaaDoorG0
import Derived.Test.YtcaafbnfgijjfaaDoorG12
import Derived.IntWalk
namespace Go.Proofs.YtcaafbnfgijjfaaDoor.G
open Go.RowKit Go.Proofs.YtcaafbnfgijjfaaDoorW.PrintWords Go.Proofs.YtcaafbnfgijjfaaDoorW.PrintLast
set_option linter.unusedVariables false

theorem sum_two (n : Nat) (m k : Nat) (hn : n ≤ 140737488351232) (hk : 3 ≤ k) (hm : m ≤ 9223372036854775807) :
    ∃ r : Nat, dolmenalike_Sum.f k (n : Int) ([(m : Int), 1] : List Int) = some (r : Int) ∧ (r ≤ 1000 → r = n + m + 1) := by
  obtain ⟨k, rfl⟩ : ∃ j, k = j + 3 := ⟨k - 3, by omega⟩
  have h0 : rd ([(m : Int), 1] : List Int) 0 = (m : Int) := rfl
  have h1 : rd ([(m : Int), 1] : List Int) 1 = 1 := rfl
  have w0 : wrap64 ((0 : Int) + 1) = 1 := IntWalk.wrap64_in _ (by omega)
  have w1 : wrap64 ((1 : Int) + 1) = 2 := IntWalk.wrap64_in _ (by omega)
  have a1 : wrap64 (1099511627776 - (n : Int)) = 1099511627776 - (n : Int) := IntWalk.wrap64_in _ (by omega)
  have hl : ((([(m : Int), 1] : List Int).length : Nat) : Int) = 2 := rfl
  unfold dolmenalike_Sum.f
  rw [dolmenalike_Sum.l0, hl, if_pos (by omega), h0, a1]
  clear a1
  by_cases hbig : (n : Int) > 1099511627776
  · rw [if_pos hbig]; exact ⟨1099511627776, rfl, fun h => absurd h (by decide)⟩
  rw [if_neg hbig, if_pos (by omega)]
  by_cases h : (m : Int) > 1099511627776 - (n : Int)
  · rw [if_pos h]; exact ⟨1099511627776, rfl, fun h => absurd h (by decide)⟩
  · rw [if_neg h, w0]
    have a2 : wrap64 ((n : Int) + (m : Int)) = ((n + m : Nat) : Int) := by rw [IntWalk.wrap64_in _ (by omega)]; omega
    rw [a2]
    clear a2
    have a3 : wrap64 (1099511627776 - ((n + m : Nat) : Int)) = 1099511627776 - ((n + m : Nat) : Int) := IntWalk.wrap64_in _ (by omega)
    have a4 : wrap64 (((n + m : Nat) : Int) + 1) = ((n + m + 1 : Nat) : Int) := by rw [IntWalk.wrap64_in _ (by omega)]; omega
    rw [dolmenalike_Sum.l0, hl, if_pos (by omega), if_neg (by omega), if_pos (by omega), h1, a3, a4, w1]
    clear a3 a4
    by_cases h2 : (1 : Int) > 1099511627776 - ((n + m : Nat) : Int)
    · rw [if_pos h2]; exact ⟨1099511627776, rfl, fun h => absurd h (by decide)⟩
    · rw [if_neg h2, dolmenalike_Sum.l0, hl, if_neg (by omega)]
      exact ⟨n + m + 1, rfl, fun _ => rfl⟩
end Go.Proofs.YtcaafbnfgijjfaaDoor.G
