/- How large an operation is (dolmenalike.Op), in plain words. -/
import Derived.Test.YtcbmbjapcpbnnaaGreatDoorG0
import Derived.Test.YtcbmbjapcpbnnaaGreatDoorG11
import Derived.Test.YtcbmbjapcpbnnaaGreatDoorPuHist1
namespace Go.Proofs.YtcbmbjapcpbnnaaGreatDoor.G
open Go Go.RowKit Go.Proofs.YtcbmbjapcpbnnaaGreatDoorW.PrintWords Go.Proofs.YtcbmbjapcpbnnaaGreatDoorW.PrintLast
set_option linter.unusedVariables false
set_option linter.unusedSimpArgs false

theorem sum_three (a b c k : Nat) (ha : a ≤ 9223372036854775807) (hb : b ≤ 9223372036854775807) (hc : c ≤ 9223372036854775807) (hk : 4 ≤ k) :
    ∃ r : Nat, dolmenalike_Sum.f k 1 ([(a : Int), (b : Int), (c : Int)] : List Int) = some (r : Int) ∧ (r < 1099511627776 → r = 1 + a + b + c) := by
  obtain ⟨k, rfl⟩ : ∃ j, k = j + 4 := ⟨k - 4, by omega⟩
  have h0 : rd ([(a : Int), (b : Int), (c : Int)] : List Int) 0 = (a : Int) := rfl
  have h1 : rd ([(a : Int), (b : Int), (c : Int)] : List Int) 1 = (b : Int) := rfl
  have h2 : rd ([(a : Int), (b : Int), (c : Int)] : List Int) 2 = (c : Int) := rfl
  have w0 : wrap64 ((0 : Int) + 1) = 1 := IntWalk.wrap64_in _ (by omega)
  have w1 : wrap64 ((1 : Int) + 1) = 2 := IntWalk.wrap64_in _ (by omega)
  have w2 : wrap64 ((2 : Int) + 1) = 3 := IntWalk.wrap64_in _ (by omega)
  have v0 : wrap64 (1099511627776 - (1 : Int)) = 1099511627775 := IntWalk.wrap64_in _ (by omega)
  have hl : ((([(a : Int), (b : Int), (c : Int)] : List Int).length : Nat) : Int) = 3 := rfl
  unfold dolmenalike_Sum.f
  rw [dolmenalike_Sum.l0, hl, if_pos (by decide), if_neg (by decide), if_pos (by decide), h0, v0, w0]
  clear v0 w0 h0
  by_cases g1 : (a : Int) > 1099511627775
  · rw [if_pos g1]; exact ⟨1099511627776, rfl, fun h => absurd h (by decide)⟩
  rw [if_neg g1]
  have a1 : wrap64 (1 + (a : Int)) = ((1 + a : Nat) : Int) := by rw [IntWalk.wrap64_in _ (by omega)]; omega
  rw [a1]
  clear a1
  have a2 : wrap64 (1099511627776 - ((1 + a : Nat) : Int)) = 1099511627776 - ((1 + a : Nat) : Int) := IntWalk.wrap64_in _ (by omega)
  have c1 : ¬ (((1 + a : Nat) : Int) > 1099511627776) := by omega
  rw [dolmenalike_Sum.l0, hl, if_pos (by decide), if_neg c1, if_pos (by decide), h1, a2, w1]
  clear a2 w1 h1
  by_cases g2 : (b : Int) > 1099511627776 - ((1 + a : Nat) : Int)
  · rw [if_pos g2]; exact ⟨1099511627776, rfl, fun h => absurd h (by decide)⟩
  rw [if_neg g2]
  have a1 : wrap64 (((1 + a : Nat) : Int) + (b : Int)) = ((1 + a + b : Nat) : Int) := by rw [IntWalk.wrap64_in _ (by omega)]; omega
  rw [a1]
  clear a1
  have a2 : wrap64 (1099511627776 - ((1 + a + b : Nat) : Int)) = 1099511627776 - ((1 + a + b : Nat) : Int) := IntWalk.wrap64_in _ (by omega)
  have c1 : ¬ (((1 + a + b : Nat) : Int) > 1099511627776) := by omega
  rw [dolmenalike_Sum.l0, hl, if_pos (by decide), if_neg c1, if_pos (by decide), h2, a2, w2]
  clear a2 w2 h2
  by_cases g3 : (c : Int) > 1099511627776 - ((1 + a + b : Nat) : Int)
  · rw [if_pos g3]; exact ⟨1099511627776, rfl, fun h => absurd h (by decide)⟩
  rw [if_neg g3]
  have a1 : wrap64 (((1 + a + b : Nat) : Int) + (c : Int)) = ((1 + a + b + c : Nat) : Int) := by rw [IntWalk.wrap64_in _ (by omega)]; omega
  rw [a1]
  clear a1
  rw [dolmenalike_Sum.l0, hl, if_neg (by decide)]
  exact ⟨1 + a + b + c, rfl, fun _ => rfl⟩
theorem bind_at {α β : Type} {o : Option α} {x : α} {f : α → Option β} (h : o = some x) : o.bind f = f x := by rw [h]; rfl
end Go.Proofs.YtcbmbjapcpbnnaaGreatDoor.G
