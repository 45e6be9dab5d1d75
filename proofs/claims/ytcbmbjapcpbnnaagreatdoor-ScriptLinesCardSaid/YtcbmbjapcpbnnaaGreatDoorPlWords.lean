/- Plain words: words with one sign between, parted again. -/
import Derived.Test.YtcbmbjapcpbnnaaGreatDoorPlNames
import Derived.Lib.ItoaNum
import Derived.Lib.Join
namespace Go.Proofs.YtcbmbjapcpbnnaaGreatDoor.G
open Go Go.Lib
set_option linter.unusedVariables false
theorem cut_join (c : UInt8) : ∀ (l : List (List UInt8)), l ≠ [] → (∀ x, x ∈ l → c ∉ x) → cutL c (Lib.join l [c]) = l
  | [], h, _ => absurd rfl h
  | [x], _, h => by rw [Lib.join_one]; exact cutL_no c x (h x (by simp))
  | x :: y :: l, _, h => by
    have ih := cut_join c (y :: l) (by simp) (fun z hz => h z (by simp [hz]))
    have e : Lib.join (x :: y :: l) [c] = x ++ c :: Lib.join (y :: l) [c] := by simp [Lib.join, List.intercalate]
    rw [e, cutL_at c x _ (h x (by simp)), ih]
theorem join_cons (c : UInt8) (x : List UInt8) (l : List (List UInt8)) (h : l ≠ []) : Lib.join (x :: l) [c] = x ++ c :: Lib.join l [c] := by
  cases l with
  | nil => exact absurd rfl h
  | cons y l => simp [Lib.join, List.intercalate]
theorem join_snoc (c : UInt8) : ∀ (l : List (List UInt8)) (x : List UInt8), l ≠ [] → Lib.join (l ++ [x]) [c] = Lib.join l [c] ++ c :: x
  | [], x, h => absurd rfl h
  | [y], x, _ => by simp [Lib.join, List.intercalate]
  | y :: z :: l, x, _ => by
    have ih := join_snoc c (z :: l) x (by simp)
    rw [List.cons_append, join_cons c y _ (by simp), ih, join_cons c y _ (by simp), List.append_assoc]; rfl
/-- The last sign of words with something in each is the last word's. -/
theorem join_last (c : UInt8) : ∀ (l : List (List UInt8)) (x : List UInt8), x ≠ [] → (Lib.join (l ++ [x]) [c]).getLast? = x.getLast?
  | [], x, h => by simp [Lib.join, List.intercalate]
  | y :: l, x, h => by
    rw [join_snoc c (y :: l) x (by simp), List.getLast?_append]
    cases x with
    | nil => exact absurd rfl h
    | cons a b => simp [List.getLast?_cons]
end Go.Proofs.YtcbmbjapcpbnnaaGreatDoor.G
