/- Laws of running that the printed texts want: texts compared by the words that the print writes. -/
import Derived.Sort.Walk0
import Derived.ProofKit
import Derived.Test.YtcaafbnfgijjfaaDoorWAt
namespace Go.Proofs.YtcaafbnfgijjfaaDoor.G
open Go
theorem bytes_gt (a b : List UInt8) : (!(Op.bytesLess a b || a == b)) = Op.bytesLess b a := by
  rw [Go.Proofs.bytesLess_eq, Go.Proofs.bytesLess_eq, Bool.eq_iff_iff]
  simp only [Bool.not_eq_true', Bool.or_eq_false_iff, decide_eq_false_iff_not, beq_eq_false_iff_ne, decide_eq_true_eq, ne_eq]
  constructor
  · rintro ⟨h1, h2⟩
    exact List.not_le.1 fun h => h2 (List.le_antisymm h (List.not_lt.1 h1))
  · intro h
    exact ⟨fun h1 => List.lt_irrefl _ (List.lt_trans h h1), fun h1 => by subst h1; exact List.lt_irrefl _ h⟩
@[go_sem high] theorem binOp_text_gtr (t : TypeId) (a b : ByteArray) : binOp .gtr t (.string a) (.string b) = pure (.bool (Op.bytesLess b.toList a.toList)) := by
  rw [← bytes_gt]; simp [binOp, Op.stringOp]
@[go_sem high] theorem binOp_text_leq (t : TypeId) (a b : ByteArray) : binOp .leq t (.string a) (.string b) = pure (.bool !(Op.bytesLess b.toList a.toList)) := by
  rw [← bytes_gt]; simp [binOp, Op.stringOp]
@[go_sem high] theorem binOp_text_geq (t : TypeId) (a b : ByteArray) : binOp .geq t (.string a) (.string b) = pure (.bool !(Op.bytesLess a.toList b.toList)) := by
  simp [binOp, Op.stringOp]
theorem froz_at {w w' : World} {m : Nat} {a : Addr} {b : Bool} (hq : w.drewN m = w') (h : w.frozen? a = b) : w'.frozen? a = b := by subst hq; exact h
end Go.Proofs.YtcaafbnfgijjfaaDoor.G
