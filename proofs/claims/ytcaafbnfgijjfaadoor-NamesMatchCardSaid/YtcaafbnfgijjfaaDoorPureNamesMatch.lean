/- NamesMatch: a star stands for whatever is there; a pattern of itself, without signs, for itself alone. For every two texts; no condition. -/
import Derived.Test.YtcaafbnfgijjfaaDoorG0
import Derived.Test.YtcaafbnfgijjfaaDoorG4
import Derived.Test.YtcaafbnfgijjfaaDoorPuMatch
namespace Go.Proofs.YtcaafbnfgijjfaaDoor.Pure
open Go.RowKit Go.Proofs.YtcaafbnfgijjfaaDoor.G Go.Proofs.YtcaafbnfgijjfaaDoorW.PrintWords Go.Proofs.YtcaafbnfgijjfaaDoorW.PrintLast

def isSign (c : UInt8) : Bool := decide (c = 42) || decide (c = 63)
theorem signs (a b : ByteArray) (ha : a.size ≤ 100) : ∀ (d i k : Nat) (x : Bool), a.data.toList.length - i = d → i ≤ a.data.toList.length →
    dolmenlaw4_NamesMatch.l0 (k + d + 1) a b x (i : Int) = dolmenlaw4_NamesMatch.l0 (k + 1) a b (x || (a.data.toList.drop i).any isSign) (a.data.toList.length : Int) := by
  have hsz := size_len a
  intro d
  induction d with
  | zero =>
    intro i k x hd hi
    have : i = a.data.toList.length := by omega
    rw [this, List.drop_length]; simp
  | succ d ih =>
    intro i k x hd hi
    have h1 : i < a.data.toList.length := by omega
    have e : k + (d + 1) + 1 = (k + d + 1) + 1 := by omega
    have hi1 := fun x => ih (i + 1) k x (by omega) (by omega)
    rw [e, dolmenlaw4_NamesMatch.l0, if_pos (by omega), wrap_up i 1000 (by omega) (by omega), hi1, hi1, List.drop_eq_getElem_cons h1, List.any_cons]
    cases x with
    | true => simp
    | false =>
      rw [if_neg (by decide), if_pos (by omega), bt_get a i h1]
      have e42 : ((a.data.toList[i].toNat : Int) = 42) ↔ a.data.toList[i] = 42 := toNat_inj (b := 42)
      have e63 : (((a.data.toList[i].toNat : Int) == 63)) = decide (a.data.toList[i] = 63) := by
        rw [Bool.eq_iff_iff, beq_iff_eq, decide_eq_true_eq]; exact toNat_inj (b := 63)
      by_cases h42 : a.data.toList[i] = 42
      · rw [if_pos (e42.2 h42)]
        have : isSign a.data.toList[i] = true := by unfold isSign; simp [h42]
        rw [this]; simp only [Bool.true_or, Bool.or_true]
      · rw [if_neg (fun h => h42 (e42.1 h)), e63]
        have : isSign a.data.toList[i] = decide (a.data.toList[i] = 63) := by unfold isSign; rw [decide_eq_false h42, Bool.false_or]
        rw [this, Bool.false_or]
theorem append_data (a b : ByteArray) : (a ++ b).data.toList = a.data.toList ++ b.data.toList := by simp
theorem append_size (a b : ByteArray) : (a ++ b).size = a.size + b.size := by rw [size_len, append_data, List.length_append, size_len a, size_len b]
theorem body (a b : ByteArray) (ha : a.size ≤ 18) (hb : b.size ≤ 18) (k : Nat) (hk : 2000 ≤ k) :
    dolmenlaw4_NamesMatch.l0 (k + 1) a b (a.data.toList.any isSign) (a.data.toList.length : Int) = some true := by
  have hsa := size_len a
  have hsb := size_len b
  have haw := awake_f k (by omega)
  have s1 : (⟨#[42]⟩ : ByteArray).size = 1 := rfl
  have d1 : (⟨#[42]⟩ : ByteArray).data.toList = [42] := rfl
  have d2 : (⟨#[63]⟩ : ByteArray).data.toList = [63] := rfl
  have m1 : matchB (⟨#[42]⟩ : ByteArray) b = true := by
    unfold matchB; rw [decide_eq_true (by rw [s1]; decide), decide_eq_true (by omega)]; simp [matchL, Mt_any]
  have m2 : matchB (a ++ (⟨#[42]⟩ : ByteArray)) (a ++ b) = true := by
    unfold matchB; rw [decide_eq_true (by rw [append_size, s1]; omega), decide_eq_true (by rw [append_size]; omega), append_data, append_data, d1]
    unfold matchL
    rw [List.reverse_append, List.reverse_append]
    simpa using Mt_behind _ _ (Mt_self a.data.toList.reverse) b.data.toList.reverse
  have m3 : matchB ((⟨#[42]⟩ : ByteArray) ++ b) (a ++ b) = true := by
    unfold matchB; rw [decide_eq_true (by rw [append_size, s1]; omega), decide_eq_true (by rw [append_size]; omega), append_data, append_data, d1]
    unfold matchL
    rw [List.reverse_append, List.reverse_append]
    simpa using Mt_ahead a.data.toList.reverse b.data.toList.reverse
  have m4 : matchB a a = true := by
    unfold matchB; rw [decide_eq_true (by omega : a.size ≤ 40)]; simp [matchL, Mt_self]
  have m5 : a.data.toList.any isSign = false → matchB a b = (a.toList == b.toList) := by
    intro h
    unfold matchB; rw [decide_eq_true (by omega : a.size ≤ 40), decide_eq_true (by omega : b.size ≤ 40), toL, toL]
    unfold matchL
    rw [Mt_plain]
    · simp only [Bool.true_and]
      rw [Bool.eq_iff_iff, decide_eq_true_eq, beq_iff_eq, List.reverse_inj]
    · intro c hc
      have h2 : isSign c = false := by
        have := List.any_eq_false.1 h c (by simpa using hc)
        simpa using this
      unfold isSign at h2
      simpa using h2
  have m6 : matchB (⟨#[63]⟩ : ByteArray) b = ((b.size : Int) == 1) := by
    unfold matchB; rw [decide_eq_true (by decide : (⟨#[63]⟩ : ByteArray).size ≤ 40), decide_eq_true (by omega : b.size ≤ 40), d2]
    unfold matchL
    rw [List.reverse_singleton, Mt_one, List.length_reverse, ← hsb]
    simp only [Bool.true_and]
    rw [Bool.eq_iff_iff, decide_eq_true_eq, beq_iff_eq]; omega
  have t1 : a.size + 1 ≤ 9223372036854775807 := by omega
  have t2 : a.size + b.size ≤ 9223372036854775807 := by omega
  have t3 : 1 + b.size ≤ 9223372036854775807 := by omega
  rw [dolmenlaw4_NamesMatch.l0, if_neg (by omega), match_f _ _ k hk, match_f _ _ k hk, match_f _ _ k hk, match_f _ _ k hk, match_f _ _ k hk, match_f _ _ k hk, m1, m2, m3, m4, m6, haw, if_pos t1, if_pos t2, if_pos t3]
  simp only [Option.bind_some, if_true]
  by_cases hs : a.data.toList.any isSign = true
  · rw [if_pos hs]; simp
  · rw [if_neg hs, m5 (by simpa using hs)]; simp
theorem NamesMatch : dolmenlaw4_NamesMatch.Pure := by
  intro a b _ _
  refine ⟨3001, ?_⟩
  have haw := awake_f 3000 (by decide)
  have hj : dolmenlaw4_NamesMatch.j0 (3000 + 1) a b true = some true := by
    rw [dolmenlaw4_NamesMatch.j0, if_pos rfl, haw]; rfl
  show (if (a.size : Int) > 18 then dolmenlaw4_NamesMatch.j0 (3000 + 1) a b true else dolmenlaw4_NamesMatch.j0 (3000 + 1) a b (decide ((b.size : Int) > 18))) = some true
  by_cases h1 : a.size ≤ 18
  · rw [if_neg (by omega)]
    by_cases h2 : b.size ≤ 18
    · rw [decide_eq_false (by omega), dolmenlaw4_NamesMatch.j0, if_neg (by decide)]
      have hsa := size_len a
      have e : (3000 : Nat) = (2999 - a.data.toList.length) + a.data.toList.length + 1 := by omega
      rw [e]
      refine Eq.trans (signs a b (by omega) a.data.toList.length 0 _ false (by omega) (by omega)) ?_
      rw [List.drop_zero, Bool.false_or]
      exact body a b h1 h2 _ (by omega)
    · rw [decide_eq_true (by omega), hj]
  · rw [if_pos (by omega), hj]
end Go.Proofs.YtcaafbnfgijjfaaDoor.Pure
