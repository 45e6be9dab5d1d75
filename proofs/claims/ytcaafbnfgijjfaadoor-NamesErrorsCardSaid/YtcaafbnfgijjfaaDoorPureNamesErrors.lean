/- NamesErrors: a path with one thing wrong has the error of that; more than one, and the first rule decides. For every n, every length, every sign; no condition. -/
import Derived.Test.YtcaafbnfgijjfaaDoorG0
import Derived.Test.YtcaafbnfgijjfaaDoorG5
import Derived.Test.YtcaafbnfgijjfaaDoorPuNames
namespace Go.Proofs.YtcaafbnfgijjfaaDoor.Pure
open Go.RowKit Go.Proofs.YtcaafbnfgijjfaaDoor.G Go.Proofs.YtcaafbnfgijjfaaDoorW.PrintWords Go.Proofs.YtcaafbnfgijjfaaDoorW.PrintLast

theorem ofL_append (a b : List UInt8) : ofL a ++ ofL b = ofL (a ++ b) := data_inj (by simp [ofL])
/-- The text of n names, the first of so many signs. -/
def tailL : Nat → List UInt8
  | 0 => []
  | d + 1 => 47 :: 97 :: tailL d
def pathL (n long : Nat) (sign : Bool) : List UInt8 := 47 :: (List.replicate long 120 ++ (tailL (n - 1) ++ if sign then [33] else []))
def want (n long : Nat) (sign : Bool) : Int := if sign then 2 else if 12 < long then 3 else if 6 < n then 4 else 0
def okAt (n long : Nat) (sign : Bool) : Bool :=
  decide (dolmenalike_Code.f (splitR (ofL (pathL n long sign))).2 = some (want n long sign)) && (decide (want n long sign ≠ 0) || decide ((splitR (ofL (pathL n long sign))).1.length = n))
theorem all_ok : ((List.range 13).all fun n => (List.range 16).all fun long => n == 0 || long == 0 || (okAt n long false && okAt n long true)) = true := by decide +kernel
theorem ok_at (n long : Nat) (sign : Bool) (h1 : 1 ≤ n) (h2 : n ≤ 12) (h3 : 1 ≤ long) (h4 : long ≤ 15) : okAt n long sign = true := by
  have h := List.all_eq_true.1 (List.all_eq_true.1 all_ok n (List.mem_range.2 (by omega))) long (List.mem_range.2 (by omega))
  have e1 : (n == 0) = false := by simp; omega
  have e2 : (long == 0) = false := by simp; omega
  rw [e1, e2] at h
  simp only [Bool.false_or, Bool.and_eq_true] at h
  cases sign
  · exact h.1
  · exact h.2
theorem j3_f (n long : Nat) (sign : Bool) (h1 : 1 ≤ n) (h2 : n ≤ 12) (h3 : 1 ≤ long) (h4 : long ≤ 15) (k : Nat) (hk : 61 ≤ k) :
    dolmenlaw4_NamesErrors.j3 k n long sign (ofL (pathL n long sign)) = some true := by
  obtain ⟨k, rfl⟩ : ∃ m, k = m + 1 := ⟨k - 1, by omega⟩
  have ha := awake_f k (by omega)
  have ho := ok_at n long sign h1 h2 h3 h4
  unfold okAt want at ho
  simp only [Bool.and_eq_true, decide_eq_true_eq, Bool.or_eq_true] at ho
  obtain ⟨hc, hl⟩ := ho
  simp only [dolmenlaw4_NamesErrors.j3]
  rw [split_f, ha]
  simp only [Option.bind_some]
  cases sign with
  | true =>
    simp only [if_true] at hc ⊢
    rw [hc]; simp
  | false =>
    simp only [Bool.false_eq_true, if_false] at hc hl ⊢
    rw [hc]
    by_cases c1 : 12 < long
    · rw [if_pos (by omega : (long : Int) > 12), if_pos c1]; simp
    · rw [if_neg (by omega : ¬ (long : Int) > 12), if_neg c1]
      rw [if_neg c1] at hl
      by_cases c2 : 6 < n
      · rw [if_pos (by omega : (n : Int) > 6), if_pos c2]; simp
      · rw [if_neg (by omega : ¬ (n : Int) > 6), if_neg c2]
        rw [if_neg c2] at hl
        have : (splitR (ofL (pathL n long false))).1.length = n := by
          rcases hl with h | h
          · exact absurd rfl h
          · exact h
        simp only [Option.bind_some, if_true]
        rw [if_pos (by omega)]
theorem l1_f (n long : Nat) (sign : Bool) (h2 : n ≤ 12) : ∀ (d i k : Nat) (y : List UInt8), n - i = d → 1 ≤ i → i ≤ n → y.length + 2 * d ≤ 100 →
    dolmenlaw4_NamesErrors.l1 (k + d + 1) n long sign (ofL y) (i : Int) = dolmenlaw4_NamesErrors.j3 k n long sign (ofL (y ++ (tailL d ++ if sign then [33] else []))) := by
  intro d
  induction d with
  | zero =>
    intro i k y hd h1 hi hy
    simp only [dolmenlaw4_NamesErrors.l1]
    rw [if_neg (by omega)]
    cases sign with
    | true =>
      rw [if_pos rfl, if_pos (by rw [ofL_size]; omega), show (⟨#[33]⟩ : ByteArray) = ofL [33] from rfl, ofL_append]; rfl
    | false => simp [tailL]
  | succ d ih =>
    intro i k y hd h1 hi hy
    have e : k + (d + 1) + 1 = (k + d + 1) + 1 := by omega
    rw [e, dolmenlaw4_NamesErrors.l1]
    rw [if_pos (by omega), if_pos (by rw [ofL_size]; omega), show (⟨#[47, 97]⟩ : ByteArray) = ofL [47, 97] from rfl, ofL_append, wrap_up i n (by omega) (by omega)]
    rw [ih (i + 1) k _ (by omega) (by omega) (by omega) (by simp; omega)]
    simp [tailL]
theorem l0_f (n long : Nat) (sign : Bool) (h3 : long ≤ 15) : ∀ (d i k : Nat) (y : List UInt8), long - i = d → i ≤ long → y.length = i →
    dolmenlaw4_NamesErrors.l0 (k + d + 1) n long sign (ofL y) (i : Int) = dolmenlaw4_NamesErrors.l1 k n long sign (ofL (47 :: (y ++ List.replicate d 120))) 1 := by
  intro d
  induction d with
  | zero =>
    intro i k y hd hi hy
    simp only [dolmenlaw4_NamesErrors.l0]
    rw [if_neg (by omega), if_pos (by rw [ofL_size]; omega), show (⟨#[47]⟩ : ByteArray) = ofL [47] from rfl, ofL_append]
    simp
  | succ d ih =>
    intro i k y hd hi hy
    have e : k + (d + 1) + 1 = (k + d + 1) + 1 := by omega
    rw [e, dolmenlaw4_NamesErrors.l0]
    rw [if_pos (by omega), if_pos (by rw [ofL_size]; omega), show (⟨#[120]⟩ : ByteArray) = ofL [120] from rfl, ofL_append, wrap_up i long (by omega) (by omega), ih (i + 1) k _ (by omega) (by omega) (by simp; omega)]
    simp [List.replicate_succ]
theorem NamesErrors : dolmenlaw4_NamesErrors.Pure := by
  intro n long sign _ _
  refine ⟨200, ?_⟩
  have hj : dolmenlaw4_NamesErrors.j0 200 n long sign true = some true := by
    show dolmenlaw4_NamesErrors.j0 (199 + 1) n long sign true = some true
    simp only [dolmenlaw4_NamesErrors.j0]
    rw [if_pos trivial, awake_f 199 (by decide)]; rfl
  unfold dolmenlaw4_NamesErrors.f
  rw [hj]
  split
  · rfl
  rename_i c1
  split
  · rfl
  rename_i c2
  split
  · rfl
  rename_i c3
  by_cases c4 : long > 15
  · rw [decide_eq_true c4, hj]
  · rw [decide_eq_false c4]
    obtain ⟨n, rfl⟩ := Int.eq_ofNat_of_zero_le (show 0 ≤ n by omega)
    obtain ⟨long, rfl⟩ := Int.eq_ofNat_of_zero_le (show 0 ≤ long by omega)
    show dolmenlaw4_NamesErrors.j0 (199 + 1) n long sign false = some true
    simp only [dolmenlaw4_NamesErrors.j0]
    rw [if_neg (by decide)]
    have e1 : (199 : Nat) = (198 - long) + long + 1 := by omega
    rw [e1]
    have h0 := l0_f n long sign (by omega) long 0 (198 - long) [] (by omega) (by omega) rfl
    have e2 : 198 - long = (198 - long - n) + (n - 1) + 1 := by omega
    have h1 := l1_f n long sign (by omega) (n - 1) 1 (198 - long - n) (47 :: ([] ++ List.replicate long 120)) rfl (by omega) (by omega) (by simp; omega)
    rw [e2] at h0
    have h3 := j3_f n long sign (by omega) (by omega) (by omega) (by omega) (198 - long - n) (by omega)
    rw [e2]
    refine Eq.trans h0 (Eq.trans h1 ?_)
    simpa [pathL] using h3
end Go.Proofs.YtcaafbnfgijjfaaDoor.Pure
