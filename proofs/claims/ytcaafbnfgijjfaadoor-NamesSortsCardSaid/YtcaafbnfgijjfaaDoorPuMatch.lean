/- The printed names.Match tells what the rows tell. -/
import Derived.Test.YtcaafbnfgijjfaaDoorG0
import Derived.Test.YtcaafbnfgijjfaaDoorG2
import Derived.Test.YtcaafbnfgijjfaaDoorPlMatch
import Derived.Test.YtcaafbnfgijjfaaDoorPuNames
namespace Go.Proofs.YtcaafbnfgijjfaaDoor.G
open Go.RowKit Go.Proofs.YtcaafbnfgijjfaaDoorW.PrintWords Go.Proofs.YtcaafbnfgijjfaaDoorW.PrintLast
set_option linter.unusedVariables false
set_option linter.unusedSimpArgs false

theorem rdOf_ofNat (l : List Bool) (i : Nat) : rdOf false l (i : Int) = l.getD i false := by simp [rdOf]
theorem toNat_inj {a b : UInt8} : ((a.toNat : Int) = (b.toNat : Int)) ↔ a = b := by
  constructor
  · intro h; exact UInt8.toNat_inj.1 (by omega)
  · intro h; rw [h]
theorem wrap_down (i : Nat) (h : 0 < i) (hi : i ≤ 4611686018427387904) : wrap64 ((i : Int) - 1) = ((i - 1 : Nat) : Int) := by rw [IntWalk.wrap64_in _ (by omega)]; omega
theorem set_nat (l : List Bool) (i : Nat) (b : Bool) : l.set ((i : Int)).toNat b = l.set i b := by rw [show ((i : Int)).toNat = i by omega]

theorem le_large (x : Nat) (h : x ≤ 1000) : ((x : Nat) : Int).toNat ≤ 281474976710656 := by rw [Int.toNat_natCast]; exact Nat.le_trans h (by decide)
theorem match_l1 (p n : ByteArray) (can : List Bool) (j : Nat) (c : UInt8) (hj : j < p.data.toList.length) (hp : p.size ≤ 100) (hn : n.size ≤ 100) (hc : p.data.toList[j]'hj = c)
    (hl : can.length = n.data.toList.length + 1) :
    ∀ (d i k : Nat), n.data.toList.length + 1 - i = d → i ≤ n.data.toList.length + 1 →
      names_Match.l1 (k + d + 1) p n can (j : Int) (partR (stepR c n.data.toList can) i) (p.size : Int) (j : Int) ((n.data.toList.length + 1 : Nat) : Int) (i : Int) =
        names_Match.l0 k p n (stepR c n.data.toList can) (p.size : Int) ((j + 1 : Nat) : Int) := by
  have hps := size_len p
  have hns := size_len n
  have hR := stepR_length c n.data.toList can hl
  have hbt : bt p (j : Int) = (c.toNat : Int) := by rw [bt_get p j hj, hc]
  intro d
  induction d with
  | zero =>
    intro i k hd hi
    rw [names_Match.l1, if_neg (by omega), wrap_up j p.size (by omega) (by omega)]
    have : i = (stepR c n.data.toList can).length := by omega
    rw [this, partR_all]
  | succ d ih =>
    intro i k hd hi
    have hin : i ≤ n.data.toList.length := by omega
    have hg := stepR_get c n.data.toList can hl i hin
    have hih := ih (i + 1) k (by omega) (by omega)
    have hset := partR_set (stepR c n.data.toList can) i (by omega)
    have hkeep := partR_keep (stepR c n.data.toList can) i (by omega)
    have hpl := partR_length (stepR c n.data.toList can) i (by omega)
    generalize hRe : stepR c n.data.toList can = R at *
    have e : k + (d + 1) + 1 = (k + d + 1) + 1 := by omega
    rw [e, names_Match.l1, if_pos (by omega), if_pos (by omega), if_pos (by omega), hbt, wrap_up i 1000 (by omega) (by omega)]
    by_cases h42 : c = 42
    · subst h42
      rw [if_pos rfl] at hg
      rw [if_pos (by rfl), if_pos (by omega), if_pos (by omega), rdOf_ofNat]
      by_cases hci : can.getD i false = true
      · rw [if_pos hci, if_pos (by omega), set_nat, show true = R.getD i false by rw [hg, hci]; rfl, hset, hih]
      · rw [if_neg hci]
        have hci' : can.getD i false = false := by simpa using hci
        rw [hci', Bool.false_or] at hg
        by_cases h0 : 0 < i
        · rw [if_pos (by omega), wrap_down i h0 (by omega), if_pos (by omega), if_pos (by omega), if_pos (by omega), set_nat, rdOf_ofNat, partR_get R i (i - 1) (by omega) (by omega)]
          have : R.getD (i - 1) false = R.getD i false := by rw [hg]; simp [h0]
          rw [this, hset, hih]
        · rw [if_neg (by omega), if_pos (by omega), set_nat]
          have : false = R.getD i false := by rw [hg]; simp [h0]
          rw [this, hset, hih]
    · rw [if_neg h42] at hg
      have h42' : ¬ ((c.toNat : Int) = 42) := fun h => h42 (toNat_inj.1 (h.trans (by rfl)))
      rw [if_neg h42']
      by_cases h0 : i = 0
      · subst h0
        rw [if_pos (by rfl), hkeep (by rw [hg]; simp), hih]
      · have h0' : 0 < i := by omega
        rw [if_neg (by omega)]
        have hd0 : decide (0 < i) = true := decide_eq_true h0'
        rw [hd0, Bool.true_and] at hg
        by_cases h63 : c = 63
        · subst h63
          rw [if_pos (by rfl), wrap_down i h0' (by omega), if_pos (by omega), if_pos (by omega), if_pos (by omega), if_pos (by omega), set_nat, rdOf_ofNat]
          have : can.getD (i - 1) false = R.getD i false := by rw [hg]; simp
          rw [this, hset, hih]
        · have h63' : ¬ ((c.toNat : Int) = 63) := fun h => h63 (toNat_inj.1 (h.trans (by rfl)))
          rw [if_neg h63', wrap_down i h0' (by omega), if_pos (by omega), if_pos (by omega), bt_get n (i - 1) (by omega)]
          have hnget : n.data.toList.getD (i - 1) 0 = n.data.toList[i - 1]'(by omega) := by
            rw [List.getD_eq_getElem?_getD, List.getElem?_eq_getElem (by omega)]; rfl
          rw [hnget] at hg
          by_cases he : c = n.data.toList[i - 1]'(by omega)
          · rw [if_pos (toNat_inj.2 he), if_pos (by omega), if_pos (by omega), if_pos (by omega), set_nat, rdOf_ofNat]
            have : can.getD (i - 1) false = R.getD i false := by rw [hg]; simp [← he]
            rw [this, hset, hih]
          · rw [if_neg (fun h => he (toNat_inj.1 h)), hkeep (by rw [hg, decide_eq_false h63, decide_eq_false he]; rfl), hih]
theorem match_l0 (p n : ByteArray) (hp : p.size ≤ 100) (hn : n.size ≤ 100) : ∀ (d j k : Nat) (can : List Bool), p.data.toList.length - j = d → j ≤ p.data.toList.length → can.length = n.data.toList.length + 1 → d * (n.data.toList.length + 3) + 1 ≤ k →
    names_Match.l0 k p n can (p.size : Int) (j : Int) = some (((p.data.toList.drop j).foldl (fun can c => stepR c n.data.toList can) can).getD n.data.toList.length false) := by
  have hps := size_len p
  have hns := size_len n
  intro d
  induction d with
  | zero =>
    intro j k can hd hj hl hk
    obtain ⟨k, rfl⟩ : ∃ m, k = m + 1 := ⟨k - 1, by omega⟩
    rw [names_Match.l0, if_neg (by omega), if_pos (by omega), if_pos (by omega), List.drop_of_length_le (by omega), hns, rdOf_ofNat]
    rfl
  | succ d ih =>
    intro j k can hd hj hl hk
    have hjl : j < p.data.toList.length := by omega
    have hk2 : d * (n.data.toList.length + 3) + (n.data.toList.length + 3) + 1 ≤ k := by rw [Nat.succ_mul] at hk; omega
    obtain ⟨m, hm⟩ : ∃ m, m = d * (n.data.toList.length + 3) := ⟨_, rfl⟩
    rw [← hm] at hk2 ih
    clear hk
    obtain ⟨k', hk'⟩ : ∃ k', k = (k' + (n.data.toList.length + 1) + 1) + 1 := ⟨k - n.data.toList.length - 3, by omega⟩
    have hR := stepR_length (p.data.toList[j]) n.data.toList can hl
    have c3 : (j : Int) < (p.size : Int) := by omega
    have c1 : (0 : Int) ≤ ((n.data.toList.length + 1 : Nat) : Int) := Int.natCast_nonneg _
    have c2 : (((n.data.toList.length + 1 : Nat) : Int)).toNat ≤ 281474976710656 := le_large _ (by omega)
    have hw : wrap64 ((n.size : Int) + 1) = ((n.data.toList.length + 1 : Nat) : Int) := by rw [IntWalk.wrap64_in _ (by omega)]; omega
    rw [hk', names_Match.l0, if_pos c3, hw, if_pos c1, if_pos c2]
    clear hw
    simp only [Option.bind_some, List.length_replicate]
    have h1 := match_l1 p n can j _ hjl hp hn rfl hl (n.data.toList.length + 1) 0 k' (by omega) (by omega)
    rw [partR_zero, hR] at h1
    have e1 : (((n.data.toList.length + 1 : Nat) : Int)).toNat = n.data.toList.length + 1 := by omega
    rw [e1]
    refine Eq.trans h1 ?_
    rw [ih (j + 1) k' _ (by omega) (by omega) hR (by omega), List.drop_eq_getElem_cons hjl, List.foldl_cons]
/-- names.Match. -/
def matchB (p n : ByteArray) : Bool := decide (p.size ≤ 40) && decide (n.size ≤ 40) && matchL p.data.toList n.data.toList
theorem match_f (p n : ByteArray) (k : Nat) (hk : 2000 ≤ k) : names_Match.f k p n = some (matchB p n) := by
  have hps := size_len p
  have hns := size_len n
  obtain ⟨k, rfl⟩ : ∃ m, k = m + 1 := ⟨k - 1, by omega⟩
  unfold names_Match.f matchB
  by_cases h1 : p.size ≤ 40
  · rw [if_neg (by omega)]
    by_cases h2 : n.size ≤ 40
    · rw [decide_eq_false (by omega : ¬ (n.size : Int) > 40), names_Match.j0, if_neg (by decide)]
      have c1 : (0 : Int) ≤ ((n.data.toList.length + 1 : Nat) : Int) := Int.natCast_nonneg _
      have c2 : (((n.data.toList.length + 1 : Nat) : Int)).toNat ≤ 281474976710656 := le_large _ (by omega)
      have hw : wrap64 ((n.size : Int) + 1) = ((n.data.toList.length + 1 : Nat) : Int) := by rw [IntWalk.wrap64_in _ (by omega)]; omega
      rw [hw, if_pos c1, if_pos c2]
      clear hw
      simp only [Option.bind_some, List.length_replicate]
      have e1 : (((n.data.toList.length + 1 : Nat) : Int)).toNat = n.data.toList.length + 1 := by omega
      rw [e1, if_pos (by omega)]
      have e2 : (List.replicate (n.data.toList.length + 1) false).set ((0 : Int)).toNat true = true :: List.replicate n.data.toList.length false := by
        rw [List.replicate_succ]; rfl
      rw [e2]
      have hmul : p.data.toList.length * (n.data.toList.length + 3) ≤ 40 * 43 := Nat.mul_le_mul (by omega) (by omega)
      have h := match_l0 p n (by omega) (by omega) p.data.toList.length 0 k (true :: List.replicate n.data.toList.length false) (by omega) (by omega) (by simp) (by omega)
      refine Eq.trans h ?_
      rw [List.drop_zero, decide_eq_true h1, decide_eq_true h2]
      simp only [Bool.true_and]
      rw [← rows_match]; rfl
    · rw [decide_eq_true (by omega : (n.size : Int) > 40), names_Match.j0, if_pos rfl, decide_eq_false h2]; simp
  · rw [if_pos (by omega), names_Match.j0, if_pos rfl, decide_eq_false h1]; simp
end Go.Proofs.YtcaafbnfgijjfaaDoor.G
