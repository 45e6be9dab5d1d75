/- The printed dolmenref1.Match tells what the rows tell; the printed dolmenref1.Sorted is texts in order, each once. -/
import Derived.Test.YtcaafbnfgijjfaaDoorG0
import Derived.Test.YtcaafbnfgijjfaaDoorG13
import Derived.Test.YtcaafbnfgijjfaaDoorG14
import Derived.Test.YtcaafbnfgijjfaaDoorPuMatch
import Derived.Test.YtcaafbnfgijjfaaDoorPlSorted
namespace Go.Proofs.YtcaafbnfgijjfaaDoor.G
open Go.RowKit Go.Proofs.YtcaafbnfgijjfaaDoorW.PrintWords Go.Proofs.YtcaafbnfgijjfaaDoorW.PrintLast
set_option linter.unusedVariables false
set_option linter.unusedSimpArgs false

theorem rmatch_l1 (p n : ByteArray) (can : List Bool) (j : Nat) (c : UInt8) (hj : j < p.data.toList.length) (hp : p.size ≤ 100) (hn : n.size ≤ 100) (hc : p.data.toList[j]'hj = c)
    (hl : can.length = n.data.toList.length + 1) :
    ∀ (d i k : Nat), n.data.toList.length + 1 - i = d → i ≤ n.data.toList.length + 1 →
      dolmenref1_Match.l1 (k + d + 1) p n can (j : Int) (partR (stepR c n.data.toList can) i) (i : Int) =
        dolmenref1_Match.l0 k p n (stepR c n.data.toList can) ((j + 1 : Nat) : Int) := by
  have hps := size_len p
  have hns := size_len n
  have hR := stepR_length c n.data.toList can hl
  have hbt : bt p (j : Int) = (c.toNat : Int) := by rw [bt_get p j hj, hc]
  intro d
  induction d with
  | zero =>
    intro i k hd hi
    rw [dolmenref1_Match.l1, if_neg (by omega), wrap_up j p.size (by omega) (by omega)]
    have : i = (stepR c n.data.toList can).length := by omega
    rw [this, partR_all]
  | succ d ih =>
    intro i k hd hi
    have hin : i ≤ n.data.toList.length := by omega
    have hg := stepR_get c n.data.toList can hl i hin
    have hih := ih (i + 1) k (by omega) (by omega)
    have hset := partR_set (stepR c n.data.toList can) i (by omega)
    have hkeep := partR_keep (stepR c n.data.toList can) i (by omega)
    have hpl := partR_length (stepR c n.data.toList can) i (by omega)
    generalize hRe : stepR c n.data.toList can = R at *
    have e : k + (d + 1) + 1 = (k + d + 1) + 1 := by omega
    rw [e, dolmenref1_Match.l1, if_pos (by omega), if_pos (by omega), if_pos (by omega), hbt, wrap_up i 1000 (by omega) (by omega)]
    by_cases h42 : c = 42
    · subst h42
      rw [if_pos rfl] at hg
      rw [if_pos (by rfl), if_pos (by omega), if_pos (by omega), rdOf_ofNat]
      by_cases hci : can.getD i false = true
      · rw [if_pos hci, if_pos (by omega), set_nat, show true = R.getD i false by rw [hg, hci]; rfl, hset, hih]
      · rw [if_neg hci]
        have hci' : can.getD i false = false := by simpa using hci
        rw [hci', Bool.false_or] at hg
        by_cases h0 : 0 < i
        · rw [if_pos (by omega), wrap_down i h0 (by omega), if_pos (by omega), if_pos (by omega), if_pos (by omega), set_nat, rdOf_ofNat, partR_get R i (i - 1) (by omega) (by omega)]
          have : R.getD (i - 1) false = R.getD i false := by rw [hg]; simp [h0]
          rw [this, hset, hih]
        · rw [if_neg (by omega), if_pos (by omega), set_nat]
          have : false = R.getD i false := by rw [hg]; simp [h0]
          rw [this, hset, hih]
    · rw [if_neg h42] at hg
      have h42' : ¬ ((c.toNat : Int) = 42) := fun h => h42 (toNat_inj.1 (h.trans (by rfl)))
      rw [if_neg h42']
      by_cases h0 : i = 0
      · subst h0
        rw [if_neg (by omega), hkeep (by rw [hg]; simp), hih]
      · have h0' : 0 < i := by omega
        rw [if_pos (by omega)]
        have hd0 : decide (0 < i) = true := decide_eq_true h0'
        rw [hd0, Bool.true_and] at hg
        by_cases h63 : c = 63
        · subst h63
          rw [if_pos (by rfl), wrap_down i h0' (by omega), if_pos (by omega), if_pos (by omega), if_pos (by omega), if_pos (by omega), set_nat, rdOf_ofNat]
          have : can.getD (i - 1) false = R.getD i false := by rw [hg]; simp
          rw [this, hset, hih]
        · have h63' : ¬ ((c.toNat : Int) = 63) := fun h => h63 (toNat_inj.1 (h.trans (by rfl)))
          rw [if_neg h63', wrap_down i h0' (by omega), if_pos (by omega), if_pos (by omega), bt_get n (i - 1) (by omega)]
          have hnget : n.data.toList.getD (i - 1) 0 = n.data.toList[i - 1]'(by omega) := by
            rw [List.getD_eq_getElem?_getD, List.getElem?_eq_getElem (by omega)]; rfl
          rw [hnget] at hg
          by_cases he : c = n.data.toList[i - 1]'(by omega)
          · rw [if_pos (toNat_inj.2 he), if_pos (by omega), if_pos (by omega), if_pos (by omega), set_nat, rdOf_ofNat]
            have : can.getD (i - 1) false = R.getD i false := by rw [hg]; simp [← he]
            rw [this, hset, hih]
          · rw [if_neg (fun h => he (toNat_inj.1 h)), hkeep (by rw [hg, decide_eq_false h63, decide_eq_false he]; rfl), hih]
theorem rmatch_l0 (p n : ByteArray) (hp : p.size ≤ 100) (hn : n.size ≤ 100) : ∀ (d j k : Nat) (can : List Bool), p.data.toList.length - j = d → j ≤ p.data.toList.length → can.length = n.data.toList.length + 1 → d * (n.data.toList.length + 3) + 1 ≤ k →
    dolmenref1_Match.l0 k p n can (j : Int) = some (((p.data.toList.drop j).foldl (fun can c => stepR c n.data.toList can) can).getD n.data.toList.length false) := by
  have hps := size_len p
  have hns := size_len n
  intro d
  induction d with
  | zero =>
    intro j k can hd hj hl hk
    obtain ⟨k, rfl⟩ : ∃ m, k = m + 1 := ⟨k - 1, by omega⟩
    rw [dolmenref1_Match.l0, if_neg (by omega), if_pos (by omega), if_pos (by omega), List.drop_of_length_le (by omega), hns, rdOf_ofNat]
    rfl
  | succ d ih =>
    intro j k can hd hj hl hk
    have hjl : j < p.data.toList.length := by omega
    have hk2 : d * (n.data.toList.length + 3) + (n.data.toList.length + 3) + 1 ≤ k := by rw [Nat.succ_mul] at hk; omega
    obtain ⟨m, hm⟩ : ∃ m, m = d * (n.data.toList.length + 3) := ⟨_, rfl⟩
    rw [← hm] at hk2 ih
    clear hk
    obtain ⟨k', hk'⟩ : ∃ k', k = (k' + (n.data.toList.length + 1) + 1) + 1 := ⟨k - n.data.toList.length - 3, by omega⟩
    have hR := stepR_length (p.data.toList[j]) n.data.toList can hl
    have c3 : (j : Int) < (p.size : Int) := by omega
    have c1 : (0 : Int) ≤ ((n.data.toList.length + 1 : Nat) : Int) := Int.natCast_nonneg _
    have c2 : (((n.data.toList.length + 1 : Nat) : Int)).toNat ≤ 281474976710656 := le_large _ (by omega)
    have hw : wrap64 ((n.size : Int) + 1) = ((n.data.toList.length + 1 : Nat) : Int) := by rw [IntWalk.wrap64_in _ (by omega)]; omega
    rw [hk', dolmenref1_Match.l0, if_pos c3, hw, if_pos c1, if_pos c2]
    clear hw
    have h1 := rmatch_l1 p n can j _ hjl hp hn rfl hl (n.data.toList.length + 1) 0 k' (by omega) (by omega)
    rw [partR_zero, hR] at h1
    have e1 : (((n.data.toList.length + 1 : Nat) : Int)).toNat = n.data.toList.length + 1 := by omega
    rw [e1]
    refine Eq.trans h1 ?_
    rw [ih (j + 1) k' _ (by omega) (by omega) hR (by omega), List.drop_eq_getElem_cons hjl, List.foldl_cons]
theorem refmatch_f (p n : ByteArray) (k : Nat) (hk : 2000 ≤ k) : dolmenref1_Match.f k p n = some (matchB p n) := by
  have hps := size_len p
  have hns := size_len n
  obtain ⟨k, rfl⟩ : ∃ m, k = m + 1 := ⟨k - 1, by omega⟩
  unfold dolmenref1_Match.f matchB
  by_cases h1 : p.size ≤ 40
  · rw [if_neg (by omega)]
    by_cases h2 : n.size ≤ 40
    · rw [decide_eq_false (by omega : ¬ (n.size : Int) > 40), dolmenref1_Match.j0, if_neg (by decide)]
      have c1 : (0 : Int) ≤ ((n.data.toList.length + 1 : Nat) : Int) := Int.natCast_nonneg _
      have c2 : (((n.data.toList.length + 1 : Nat) : Int)).toNat ≤ 281474976710656 := le_large _ (by omega)
      have hw : wrap64 ((n.size : Int) + 1) = ((n.data.toList.length + 1 : Nat) : Int) := by rw [IntWalk.wrap64_in _ (by omega)]; omega
      rw [hw, if_pos c1, if_pos c2]
      clear hw
      simp only [Option.bind_some, List.length_replicate]
      have e1 : (((n.data.toList.length + 1 : Nat) : Int)).toNat = n.data.toList.length + 1 := by omega
      rw [e1, if_pos (by omega)]
      have e2 : (List.replicate (n.data.toList.length + 1) false).set ((0 : Int)).toNat true = true :: List.replicate n.data.toList.length false := by
        rw [List.replicate_succ]; rfl
      rw [e2]
      have hmul : p.data.toList.length * (n.data.toList.length + 3) ≤ 40 * 43 := Nat.mul_le_mul (by omega) (by omega)
      have h := rmatch_l0 p n (by omega) (by omega) p.data.toList.length 0 k (true :: List.replicate n.data.toList.length false) (by omega) (by omega) (by simp) (by omega)
      refine Eq.trans h ?_
      rw [List.drop_zero, decide_eq_true h1, decide_eq_true h2]
      simp only [Bool.true_and]
      rw [← rows_match]; rfl
    · rw [decide_eq_true (by omega : (n.size : Int) > 40), dolmenref1_Match.j0, if_pos rfl, decide_eq_false h2]; simp
  · rw [if_pos (by omega), dolmenref1_Match.j0, if_pos rfl, decide_eq_false h1]; simp

/-! ### dolmenref1.Sorted -/
theorem less_toL (a b : ByteArray) : Op.bytesLess a.toList b.toList = decide (a.data.toList < b.data.toList) := by rw [Go.Proofs.bytesLess_eq, toL, toL]
theorem eqq_toL (a b : ByteArray) : (a.toList == b.toList) = decide (a = b) := by
  by_cases h : a = b
  · subst h; simp
  · simp only [h, decide_false]
    have : a.toList ≠ b.toList := fun e => h (toL_inj.1 e)
    simpa using this
def Rises (s : List ByteArray) : Prop := s.Pairwise fun x y => x.data.toList < y.data.toList
theorem rises_sorted (l s : List ByteArray) (h : Rises s) (hm : ∀ x, x ∈ s ↔ x ∈ l) : s = sortedB l := by
  have e : s.map (·.data.toList) = sortedL (l.map (·.data.toList)) := by
    refine rising_one _ _ (List.pairwise_map.2 h) (sortedL_lt _) fun x => ?_
    rw [sortedL_mem, List.mem_map, List.mem_map]
    exact ⟨fun ⟨y, hy, e⟩ => ⟨y, (hm y).1 hy, e⟩, fun ⟨y, hy, e⟩ => ⟨y, (hm y).2 hy, e⟩⟩
  unfold sortedB
  rw [← e, ofL_datas]
theorem rises_insert (s : List ByteArray) (h : Rises s) (x : ByteArray) (t : Nat) (ht : t ≤ s.length) (h1 : ∀ j (hj : j < s.length), t ≤ j → x.data.toList < (s[j]).data.toList)
    (h2 : 0 < t → ∀ hj : t - 1 < s.length, (s[t - 1]).data.toList < x.data.toList) : Rises (s.take t ++ x :: s.drop t) := by
  unfold Rises
  rw [List.pairwise_append]
  refine ⟨h.sublist (List.take_sublist _ _), List.pairwise_cons.2 ⟨fun y hy => ?_, h.sublist (List.drop_sublist _ _)⟩, fun y hy z hz => ?_⟩
  · obtain ⟨j, hj, rfl⟩ := List.getElem_of_mem hy
    rw [List.getElem_drop]
    exact h1 _ _ (by omega)
  · obtain ⟨j, hj, rfl⟩ := List.getElem_of_mem hy
    have hj1 : j < t := by have := hj; rw [List.length_take] at this; omega
    rw [List.getElem_take]
    have hx : (s[j]'(by omega)).data.toList < x.data.toList := by
      have hlast := h2 (by omega) (by omega)
      rcases Nat.lt_or_ge j (t - 1) with hlt | hge
      · exact List.lt_trans (List.pairwise_iff_getElem.1 h j (t - 1) (by omega) (by omega) hlt) hlast
      · have : j = t - 1 := by omega
        subst this; exact hlast
    rcases List.mem_cons.1 hz with rfl | hz
    · exact hx
    · obtain ⟨i, hi, rfl⟩ := List.getElem_of_mem hz
      rw [List.getElem_drop]
      exact List.lt_trans hx (h1 _ _ (by omega))
theorem mem_insert (s : List ByteArray) (x y : ByteArray) (t : Nat) : y ∈ s.take t ++ x :: s.drop t ↔ (y ∈ s ∨ y = x) := by
  have e : y ∈ s ↔ y ∈ s.take t ∨ y ∈ s.drop t := by rw [← List.mem_append, List.take_append_drop]
  rw [List.mem_append, List.mem_cons, e]
  constructor
  · rintro (h | h | h)
    · exact .inl (.inl h)
    · exact .inr h
    · exact .inl (.inr h)
  · rintro ((h | h) | h)
    · exact .inl h
    · exact .inr (.inr h)
    · exact .inr (.inl h)
section
variable (l : List ByteArray) (hl : l.length ≤ 1000) (i : Nat) (hi : i < l.length) (s : List ByteArray) (hs : s.length ≤ i) (r : List ByteArray) (K : Nat)
include hl hi hs
theorem sorted_l2 (t : Nat) (H : ∀ m, K ≤ m → dolmenref1_Sorted.l0 m l (s.take t ++ l[i] :: s.drop t) ((i + 1 : Nat) : Int) = some r) :
    ∀ (u : Nat) (d : ByteArray) (m : Nat), t + u ≤ s.length → K + u + 1 ≤ m →
      dolmenref1_Sorted.l2 m l (s.take (t + u) ++ d :: s.drop (t + u)) (i : Int) (t : Int) ((t + u : Nat) : Int) = some r := by
  intro u
  induction u with
  | zero =>
    intro d m hu hm
    obtain ⟨m, rfl⟩ : ∃ k, m = k + 1 := ⟨m - 1, by omega⟩
    have hlen : (s.take t ++ d :: s.drop t).length = s.length + 1 := by simp; omega
    have hset : (s.take t ++ d :: s.drop t).set t l[i] = s.take t ++ l[i] :: s.drop t := by
      rw [List.set_append_right _ _ (by simp; omega), List.length_take]
      have : t - min t s.length = 0 := by omega
      rw [this]; rfl
    have e : ((t : Int)).toNat = t := by omega
    have hw := wrap_up i 2000 (by omega) (by omega)
    simp only [Nat.add_zero]
    rw [dolmenref1_Sorted.l2, if_neg (by omega), if_pos (by omega), if_pos (by omega), if_pos (by omega), hlen, if_pos (by omega), rdOf_nat, getD_at _ _ _ hi, e, hset, hw]
    exact H m (by omega)
  | succ u ih =>
    intro d m hu hm
    obtain ⟨m, rfl⟩ : ∃ k, m = k + 1 := ⟨m - 1, by omega⟩
    have hlen : (s.take (t + (u + 1)) ++ d :: s.drop (t + (u + 1))).length = s.length + 1 := by simp; omega
    have hw : wrap64 (((t + (u + 1) : Nat) : Int) - 1) = ((t + u : Nat) : Int) := by rw [IntWalk.wrap64_in _ (by omega)]; omega
    have hget : (s.take (t + (u + 1)) ++ d :: s.drop (t + (u + 1))).getD (t + u) ByteArray.empty = s[t + u] := by
      rw [List.getD_eq_getElem?_getD, List.getElem?_append_left (by simp; omega), List.getElem?_take_of_lt (by omega), List.getElem?_eq_getElem (by omega)]; rfl
    have hset : (s.take (t + (u + 1)) ++ d :: s.drop (t + (u + 1))).set (t + (u + 1)) s[t + u] = s.take (t + u) ++ s[t + u] :: s.drop (t + u) := by
      rw [List.set_append_right _ _ (by simp; omega), List.length_take]
      have : t + (u + 1) - min (t + (u + 1)) s.length = 0 := by omega
      rw [this, List.set_cons_zero, show t + (u + 1) = t + u + 1 by omega, List.take_succ_eq_append_getElem (by omega), List.append_assoc]
      congr 1
      rw [List.drop_eq_getElem_cons (by omega : t + u < s.length)]; rfl
    have e : (((t + (u + 1) : Nat) : Int)).toNat = t + (u + 1) := by omega
    rw [dolmenref1_Sorted.l2, if_pos (by omega), hw, if_pos (by omega), hlen, if_pos (by omega), if_pos (by omega), if_pos (by omega), rdOf_nat, hget, e, hset]
    exact ih _ m (by omega) (by omega)
theorem sorted_j2 (h : Rises s) (hm : ∀ x, x ∈ s ↔ x ∈ l.take i)
    (H : ∀ m s', K ≤ m → s'.length ≤ i + 1 → Rises s' → (∀ x, x ∈ s' ↔ x ∈ l.take (i + 1)) → dolmenref1_Sorted.l0 m l s' ((i + 1 : Nat) : Int) = some r)
    (t : Nat) (ht : t ≤ s.length) (h1 : ∀ j (hj : j < s.length), t ≤ j → (l[i]).data.toList < (s[j]).data.toList)
    (h2 : 0 < t → ∀ hj : t - 1 < s.length, ¬ (l[i]).data.toList < (s[t - 1]).data.toList) (m : Nat) (hm2 : K + s.length + 4 ≤ m) :
    dolmenref1_Sorted.j2 m l s (i : Int) (t : Int) = some r := by
  have hmt : ∀ x, x ∈ l.take (i + 1) ↔ (x ∈ s ∨ x = l[i]) := by
    intro x
    rw [List.take_succ_eq_append_getElem hi, List.mem_append, List.mem_singleton, hm]
  -- put in
  have put : (0 < t → ∀ hj : t - 1 < s.length, s[t - 1] ≠ l[i]) → ∀ m, K + s.length + 3 ≤ m → dolmenref1_Sorted.j3 m l s (i : Int) (t : Int) false = some r := by
    intro hne m hm2
    obtain ⟨m, rfl⟩ : ∃ k, m = k + 1 := ⟨m - 1, by omega⟩
    have hr : Rises (s.take t ++ l[i] :: s.drop t) := by
      refine rises_insert s h _ t ht h1 fun h0 hj => ?_
      refine List.not_le.1 fun hle => hne h0 hj (data_inj (List.le_antisymm (List.not_lt.1 (h2 h0 hj)) hle))
    have H' : ∀ m, K ≤ m → dolmenref1_Sorted.l0 m l (s.take t ++ l[i] :: s.drop t) ((i + 1 : Nat) : Int) = some r := fun m hk =>
      H m _ hk (by simp; omega) hr (fun x => by rw [mem_insert, hmt])
    have hlen : ((s ++ [(⟨#[]⟩ : ByteArray)]).length : Int) = ((s.length + 1 : Nat) : Int) := by simp
    have hw : wrap64 (((s.length + 1 : Nat) : Int) - 1) = ((t + (s.length - t) : Nat) : Int) := by rw [IntWalk.wrap64_in _ (by omega)]; omega
    have h3 := sorted_l2 l hl i hi s hs r K t H' (s.length - t) (⟨#[]⟩ : ByteArray) m (by omega) (by omega)
    have e : t + (s.length - t) = s.length := by omega
    rw [dolmenref1_Sorted.j3, if_neg (by decide), if_pos (by omega)]
    simp only [Option.bind_some]
    rw [hlen, hw]
    rw [e, List.take_length, List.drop_length] at h3
    rw [e]
    exact h3
  obtain ⟨m, rfl⟩ : ∃ k, m = k + 1 := ⟨m - 1, by omega⟩
  by_cases h0 : 0 < t
  · have hts : t - 1 < s.length := by omega
    have hw := wrap_down t h0 (by omega)
    rw [dolmenref1_Sorted.j2, if_pos (by omega), hw, if_pos (by omega), if_pos (by omega), if_pos (by omega), if_pos (by omega), rdOf_nat, rdOf_nat, getD_at _ _ _ hi, getD_at _ _ _ hts, eqq_toL]
    clear hw
    by_cases he : s[t - 1] = l[i]
    · rw [decide_eq_true he]
      obtain ⟨m, rfl⟩ : ∃ k, m = k + 1 := ⟨m - 1, by omega⟩
      have hw := wrap_up i 2000 (by omega) (by omega)
      rw [dolmenref1_Sorted.j3, if_pos rfl, hw]
      refine H m s (by omega) (by omega) h fun x => ?_
      rw [hmt]
      refine ⟨.inl, fun hx => hx.elim id fun hx => ?_⟩
      rw [hx, ← he]; exact List.getElem_mem _
    · rw [decide_eq_false he]
      exact put (fun _ _ => he) m (by omega)
  · rw [dolmenref1_Sorted.j2, if_neg (by omega)]
    exact put (fun h => absurd h h0) m (by omega)
theorem sorted_l1 (h : Rises s) (hm : ∀ x, x ∈ s ↔ x ∈ l.take i)
    (H : ∀ m s', K ≤ m → s'.length ≤ i + 1 → Rises s' → (∀ x, x ∈ s' ↔ x ∈ l.take (i + 1)) → dolmenref1_Sorted.l0 m l s' ((i + 1 : Nat) : Int) = some r) :
    ∀ (t : Nat), t ≤ s.length → (∀ j (hj : j < s.length), t ≤ j → (l[i]).data.toList < (s[j]).data.toList) → ∀ m, K + s.length + t + 5 ≤ m →
    dolmenref1_Sorted.l1 m l s (i : Int) (t : Int) = some r := by
  intro t
  induction t with
  | zero =>
    intro ht h1 m hm2
    obtain ⟨m, rfl⟩ : ∃ k, m = k + 1 := ⟨m - 1, by omega⟩
    rw [dolmenref1_Sorted.l1, if_neg (by omega)]
    exact sorted_j2 l hl i hi s hs r K h hm H 0 ht h1 (fun h => absurd h (by omega)) m (by omega)
  | succ t ih =>
    intro ht h1 m hm2
    obtain ⟨m, rfl⟩ : ∃ k, m = k + 1 := ⟨m - 1, by omega⟩
    have hts : t < s.length := by omega
    have hw : wrap64 (((t + 1 : Nat) : Int) - 1) = (t : Int) := by rw [IntWalk.wrap64_in _ (by omega)]; omega
    rw [dolmenref1_Sorted.l1, if_pos (by omega), hw, if_pos (by omega), if_pos (by omega), if_pos (by omega), if_pos (by omega), rdOf_nat, rdOf_nat, getD_at _ _ _ hi, getD_at _ _ _ hts, less_toL]
    clear hw
    by_cases hlt : (l[i]).data.toList < (s[t]).data.toList
    · rw [decide_eq_true hlt, if_pos rfl]
      refine ih (by omega) (fun j hj htj => ?_) m (by omega)
      rcases Nat.lt_or_ge t j with h3 | h3
      · exact h1 j hj h3
      · have : j = t := by omega
        subst this; exact hlt
    · rw [decide_eq_false hlt, if_neg (by decide)]
      exact sorted_j2 l hl i hi s hs r K h hm H (t + 1) ht h1 (fun _ _ => hlt) m (by omega)
end
theorem sorted_l0 (l : List ByteArray) (hl : l.length ≤ 1000) : ∀ (d i : Nat), l.length - i = d → i ≤ l.length → ∀ m s, d * 2010 + 1 ≤ m → s.length ≤ i → Rises s → (∀ x, x ∈ s ↔ x ∈ l.take i) →
    dolmenref1_Sorted.l0 m l s (i : Int) = some (sortedB l) := by
  intro d
  induction d with
  | zero =>
    intro i hd hi m s hm hs h hmem
    obtain ⟨m, rfl⟩ : ∃ k, m = k + 1 := ⟨m - 1, by omega⟩
    rw [dolmenref1_Sorted.l0, if_neg (by omega), rises_sorted l s h (fun x => by rw [hmem, List.take_of_length_le (by omega)])]
  | succ d ih =>
    intro i hd hi m s hm hs h hmem
    have hlt : i < l.length := by omega
    obtain ⟨m, rfl⟩ : ∃ k, m = k + 1 := ⟨m - 1, by omega⟩
    rw [dolmenref1_Sorted.l0, if_pos (by omega)]
    exact sorted_l1 l hl i hlt s hs (sortedB l) (d * 2010 + 1) h hmem (fun m' s' hk hs' h' hm' => ih (i + 1) (by omega) (by omega) m' s' hk hs' h' hm') s.length (Nat.le_refl _)
      (fun j hj htj => absurd hj (by omega)) m (by omega)
theorem refsorted_f (l : List ByteArray) (hl : l.length ≤ 1000) (k : Nat) (hk : 2010001 ≤ k) : dolmenref1_Sorted.f k l = some (sortedB l) := by
  unfold dolmenref1_Sorted.f
  exact sorted_l0 l hl l.length 0 (by omega) (by omega) k [] (by omega) (by simp) List.Pairwise.nil (by simp)
end Go.Proofs.YtcaafbnfgijjfaaDoor.G
