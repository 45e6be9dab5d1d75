/- Plain words on texts in order, each once: strictly rising, the same members, sorted again they stay; one such list alone. -/
import Derived.Test.YtcaafbnfgijjfaaDoorGvSorted
import Derived.Sort.Walk0
import Derived.Lib.SlicesCompact
namespace Go.Proofs.YtcaafbnfgijjfaaDoor.G
open Go.RowKit Go.Lib
set_option linter.unusedVariables false
set_option linter.unusedSimpArgs false

theorem bang_get {α : Type} [Inhabited α] (l : List α) (i : Nat) (h : i < l.length) : l.toArray[i]! = l[i] := by simp [h]
section
variable (l : List (List UInt8)) (hs : l.Pairwise (· ≤ ·))
include hs
theorem at_le {i j : Nat} (hij : i < j) (hj : j < l.length) : l.toArray[i]! ≤ l.toArray[j]! := by
  rw [bang_get l i (by omega), bang_get l j hj]
  exact List.pairwise_iff_getElem.1 hs i j (by omega) hj hij
theorem compact_lt : (compact l).Pairwise (· < ·) := by
  unfold compact compactUpTo
  rw [List.pairwise_map]
  refine List.Pairwise.imp_of_mem (R := (· < ·)) ?_ (List.pairwise_lt_range.filter _)
  intro i j hi hj hij
  have hjl : j < l.length := by simpa using (List.mem_filter.1 hj).1
  have hk := (List.mem_filter.1 hj).2
  have hne : l.toArray[j]! ≠ l.toArray[j - 1]! := by
    intro e
    rw [keeps_neg (by omega) e] at hk
    exact absurd hk (by decide)
  have h1 : l.toArray[j - 1]! ≤ l.toArray[j]! := at_le l hs (by omega) hjl
  have h2 : l.toArray[i]! ≤ l.toArray[j - 1]! := by
    rcases Nat.lt_or_ge i (j - 1) with h | h
    · exact at_le l hs h (by omega)
    · have : i = j - 1 := by omega
      rw [this]; exact List.le_refl _
  refine List.not_le.1 fun h => hne ?_
  exact List.le_antisymm (List.le_trans h h2) h1
end
theorem compact_mem (l : List (List UInt8)) (x : List UInt8) : x ∈ compact l ↔ x ∈ l := by
  unfold compact compactUpTo
  rw [List.mem_map]
  constructor
  · rintro ⟨j, hj, rfl⟩
    have hjl : j < l.length := by simpa using (List.mem_filter.1 hj).1
    rw [bang_get l j hjl]; exact List.getElem_mem hjl
  · intro h
    obtain ⟨i, hi, rfl⟩ := List.getElem_of_mem h
    clear h
    induction i with
    | zero => exact ⟨0, List.mem_filter.2 ⟨by simpa using hi, keeps_lt_one _ 0 (by omega)⟩, bang_get l 0 hi⟩
    | succ i ih =>
      by_cases e : l.toArray[i + 1]! = l.toArray[i]!
      · obtain ⟨j, hj, hx⟩ := ih (by omega)
        refine ⟨j, hj, ?_⟩
        rw [hx, ← bang_get l i (by omega), ← bang_get l (i + 1) hi, e]
      · exact ⟨i + 1, List.mem_filter.2 ⟨by simpa using hi, keeps_pos (m := i + 1) e⟩, bang_get l (i + 1) hi⟩
theorem sort_le (l : List (List UInt8)) : (l.mergeSort fun x y => decide (x ≤ y)).Pairwise (· ≤ ·) := by
  have := List.pairwise_mergeSort (le := fun x y : List UInt8 => decide (x ≤ y)) (fun a b c h1 h2 => by
    simp only [decide_eq_true_eq] at *; exact List.le_trans h1 h2) (fun a b => by
    simp only [Bool.or_eq_true, decide_eq_true_eq]; exact List.le_total a b) l
  simpa using this
theorem sortedL_lt (l : List (List UInt8)) : (sortedL l).Pairwise (· < ·) := compact_lt _ (sort_le l)
theorem sortedL_mem (l : List (List UInt8)) (x : List UInt8) : x ∈ sortedL l ↔ x ∈ l := by unfold sortedL; rw [compact_mem, List.mem_mergeSort]
theorem sortedL_same (l : List (List UInt8)) (h : l.Pairwise (· < ·)) : sortedL l = l := by
  unfold sortedL
  rw [List.mergeSort_of_pairwise (h.imp fun h => by simpa using List.le_of_lt h)]
  refine compact_all l fun j hj => ?_
  rcases Nat.eq_zero_or_pos j with rfl | h0
  · exact keeps_lt_one _ 0 (by omega)
  · refine keeps_pos ?_
    rw [bang_get l j hj, bang_get l (j - 1) (by omega)]
    intro e
    have := List.pairwise_iff_getElem.1 h (j - 1) j (by omega) hj (by omega)
    rw [e] at this
    exact List.lt_irrefl _ this
/-- Two strictly rising lists with the same members are one. -/
theorem rising_one : ∀ (a b : List (List UInt8)), a.Pairwise (· < ·) → b.Pairwise (· < ·) → (∀ x, x ∈ a ↔ x ∈ b) → a = b
  | [], [], _, _, _ => rfl
  | [], y :: b, _, _, h => absurd ((h y).2 (by simp)) (by simp)
  | x :: a, [], _, _, h => absurd ((h x).1 (by simp)) (by simp)
  | x :: a, y :: b, ha, hb, h => by
    have ha' := List.pairwise_cons.1 ha
    have hb' := List.pairwise_cons.1 hb
    have e : x = y := by
      rcases List.mem_cons.1 ((h x).1 (by simp)) with e | e
      · exact e
      · rcases List.mem_cons.1 ((h y).2 (by simp)) with e' | e'
        · exact e'.symm
        · exact absurd (List.lt_trans (hb'.1 x e) (ha'.1 y e')) (List.lt_irrefl _)
    subst e
    rw [rising_one a b ha'.2 hb'.2 fun z => ?_]
    constructor
    · intro hz
      rcases List.mem_cons.1 ((h z).1 (List.mem_cons_of_mem _ hz)) with e | e
      · subst e; exact absurd (ha'.1 z hz) (List.lt_irrefl _)
      · exact e
    · intro hz
      rcases List.mem_cons.1 ((h z).2 (List.mem_cons_of_mem _ hz)) with e | e
      · subst e; exact absurd (hb'.1 z hz) (List.lt_irrefl _)
      · exact e
theorem datas_ofL (l : List (List UInt8)) : (l.map ofL).map (·.data.toList) = l := by
  rw [List.map_map]
  conv => rhs; rw [← List.map_id l]
  exact List.map_congr_left fun x _ => ofL_data x
theorem ofL_datas (l : List ByteArray) : (l.map (·.data.toList)).map ofL = l := by
  rw [List.map_map]
  conv => rhs; rw [← List.map_id l]
  exact List.map_congr_left fun x _ => ofL_of x
theorem sortedB_datas (l : List ByteArray) : (sortedB l).map (·.data.toList) = sortedL (l.map (·.data.toList)) := by unfold sortedB; rw [datas_ofL]
theorem sortedB_mem (l : List ByteArray) (x : ByteArray) : x ∈ sortedB l ↔ x ∈ l := by
  unfold sortedB
  rw [List.mem_map]
  constructor
  · rintro ⟨y, hy, rfl⟩
    rw [sortedL_mem, List.mem_map] at hy
    obtain ⟨z, hz, rfl⟩ := hy
    rw [ofL_of]; exact hz
  · intro h
    exact ⟨x.data.toList, (sortedL_mem _ _).2 (List.mem_map_of_mem h), ofL_of x⟩
theorem sortedB_lt (l : List ByteArray) : (sortedB l).Pairwise fun x y => x.data.toList < y.data.toList := by
  have := sortedL_lt (l.map (·.data.toList))
  rw [← sortedB_datas, List.pairwise_map] at this
  exact this
theorem sortedB_again (l : List ByteArray) : sortedB (sortedB l) = sortedB l := by
  have h := sortedL_same _ (sortedL_lt (l.map (·.data.toList)))
  have e : sortedB (sortedB l) = (sortedL ((sortedB l).map (·.data.toList))).map ofL := rfl
  rw [e, sortedB_datas, h]; rfl
theorem sortedB_len (l : List ByteArray) : (sortedB l).length ≤ l.length := by
  unfold sortedB sortedL
  rw [List.length_map]
  refine Nat.le_trans (compact_len _) ?_
  rw [List.length_mergeSort, List.length_map]; exact Nat.le_refl _
end Go.Proofs.YtcaafbnfgijjfaaDoor.G
