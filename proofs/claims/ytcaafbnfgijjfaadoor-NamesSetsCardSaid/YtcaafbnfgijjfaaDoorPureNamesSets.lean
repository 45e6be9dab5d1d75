/- NamesSets: sorted is each once, rising, just what was there; sorted again it stays. For every list of texts that a row lets in. -/
import Derived.Test.YtcaafbnfgijjfaaDoorG0
import Derived.Test.YtcaafbnfgijjfaaDoorG16
import Derived.Test.YtcaafbnfgijjfaaDoorPlSorted
import Derived.Test.YtcaafbnfgijjfaaDoorPuNames
namespace Go.Proofs.YtcaafbnfgijjfaaDoor.Pure
open Go.RowKit Go.Proofs.YtcaafbnfgijjfaaDoor.G Go.Proofs.YtcaafbnfgijjfaaDoorW.PrintWords Go.Proofs.YtcaafbnfgijjfaaDoorW.PrintLast
set_option linter.unusedVariables false

theorem sum_two (n : Nat) (m k : Nat) (hn : n ≤ 140737488351232) (hk : 3 ≤ k) (hm : m ≤ 9223372036854775807) :
    ∃ r : Nat, dolmenalike_Sum.f k (n : Int) ([(m : Int), 1] : List Int) = some (r : Int) ∧ (r ≤ 1000 → r = n + m + 1) := by
  obtain ⟨k, rfl⟩ : ∃ j, k = j + 3 := ⟨k - 3, by omega⟩
  have h0 : rd ([(m : Int), 1] : List Int) 0 = (m : Int) := rfl
  have h1 : rd ([(m : Int), 1] : List Int) 1 = 1 := rfl
  have w0 : wrap64 ((0 : Int) + 1) = 1 := IntWalk.wrap64_in _ (by omega)
  have w1 : wrap64 ((1 : Int) + 1) = 2 := IntWalk.wrap64_in _ (by omega)
  have a1 : wrap64 (1099511627776 - (n : Int)) = 1099511627776 - (n : Int) := IntWalk.wrap64_in _ (by omega)
  have hl : ((([(m : Int), 1] : List Int).length : Nat) : Int) = 2 := rfl
  unfold dolmenalike_Sum.f
  rw [dolmenalike_Sum.l0, hl, if_pos (by omega), h0, a1]
  clear a1
  by_cases hbig : (n : Int) > 1099511627776
  · rw [if_pos hbig]; exact ⟨1099511627776, rfl, fun h => absurd h (by decide)⟩
  rw [if_neg hbig, if_pos (by omega)]
  by_cases h : (m : Int) > 1099511627776 - (n : Int)
  · rw [if_pos h]; exact ⟨1099511627776, rfl, fun h => absurd h (by decide)⟩
  · rw [if_neg h, w0]
    have a2 : wrap64 ((n : Int) + (m : Int)) = ((n + m : Nat) : Int) := by rw [IntWalk.wrap64_in _ (by omega)]; omega
    rw [a2]
    clear a2
    have a3 : wrap64 (1099511627776 - ((n + m : Nat) : Int)) = 1099511627776 - ((n + m : Nat) : Int) := IntWalk.wrap64_in _ (by omega)
    have a4 : wrap64 (((n + m : Nat) : Int) + 1) = ((n + m + 1 : Nat) : Int) := by rw [IntWalk.wrap64_in _ (by omega)]; omega
    rw [dolmenalike_Sum.l0, hl, if_pos (by omega), if_neg (by omega), if_pos (by omega), h1, a3, a4, w1]
    clear a3 a4
    by_cases h2 : (1 : Int) > 1099511627776 - ((n + m : Nat) : Int)
    · rw [if_pos h2]; exact ⟨1099511627776, rfl, fun h => absurd h (by decide)⟩
    · rw [if_neg h2, dolmenalike_Sum.l0, hl, if_neg (by omega)]
      exact ⟨n + m + 1, rfl, fun _ => rfl⟩
theorem less_f (a b : ByteArray) : names_Less.f a b = some (decide (a.data.toList < b.data.toList)) := by
  unfold names_Less.f; rw [Go.Proofs.bytesLess_eq, toL, toL]
theorem eq_toL (a b : ByteArray) : (a.toList == b.toList) = decide (a = b) := by
  by_cases h : a = b
  · subst h; simp
  · simp only [h, decide_false]
    have : a.toList ≠ b.toList := fun e => h (toL_inj.1 e)
    simpa using this
def inB (l : List ByteArray) (x : ByteArray) : Bool := l.any fun y => decide (y = x)
theorem inB_iff (l : List ByteArray) (x : ByteArray) : inB l x = true ↔ x ∈ l := by
  unfold inB
  simp
theorem inB_same {l m : List ByteArray} {x : ByteArray} (h : x ∈ l ↔ x ∈ m) : inB l x = inB m x := by
  rw [Bool.eq_iff_iff, inB_iff, inB_iff, h]
theorem inB_succ (l : List ByteArray) (x : ByteArray) (i : Nat) (h : i < l.length) : inB (l.take (i + 1)) x = (inB (l.take i) x || decide (l[i] = x)) := by
  unfold inB
  rw [List.take_succ_eq_append_getElem h, List.any_append]; simp
theorem end_f (l : List ByteArray) (x : ByteArray) (hl : l.length ≤ 1000) (k : Nat) (hk : 300000 ≤ k) :
    ∀ (d i m : Nat), (sortedB l).length - i = d → i ≤ (sortedB l).length → m = k + d →
    dolmenlaw4_NamesSets.l2 (m + 1) l x (sortedB l) (inB l x) (inB ((sortedB l).take i) x) (i : Int) = some true := by
  have hlen := sortedB_len l
  have hag := sortedB_again l
  have hmem := inB_same (sortedB_mem l x)
  have hlt := sortedB_lt l
  generalize sortedB l = s at *
  intro d
  induction d with
  | zero =>
    intro i m hd hi hm
    have : i = s.length := by omega
    subst this
    have hS : names_Sorted.f s = some s := by unfold names_Sorted.f; rw [if_pos (by omega), hag]
    have ht := texts_f s s m (by omega) (by omega)
    have ha := awake_f m (by omega)
    rw [List.take_length, dolmenlaw4_NamesSets.l2, if_neg (by omega), hS]
    simp only [Option.bind_some]
    rw [ht, ha, if_pos (by simp [hmem])]
    simp only [Option.bind_some, decide_true, if_true]
    rw [if_pos (by omega)]
  | succ d ih =>
    intro i m hd hi hm
    have hlt' : i < s.length := by omega
    obtain ⟨m, rfl⟩ : ∃ j, m = j + 1 := ⟨m - 1, by omega⟩
    have hih := ih (i + 1) m (by omega) (by omega) (by omega)
    have hw1 := wrap_up i 100000 (by omega) (by omega)
    have hgi : rdOf ByteArray.empty s (i : Int) = s[i] := by rw [rdOf_nat, getD_at _ _ _ hlt']
    rw [dolmenlaw4_NamesSets.l2, if_pos (by omega), hw1, hgi, eq_toL]
    clear hw1
    have hrise : 0 < i → wrap64 ((i : Int) - 1) = ((i - 1 : Nat) : Int) ∧ names_Less.f (rdOf ByteArray.empty s ((i - 1 : Nat) : Int)) s[i] = some true := by
      intro h0
      refine ⟨by rw [IntWalk.wrap64_in _ (by omega)]; omega, ?_⟩
      rw [rdOf_nat, getD_at _ _ _ (by omega : i - 1 < s.length), less_f]
      have := List.pairwise_iff_getElem.1 hlt (i - 1) i (by omega) hlt' (by omega)
      rw [decide_eq_true this]
    rw [inB_succ s x i hlt'] at hih
    by_cases hx : inB (s.take i) x = true
    · rw [hx, Bool.true_or] at hih
      rw [hx, if_pos rfl]
      by_cases h0 : 0 < i
      · obtain ⟨hw, hL⟩ := hrise h0
        rw [if_pos (by omega), hw, hL]
        clear hw
        rw [if_pos (by omega), if_pos (by omega), if_pos (by omega)]
        simpa using hih
      · rw [if_neg (by omega)]; exact hih
    · have hx' : inB (s.take i) x = false := by simpa using hx
      rw [hx', Bool.false_or] at hih
      rw [hx', if_neg (by decide), if_pos (by omega)]
      by_cases h0 : 0 < i
      · obtain ⟨hw, hL⟩ := hrise h0
        rw [if_pos (by omega), hw, hL]
        clear hw
        rw [if_pos (by omega), if_pos (by omega)]
        simpa using hih
      · rw [if_neg (by omega)]; exact hih
theorem in_f (l : List ByteArray) (x : ByteArray) (hl : l.length ≤ 1000) (k : Nat) (hk : 300000 ≤ k) :
    ∀ (d i m : Nat), l.length - i = d → i ≤ l.length → m = k + 1001 + d →
    dolmenlaw4_NamesSets.l1 (m + 1) l x (sortedB l) (inB (l.take i) x) false (i : Int) = some true := by
  have hlen := sortedB_len l
  intro d
  induction d with
  | zero =>
    intro i m hd hi hm
    have : i = l.length := by omega
    subst this
    have he := end_f l x hl (m - 1 - (sortedB l).length) (by omega) (sortedB l).length 0 (m - 1) (by omega) (by omega) (by omega)
    rw [show m - 1 + 1 = m by omega, List.take_zero] at he
    rw [List.take_length, dolmenlaw4_NamesSets.l1, if_neg (by omega)]
    simpa [inB] using he
  | succ d ih =>
    intro i m hd hi hm
    have hlt' : i < l.length := by omega
    obtain ⟨m, rfl⟩ : ∃ j, m = j + 1 := ⟨m - 1, by omega⟩
    have hih := ih (i + 1) m (by omega) (by omega) (by omega)
    have hw1 := wrap_up i 100000 (by omega) (by omega)
    have hgi : rdOf ByteArray.empty l (i : Int) = l[i] := by rw [rdOf_nat, getD_at _ _ _ hlt']
    rw [dolmenlaw4_NamesSets.l1, if_pos (by omega), hw1, hgi, eq_toL]
    clear hw1
    rw [inB_succ l x i hlt'] at hih
    by_cases hx : inB (l.take i) x = true
    · rw [hx, Bool.true_or] at hih
      rw [hx, if_pos rfl]; exact hih
    · have hx' : inB (l.take i) x = false := by simpa using hx
      rw [hx', Bool.false_or] at hih
      rw [hx', if_neg (by decide), if_pos (by omega)]; exact hih
theorem first_f (l : List ByteArray) (x : ByteArray) (hz : ∀ y ∈ l, y.size ≤ 9223372036854775807) (hx : x.size ≤ 9223372036854775807) (hw : l.length ≤ 8796093022208) (k : Nat) (hk : 310000 ≤ k) :
    ∀ (d i m n : Nat), l.length - i = d → i ≤ l.length → m = k + d → i ≤ n → n ≤ 140737488351232 ∧ (i = 0 ∨ n ≤ 1000) →
    dolmenlaw4_NamesSets.l0 (m + 1) l x (n : Int) (i : Int) = some true := by
  intro d
  induction d with
  | zero =>
    intro i m n hd hi hm h1 h2
    have : i = l.length := by omega
    subst this
    have hl : l.length ≤ 1000 := by omega
    have he := in_f l x hl (m - 1 - 1001 - l.length) (by omega) l.length 0 (m - 1) (by omega) (by omega) (by omega)
    rw [show m - 1 + 1 = m by omega, List.take_zero] at he
    have hS : names_Sorted.f l = some (sortedB l) := by unfold names_Sorted.f; rw [if_pos (by omega)]
    rw [dolmenlaw4_NamesSets.l0, if_neg (by omega), hS]
    simpa [inB] using he
  | succ d ih =>
    intro i m n hd hi hm h1 h2
    have hlt' : i < l.length := by omega
    obtain ⟨m, rfl⟩ : ∃ j, m = j + 1 := ⟨m - 1, by omega⟩
    obtain ⟨r, hr, hr2⟩ := sum_two n (l[i]).size (m + 1) h2.1 (by omega) (hz _ (List.getElem_mem hlt'))
    have hw1 := wrap_up i 8796093022208 (by omega) (by omega)
    have hgi : rdOf ByteArray.empty l (i : Int) = l[i] := by rw [rdOf_nat, getD_at _ _ _ hlt']
    have ha := awake_f (m + 1) (by omega)
    rw [dolmenlaw4_NamesSets.l0, if_pos (by omega), if_pos (by omega), hw1, hgi, hr, ha]
    clear hw1
    simp only [Option.bind_some]
    by_cases h : r ≤ 1000
    · rw [if_neg (by omega)]
      have := hr2 h
      exact ih (i + 1) m r (by omega) (by omega) (by omega) (by omega) (by omega)
    · rw [if_pos (by omega)]
theorem NamesSets (l : List ByteArray) (x : ByteArray) (hw : l.length * 16 ≤ 140737488351232) (hz : ∀ y ∈ l, y.size ≤ 9223372036854775807) (hx : x.size ≤ 140737488351232) : ∃ k, dolmenlaw4_NamesSets.f k l x = some true := by
  refine ⟨310000 + l.length + 1, ?_⟩
  exact first_f l x hz (by omega) (by omega) 310000 (by omega) l.length 0 _ x.size (by omega) (by omega) rfl (by omega) ⟨by omega, .inl rfl⟩
end Go.Proofs.YtcaafbnfgijjfaaDoor.Pure
