/- What the printed functions over paths tell, in plain words: equal lists, a path's names, whether it stands under another one; and what each law's beginning asks. -/
import Derived.Test.YtcaafbnfgijjfaaDoorG0
import Derived.Test.YtcaafbnfgijjfaaDoorG2
import Derived.Test.YtcaafbnfgijjfaaDoorG3
import Derived.Test.YtcaafbnfgijjfaaDoorG6
import Derived.Test.YtcaafbnfgijjfaaDoorPlNames
import Derived.Test.YtcaafbnfgijjfaaDoorGvSplit
import Derived.Test.YtcaafbnfgijjfaaDoorGvSorted
import Derived.Test.YtcaafbnfgijjfaaDoorGvJoin
import Derived.Test.YtcaafbnfgijjfaaDoorGvCode
namespace Go.Proofs.YtcaafbnfgijjfaaDoor.G
open Go.RowKit Go.Proofs.YtcaafbnfgijjfaaDoorW.PrintWords Go.Proofs.YtcaafbnfgijjfaaDoorW.PrintLast
set_option linter.unusedVariables false
set_option linter.unusedSimpArgs false

theorem wrap_up (i n : Nat) (h : i < n) (hn : n ≤ 4611686018427387904) : wrap64 ((i : Int) + 1) = ((i + 1 : Nat) : Int) := by
  rw [IntWalk.wrap64_in _ (by omega)]; omega
theorem rdOf_nat {α : Type} (d : α) (l : List α) (i : Nat) : rdOf d l (i : Int) = l.getD i d := by simp [rdOf]
theorem getD_at {α : Type} (d : α) (l : List α) (i : Nat) (h : i < l.length) : l.getD i d = l[i] := by
  rw [List.getD_eq_getElem?_getD, List.getElem?_eq_getElem h]; rfl
theorem toL_inj {s t : ByteArray} : s.toList = t.toList ↔ s = t := ⟨fun h => data_inj (by rw [← toL, ← toL, h]), fun h => by rw [h]⟩

/-! ### two lists of texts -/
theorem texts_l0 (a b : List ByteArray) (hab : a.length = b.length) (ha : a.length ≤ 4611686018427387904) : ∀ (d i k : Nat), a.length - i = d → i ≤ a.length → d + 1 ≤ k →
    dolmenref5_Texts.l0 k a b (i : Int) = some (decide (a.drop i = b.drop i)) := by
  intro d
  induction d with
  | zero =>
    intro i k hd hi hk
    obtain ⟨k, rfl⟩ : ∃ m, k = m + 1 := ⟨k - 1, by omega⟩
    simp only [dolmenref5_Texts.l0]
    rw [if_neg (by omega), List.drop_of_length_le (by omega), List.drop_of_length_le (by omega)]; rfl
  | succ d ih =>
    intro i k hd hi hk
    obtain ⟨k, rfl⟩ : ∃ m, k = m + 1 := ⟨k - 1, by omega⟩
    have h1 : i < a.length := by omega
    have h2 : i < b.length := by omega
    simp only [dolmenref5_Texts.l0]
    rw [if_pos (by omega), if_pos (by omega), if_pos (by omega), rdOf_nat, rdOf_nat, getD_at _ _ _ h1, getD_at _ _ _ h2, List.drop_eq_getElem_cons h1, List.drop_eq_getElem_cons h2]
    by_cases he : a[i] = b[i]
    · rw [if_pos (toL_inj.2 he), wrap_up i a.length h1 ha, ih (i + 1) k (by omega) (by omega) (by omega)]
      simp only [List.cons.injEq, he, true_and]
    · rw [if_neg (fun h => he (toL_inj.1 h))]
      simp only [List.cons.injEq, he, false_and, decide_false]
theorem texts_f (a b : List ByteArray) (k : Nat) (ha : a.length ≤ 4611686018427387904) (hk : a.length + 1 ≤ k) : dolmenref5_Texts.f k a b = some (decide (a = b)) := by
  unfold dolmenref5_Texts.f
  by_cases h : a.length = b.length
  · rw [if_pos (by omega)]
    have := texts_l0 a b h ha a.length 0 k (by omega) (by omega) (by omega)
    simpa using this
  · rw [if_neg (by omega)]
    simp; intro e; exact h (by rw [e])
theorem equal_l0 (a b : List ByteArray) (hab : a.length = b.length) (ha : a.length ≤ 4611686018427387904) : ∀ (d i k : Nat), a.length - i = d → i ≤ a.length → d + 1 ≤ k →
    slices_Equal_string_string.l0 k a b (a.length : Int) (i : Int) = some (decide (a.drop i = b.drop i)) := by
  intro d
  induction d with
  | zero =>
    intro i k hd hi hk
    obtain ⟨k, rfl⟩ : ∃ m, k = m + 1 := ⟨k - 1, by omega⟩
    simp only [slices_Equal_string_string.l0]
    rw [if_neg (by omega), List.drop_of_length_le (by omega), List.drop_of_length_le (by omega)]; rfl
  | succ d ih =>
    intro i k hd hi hk
    obtain ⟨k, rfl⟩ : ∃ m, k = m + 1 := ⟨k - 1, by omega⟩
    have h1 : i < a.length := by omega
    have h2 : i < b.length := by omega
    simp only [slices_Equal_string_string.l0]
    rw [if_pos (by omega), if_pos (by omega), if_pos (by omega), if_pos (by omega), rdOf_nat, rdOf_nat, getD_at _ _ _ h1, getD_at _ _ _ h2, List.drop_eq_getElem_cons h1, List.drop_eq_getElem_cons h2]
    by_cases he : a[i] = b[i]
    · rw [if_pos (toL_inj.2 he), wrap_up i a.length h1 ha, ih (i + 1) k (by omega) (by omega) (by omega)]
      simp only [List.cons.injEq, he, true_and]
    · rw [if_neg (fun h => he (toL_inj.1 h))]
      simp only [List.cons.injEq, he, false_and, decide_false]
theorem equal_f (a b : List ByteArray) (k : Nat) (ha : a.length ≤ 4611686018427387904) (hk : a.length + 1 ≤ k) : slices_Equal_string_string.f k a b = some (decide (a = b)) := by
  unfold slices_Equal_string_string.f
  by_cases h : a.length = b.length
  · rw [if_pos (by omega)]
    have := equal_l0 a b h ha a.length 0 k (by omega) (by omega) (by omega)
    simpa using this
  · rw [if_neg (by omega)]
    simp; intro e; exact h (by rw [e])

/-! ### a path's names -/
def splitR (a0 : ByteArray) : List ByteArray × Option Int :=
  if 200 < a0.size then ([], some 2)
  else if a0.data.toList.head? ≠ some 47 then ([], some 2)
  else if a0.data.toList = [47] then ([], none)
  else restOf ((cutL 47 a0.data.toList.tail).map ofL)
theorem split_f (a0 : ByteArray) : names_Split.f a0 = some (splitR a0) := by
  unfold names_Split.f splitR
  split
  · rfl
  · split
    · rfl
    · split <;> rfl
theorem split_len (a0 : ByteArray) : (splitR a0).1.length ≤ 6 := by
  unfold splitR restOf
  repeat' split
  all_goals first | (simp; done) | (simp at *; omega)
/-- A path stands under another one. -/
def underB (p q : ByteArray) : Bool := (splitR p).2.isNone && (splitR q).2.isNone && decide ((splitR p).1.take (splitR q).1.length = (splitR q).1)
theorem under_f (p q : ByteArray) (k : Nat) (hk : 10 ≤ k) : names_Under.f k p q = some (underB p q) := by
  have hp := split_len p
  have hq := split_len q
  unfold names_Under.f underB
  rw [split_f, split_f]
  simp only [Option.bind_some]
  generalize splitR p = x at *
  generalize splitR q = y at *
  obtain ⟨a, e⟩ := x
  obtain ⟨b, f⟩ := y
  cases e with
  | some e => simp
  | none =>
    cases f with
    | some f => simp
    | none =>
      simp only [Option.isNone_none, if_true, Bool.true_and]
      by_cases hl : b.length ≤ a.length
      · simp only at hp hq
        rw [if_pos (by omega), if_pos (by omega), show ((b.length : Int)).toNat = b.length by omega, equal_f _ _ k (by simp; omega) (by simp; omega)]
        rfl
      · rw [if_neg (by omega)]
        have : ¬ a.take b.length = b := fun h => hl (by rw [← h, List.length_take]; exact Nat.min_le_right _ _)
        simp [this]

/-! ### a path whose names are told is put together of them -/
def glueL (l : List (List UInt8)) : List UInt8 := (l.map fun x => (47 : UInt8) :: x).flatten
theorem glue_cut : ∀ l : List UInt8, glueL (cutL 47 l) = 47 :: l
  | [] => rfl
  | x :: l => by
    have ih := glue_cut l
    have hn := cutL_ne 47 l
    rw [cutL]
    split
    · rename_i h; subst h
      show (47 : UInt8) :: ([] ++ glueL (cutL 47 l)) = _
      rw [ih]; rfl
    · cases hc : cutL 47 l with
      | nil => exact absurd hc hn
      | cons a b =>
        rw [hc] at ih
        have e : (47 : UInt8) :: (a ++ glueL b) = 47 :: l := ih
        have e2 : a ++ glueL b = l := (List.cons.inj e).2
        show (47 : UInt8) :: ((x :: a) ++ glueL b) = _
        rw [List.cons_append, e2]
theorem rest_none (l : List ByteArray) (h : (restOf l).2 = none) : (restOf l).1 = l ∧ (l.any fun x => !nameOk x) = false ∧ (l.any fun x => decide (12 < x.size)) = false ∧ l.length ≤ 6 := by
  unfold restOf at *
  repeat' split at h
  all_goals first | (simp at h; done) | skip
  rename_i h1 h2 h3
  rw [if_neg h1, if_neg h2, if_neg h3]
  exact ⟨rfl, by simpa using h1, by simpa using h2, by omega⟩
theorem map_ofL_inj {a b : List (List UInt8)} (h : a.map ofL = b.map ofL) : a = b := by
  have := congrArg (List.map (·.data.toList)) h
  simpa [List.map_map, Function.comp_def, ofL_data] using this
/-- Of a path: it is the root, or what its names make. -/
theorem split_none (a : ByteArray) (h : (splitR a).2 = none) : (a.data.toList = [47] ∧ (splitR a).1 = []) ∨
    ((splitR a).1 = (cutL 47 a.data.toList.tail).map ofL ∧ a.data.toList = 47 :: a.data.toList.tail ∧ a.data.toList ≠ [47] ∧ a.size ≤ 200 ∧ restOf ((cutL 47 a.data.toList.tail).map ofL) = ((cutL 47 a.data.toList.tail).map ofL, none)) := by
  unfold splitR at *
  split at h
  · simp at h
  rename_i h1
  rw [if_neg h1]
  split at h
  · simp at h
  rename_i h2
  rw [if_neg h2]
  split at h
  · rename_i h3; rw [if_pos h3]; exact .inl ⟨h3, rfl⟩
  · rename_i h3
    rw [if_neg h3]
    have hr := rest_none _ h
    refine .inr ⟨hr.1, ?_, h3, by omega, Prod.ext hr.1 h⟩
    cases hd : a.data.toList with
    | nil => rw [hd] at h2; simp at h2
    | cons x l => rw [hd] at h2; simp at h2; simp [h2]
theorem split_inj (a b : ByteArray) (ha : (splitR a).2 = none) (hb : (splitR b).2 = none) (h : (splitR a).1 = (splitR b).1) : a = b := by
  have hne : ∀ l : List UInt8, (cutL 47 l).map ofL ≠ [] := fun l e => cutL_ne 47 l (List.map_eq_nil_iff.1 e)
  rcases split_none a ha with ⟨a1, a2⟩ | ⟨a1, a2, _⟩ <;> rcases split_none b hb with ⟨b1, b2⟩ | ⟨b1, b2, _⟩
  · exact data_inj (by rw [a1, b1])
  · rw [a2, b1] at h; exact absurd h.symm (hne _)
  · rw [a1, b2] at h; exact absurd h (hne _)
  · rw [a1, b1] at h
    have h2 := map_ofL_inj h
    have h3 := congrArg glueL h2
    rw [glue_cut, glue_cut] at h3
    exact data_inj (by rw [a2, b2, h3])

/-! ### what each law's beginning asks -/
theorem match_awake : names_Match.f 60 (⟨#[97, 42]⟩ : ByteArray) (⟨#[97, 98, 99]⟩ : ByteArray) = some true := by decide +kernel
theorem awake_f (k : Nat) (hk : 60 ≤ k) : dolmenlaw4_awake.f k = some true := by
  unfold dolmenlaw4_awake.f
  have e1 : names_Split.f (⟨#[47, 97, 47, 98]⟩ : ByteArray) = some ([(⟨#[97]⟩ : ByteArray), (⟨#[98]⟩ : ByteArray)], none) := by rw [split_f]; decide +kernel
  have e2 : names_Split.f (⟨#[47, 97, 47]⟩ : ByteArray) = some ([], some 2) := by rw [split_f]; decide +kernel
  have e3 : names_Join.f [] = some (ofL [47]) := rfl
  have e4 := at_rounds (g := fun k => names_Match.f k (⟨#[97, 42]⟩ : ByteArray) (⟨#[97, 98, 99]⟩ : ByteArray)) (names_Match.mono _ _) hk match_awake
  rw [e1, e2]
  simp only [Option.bind_some, Option.isNone_none, if_true]
  rw [texts_f _ _ k (by decide) (by simp; omega)]
  simp only [Option.bind_some, decide_true, if_true]
  have e5 : dolmenalike_Code.f (some 2) = some 2 := rfl
  rw [e5, e3]
  simp only [Option.bind_some, if_true]
  rw [if_pos (by rw [ofL_toL]), e4]
  rfl
end Go.Proofs.YtcaafbnfgijjfaaDoor.G
