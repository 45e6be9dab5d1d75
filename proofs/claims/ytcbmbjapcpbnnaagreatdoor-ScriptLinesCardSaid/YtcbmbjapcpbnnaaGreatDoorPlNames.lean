/- Plain words on texts: bytes of a text, a text cut at a byte, what a name is; what the printed names.Name tells. -/
import Derived.Lib.SplitLaws
import Derived.Lib.IndexBytes
import Derived.IntWalk
import Derived.Test.YtcbmbjapcpbnnaaGreatDoorG0
import Derived.Test.YtcbmbjapcpbnnaaGreatDoorG1
namespace Go.Proofs.YtcbmbjapcpbnnaaGreatDoor.G
open Go.RowKit Go.Proofs.YtcbmbjapcpbnnaaGreatDoorW.PrintWords Go.Proofs.YtcbmbjapcpbnnaaGreatDoorW.PrintLast
set_option linter.unusedVariables false
set_option linter.unusedSimpArgs false

/-! ### texts and their bytes -/
def ofL (l : List UInt8) : ByteArray := ⟨l.toArray⟩
theorem ofL_data (l : List UInt8) : (ofL l).data.toList = l := by simp [ofL]
theorem ofL_of (s : ByteArray) : ofL s.data.toList = s := by cases s with | mk d => simp [ofL]
theorem data_inj {s t : ByteArray} (h : s.data.toList = t.data.toList) : s = t := by rw [← ofL_of s, ← ofL_of t, h]
theorem ofL_size (l : List UInt8) : (ofL l).size = l.length := by simp [ofL, ByteArray.size]
theorem size_len (s : ByteArray) : s.size = s.data.toList.length := Lib.size_eq s
theorem toL (s : ByteArray) : s.toList = s.data.toList := Lib.toList_data s
theorem ofL_toL (l : List UInt8) : (ofL l).toList = l := by rw [toL, ofL_data]
theorem ext_data (s : ByteArray) (a b : Nat) : (s.extract a b).data.toList = (s.data.toList.drop a).take (b - a) := Lib.extract_data s a b
theorem ofL_inj {a b : List UInt8} (h : ofL a = ofL b) : a = b := by rw [← ofL_data a, ← ofL_data b, h]
theorem bt_get (s : ByteArray) (i : Nat) (h : i < s.data.toList.length) : bt s (i : Int) = ((s.data.toList[i]'h).toNat : Int) := by
  have h' : i < s.size := by rw [size_len]; exact h
  have e : ((i : Int)).toNat = i := by omega
  unfold bt
  rw [dif_pos (by rw [e]; exact h')]
  simp only [e]
  congr 1

/-! ### a text cut at each place of a byte -/
def cutL (c : UInt8) : List UInt8 → List (List UInt8)
  | [] => [[]]
  | x :: l => if x = c then [] :: cutL c l else (x :: (cutL c l).headD []) :: (cutL c l).tail
theorem cutL_ne (c : UInt8) (l : List UInt8) : cutL c l ≠ [] := by cases l <;> simp [cutL]; split <;> simp
def cutB (c : UInt8) (s : ByteArray) : List ByteArray := (cutL c s.data.toList).map ofL
theorem cutL_no (c : UInt8) : ∀ l : List UInt8, c ∉ l → cutL c l = [l]
  | [], _ => rfl
  | x :: l, h => by
    have hx : x ≠ c := fun e => h (by simp [e])
    have hl : c ∉ l := fun e => h (by simp [e])
    rw [cutL, if_neg hx, cutL_no c l hl]; rfl
theorem cutL_at (c : UInt8) : ∀ (a l : List UInt8), c ∉ a → cutL c (a ++ c :: l) = a :: cutL c l
  | [], l, _ => by simp [cutL]
  | x :: a, l, h => by
    have hx : x ≠ c := fun e => h (by simp [e])
    have ha : c ∉ a := fun e => h (by simp [e])
    rw [List.cons_append, cutL, if_neg hx, cutL_at c a l ha]; rfl
theorem cutL_length (c : UInt8) : ∀ l : List UInt8, (cutL c l).length = l.count c + 1
  | [] => rfl
  | x :: l => by
    have ih := cutL_length c l
    rw [cutL]
    split
    · rename_i h; subst h; simp [ih]
    · rename_i h; rw [List.count_cons_of_ne h]; simp [ih]
theorem cutL_le (c : UInt8) (l : List UInt8) : (cutL c l).length ≤ l.length + 1 := by
  rw [cutL_length]; have := List.count_le_length (a := c) (l := l); omega
theorem cutB_length_le (c : UInt8) (s : ByteArray) : (cutB c s).length ≤ s.size + 1 := by
  unfold cutB; rw [List.length_map, size_len]; exact cutL_le _ _

theorem indexByte_at (c : UInt8) (b : List UInt8) : ∀ a : List UInt8, c ∉ a → Lib.indexByte (a ++ c :: b) c = (a.length : Int)
  | [], _ => by simp [Lib.indexByte]
  | x :: a, h => by
    have hx : x ≠ c := fun e => h (by simp [e])
    have ih := indexByte_at c b a (fun e => h (by simp [e]))
    rw [List.cons_append, Lib.indexByte, ih]
    simp [hx] <;> omega
theorem splitK_one (c : UInt8) : ∀ (n : Nat) (l : List UInt8), l.length ≤ n → Lib.splitK [c] 0 (l.count c) l = cutL c l := by
  intro n
  induction n with
  | zero =>
    intro l hl
    have : l = [] := List.eq_nil_of_length_eq_zero (by omega)
    subst this; rfl
  | succ n ih =>
    intro l hl
    by_cases hc : c ∈ l
    · obtain ⟨a, b, rfl, ha⟩ : ∃ a b, l = a ++ c :: b ∧ c ∉ a := by
        have := List.eq_append_cons_of_mem hc
        obtain ⟨a, b, h1, h2⟩ := this
        exact ⟨a, b, h1, h2⟩
      have hcount : (a ++ c :: b).count c = b.count c + 1 := by
        rw [List.count_append, List.count_eq_zero_of_not_mem ha]; simp
      rw [hcount, cutL_at c a b ha]
      have hidx : Lib.index (a ++ c :: b) [c] = (a.length : Int) := by
        rw [Lib.index_one]; exact indexByte_at c b a ha
      unfold Lib.splitK
      rw [hidx, if_neg (by simp)]
      have e1 : ((a.length : Int)).toNat = a.length := by omega
      rw [e1]
      simp only [Nat.add_zero, List.length_singleton]
      have e2 : (a ++ c :: b).take a.length = a := by simp
      have e3 : (a ++ c :: b).drop (a.length + 1) = b := by simp [List.drop_append]
      rw [e2, e3, ih b (by simp at hl; omega)]
    · rw [List.count_eq_zero_of_not_mem hc, cutL_no c l hc]; rfl
theorem splitB_one (c : UInt8) (s : ByteArray) : Lib.splitB ⟨#[c]⟩ 0 (Lib.countB s ⟨#[c]⟩) s = cutB c s := by
  have h := Lib.splitB_data ⟨#[c]⟩ 0 (Lib.countB s ⟨#[c]⟩) s
  have hc : Lib.countB s ⟨#[c]⟩ = s.data.toList.count c := by
    show Lib.count s.data.toList [c] = _
    exact Lib.count_one c _
  have h2 : (Lib.splitB ⟨#[c]⟩ 0 (Lib.countB s ⟨#[c]⟩) s).map (·.data.toList) = cutL c s.data.toList := by
    rw [h, hc]
    exact splitK_one c _ _ (Nat.le_refl _)
  have h3 : ∀ l : List ByteArray, (l.map (·.data.toList)).map ofL = l := by
    intro l; rw [List.map_map]; conv => rhs; rw [← List.map_id l]
    exact List.map_congr_left fun x _ => ofL_of x
  rw [← h3 (Lib.splitB ⟨#[c]⟩ 0 (Lib.countB s ⟨#[c]⟩) s), h2]; rfl

/-! ### names -/
def letterB (c : Int) : Bool := decide ((97 ≤ c ∧ c ≤ 122) ∨ (65 ≤ c ∧ c ≤ 90) ∨ (48 ≤ c ∧ c ≤ 57) ∨ c = 46 ∨ c = 95 ∨ c = 45)
def nameL (l : List UInt8) : Bool := (l.all fun b => letterB b.toNat) && !(l == []) && !(l == [46]) && !(l == [46, 46])
def nameOk (s : ByteArray) : Bool := nameL s.data.toList
theorem letter_f (c : Int) (k : Nat) (hk : 2 ≤ k) : names_letter.f k c = some (letterB c) := by
  obtain ⟨k, rfl⟩ : ∃ m, k = m + 2 := ⟨k - 2, by omega⟩
  unfold names_letter.f letterB
  simp only [names_letter.j0, names_letter.j1]
  repeat' split
  all_goals (simp only [Option.some.injEq, decide_eq_true_eq] at *; rw [Bool.eq_iff_iff]; simp only [decide_eq_true_eq, beq_iff_eq, true_iff, Int.reduceBEq, reduceCtorEq] at *) <;> first | omega | contradiction
theorem name_l0 (s : ByteArray) (hs : s.size ≤ 140737488351232) : ∀ (d i k : Nat), s.data.toList.length - i = d → i ≤ s.data.toList.length → d + 3 ≤ k →
    names_Name.l0 k s (s.size : Int) (i : Int) = some (((s.data.toList.drop i).all fun b => letterB b.toNat) && !(s.data.toList == []) && !(s.data.toList == [46]) && !(s.data.toList == [46, 46])) := by
  have hsz := size_len s
  intro d
  induction d with
  | zero =>
    intro i k hd hi hk
    obtain ⟨k, rfl⟩ : ∃ m, k = m + 1 := ⟨k - 1, by omega⟩
    have : i = s.data.toList.length := by omega
    simp only [names_Name.l0]
    rw [if_neg (by omega), toL, this, List.drop_length]
    simp only [List.all_nil, Bool.true_and]
    split
    · rename_i h; rw [h]; rfl
    · rename_i h
      split
      · rename_i h2; rw [h2]; rfl
      · rename_i h2
        have a1 : (s.data.toList == []) = false := by simpa using h
        have a2 : (s.data.toList == [46]) = false := by simpa using h2
        rw [a1, a2]; rfl
  | succ d ih =>
    intro i k hd hi hk
    obtain ⟨k, rfl⟩ : ∃ m, k = m + 1 := ⟨k - 1, by omega⟩
    have hlt : i < s.data.toList.length := by omega
    simp only [names_Name.l0]
    rw [if_pos (by omega), if_pos (by omega), if_pos (by omega), bt_get s i hlt, letter_f _ k (by omega)]
    simp only [Option.bind_some]
    rw [List.drop_eq_getElem_cons hlt, List.all_cons]
    by_cases hl : letterB ((s.data.toList[i]'hlt).toNat : Int) = true
    · rw [if_pos hl, hl]
      have e : wrap64 ((i : Int) + 1) = ((i + 1 : Nat) : Int) := by rw [IntWalk.wrap64_in _ (by omega)]; omega
      rw [e, ih (i + 1) k (by omega) (by omega) (by omega)]
      simp
    · rw [if_neg hl]
      have : letterB ((s.data.toList[i]'hlt).toNat : Int) = false := by simpa using hl
      rw [this]; simp
theorem name_f (s : ByteArray) (hs : s.size ≤ 140737488351232) : names_Name.f (s.size + 3) s = some (nameOk s) := by
  unfold names_Name.f
  have := name_l0 s hs s.data.toList.length 0 (s.size + 3) (by omega) (by omega) (by rw [size_len]; exact Nat.le_refl _)
  simpa [nameOk, nameL] using this
end Go.Proofs.YtcbmbjapcpbnnaaGreatDoor.G
