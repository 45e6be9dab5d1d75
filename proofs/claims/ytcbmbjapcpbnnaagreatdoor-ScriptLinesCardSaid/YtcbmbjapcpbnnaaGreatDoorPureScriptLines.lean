/- ScriptLines: lines put together are parted as they were; too many, or too many bytes, are refused. -/
import Derived.Test.YtcbmbjapcpbnnaaGreatDoorG0
import Derived.Test.YtcbmbjapcpbnnaaGreatDoorG19
import Derived.Test.YtcbmbjapcpbnnaaGreatDoorG20
import Derived.Test.YtcbmbjapcpbnnaaGreatDoorGTexts
import Derived.Test.YtcbmbjapcpbnnaaGreatDoorGvAwake29
namespace Go.Proofs.YtcbmbjapcpbnnaaGreatDoor.Pure
open Go Go.RowKit Go.Proofs.YtcbmbjapcpbnnaaGreatDoor.G Go.Proofs.YtcbmbjapcpbnnaaGreatDoorW.PrintWords Go.Proofs.YtcbmbjapcpbnnaaGreatDoorW.PrintLast
set_option linter.unusedVariables false
set_option linter.unusedSimpArgs false

theorem bind_atL {α β : Type} {o : Option α} {x : α} {f : α → Option β} (h : o = some x) : o.bind f = f x := by rw [h]; rfl
theorem same_l0 (a : List ByteArray) (ha : a.length ≤ 1000000) : ∀ (d i k : Nat), a.length - i = d → i ≤ a.length → d + 1 ≤ k → dolmenref5_Texts.l0 k a a (i : Int) = some true := by
  intro d
  induction d with
  | zero =>
    intro i k hd hi hk
    obtain ⟨k, rfl⟩ : ∃ m, k = m + 1 := ⟨k - 1, by omega⟩
    rw [dolmenref5_Texts.l0, if_neg (by omega)]
  | succ d ih =>
    intro i k hd hi hk
    obtain ⟨k, rfl⟩ : ∃ m, k = m + 1 := ⟨k - 1, by omega⟩
    rw [dolmenref5_Texts.l0, if_pos (by omega), if_pos (by omega), if_pos (by omega), if_pos rfl, wrap_up i a.length (by omega) (by omega)]
    exact ih (i + 1) k (by omega) (by omega) (by omega)
theorem same_f (a : List ByteArray) (ha : a.length ≤ 1000000) (k : Nat) (hk : a.length + 1 ≤ k) : dolmenref5_Texts.f k a a = some true := by
  unfold dolmenref5_Texts.f
  rw [if_pos rfl]
  exact same_l0 a ha a.length 0 k (by omega) (by omega) hk

/-! ### script.Split -/
/-- The lines of a text that ends with a line's end. -/
theorem split_end (y : List UInt8) (h : (y ++ [10]).length ≤ 262144) : script_Split.f (ofL (y ++ [10])) = if 10000 < (cutL 10 y).length then some ([], some 14) else some ((cutL 10 y).map ofL, none) := by
  have hsz : (ofL (y ++ [10])).size = (y ++ [10]).length := ofL_size _
  have hT : strings_TrimSuffix.f (ofL (y ++ [10])) (⟨#[10]⟩ : ByteArray) = some (ofL y) := by
    unfold strings_TrimSuffix.f
    rw [if_pos (by omega), ofL_data]
    congr 2
    unfold Lib.trimSuffix
    rw [if_pos (by unfold Lib.hasSuffix; simp)]
    simp
  have hS : strings_Split.f (ofL y) (⟨#[10]⟩ : ByteArray) = some ((cutL 10 y).map ofL) := by
    unfold strings_Split.f
    rw [if_pos (by rw [ofL_size]; simp at h; omega)]
    show some (cutB 10 (ofL y)) = _
    unfold cutB
    rw [ofL_data]
  unfold script_Split.f
  rw [if_neg (by omega), if_neg (by rw [toL, ofL_data]; simp), bind_atL hT, bind_atL hS]
  rw [List.length_map]
  by_cases hc : 10000 < (cutL 10 y).length
  · rw [if_pos hc, if_pos (by omega)]
  · rw [if_neg hc, if_neg (by omega)]
theorem split_none : script_Split.f (ofL []) = some ([], none) := by
  unfold script_Split.f
  rw [if_neg (by rw [ofL_size]; decide), if_pos (by rw [toL, ofL_data])]
theorem split_great (y : List UInt8) (h : 262144 < y.length) : script_Split.f (ofL y) = some ([], some 14) := by
  unfold script_Split.f
  rw [if_pos (by rw [ofL_size]; omega)]
/-- A text without a line's end is one line. -/
theorem split_plain (y : List UInt8) (hy : y ≠ []) (hn : (10 : UInt8) ∉ y) (h : y.length ≤ 262144) : script_Split.f (ofL y) = some ([ofL y], none) := by
  have hT : strings_TrimSuffix.f (ofL y) (⟨#[10]⟩ : ByteArray) = some (ofL y) := by
    unfold strings_TrimSuffix.f
    rw [if_pos (by rw [ofL_size]; omega), ofL_data]
    congr 2
    unfold Lib.trimSuffix
    rw [if_neg]
    intro hs
    unfold Lib.hasSuffix at hs
    have hs2 : [(10 : UInt8)] <:+ y := by simpa using hs
    exact hn (hs2.subset (by simp))
  have hS : strings_Split.f (ofL y) (⟨#[10]⟩ : ByteArray) = some [ofL y] := by
    unfold strings_Split.f
    rw [if_pos (by rw [ofL_size]; omega)]
    show some (cutB 10 (ofL y)) = _
    unfold cutB
    rw [ofL_data, cutL_no 10 y hn]
    rfl
  unfold script_Split.f
  rw [if_neg (by rw [ofL_size]; omega), if_neg (by rw [toL, ofL_data]; exact hy), bind_atL hT, bind_atL hS, if_neg (show ¬ (((([ofL y] : List ByteArray).length : Nat) : Int) > 10000) by simp)]

/-! ### the two rows that are filled -/
theorem set_next (a b : Int) (i m : Nat) : (List.replicate i a ++ List.replicate (m + 1) b).set i a = List.replicate (i + 1) a ++ List.replicate m b := by
  rw [List.set_append_right _ _ (by simp), List.length_replicate, Nat.sub_self, List.replicate_succ, List.set_cons_zero, List.replicate_succ', List.append_assoc]
  rfl
theorem nums_rep (n : Nat) (c : Int) (hc : 0 ≤ c ∧ c ≤ 255) : strOfNums (List.replicate n c) = ofL (List.replicate n (UInt8.ofNat c.toNat)) := data_inj (by rw [strOfNums_data, ofL_data, List.map_replicate])
theorem cut_rep : ∀ n : Nat, (cutL 10 (List.replicate n (10 : UInt8))).length = n + 1
  | 0 => rfl
  | n + 1 => by
    rw [List.replicate_succ]
    have := cut_rep n
    unfold cutL
    rw [if_pos rfl, List.length_cons, this]
/-- What n line's ends are parted into. -/
theorem many_split (n : Nat) (hn : n ≤ 11000) : ∃ l e, script_Split.f (strOfNums (List.replicate n 10)) = some (l, e) ∧ (n ≤ 10000 → e = none ∧ l.length = n) ∧ (10000 < n → e = some 14) := by
  rw [nums_rep n 10 (by decide)]
  show ∃ l e, script_Split.f (ofL (List.replicate n (10 : UInt8))) = some (l, e) ∧ _
  cases n with
  | zero => exact ⟨[], none, split_none, fun _ => ⟨rfl, rfl⟩, fun h => absurd h (by decide)⟩
  | succ m =>
    rw [List.replicate_succ', split_end _ (by simp; omega), cut_rep]
    by_cases h : 10000 < m + 1
    · rw [if_pos h]; exact ⟨_, _, rfl, fun h2 => by omega, fun _ => rfl⟩
    · rw [if_neg h]; exact ⟨_, _, rfl, fun _ => ⟨rfl, by rw [List.length_map, cut_rep]⟩, fun h2 => by omega⟩
theorem long_split (n : Nat) (hn : n ≤ 300000) : ∃ l e, script_Split.f (strOfNums (List.replicate n 120)) = some (l, e) ∧ (n ≤ 262144 → e = none ∧ (l.length : Int) = mn (n : Int) 1) ∧ (262144 < n → e = some 14) := by
  rw [nums_rep n 120 (by decide)]
  show ∃ l e, script_Split.f (ofL (List.replicate n (120 : UInt8))) = some (l, e) ∧ _
  by_cases h0 : n = 0
  · subst h0
    exact ⟨[], none, split_none, fun _ => ⟨rfl, by unfold mn; rfl⟩, fun h => absurd h (by decide)⟩
  by_cases h : 262144 < n
  · exact ⟨_, _, split_great _ (by simp; exact h), fun h2 => by omega, fun _ => rfl⟩
  · refine ⟨_, _, split_plain _ (by simp; exact h0) (by intro hm; exact absurd (List.mem_replicate.1 hm).2 (by decide)) (by simp; omega), fun _ => ⟨rfl, ?_⟩, fun h2 => by omega⟩
    unfold mn
    by_cases h1 : (1 : Int) < (n : Int)
    · rw [if_pos h1]; rfl
    · rw [if_neg h1]; simp; omega
theorem fill3 (n m : Nat) (hn : n ≤ 11000) (hm : m ≤ 300000) : ∀ (d i k : Nat), m - i = d → i ≤ m → d + 2 ≤ k →
    dolmenlaw29_ScriptLines.l3 k (n : Int) (m : Int) (List.replicate n 10) (List.replicate i 120 ++ List.replicate d 0) (i : Int) = some true := by
  have haw : dolmenlaw29_awake.f = some true := rfl
  intro d
  induction d with
  | zero =>
    intro i k hd hi hk
    obtain ⟨k, rfl⟩ : ∃ m, k = m + 1 := ⟨k - 1, by omega⟩
    obtain rfl : i = m := by omega
    obtain ⟨l1, e1, h1, h2, h3⟩ := many_split n hn
    obtain ⟨l2, e2, g1, g2, g3⟩ := long_split i hm
    rw [dolmenlaw29_ScriptLines.l3, if_neg (by omega), List.replicate_zero, List.append_nil, bind_atL h1, bind_atL g1]
    by_cases cn : n ≤ 10000
    · obtain ⟨x1, x2⟩ := h2 cn
      subst x1
      rw [if_pos (show (none : Option Int).isNone = true from rfl), if_pos (show (true == decide ((n : Int) ≤ 10000)) = true by rw [decide_eq_true (by omega)]; rfl)]
      by_cases cm : i ≤ 262144
      · obtain ⟨y1, y2⟩ := g2 cm
        subst y1
        rw [if_pos (show (none : Option Int).isNone = true from rfl), if_pos (show (true == decide ((i : Int) ≤ 262144)) = true by rw [decide_eq_true (by omega)]; rfl), if_pos (show ((l1.length : Nat) : Int) = (n : Int) by omega), if_pos y2, bind_atL haw]
      · have y1 := g3 (by omega)
        subst y1
        rw [if_neg (show ¬ (some (14 : Int)).isNone = true by simp), if_pos (show (false == decide ((i : Int) ≤ 262144)) = true by rw [decide_eq_false (by omega)]; rfl), if_pos (show ((l1.length : Nat) : Int) = (n : Int) by omega), bind_atL haw]
    · have x1 := h3 (by omega)
      subst x1
      rw [if_neg (show ¬ (some (14 : Int)).isNone = true by simp), if_pos (show (false == decide ((n : Int) ≤ 10000)) = true by rw [decide_eq_false (by omega)]; rfl)]
      by_cases cm : i ≤ 262144
      · obtain ⟨y1, y2⟩ := g2 cm
        subst y1
        rw [if_pos (show (none : Option Int).isNone = true from rfl), if_pos (show (true == decide ((i : Int) ≤ 262144)) = true by rw [decide_eq_true (by omega)]; rfl), if_pos y2, bind_atL haw]
      · have y1 := g3 (by omega)
        subst y1
        rw [if_neg (show ¬ (some (14 : Int)).isNone = true by simp), if_pos (show (false == decide ((i : Int) ≤ 262144)) = true by rw [decide_eq_false (by omega)]; rfl), bind_atL haw]
  | succ d ih =>
    intro i k hd hi hk
    obtain ⟨k, rfl⟩ : ∃ m, k = m + 1 := ⟨k - 1, by omega⟩
    rw [dolmenlaw29_ScriptLines.l3, if_pos (by omega), if_pos (by omega), if_pos (by simp; omega), Int.toNat_natCast, set_next, wrap_up i m (by omega) (by omega)]
    exact ih (i + 1) k (by omega) (by omega) (by omega)
theorem fill2 (n m : Nat) (hn : n ≤ 11000) (hm : m ≤ 300000) : ∀ (d i k : Nat), n - i = d → i ≤ n → d + 300010 ≤ k →
    dolmenlaw29_ScriptLines.l2 k (n : Int) (m : Int) (List.replicate i 10 ++ List.replicate d 0) (i : Int) = some true := by
  intro d
  induction d with
  | zero =>
    intro i k hd hi hk
    obtain ⟨k, rfl⟩ : ∃ m, k = m + 1 := ⟨k - 1, by omega⟩
    obtain rfl : i = n := by omega
    rw [dolmenlaw29_ScriptLines.l2, if_neg (by omega), if_pos (by omega), if_pos (by omega), List.replicate_zero, List.append_nil, Int.toNat_natCast]
    exact fill3 i m hn hm m 0 k (by omega) (by omega) (by omega)
  | succ d ih =>
    intro i k hd hi hk
    obtain ⟨k, rfl⟩ : ∃ m, k = m + 1 := ⟨k - 1, by omega⟩
    rw [dolmenlaw29_ScriptLines.l2, if_pos (by omega), if_pos (by omega), if_pos (by simp; omega), Int.toNat_natCast, set_next, wrap_up i n (by omega) (by omega)]
    exact ih (i + 1) k (by omega) (by omega) (by omega)

/-! ### lines put together -/
def catL (l : List ByteArray) : List UInt8 := (l.map fun x => x.data.toList ++ [10]).flatten
theorem cat_snoc (l : List ByteArray) (x : ByteArray) : catL (l ++ [x]) = catL l ++ x.data.toList ++ [10] := by unfold catL; simp
theorem cat_len (l : List ByteArray) (h : ∀ x, x ∈ l → x.size ≤ 100) : (catL l).length ≤ l.length * 101 := by
  induction l with
  | nil => simp [catL]
  | cons x l ih =>
    have := ih (fun y hy => h y (by simp [hy]))
    have hx := h x (by simp)
    rw [size_len] at hx
    unfold catL at this ⊢
    rw [List.map_cons, List.flatten_cons, List.length_append, List.length_append]
    simp only [List.length_cons, List.length_nil]
    omega
theorem cat_cut : ∀ (l : List ByteArray), (∀ x, x ∈ l → (10 : UInt8) ∉ x.data.toList) → cutL 10 (catL l) = l.map (·.data.toList) ++ [[]]
  | [], _ => rfl
  | x :: l, h => by
    have ih := cat_cut l (fun y hy => h y (by simp [hy]))
    have e : catL (x :: l) = x.data.toList ++ 10 :: catL l := by unfold catL; simp
    rw [e, cutL_at 10 _ _ (h x (by simp)), ih]; rfl
theorem cut_snoc_end : ∀ (y : List UInt8), cutL 10 (y ++ [10]) = cutL 10 y ++ [[]]
  | [] => rfl
  | a :: y => by
    have ih := cut_snoc_end y
    have hne := cutL_ne 10 y
    rw [List.cons_append]
    unfold cutL
    by_cases h : a = 10
    · rw [if_pos h, if_pos h, ih]; rfl
    · rw [if_neg h, if_neg h, ih]
      cases hc : cutL 10 y with
      | nil => exact absurd hc hne
      | cons p q => rfl
theorem lines_split (l : List ByteArray) (hl : l.length ≤ 50) (hz : ∀ x, x ∈ l → x.size ≤ 100) (hn : ∀ x, x ∈ l → (10 : UInt8) ∉ x.data.toList) : script_Split.f (ofL (catL l)) = some (l, none) := by
  rcases List.eq_nil_or_concat l with rfl | ⟨q, x, rfl⟩
  · exact split_none
  · have hlen := cat_len _ hz
    have hcut := cat_cut _ hn
    rw [List.concat_eq_append] at *
    rw [cat_snoc] at hlen hcut ⊢
    have h2 := Nat.mul_le_mul_right 101 hl
    rw [cut_snoc_end] at hcut
    have hcut2 := (List.append_inj' hcut rfl).1
    rw [split_end _ (by omega), hcut2, List.length_map, if_neg (by omega), List.map_map]
    congr 2
    conv => rhs; rw [← List.map_id (q ++ [x])]
    exact List.map_congr_left fun y _ => ofL_of y
theorem lines_end (l : List ByteArray) (n m : Nat) (hn : n ≤ 11000) (hm : m ≤ 300000) (hl : l.length ≤ 50) (hz : ∀ x, x ∈ l → x.size ≤ 100) (hc : ∀ x, x ∈ l → (10 : UInt8) ∉ x.data.toList) (k : Nat) (hk : 400000 ≤ k) :
    dolmenlaw29_ScriptLines.l0 (k + 1) l (n : Int) (m : Int) (ofL (catL l)) (l.length : Int) = some true := by
  rw [dolmenlaw29_ScriptLines.l0, if_neg (by omega), bind_atL (lines_split l hl hz hc), if_pos (show (none : Option Int).isNone = true from rfl), bind_atL (same_f l (by omega) k (by omega))]
  obtain ⟨k, rfl⟩ : ∃ m, k = m + 1 := ⟨k - 1, by omega⟩
  rw [dolmenlaw29_ScriptLines.j3, if_neg (by decide), if_pos (by omega), if_pos (by omega), Int.toNat_natCast]
  exact fill2 n m hn hm n 0 k (by omega) (by omega) (by omega)
theorem lines_l1 (l : List ByteArray) (n m : Nat) (i : Nat) (hi : i < l.length) (hz : (l[i]).size ≤ 100) (s : ByteArray) (hs : s.size ≤ 100000) (K : Nat)
    (hnext : (10 : UInt8) ∉ (l[i]).data.toList → ∀ k, K ≤ k → dolmenlaw29_ScriptLines.l0 k l (n : Int) (m : Int) ((s ++ l[i]) ++ (⟨#[10]⟩ : ByteArray)) ((i + 1 : Nat) : Int) = some true) :
    ∀ (d j k : Nat), (l[i]).data.toList.length - j = d → j ≤ (l[i]).data.toList.length → (10 : UInt8) ∉ (l[i]).data.toList.take j → d + 1 + K ≤ k → (hl : l.length ≤ 50) → dolmenlaw29_ScriptLines.l1 k l (n : Int) (m : Int) s (i : Int) (j : Int) = some true := by
  have haw : dolmenlaw29_awake.f = some true := rfl
  have hrd : rdOf ByteArray.empty l (i : Int) = l[i] := by rw [rdOf_nat]; exact getD_at _ l i hi
  have hsz : (l[i]).size = (l[i]).data.toList.length := size_len _
  intro d
  induction d with
  | zero =>
    intro j k hd hj hb hk hl
    obtain ⟨k, rfl⟩ : ∃ m, k = m + 1 := ⟨k - 1, by omega⟩
    rw [List.take_of_length_le (by omega)] at hb
    rw [dolmenlaw29_ScriptLines.l1, if_pos (by omega), if_pos (by omega), hrd, if_neg (by omega), if_pos (by omega), if_pos (by rw [size_len]; simp; rw [size_len] at hs; simp at hs hz; omega), wrap_up i l.length hi (by omega)]
    exact hnext hb k (by omega)
  | succ d ih =>
    intro j k hd hj hb hk hl
    obtain ⟨k, rfl⟩ : ∃ m, k = m + 1 := ⟨k - 1, by omega⟩
    have hjl : j < (l[i]).data.toList.length := by omega
    rw [dolmenlaw29_ScriptLines.l1, if_pos (by omega), if_pos (by omega), hrd, if_pos (by omega), if_pos (by omega), bt_get _ _ hjl]
    by_cases h10 : (l[i]).data.toList[j] = 10
    · rw [if_pos (by rw [h10]; rfl), bind_atL haw]
    · rw [if_neg (fun e => h10 (by
        have : (l[i]).data.toList[j].toNat = 10 := by omega
        exact UInt8.toNat_inj.1 this)), wrap_up j (l[i]).data.toList.length hjl (by omega)]
      refine ih (j + 1) k (by omega) (by omega) (fun hm => ?_) (by omega) hl
      rw [List.take_succ_eq_append_getElem hjl] at hm
      rcases List.mem_append.1 hm with hm | hm
      · exact hb hm
      · exact h10 (List.mem_singleton.1 hm).symm
theorem lines_l0 (l : List ByteArray) (n m : Nat) (hn : n ≤ 11000) (hm : m ≤ 300000) (hl : l.length ≤ 50) : ∀ (d i k : Nat), l.length - i = d → i ≤ l.length → (∀ x, x ∈ l.take i → x.size ≤ 100 ∧ (10 : UInt8) ∉ x.data.toList) → 400001 + d * 110 ≤ k →
    dolmenlaw29_ScriptLines.l0 k l (n : Int) (m : Int) (ofL (catL (l.take i))) (i : Int) = some true := by
  have haw : dolmenlaw29_awake.f = some true := rfl
  intro d
  induction d with
  | zero =>
    intro i k hd hi hb hk
    obtain ⟨k, rfl⟩ : ∃ m, k = m + 1 := ⟨k - 1, by omega⟩
    obtain rfl : i = l.length := by omega
    rw [List.take_length] at hb ⊢
    exact lines_end l n m hn hm hl (fun x hx => (hb x hx).1) (fun x hx => (hb x hx).2) k (by omega)
  | succ d ih =>
    intro i k hd hi hb hk
    obtain ⟨k, rfl⟩ : ∃ m, k = m + 1 := ⟨k - 1, by omega⟩
    have hil : i < l.length := by omega
    have hrd : rdOf ByteArray.empty l (i : Int) = l[i] := by rw [rdOf_nat]; exact getD_at _ l i hil
    rw [dolmenlaw29_ScriptLines.l0, if_pos (by omega), if_pos (by omega), hrd]
    by_cases hz : ((l[i]).size : Int) > 100
    · rw [if_pos hz, bind_atL haw]
    · rw [if_neg hz]
      have hcl := cat_len (l.take i) (fun x hx => (hb x hx).1)
      have h2 : (l.take i).length * 101 ≤ 50 * 101 := Nat.mul_le_mul_right 101 (by simp; omega)
      have hsz : (l[i]).size = (l[i]).data.toList.length := size_len _
      refine lines_l1 l n m i hil (by omega) (ofL (catL (l.take i))) (by rw [ofL_size]; omega) (400001 + d * 110) (fun h10 k hk => ?_) (l[i]).data.toList.length 0 k (by omega) (by omega) (by simp) (by omega) hl
      have e : (ofL (catL (l.take i)) ++ l[i]) ++ (⟨#[10]⟩ : ByteArray) = ofL (catL (l.take (i + 1))) := by
        rw [List.take_succ_eq_append_getElem hil, cat_snoc]
        exact data_inj (by simp [ofL_data])
      rw [e]
      refine ih (i + 1) k (by omega) (by omega) (fun x hx => ?_) hk
      rw [List.take_succ_eq_append_getElem hil] at hx
      rcases List.mem_append.1 hx with hx | hx
      · exact hb x hx
      · rw [List.mem_singleton.1 hx]; exact ⟨by omega, h10⟩
theorem ScriptLines (l : List ByteArray) (n m : Int) (_ : l.length * 16 ≤ 140737488351232) (_ : ∀ x ∈ l, x.size ≤ 9223372036854775807) (_ : (Lit.int .i64 n).wf = true) (_ : (Lit.int .i64 m).wf = true) : ∃ k, dolmenlaw29_ScriptLines.f k l n m = some true := by
  refine ⟨500002, ?_⟩
  have haw : dolmenlaw29_ScriptLines.j0 500002 l n m true = some true := by
    rw [show (500002 : Nat) = 500001 + 1 from rfl, dolmenlaw29_ScriptLines.j0, if_pos rfl]; rfl
  unfold dolmenlaw29_ScriptLines.f
  by_cases g1 : (l.length : Int) > 50
  · rw [if_pos g1]; exact haw
  rw [if_neg g1]
  by_cases g2 : n < 0
  · rw [if_pos g2]; exact haw
  rw [if_neg g2]
  by_cases g3 : n > 11000
  · rw [if_pos g3]; exact haw
  rw [if_neg g3]
  by_cases g4 : m < 0
  · rw [if_pos g4]; exact haw
  rw [if_neg g4]
  by_cases g5 : m > 300000
  · rw [decide_eq_true g5]; exact haw
  rw [decide_eq_false g5, show (500002 : Nat) = 500001 + 1 from rfl, dolmenlaw29_ScriptLines.j0, if_neg (by decide)]
  obtain ⟨n, rfl⟩ : ∃ q : Nat, n = q := ⟨n.toNat, by omega⟩
  obtain ⟨m, rfl⟩ : ∃ q : Nat, m = q := ⟨m.toNat, by omega⟩
  exact lines_l0 l n m (by omega) (by omega) (by omega) l.length 0 500001 (by omega) (by omega) (by simp) (by omega)
end Go.Proofs.YtcbmbjapcpbnnaaGreatDoor.Pure
