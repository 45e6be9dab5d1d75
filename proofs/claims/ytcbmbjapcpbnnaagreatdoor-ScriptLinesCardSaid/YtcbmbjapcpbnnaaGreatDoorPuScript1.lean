/- What script.Text tells, in plain words; a line's ends are no blanks. -/
import Derived.Test.YtcbmbjapcpbnnaaGreatDoorG0
import Derived.Test.YtcbmbjapcpbnnaaGreatDoorG17
import Derived.Test.YtcbmbjapcpbnnaaGreatDoorG4
import Derived.Test.YtcbmbjapcpbnnaaGreatDoorGvScript
import Derived.Test.YtcbmbjapcpbnnaaGreatDoorPuEnds
import Derived.Test.YtcbmbjapcpbnnaaGreatDoorGvSplit
namespace Go.Proofs.YtcbmbjapcpbnnaaGreatDoor.G
open Go Go.RowKit Go.Proofs.YtcbmbjapcpbnnaaGreatDoorW.PrintWords Go.Proofs.YtcbmbjapcpbnnaaGreatDoorW.PrintLast
set_option linter.unusedVariables false
set_option linter.unusedSimpArgs false

/-- An act's words; its text. -/
def actW (kind thread n : Int) (ot : ByteArray) (picks : List Int) : List ByteArray :=
  [wordA kind] ++ (if kind = 1 then [numW thread, ot] else if kind = 2 then [numW thread] else if kind = 4 ∨ kind = 6 then [numW n] else if kind = 5 then picks.map numW else [])
def actX (kind thread n : Int) (ot : ByteArray) (picks : List Int) : ByteArray :=
  if kind = 5 ∧ 100 < picks.length then noneW else if (actW kind thread n ot picks).any isNone = true then noneW else ofL (Lib.join (datas (actW kind thread n ot picks)) [32])
theorem actT_f (ws : List ByteArray) (hl : ws.length ≤ 200) (hz : ∀ x, x ∈ ws → x.size ≤ 1000000) : actT ws = some (if ws.any isNone = true then noneW else ofL (Lib.join (datas ws) [32])) := by
  unfold actT
  by_cases h : ws.any isNone = true
  · rw [if_pos h, if_pos h]; rfl
  · rw [if_neg h, if_neg h]
    unfold strings_Join.f
    have hj := join_len 32 1000000 (datas ws) (fun x hx => by
      obtain ⟨y, hy, rfl⟩ := List.mem_map.1 hx
      have := hz y hy
      rw [← size_len]; exact this)
    have e : (datas ws).length = ws.length := by simp [datas]
    rw [e] at hj
    have h2 : ws.length * (1000000 + 1) ≤ 200 * (1000000 + 1) := Nat.mul_le_mul_right _ hl
    rw [if_pos]
    · rfl
    · refine ⟨by omega, ?_⟩
      show (Lib.join (datas ws) [32]).length ≤ _
      omega
def actWords : List ByteArray := [(⟨#[]⟩ : ByteArray), (⟨#[115, 116, 97, 114, 116]⟩ : ByteArray), (⟨#[115, 116, 101, 112]⟩ : ByteArray), (⟨#[114, 101, 99, 108, 97, 105, 109]⟩ : ByteArray), (⟨#[99, 117, 116]⟩ : ByteArray), (⟨#[99, 114, 97, 115, 104]⟩ : ByteArray), (⟨#[114, 111, 117, 110, 100]⟩ : ByteArray)]
theorem wordA_mem (k : Int) : wordA k ∈ actWords := by
  have h := wordA_f k
  unfold script_word.f at h
  simp only [Option.bind_some] at h
  by_cases h1 : k < 1
  · rw [if_pos h1] at h
    injection h with h
    rw [← h]; unfold actWords; simp
  · rw [if_neg h1] at h
    have h : (if k ≥ ((actWords.length : Nat) : Int) then some (⟨#[]⟩ : ByteArray) else if 0 ≤ k then (if k < ((actWords.length : Nat) : Int) then some (rdOf ByteArray.empty actWords k) else none) else none) = some (wordA k) := h
    by_cases h2 : k ≥ ((actWords.length : Nat) : Int)
    · rw [if_pos h2] at h
      injection h with h
      rw [← h]; unfold actWords; simp
    · have h3 : 0 ≤ k := by omega
      have h4 : k < ((actWords.length : Nat) : Int) := by omega
      rw [if_neg h2, if_pos h3, if_pos h4] at h
      injection h with h
      rw [← h]
      exact rdOf_mem (l := actWords) h3 h4
theorem wordA_size (k : Int) : (wordA k).size ≤ 7 := by
  have hall : ∀ x, x ∈ actWords → x.size ≤ 7 := by decide
  exact hall _ (wordA_mem k)
theorem text_f (kind thread n okind : Int) (opath oto : ByteArray) (ooff on : Int) (data : List Int) (osnap : Int) (picks : List Int) (hp : opath.size ≤ 3000000) (ht : oto.size ≤ 3000000)
    (hb : ∀ c, c ∈ data → IsByte c) (hd : data.length ≤ 1000000) (ho : (opW okind opath oto ooff on data osnap).size ≤ 1000000) :
    script_Text.f kind thread n okind opath oto ooff on data osnap picks = some (actX kind thread n (opW okind opath oto ooff on data osnap) picks) := by
  have hw := wordA_size kind
  have hn := numW_size
  unfold script_Text.f actX
  by_cases k1 : kind = 1
  · subst k1
    rw [if_pos rfl, op_f okind opath oto ooff on data osnap hp ht hb hd _ (by omega)]
    simp only [Option.bind_some]
    rw [actT_f _ (by simp) (by intro x hx; simp at hx; rcases hx with rfl | rfl | rfl; omega; have := hn thread; omega; exact ho)]
    rfl
  rw [if_neg k1]
  by_cases k2 : kind = 2
  · subst k2
    rw [if_pos rfl, actT_f _ (by simp) (by intro x hx; simp at hx; rcases hx with rfl | rfl; omega; have := hn thread; omega)]
    rfl
  rw [if_neg k2]
  by_cases k4 : kind = 4
  · subst k4
    rw [if_pos rfl, actT_f _ (by simp) (by intro x hx; simp at hx; rcases hx with rfl | rfl; omega; have := hn n; omega)]
    rfl
  rw [if_neg k4]
  by_cases k6 : kind = 6
  · subst k6
    rw [if_pos rfl, actT_f _ (by simp) (by intro x hx; simp at hx; rcases hx with rfl | rfl; omega; have := hn n; omega)]
    rfl
  rw [if_neg k6]
  by_cases k5 : kind = 5
  · subst k5
    rw [if_pos rfl]
    by_cases hm : 100 < picks.length
    · rw [if_pos hm, if_pos ⟨rfl, hm⟩]; rfl
    · rw [if_neg hm, if_neg (by simp; omega), actT_f _ (by simp; omega) (by
        intro x hx
        rcases List.mem_append.1 hx with hx | hx
        · rw [List.mem_singleton.1 hx]; omega
        · obtain ⟨y, _, rfl⟩ := List.mem_map.1 hx
          have := hn y; omega)]
      rfl
  rw [if_neg k5, if_neg (by simp [k5]), actT_f _ (by simp) (by intro x hx; simp at hx; rw [hx]; omega)]
  have e : actW kind thread n (opW okind opath oto ooff on data osnap) picks = [wordA kind] := by
    unfold actW
    rw [if_neg k1, if_neg k2, if_neg (by omega), if_neg k5]; rfl
  rw [e]

/-! ### a line's ends -/
def Ends (x : List UInt8) : Prop := (∃ a r, x = a :: r ∧ a ≠ 32) ∧ ∃ r b, x = r ++ [b] ∧ b ≠ 32
theorem ends_of (x : List UInt8) (h1 : x ≠ []) (h2 : (32 : UInt8) ∉ x) : Ends x := by
  refine ⟨?_, ?_⟩
  · cases x with
    | nil => exact absurd rfl h1
    | cons a r => exact ⟨a, r, rfl, fun e => h2 (by rw [e]; simp)⟩
  · exact ⟨x.dropLast, x.getLast h1, (List.dropLast_concat_getLast h1).symm, fun e => h2 (by rw [← e]; exact List.getLast_mem h1)⟩
theorem ends_join : ∀ l : List (List UInt8), l ≠ [] → (∀ x, x ∈ l → Ends x) → Ends (Lib.join l [32])
  | [], h, _ => absurd rfl h
  | [x], _, hx => by rw [Lib.join_one]; exact hx x (by simp)
  | x :: y :: l, _, hx => by
    obtain ⟨⟨a, q, e1, n1⟩, _⟩ := hx x (by simp)
    obtain ⟨_, r, b, hr, hb⟩ := ends_join (y :: l) (by simp) (fun z hz => hx z (by simp [hz]))
    rw [join_cons 32 x (y :: l) (by simp), hr]
    refine ⟨⟨a, q ++ 32 :: (r ++ [b]), by rw [e1]; rfl, n1⟩, x ++ 32 :: r, b, by simp, hb⟩
theorem wordA_clean (k : Int) : (32 : UInt8) ∉ (wordA k).data.toList := by
  have hall : ∀ x, x ∈ actWords → (32 : UInt8) ∉ x.data.toList := by decide
  exact hall _ (wordA_mem k)
theorem actX_some (kind thread n : Int) (ot : ByteArray) (picks : List Int) (h : (actX kind thread n ot picks).data.toList ≠ []) :
    ¬ (kind = 5 ∧ 100 < picks.length) ∧ (∀ x, x ∈ actW kind thread n ot picks → isNone x = false) ∧ actX kind thread n ot picks = ofL (Lib.join (datas (actW kind thread n ot picks)) [32]) := by
  unfold actX at h ⊢
  by_cases c1 : kind = 5 ∧ 100 < picks.length
  · rw [if_pos c1] at h; exact absurd rfl h
  rw [if_neg c1] at h
  rw [if_neg c1]
  by_cases c2 : (actW kind thread n ot picks).any isNone = true
  · rw [if_pos c2] at h; exact absurd rfl h
  rw [if_neg c2]
  refine ⟨c1, fun x hx => ?_, rfl⟩
  cases hq : isNone x with
  | false => rfl
  | true => exact absurd (List.any_eq_true.2 ⟨x, hx, hq⟩) c2
theorem act_ends (kind thread n okind : Int) (opath oto : ByteArray) (ooff on : Int) (data : List Int) (osnap : Int) (picks : List Int) (hb : ∀ c, c ∈ data → IsByte c)
    (h : (actX kind thread n (opW okind opath oto ooff on data osnap) picks).data.toList ≠ []) : Ends (actX kind thread n (opW okind opath oto ooff on data osnap) picks).data.toList := by
  obtain ⟨_, hw, hs⟩ := actX_some _ _ _ _ _ h
  rw [hs, ofL_data]
  refine ends_join _ (by unfold datas actW; simp) (fun x hx => ?_)
  obtain ⟨y, hy, rfl⟩ := List.mem_map.1 hx
  have hn := hw y hy
  have hne : y.data.toList ≠ [] := fun e => by
    have := (isNone_iff y).2 e
    rw [hn] at this; cases this
  unfold actW at hy
  rcases List.mem_append.1 hy with hy | hy
  · rw [List.mem_singleton.1 hy] at hne ⊢
    exact ends_of _ hne (wordA_clean kind)
  · have hnum : ∀ m : Int, y = numW m → Ends y.data.toList := fun m e => by
      rw [e] at hne ⊢
      exact ends_of _ hne (fun h => (num_clean m 32 h).1 rfl)
    by_cases k1 : kind = 1
    · rw [if_pos k1] at hy
      simp at hy
      rcases hy with hy | hy
      · exact hnum _ hy
      · rw [hy] at hne ⊢
        exact line_ends okind opath oto ooff on data osnap hb hne
    rw [if_neg k1] at hy
    by_cases k2 : kind = 2
    · rw [if_pos k2] at hy
      simp at hy
      exact hnum _ hy
    rw [if_neg k2] at hy
    by_cases k4 : kind = 4 ∨ kind = 6
    · rw [if_pos k4] at hy
      simp at hy
      exact hnum _ hy
    rw [if_neg k4] at hy
    by_cases k5 : kind = 5
    · rw [if_pos k5] at hy
      obtain ⟨m, _, e⟩ := List.mem_map.1 hy
      exact hnum m e.symm
    · rw [if_neg k5] at hy
      simp at hy
end Go.Proofs.YtcbmbjapcpbnnaaGreatDoor.G
