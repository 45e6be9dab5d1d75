/- A line's ends are no blanks; which numbers have a word. -/
import Derived.Test.YtcbmbjapcpbnnaaGreatDoorG0
import Derived.Test.YtcbmbjapcpbnnaaGreatDoorPuHist6b
namespace Go.Proofs.YtcbmbjapcpbnnaaGreatDoor.G
open Go Go.RowKit Go.Proofs.YtcbmbjapcpbnnaaGreatDoorW.PrintWords Go.Proofs.YtcbmbjapcpbnnaaGreatDoorW.PrintLast
set_option linter.unusedVariables false
set_option linter.unusedSimpArgs false

theorem num_none (x : Int) : isNone (numW x) = !decide (0 ≤ x ∧ x ≤ 1099511627776) := by
  unfold numW
  by_cases h1 : x < 0
  · rw [if_pos h1]; simp [isNone, noneW]; omega
  · rw [if_neg h1]
    by_cases h2 : x > 1099511627776
    · rw [if_pos h2]; simp [isNone, noneW]; omega
    · rw [if_neg h2]
      have := itoa_ne x
      unfold isNone
      rw [ofL_data]
      simp [this]; omega
/-! ### a line's ends -/
theorem join_ends : ∀ l : List (List UInt8), l ≠ [] → (∀ x, x ∈ l → x ≠ [] ∧ (32 : UInt8) ∉ x) →
    (∃ a r, Lib.join l [32] = a :: r ∧ a ≠ 32) ∧ ∃ r b, Lib.join l [32] = r ++ [b] ∧ b ≠ 32
  | [], h, _ => absurd rfl h
  | [x], _, hx => by
    obtain ⟨h1, h2⟩ := hx x (by simp)
    rw [Lib.join_one]
    refine ⟨?_, ?_⟩
    · cases x with
      | nil => exact absurd rfl h1
      | cons a r => exact ⟨a, r, rfl, fun e => h2 (by rw [e]; simp)⟩
    · exact ⟨x.dropLast, x.getLast h1, (List.dropLast_concat_getLast h1).symm, fun e => h2 (by rw [← e]; exact List.getLast_mem h1)⟩
  | x :: y :: l, _, hx => by
    obtain ⟨h1, h2⟩ := hx x (by simp)
    obtain ⟨_, r, b, hr, hb⟩ := join_ends (y :: l) (by simp) (fun z hz => hx z (by simp [hz]))
    rw [join_cons 32 x (y :: l) (by simp), hr]
    refine ⟨?_, x ++ 32 :: r, b, by simp, hb⟩
    cases x with
    | nil => exact absurd rfl h1
    | cons a q => exact ⟨a, _, rfl, fun e => h2 (by rw [e]; simp)⟩
theorem line_ends (kind : Int) (path to_ : ByteArray) (off n : Int) (data : List Int) (snap : Int) (hb : ∀ c, c ∈ data → IsByte c) (h : (opW kind path to_ off n data snap).data.toList ≠ []) :
    (∃ a r, (opW kind path to_ off n data snap).data.toList = a :: r ∧ a ≠ 32) ∧ ∃ r b, (opW kind path to_ off n data snap).data.toList = r ++ [b] ∧ b ≠ 32 := by
  obtain ⟨hw, _, hs⟩ := opW_some kind path to_ off n data snap h
  rw [hs, ofL_data]
  refine join_ends _ (by unfold datas wordsW headW; simp) (fun x hx => ?_)
  obtain ⟨y, hy, rfl⟩ := List.mem_map.1 hx
  refine ⟨fun e => ?_, words_clean kind path to_ off n data snap hb y hy⟩
  have := (isNone_iff y).2 e
  rw [hw y hy] at this; cases this
/-- A text that ends, or begins, with a blank is no operation's. -/
theorem parse_blank (s : ByteArray) (hs : s.size ≤ 900000) (k : Nat) (hk : 2000100 ≤ k) (h : (∃ r, s.data.toList = r ++ [32]) ∨ ∃ r, s.data.toList = 32 :: r) : hist_ParseOp.f k s = some bad14 := by
  rcases parse_any s hs k hk with hp | ⟨kind, path, to_, off, n, data, snap, _, he, hb, _⟩
  · exact hp
  · exfalso
    have hne : (opW kind path to_ off n data snap).data.toList ≠ [] := by
      rw [he]; rcases h with ⟨r, h⟩ | ⟨r, h⟩ <;> rw [h] <;> simp
    obtain ⟨⟨a, r1, e1, n1⟩, r2, b, e2, n2⟩ := line_ends kind path to_ off n data snap hb hne
    rw [he] at e1 e2
    rcases h with ⟨r, h⟩ | ⟨r, h⟩
    · rw [h] at e2
      have := (List.append_inj' e2 rfl).2
      injection this with this
      exact n2 this.symm
    · rw [h] at e1
      injection e1 with e1
      exact n1 e1.symm
end Go.Proofs.YtcbmbjapcpbnnaaGreatDoor.G
