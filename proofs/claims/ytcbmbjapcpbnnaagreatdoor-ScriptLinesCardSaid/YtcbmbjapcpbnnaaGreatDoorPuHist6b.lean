/- What the document fixes of hist: the law's own check tells true. -/
import Derived.Test.YtcbmbjapcpbnnaaGreatDoorG0
import Derived.Test.YtcbmbjapcpbnnaaGreatDoorPuHist6
namespace Go.Proofs.YtcbmbjapcpbnnaaGreatDoor.G
open Go Go.RowKit Go.Proofs.YtcbmbjapcpbnnaaGreatDoorW.PrintWords Go.Proofs.YtcbmbjapcpbnnaaGreatDoorW.PrintLast
set_option linter.unusedVariables false
set_option linter.unusedSimpArgs false

theorem itoa_zero : Lib.itoa 0 = [48] := by
  have h := Lib.itoa_nonneg 0
  rw [Lib.decDigits_one (by omega : 0 < 10)] at h
  exact h
theorem num_zero : numW 0 = ⟨#[48]⟩ := by
  unfold numW
  rw [if_neg (by decide), if_neg (by decide), itoa_zero]; rfl
theorem line_hi : opW 8 (⟨#[47, 97]⟩ : ByteArray) noneW 0 0 [104, 105] 0 = (⟨#[119, 114, 105, 116, 101, 32, 47, 97, 32, 48, 32, 54, 56, 54, 57]⟩ : ByteArray) := by
  have e : wordsW 8 (⟨#[47, 97]⟩ : ByteArray) noneW 0 0 [104, 105] 0 = [(⟨#[119, 114, 105, 116, 101]⟩ : ByteArray), ⟨#[47, 97]⟩, ⟨#[48]⟩, ⟨#[54, 56, 54, 57]⟩] := by
    have h1 : pathR (⟨#[47, 97]⟩ : ByteArray) = ⟨#[47, 97]⟩ := by decide +kernel
    have h2 : hexW [104, 105] = ⟨#[54, 56, 54, 57]⟩ := by decide +kernel
    have h3 : wordR 8 = ⟨#[119, 114, 105, 116, 101]⟩ := by decide +kernel
    unfold wordsW headW argsW snapW
    rw [h1, h2, h3, num_zero]; rfl
  unfold opW
  rw [e, if_neg (by rintro (h | h); exact h.2.1 rfl; exact absurd h (by decide +kernel))]
  exact (by decide +kernel : ofL (Lib.join (datas [(⟨#[119, 114, 105, 116, 101]⟩ : ByteArray), ⟨#[47, 97]⟩, ⟨#[48]⟩, ⟨#[54, 56, 54, 57]⟩]) [32]) = (⟨#[119, 114, 105, 116, 101, 32, 47, 97, 32, 48, 32, 54, 56, 54, 57]⟩ : ByteArray))
theorem hi_bytes : ∀ c, c ∈ ([104, 105] : List Int) → IsByte c := by
  intro c hc
  simp at hc
  rcases hc with rfl | rfl <;> (constructor <;> decide)
theorem parse_hi (k : Nat) (hk : 2000100 ≤ k) : hist_ParseOp.f k (⟨#[119, 114, 105, 116, 101, 32, 47, 97, 32, 48, 32, 54, 56, 54, 57]⟩ : ByteArray) = some (8, (⟨#[47, 97]⟩ : ByteArray), noneW, 0, 0, [104, 105], 0, none) := by
  have h := parse_op 8 (⟨#[47, 97]⟩ : ByteArray) noneW 0 0 [104, 105] 0 (by decide) (by decide) hi_bytes (by decide) (by rw [line_hi]; decide) k hk
  rw [line_hi] at h
  exact h
/-- Words of a line that is something, told by parting it. -/
theorem line_words (kind : Int) (path to_ : ByteArray) (off n : Int) (data : List Int) (snap : Int) (hb : ∀ c, c ∈ data → IsByte c) (h : (opW kind path to_ off n data snap).data.toList ≠ []) :
    cutB 32 (opW kind path to_ off n data snap) = wordsW kind path to_ off n data snap := by
  obtain ⟨_, _, hs⟩ := opW_some kind path to_ off n data snap h
  rw [hs]
  exact cut_words _ (by unfold wordsW headW; simp) (words_clean kind path to_ off n data snap hb)
theorem write_kind (kind : Int) (h : wordR kind = (⟨#[119, 114, 105, 116, 101]⟩ : ByteArray)) : kind = 8 := by
  obtain ⟨h1, h14⟩ := word_range kind (by rw [h]; decide)
  obtain ⟨n, rfl⟩ : ∃ n : Nat, kind = n := ⟨kind.toNat, by omega⟩
  have := (show ∀ n : Fin 15, wordR (n.1 : Int) = (⟨#[119, 114, 105, 116, 101]⟩ : ByteArray) → n.1 = 8 by decide +kernel) ⟨n, by omega⟩ h
  have : n = 8 := this
  omega
theorem parse_less (k : Nat) (hk : 2000100 ≤ k) : hist_ParseOp.f k (⟨#[119, 114, 105, 116, 101, 32, 47, 97, 32, 48]⟩ : ByteArray) = some bad14 := by
  rcases parse_any (⟨#[119, 114, 105, 116, 101, 32, 47, 97, 32, 48]⟩ : ByteArray) (by decide) k hk with h | ⟨kind, path, to_, off, n, data, snap, h, ho, hb, _⟩
  · exact h
  · exfalso
    have hc := line_words kind path to_ off n data snap hb (by rw [ho]; decide)
    rw [ho, (by decide +kernel : cutB 32 (⟨#[119, 114, 105, 116, 101, 32, 47, 97, 32, 48]⟩ : ByteArray) = [(⟨#[119, 114, 105, 116, 101]⟩ : ByteArray), ⟨#[47, 97]⟩, ⟨#[48]⟩])] at hc
    have hk8 : kind = 8 := by
      refine write_kind kind ?_
      unfold wordsW headW at hc
      simp only [List.cons_append] at hc
      exact (List.cons.inj hc).1.symm
    subst hk8
    have := congrArg List.length hc
    unfold wordsW headW argsW at this
    simp at this
end Go.Proofs.YtcbmbjapcpbnnaaGreatDoor.G
