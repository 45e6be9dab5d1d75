/- What hist.Op wrote, hist.ParseOp reads as it was, as far as its kind names it. -/
import Derived.Test.YtcbmbjapcpbnnaaGreatDoorG0
import Derived.Test.YtcbmbjapcpbnnaaGreatDoorPuHist3
namespace Go.Proofs.YtcbmbjapcpbnnaaGreatDoor.G
open Go Go.RowKit Go.Proofs.YtcbmbjapcpbnnaaGreatDoorW.PrintWords Go.Proofs.YtcbmbjapcpbnnaaGreatDoorW.PrintLast
set_option linter.unusedVariables false
set_option linter.unusedSimpArgs false

/-! ### the words' signs -/
def Clean (x : ByteArray) : Prop := ∀ b, b ∈ x.data.toList → b ≠ 32 ∧ b ≠ 64
theorem clean_none : Clean noneW := by intro b hb; simp [noneW] at hb
theorem cut_cover (c : UInt8) : ∀ (l : List UInt8) (b : UInt8), b ∈ l → b = c ∨ ∃ x, x ∈ cutL c l ∧ b ∈ x
  | [], b, h => by simp at h
  | y :: l, b, h => by
    have ih := cut_cover c l
    have hn := cutL_ne c l
    rw [cutL]
    split
    · rename_i hy
      rcases List.mem_cons.1 h with rfl | h
      · exact .inl hy
      · rcases ih b h with h | ⟨x, hx, hb⟩
        · exact .inl h
        · exact .inr ⟨x, by simp [hx], hb⟩
    · cases hc : cutL c l with
      | nil => exact absurd hc hn
      | cons a r =>
        rcases List.mem_cons.1 h with rfl | h
        · exact .inr ⟨b :: a, by simp, by simp⟩
        · rcases ih b h with h | ⟨x, hx, hb⟩
          · exact .inl h
          · rw [hc] at hx
            rcases List.mem_cons.1 hx with rfl | hx
            · exact .inr ⟨y :: x, by simp, by simp [hb]⟩
            · exact .inr ⟨x, by simp [hx], hb⟩
theorem letter_clean (b : UInt8) (h : letterB b.toNat = true) : b ≠ 32 ∧ b ≠ 64 := by
  constructor <;> (rintro rfl; exact absurd h (by decide))
theorem path_clean (p : ByteArray) : Clean (pathR p) := by
  unfold pathR
  split
  · rename_i l h
    unfold names_Split.f at h
    split at h
    · cases h
    · split at h
      · cases h
      · split at h
        · rename_i h3
          intro b hb
          rw [h3] at hb
          rw [List.mem_singleton.1 hb]; decide
        · rename_i h2 h3
          have h2' : p.data.toList.head? = some 47 := Classical.not_not.1 h2
          cases hd : p.data.toList with
          | nil => rw [hd] at h2'; simp at h2'
          | cons y tl =>
            rw [hd] at h2' h
            simp only [List.head?_cons, Option.some.injEq] at h2'
            subst h2'
            simp only [List.tail_cons] at h
            have hr : (restOf ((cutL 47 tl).map ofL)).2 = none := by rw [Option.some.inj h]
            unfold restOf at hr
            split at hr
            · cases hr
            · rename_i hok
              intro b hb
              rw [hd] at hb
              rcases List.mem_cons.1 hb with rfl | hb
              · decide
              · rcases cut_cover 47 tl b hb with rfl | ⟨x, hx, hbx⟩
                · decide
                · have h1 : nameOk (ofL x) = true := by
                    have h0 : ((cutL 47 tl).map ofL).any (fun x => !nameOk x) = false := by simpa using hok
                    have := List.any_eq_false.1 h0 (ofL x) (List.mem_map_of_mem hx)
                    simpa using this
                  unfold nameOk nameL at h1
                  rw [ofL_data] at h1
                  simp only [Bool.and_eq_true] at h1
                  exact letter_clean b (List.all_eq_true.1 h1.1.1.1 b hbx)
  · exact clean_none
theorem num_clean (n : Int) : Clean (numW n) := by
  unfold numW
  split
  · exact clean_none
  · split
    · exact clean_none
    · intro b hb
      rw [ofL_data] at hb
      have := itoa_sign n (by omega) b hb
      constructor <;> (rintro rfl; revert this; decide)
theorem word_clean (k : Int) : Clean (wordR k) := by
  unfold wordR
  split
  · exact clean_none
  · have : ∀ x, x ∈ wordL → ∀ b, b ∈ x.data.toList → b ≠ 32 ∧ b ≠ 64 := by decide +kernel
    rw [List.getD_eq_getElem?_getD]
    cases h : wordL[k.toNat]? with
    | none => exact clean_none
    | some x => exact this x (List.mem_of_getElem? h)
theorem two_clean (c : Int) (h : IsByte c) : (UInt8.ofNat (bt digits (c / 16)).toNat ≠ 32 ∧ UInt8.ofNat (bt digits (c / 16)).toNat ≠ 64) ∧ UInt8.ofNat (bt digits (Go.bits .and .u8 c 15)).toNat ≠ 32 ∧ UInt8.ofNat (bt digits (Go.bits .and .u8 c 15)).toNat ≠ 64 := by
  obtain ⟨n, rfl⟩ : ∃ n : Nat, c = n := ⟨c.toNat, by have := h.1; omega⟩
  have hn : n < 256 := by have := h.2; omega
  exact (show ∀ n : Fin 256, (UInt8.ofNat (bt digits ((n.1 : Int) / 16)).toNat ≠ 32 ∧ UInt8.ofNat (bt digits ((n.1 : Int) / 16)).toNat ≠ 64) ∧ UInt8.ofNat (bt digits (Go.bits .and .u8 (n.1 : Int) 15)).toNat ≠ 32 ∧ UInt8.ofNat (bt digits (Go.bits .and .u8 (n.1 : Int) 15)).toNat ≠ 64 by decide +kernel) ⟨n, hn⟩
theorem hex_clean (l : List Int) (hb : ∀ c, c ∈ l → IsByte c) : Clean (hexW l) := by
  unfold hexW
  split
  · intro b h; simp at h; subst h; decide
  · intro b h
    rw [strOfNums_data] at h
    obtain ⟨v, hv, rfl⟩ := List.mem_map.1 h
    unfold hexL at hv
    obtain ⟨t, ht, hvt⟩ := List.mem_flatten.1 hv
    obtain ⟨c, hc, rfl⟩ := List.mem_map.1 ht
    have := two_clean c (hb c hc)
    simp only [twoOf, List.mem_cons, List.not_mem_nil, or_false] at hvt
    rcases hvt with rfl | rfl
    · exact this.1
    · exact this.2
theorem args_clean (kind : Int) (to_ : ByteArray) (off n : Int) (data : List Int) (snap : Int) (hb : ∀ c, c ∈ data → IsByte c) : ∀ x, x ∈ argsW kind to_ off n data snap → Clean x := by
  intro x hx
  unfold argsW at hx
  repeat' split at hx
  · rw [List.mem_singleton.1 hx]; exact path_clean _
  · simp at hx; rcases hx with rfl | rfl
    · exact num_clean _
    · exact hex_clean _ hb
  · simp at hx; rcases hx with rfl | rfl <;> exact num_clean _
  · rw [List.mem_singleton.1 hx]; exact num_clean _
  · rw [List.mem_singleton.1 hx]; exact num_clean _
  · simp at hx
theorem head_clean (kind : Int) (path : ByteArray) : ∀ x, x ∈ headW kind path → Clean x := by
  intro x hx
  unfold headW at hx
  rcases List.mem_cons.1 hx with rfl | hx
  · exact word_clean _
  · split at hx
    · rw [List.mem_singleton.1 hx]; exact path_clean _
    · simp at hx

/-! ### the last sign of its kind -/
theorem get_bang (s : ByteArray) (i : Nat) (h : i < s.data.toList.length) : s.data[i]! = s.data.toList[i] := by simp at h; simp [h]
theorem last_at (s : ByteArray) (a b : List UInt8) (h : s.data.toList = a ++ 64 :: b) (hb : (64 : UInt8) ∉ b) : Lib.lastIndexByte s 64 = a.length := by
  have hsz : s.size = a.length + 1 + b.length := by rw [size_len, h]; simp; omega
  have hl : s.data.toList.length = s.size := (size_len s).symm
  have hat : s.data[a.length]! = 64 := by rw [get_bang s _ (by omega)]; simp [h]
  rcases Lib.lastIndexByte_spec s 64 with ⟨_, hn⟩ | ⟨i, hi, e, hc, hn⟩
  · exact absurd (by rw [hat]; rfl) (hn a.length (by omega))
  · rw [e]
    rcases Nat.lt_trichotomy i a.length with hlt | heq | hgt
    · exact absurd (by rw [hat]; rfl) (hn a.length hlt (by omega))
    · rw [heq]
    · exfalso
      apply hb
      have h1 : s.data[i]! = 64 := UInt8.toNat_inj.1 (by have : (s.data[i]!.toNat : Int) = 64 := hc; show _ = 64; omega)
      rw [get_bang s _ (by omega)] at h1
      have h2 : s.data.toList[i]? = some 64 := by rw [List.getElem?_eq_getElem (by omega), h1]
      rw [h, List.getElem?_append_right (by omega)] at h2
      obtain ⟨j, hj⟩ : ∃ j, i - a.length = j + 1 := ⟨i - a.length - 1, by omega⟩
      rw [hj, List.getElem?_cons_succ] at h2
      exact List.mem_of_getElem? h2
theorem last_no (s : ByteArray) (h : (64 : UInt8) ∉ s.data.toList) : Lib.lastIndexByte s 64 = -1 := by
  rcases Lib.lastIndexByte_spec s 64 with ⟨e, _⟩ | ⟨i, hi, e, hc, hn⟩
  · exact e
  · exfalso; apply h
    have hl : i < s.data.toList.length := by rw [← size_len]; exact hi
    have h1 : s.data[i]! = 64 := UInt8.toNat_inj.1 (by have : (s.data[i]!.toNat : Int) = 64 := hc; show _ = 64; omega)
    rw [get_bang s _ hl] at h1
    rw [← h1]; exact List.getElem_mem hl
theorem join_mem (c : UInt8) : ∀ (l : List (List UInt8)) (b : UInt8), b ∈ Lib.join l [c] → b = c ∨ ∃ x, x ∈ l ∧ b ∈ x
  | [], b, h => by simp [Lib.join, List.intercalate] at h
  | x :: l, b, h => by
    by_cases hl : l = []
    · subst hl; rw [Lib.join_one] at h; exact .inr ⟨x, by simp, h⟩
    · rw [join_cons c x l hl] at h
      rcases List.mem_append.1 h with h | h
      · exact .inr ⟨x, by simp, h⟩
      · rcases List.mem_cons.1 h with h | h
        · exact .inl h
        · rcases join_mem c l b h with h | ⟨y, hy, hb⟩
          · exact .inl h
          · exact .inr ⟨y, by simp [hy], hb⟩
end Go.Proofs.YtcbmbjapcpbnnaaGreatDoor.G
