/- Plain words on numerals: what strconv.Itoa writes, strconv.Atoi reads; its signs. -/
import Derived.Lib.ItoaNum
import Derived.Lib.ItoaMem
import Derived.Lib.AtoiAll
namespace Go.Proofs.YtcbmbjapcpbnnaaGreatDoor.G
open Go Go.Lib
theorem dec_ne (u : Nat) : decDigits u ≠ [] := by
  rw [decDigits]; split <;> simp
theorem dec_digit : ∀ (u : Nat) (c : UInt8), c ∈ decDigits u → 48 ≤ c.toNat ∧ c.toNat ≤ 57 := by
  intro u
  induction u using Nat.strongRecOn with
  | _ u ih =>
    intro c hc
    rw [decDigits] at hc
    split at hc
    · rw [List.mem_singleton] at hc; subst hc
      rw [UInt8.toNat_ofNat']; omega
    · rcases List.mem_append.1 hc with h | h
      · exact ih (u / 10) (by omega) c h
      · rw [List.mem_singleton] at h; subst h
        rw [UInt8.toNat_ofNat']; omega
theorem parse_append : ∀ (l r : List UInt8) (acc : Nat), parseUint10 acc (l ++ r) = match parseUint10 acc l with | .ok v => parseUint10 v r | x => x
  | [], r, acc => rfl
  | c :: l, r, acc => by
    rw [List.cons_append, parseUint10, parseUint10]
    split
    · split
      · rfl
      · split
        · rfl
        · exact parse_append l r _
    · rfl
theorem parse_dec : ∀ (u : Nat), u ≤ 1000000000000000000 → parseUint10 0 (decDigits u) = .ok u := by
  intro u
  induction u using Nat.strongRecOn with
  | _ u ih =>
    intro hu
    rw [decDigits]
    split
    · have e : (UInt8.ofNat (48 + u)).toNat = 48 + u := by rw [UInt8.toNat_ofNat']; omega
      rw [parseUint10, e, if_pos (by omega), if_neg (by omega), if_neg (by omega), parseUint10]
      congr 1; omega
    · have e : (UInt8.ofNat (48 + u % 10)).toNat = 48 + u % 10 := by rw [UInt8.toNat_ofNat']; omega
      rw [parse_append, ih (u / 10) (by omega) (by omega)]
      simp only
      rw [parseUint10, e, if_pos (by omega), if_neg (by omega), if_neg (by omega), parseUint10]
      congr 1; omega
theorem atoi_itoa (n : Int) (h0 : 0 ≤ n) (h1 : n ≤ 1000000000000000000) : atoiAll (itoa n) = .ok n := by
  obtain ⟨u, rfl⟩ : ∃ u : Nat, n = u := ⟨n.toNat, by omega⟩
  rw [itoa_nonneg]
  have hne := dec_ne u
  have hd := dec_digit u
  have hp := parse_dec u (by omega)
  cases hl : decDigits u with
  | nil => exact absurd hl hne
  | cons c r =>
    have hc := hd c (by rw [hl]; simp)
    rw [hl] at hp
    unfold atoiAll
    simp only
    rw [if_neg (by omega)]
    unfold parseMag
    rw [if_neg (by simp), hp]
    simp only
    rw [if_neg (by omega), if_neg (by omega), if_neg (by omega)]
theorem itoa_sign (n : Int) (h0 : 0 ≤ n) (c : UInt8) (hc : c ∈ itoa n) : 48 ≤ c.toNat ∧ c.toNat ≤ 57 := by
  obtain ⟨u, rfl⟩ : ∃ u : Nat, n = u := ⟨n.toNat, by omega⟩
  rw [itoa_nonneg] at hc
  exact dec_digit u c hc
theorem itoa_ne (n : Int) : itoa n ≠ [] := by
  unfold itoa; split
  · simp
  · exact dec_ne _
end Go.Proofs.YtcbmbjapcpbnnaaGreatDoor.G
