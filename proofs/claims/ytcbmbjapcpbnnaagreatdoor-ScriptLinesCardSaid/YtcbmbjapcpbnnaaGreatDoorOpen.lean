/- An argument that is a slice of texts, or of whole numbers, of a row, opened: the list it reads as, its room, its weight. -/
import Derived.Test.YtcbmbjapcpbnnaaGreatDoorWWords
import Derived.SliceStrings
import Derived.SizedLaws
import Derived.ChangeSlices
namespace Go.Proofs.YtcbmbjapcpbnnaaGreatDoor.G
open Go.ChangeShapes Go.WideShapes Go.RowKit Go.Proofs.YtcbmbjapcpbnnaaGreatDoorW.PrintWords
set_option linter.unusedVariables false
theorem open_row_strs {H : Type} {enc : TypeId × Value → H} {P : Program} {W : World} {base : Nat} {spare : Nat → Bool} {held : Bool} {t e : TypeId} {a : Option Addr} {len cap : Nat} {d : DataW H} {ps : List MemPlace} {ts : List TypeId} {ds : List (DataW H)}
    (hu : P.underlying t = some (.slice e)) (he : P.underlying e = some .string) (hc : P.cellsOf e = 1) (hB : P.bytesOf e = 16)
    (hsz : (DataW.weightsEach P ts ds).all (· ≤ reachBytes) = true) {j : Nat} (ht : ts[j]? = some t) (hd : ds[j]? = some d)
    (h : DataW.Trod enc P W base spare held t (.slice a len cap) d ps) :
    ∃ l : List ByteArray, len = l.length ∧ Kd.C Kd.string W a l.length l ∧ l.length ≤ cap ∧ l.length * 16 ≤ 140737488351232 ∧ ∀ x ∈ l, x.size ≤ 9223372036854775807 := by
  obtain ⟨fuel, hf⟩ := h
  rcases open_strings hu he hc hf with ⟨hcs, _⟩ | ⟨x, l, c, zs, hcs, _, hl, hm, hz, hx, hcell, hsm⟩
  · simp [Value.cells] at hcs
    obtain ⟨rfl, rfl, rfl⟩ := hcs
    exact ⟨[], rfl, ⟨rfl, by simp, fun h => absurd h (Nat.lt_irrefl _)⟩, Nat.le_refl _, by simp, by simp⟩
  · simp [Value.cells] at hcs
    obtain ⟨rfl, rfl, rfl⟩ := hcs
    obtain ⟨hx, _⟩ := Prod.mk.inj hx
    subst hx
    have z := sized_slice hsz ht hd hu
    rw [hB] at z
    have hl2 : len ≤ zs.length := by
      rw [hz]
      split
      · exact hl
      · exact Nat.le_refl _
    have hlen : (zs.take len).length = len := by rw [List.length_take]; omega
    have h1 : (strs (H := H) (zs.take len)).length + (strs (H := H) (zs.drop len)).length = zs.length := by
      simp [strs]
      omega
    rw [h1] at z
    refine ⟨zs.take len, hlen.symm, ?_, by rw [hlen]; exact hl, by rw [hlen]; exact Nat.le_trans (Nat.mul_le_mul_right _ hl2) z, fun s hs => hsm s (List.mem_of_mem_take hs)⟩
    rw [hlen]
    refine ⟨hlen, by have : maxLen = 9223372036854775807 := rfl; omega, fun _ => ⟨x, rfl, fun i p hp => ?_⟩⟩
    have hi : i < len := by have := (List.getElem?_eq_some_iff.1 hp).1; omega
    have hq : zs[i]? = some p := by rw [List.getElem?_take_of_lt hi] at hp; exact hp
    refine ⟨[.string p], rfl, rfl, fun i' u hu' => ?_⟩
    cases i' with
    | zero =>
      simp at hu'
      subst hu'
      have := hcell i (by omega)
      rw [List.getD_eq_getElem?_getD, hq] at this
      simpa [Kd.string, Kd.scalar] using this
    | succ n => simp at hu'
theorem open_row_ints {H : Type} {enc : TypeId × Value → H} {P : Program} {W : World} {base : Nat} {spare : Nat → Bool} {held : Bool} {t e : TypeId} (k : IntKind) {a : Option Addr} {len cap : Nat} {d : DataW H} {ps : List MemPlace} {ts : List TypeId} {ds : List (DataW H)}
    (hu : P.underlying t = some (.slice e)) (he : P.underlying e = some (.int k)) (hc : P.cellsOf e = 1) (hB : P.bytesOf e = (k.bits / 8))
    (hsz : (DataW.weightsEach P ts ds).all (· ≤ reachBytes) = true) {j : Nat} (ht : ts[j]? = some t) (hd : ds[j]? = some d)
    (h : DataW.Trod enc P W base spare held t (.slice a len cap) d ps) :
    ∃ l : List Int, len = l.length ∧ Kd.C (Kd.int k) W a l.length l ∧ l.length ≤ cap ∧ l.length * (k.bits / 8) ≤ 140737488351232 ∧ ∀ x ∈ l, k.min ≤ x ∧ x ≤ k.max := by
  have hw := sized_ints hsz ht hd hu he hc hB h
  obtain ⟨fuel, hf⟩ := h
  rcases open_ints hu he hc hf with ⟨hcs, _⟩ | ⟨x, l, c, zs, hcs, _, hl, hm, hz, hx, hcell, hwz⟩
  · simp [Value.cells] at hcs
    obtain ⟨rfl, rfl, rfl⟩ := hcs
    exact ⟨[], rfl, ⟨rfl, by simp, fun h => absurd h (Nat.lt_irrefl _)⟩, Nat.le_refl _, by simp, by simp⟩
  · simp [Value.cells] at hcs
    obtain ⟨rfl, rfl, rfl⟩ := hcs
    have hl2 : len ≤ zs.length := by
      rw [hz]
      split
      · exact hl
      · exact Nat.le_refl _
    have hlen : (zs.take len).length = len := by rw [List.length_take]; omega
    refine ⟨zs.take len, hlen.symm, ?_, by rw [hlen]; exact hl, by rw [hlen]; exact hw, fun s hs => ?_⟩
    · rw [hlen]
      refine ⟨hlen, by have : maxLen = 9223372036854775807 := rfl; omega, fun _ => ⟨x, rfl, fun i p hp => ?_⟩⟩
      have hi : i < len := by have := (List.getElem?_eq_some_iff.1 hp).1; omega
      have hq : zs[i]? = some p := by rw [List.getElem?_take_of_lt hi] at hp; exact hp
      refine ⟨[.int k p], rfl, rfl, fun i' u hu' => ?_⟩
      cases i' with
      | zero =>
        simp at hu'
        subst hu'
        have := hcell i (by omega)
        rw [List.getD_eq_getElem?_getD, hq] at this
        simpa [Kd.int, Kd.scalar] using this
      | succ n => simp at hu'
    · have := hwz s (List.mem_of_mem_take hs)
      simpa [Lit.wf] using this
end Go.Proofs.YtcbmbjapcpbnnaaGreatDoor.G
