/- strings.Cut at one byte and strings.TrimSuffix by their contracts. -/
import Derived.Test.YtcbmbjapcpbnnaaGreatDoorG0
import Derived.Test.YtcbmbjapcpbnnaaGreatDoorShelf
import Derived.Test.YtcbmbjapcpbnnaaGreatDoorPlNames
namespace Go.Proofs.YtcbmbjapcpbnnaaGreatDoor.G
open Go.RowKit Go.Proofs.YtcbmbjapcpbnnaaGreatDoorW.PrintWords Go.Proofs.YtcbmbjapcpbnnaaGreatDoorW.PrintLast
set_option linter.unusedVariables false
set_option linter.unusedSimpArgs false

/-- What lies before the first such byte, behind it, and whether there is one. -/
def cutAt (b : UInt8) (s : ByteArray) : ByteArray × ByteArray × Bool :=
  if 0 ≤ Lib.indexByte s.data.toList b then (s.extract 0 (Lib.indexByte s.data.toList b).toNat, s.extract ((Lib.indexByte s.data.toList b).toNat + 1) s.size, true) else (s, ⟨#[]⟩, false)
set_option maxRecDepth 100000 in
theorem cut_in (b : UInt8) (s : ByteArray) (w : World) (hs : s.size ≤ 281474976710656) (i : Int) (hi : i = Lib.indexByte s.data.toList b) (hb : -1 ≤ i ∧ i < s.size) :
    Calls Tryz.prog 69 #[.string s, .string ⟨#[b]⟩] w fun e w' => e = .returned (.tuple #[.string (cutAt b s).1, .string (cutAt b s).2.1, .bool (cutAt b s).2.2]) ∧ Drawn0 w w' := by
  have c := Tryz.stringslite_Index_one s b w
  unfold cutAt
  rw [← hi] at c ⊢
  have HC := Aside0.mk c
  clear c hi
  obtain ⟨sep, hsep⟩ : ∃ sep : ByteArray, sep = ⟨#[b]⟩ := ⟨_, rfl⟩
  have h1 : sep.size = 1 := by rw [hsep]; rfl
  rw [← hsep] at HC ⊢
  clear hsep
  by_cases h : 0 ≤ i
  · rw [if_pos h]
    obtain ⟨j, rfl⟩ : ∃ j : Nat, i = j := ⟨i.toNat, by omega⟩
    simp only [Int.toNat_natCast]
    go_enter Tryz.func69, Tryz.ntmps69
    go_wp2_with (go_at_call 87; refine HC.out.mono ?_; rintro e w' ⟨rfl, rfl⟩)
    go_region
    all_goals (try go_wp2)
    all_goals go_ret3
    all_goals first | exact ⟨rfl, 1, rfl⟩ | exact ⟨rfl, Drawn0.refl _⟩
  · rw [if_neg h]
    go_enter Tryz.func69, Tryz.ntmps69
    go_wp2_with (go_at_call 87; refine HC.out.mono ?_; rintro e w' ⟨rfl, rfl⟩)
    go_ret3
    exact ⟨rfl, Drawn0.refl _⟩
theorem index_bounds : ∀ (l : List UInt8) (b : UInt8), -1 ≤ Lib.indexByte l b ∧ Lib.indexByte l b < (l.length : Int)
  | [], b => by simp [Lib.indexByte]
  | x :: l, b => by
    have ih := index_bounds l b
    rw [Lib.indexByte, List.length_cons]
    split
    · omega
    · split <;> omega
set_option maxRecDepth 100000 in
theorem cut_out (b : UInt8) (s : ByteArray) (w : World) (hs : s.size ≤ 281474976710656) :
    Calls Tryz.prog 53 #[.string s, .string ⟨#[b]⟩] w fun e w' => e = .returned (.tuple #[.string (cutAt b s).1, .string (cutAt b s).2.1, .bool (cutAt b s).2.2]) ∧ Drawn0 w w' := by
  have c : ∀ W, Calls Tryz.prog 69 #[.string s, .string ⟨#[b]⟩] W fun e w' => e = .returned (.tuple #[.string (cutAt b s).1, .string (cutAt b s).2.1, .bool (cutAt b s).2.2]) ∧ Drawn0 W w' := fun W => cut_in b s W hs _ rfl (by rw [size_len]; exact index_bounds _ b)
  obtain ⟨r, hr⟩ : ∃ r, r = cutAt b s := ⟨_, rfl⟩
  rw [← hr] at c ⊢
  obtain ⟨sep, hsep⟩ : ∃ sep : ByteArray, sep = ⟨#[b]⟩ := ⟨_, rfl⟩
  rw [← hsep] at c ⊢
  clear hr hsep
  have HC := Aside0.mk c
  clear c
  go_enter Tryz.func53, Tryz.ntmps53
  go_wp2_with (go_at_call 69; refine (HC.out _).mono ?_; rintro e w' ⟨rfl, HD⟩)
  go_ret3
  exact ⟨rfl, HD⟩
def strings_Cut.f (a0 : ByteArray) (a1 : ByteArray) : Option (ByteArray × ByteArray × Bool) :=
  if a0.size ≤ 281474976710656 then match a1.data.toList with | [b] => some (cutAt b a0) | _ => none else none
theorem strings_Cut.calls (a0 a1 : ByteArray) (r1 r2 : ByteArray) (r3 : Bool) (w : World) (h : strings_Cut.f a0 a1 = some (r1, r2, r3)) :
    Calls Tryz.prog 53 #[.string a0, .string a1] w fun e w' => e = .returned (.tuple #[.string r1, .string r2, .bool r3]) ∧ Drawn0 w w' := by
  unfold strings_Cut.f at h
  split at h
  · rename_i hs
    split at h
    · rename_i b hb
      have e : a1 = ⟨#[b]⟩ := data_inj (by rw [hb])
      subst e
      injection h with h
      have := cut_out b a0 w hs
      rw [h] at this
      exact this
    · cases h
  · cases h
def strings_TrimSuffix.f (a0 : ByteArray) (a1 : ByteArray) : Option ByteArray := if a0.size ≤ 281474976710656 then some (ofL (Lib.trimSuffix a0.data.toList a1.data.toList)) else none
theorem strings_TrimSuffix.calls (a0 a1 : ByteArray) (r : ByteArray) (w : World) (h : strings_TrimSuffix.f a0 a1 = some r) :
    Calls Tryz.prog 54 #[.string a0, .string a1] w fun e w' => e = .returned (.string r) ∧ Drawn0 w w' := by
  unfold strings_TrimSuffix.f at h
  split at h
  · cases h
    exact (Tryz.strings_TrimSuffix a0 a1 w (by omega)).mono fun e w' ⟨he, hw⟩ => ⟨he, by rw [hw]; exact Drawn0.refl _⟩
  · cases h
end Go.Proofs.YtcbmbjapcpbnnaaGreatDoor.G
