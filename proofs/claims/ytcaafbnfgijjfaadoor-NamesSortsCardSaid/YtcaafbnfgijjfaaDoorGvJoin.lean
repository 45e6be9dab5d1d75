/- names.Join by its contract: strings.Join, out of the shelf's contract. -/
import Derived.Test.YtcaafbnfgijjfaaDoorG0
import Derived.Test.YtcaafbnfgijjfaaDoorShelf
import Derived.Test.YtcaafbnfgijjfaaDoorPlNames
import Derived.Test.YtcaafbnfgijjfaaDoorGvSorted
namespace Go.Proofs.YtcaafbnfgijjfaaDoor.G
open Go.RowKit Go.Proofs.YtcaafbnfgijjfaaDoorW.PrintWords Go.Proofs.YtcaafbnfgijjfaaDoorW.PrintLast
set_option linter.unusedVariables false
set_option linter.unusedSimpArgs false

/-- Names behind a slash each; of none a slash. -/
def joinL (l : List (List UInt8)) : List UInt8 := 47 :: Lib.join l [47]
def names_Join.f (l0 : List ByteArray) : Option ByteArray :=
  if l0.length ≤ 140737488355328 ∧ (Lib.join (l0.map (·.data.toList)) [47]).length ≤ 140737488355328 then some (ofL (joinL (l0.map (·.data.toList)))) else none

set_option maxRecDepth 100000 in
theorem join_of (A0 : Option Addr) (n c0 : Nat) (b : List UInt8) (w : World) (hb : b.length ≤ 140737488355328)
    (hc : Calls Tryd.prog 35 #[.slice A0 n c0, .string ⟨#[47]⟩] w fun e w' => e = .returned (.string ⟨b.toArray⟩) ∧ Below w.heap.size w w') :
    Calls Tryd.prog 15 #[.slice A0 n c0] w fun e w' => e = .returned (.string (ofL (47 :: b))) ∧ Below w.heap.size w w' := by
  have HC := Aside0.mk hc
  clear hc
  obtain ⟨s, hs⟩ : ∃ s : ByteArray, s = ⟨b.toArray⟩ := ⟨_, rfl⟩
  rw [← hs] at HC
  have hz : s.size ≤ 140737488355328 := by rw [hs, size_len]; simpa using hb
  have HS : Aside0 (s.data.toList = b) := ⟨by rw [hs]⟩
  clear hs hb
  have hrun := fun W : World => run_string_add_sum (P := Tryd.prog) (w := W) ⟨#[47]⟩ s (by show 1 + s.size ≤ _; omega)
  go_enter Tryd.func15, Tryd.ntmps15
  go_wp2_with fail
  refine HC.out.mono ?_
  rintro e w1 ⟨rfl, HB⟩
  go_wp2_with fail
  go_ret
  refine ⟨?_, HB⟩
  have : (⟨#[47]⟩ ++ s : ByteArray) = ofL (47 :: b) := data_inj (by rw [ofL_data, ← HS.out]; rfl)
  simp [this]

theorem names_Join.calls (A0 : Option Addr) (c0 : Nat) (l0 : List ByteArray) (r : ByteArray) (w : World) (hr0 : Kd.C Kd.string w A0 l0.length l0) (hc0 : l0.length ≤ c0) (h : names_Join.f l0 = some r) :
    Calls Tryd.prog 15 #[.slice A0 l0.length c0] w fun e w' => e = .returned (.string r) ∧ Below w.heap.size w w' := by
  unfold names_Join.f at h
  split at h
  · rename_i hb
    cases h
    rcases Nat.eq_zero_or_pos l0.length with h0 | h0
    · obtain rfl : l0 = [] := List.eq_nil_of_length_eq_zero h0
      exact join_of A0 0 c0 [] w (by simp) ((Tryd.strings_Join_none A0 c0 ⟨#[47]⟩ w).mono fun e w' ⟨he, hw⟩ => ⟨he, by rw [hw]; exact Below.refl _ _⟩)
    · obtain ⟨bk, o, rfl, hlt, hx⟩ := C_str_at hr0 h0
      refine join_of _ _ c0 _ w hb.2 (Tryd.strings_Join bk o c0 l0 ⟨#[47]⟩ w ?_ hlt hb.1 hc0 hb.2)
      intro j x hj
      have hjl : j < l0.length := by
        rcases Nat.lt_or_ge j l0.length with h | h
        · exact h
        · rw [List.getElem?_eq_none h] at hj; cases hj
      rw [hx j hjl, List.getD_eq_getElem?_getD, hj]; rfl
  · cases h
end Go.Proofs.YtcaafbnfgijjfaaDoor.G
