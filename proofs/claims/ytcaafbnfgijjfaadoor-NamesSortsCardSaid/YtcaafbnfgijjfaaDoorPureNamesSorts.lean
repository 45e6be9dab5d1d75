/- NamesSorts: names.Sorted, names.Match and names.Join tell what dolmenref1's tell. For every list of texts that a row lets in. -/
import Derived.Test.YtcaafbnfgijjfaaDoorG0
import Derived.Test.YtcaafbnfgijjfaaDoorG15
import Derived.Test.YtcaafbnfgijjfaaDoorPuRef1
import Derived.Test.YtcaafbnfgijjfaaDoorPuRef1b
import Derived.Test.YtcaafbnfgijjfaaDoorPuSum
namespace Go.Proofs.YtcaafbnfgijjfaaDoor.Pure
open Go.RowKit Go.Proofs.YtcaafbnfgijjfaaDoor.G Go.Proofs.YtcaafbnfgijjfaaDoorW.PrintWords Go.Proofs.YtcaafbnfgijjfaaDoorW.PrintLast
set_option linter.unusedVariables false
theorem sorts_end (l : List ByteArray) (p n : ByteArray) (hl : l.length ≤ 1000) (hz : ∀ y, y ∈ l → y.size ≤ 1000) (b : Bool) (k : Nat) (hk : 3000000 ≤ k) :
    dolmenlaw4_NamesSorts.j1 (k + 1) l p n b = some true := by
  have ha := awake_f k (by omega)
  rw [dolmenlaw4_NamesSorts.j1, ha]
  cases b with
  | true => rfl
  | false =>
    have hS : names_Sorted.f l = some (sortedB l) := by unfold names_Sorted.f; rw [if_pos (by omega)]
    have hlen := sortedB_len l
    have hmul : l.length * (1000 + 1) ≤ 1000 * 1001 := Nat.mul_le_mul hl (Nat.le_refl _)
    rw [if_neg (by decide), hS, refsorted_f l hl k (by omega)]
    simp only [Option.bind_some]
    rw [texts_f _ _ k (by omega) (by omega), match_f p n k (by omega), refmatch_f p n k (by omega), join_f l 1000 hz (by omega), refjoin_f l 1000 hz (by omega) k (by omega)]
    simp
theorem sorts_l0 (l : List ByteArray) (p n : ByteArray) (hz : ∀ y ∈ l, y.size ≤ 9223372036854775807) (hw : l.length ≤ 8796093022208) (k : Nat) (hk : 3000000 ≤ k) :
    ∀ (d i m c : Nat), l.length - i = d → i ≤ l.length → m = k + d → i ≤ c → c ≤ 1000 → (∀ y, y ∈ l.take i → y.size ≤ 1000) →
    dolmenlaw4_NamesSorts.l0 (m + 2) l p n (c : Int) (i : Int) = some true := by
  intro d
  induction d with
  | zero =>
    intro i m c hd hi hm h1 h2 h3
    have : i = l.length := by omega
    subst this
    rw [List.take_length] at h3
    have hj := fun b => sorts_end l p n (by omega) h3 b m (by omega)
    rw [dolmenlaw4_NamesSorts.l0, if_neg (by omega), hj, hj, ite_self]
  | succ d ih =>
    intro i m c hd hi hm h1 h2 h3
    have hlt' : i < l.length := by omega
    obtain ⟨m, rfl⟩ : ∃ j, m = j + 1 := ⟨m - 1, by omega⟩
    obtain ⟨r, hr, hr2⟩ := sum_two c (l[i]).size (m + 2) (by omega) (by omega) (hz _ (List.getElem_mem hlt'))
    have hw1 := wrap_up i 8796093022208 (by omega) (by omega)
    have hgi : rdOf ByteArray.empty l (i : Int) = l[i] := by rw [rdOf_nat, getD_at _ _ _ hlt']
    have ha := awake_f (m + 2) (by omega)
    rw [show m + 1 + 2 = (m + 2) + 1 by omega, dolmenlaw4_NamesSorts.l0, if_pos (by omega), if_pos (by omega), hw1, hgi, hr, ha]
    clear hw1
    simp only [Option.bind_some]
    by_cases h : r ≤ 1000
    · rw [if_neg (by omega)]
      have := hr2 h
      refine ih (i + 1) m r (by omega) (by omega) (by omega) (by omega) (by omega) fun y hy => ?_
      rw [List.take_succ_eq_append_getElem hlt'] at hy
      rcases List.mem_append.1 hy with h | h
      · exact h3 y h
      · rw [List.mem_singleton.1 h]; omega
    · rw [if_pos (by omega)]
theorem NamesSorts (l : List ByteArray) (p n : ByteArray) (hw : l.length * 16 ≤ 140737488351232) (hz : ∀ y ∈ l, y.size ≤ 9223372036854775807) (_ : p.size ≤ 140737488351232) (_ : n.size ≤ 140737488351232) : ∃ k, dolmenlaw4_NamesSorts.f k l p n = some true :=
  ⟨3000000 + l.length + 2, sorts_l0 l p n hz (by omega) 3000000 (by omega) l.length 0 _ 0 (by omega) (by omega) rfl (by omega) (by omega) (by simp)⟩
end Go.Proofs.YtcaafbnfgijjfaaDoor.Pure
