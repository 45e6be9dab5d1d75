/- ScriptCrash: a crash's picks stand one behind the other, none too; a hundred of them, and not one more. -/
import Derived.Test.YtcbmbjapcpbnnaaGreatDoorG0
import Derived.Test.YtcbmbjapcpbnnaaGreatDoorG21
import Derived.Test.YtcbmbjapcpbnnaaGreatDoorGvAwake29
namespace Go.Proofs.YtcbmbjapcpbnnaaGreatDoor.Pure
open Go Go.RowKit Go.Proofs.YtcbmbjapcpbnnaaGreatDoor.G Go.Proofs.YtcbmbjapcpbnnaaGreatDoorW.PrintWords Go.Proofs.YtcbmbjapcpbnnaaGreatDoorW.PrintLast
set_option linter.unusedVariables false
set_option linter.unusedSimpArgs false

theorem bind_atC {α β : Type} {o : Option α} {x : α} {f : α → Option β} (h : o = some x) : o.bind f = f x := by rw [h]; rfl
theorem ints_l0 (a b : List Int) (hab : a.length = b.length) (ha : a.length ≤ 1000000) (he : a = b) : ∀ (d i k : Nat), a.length - i = d → i ≤ a.length → d + 1 ≤ k → dolmenref5_Ints.l0 k a b (i : Int) = some true := by
  intro d
  subst he
  induction d with
  | zero =>
    intro i k hd hi hk
    obtain ⟨k, rfl⟩ : ∃ m, k = m + 1 := ⟨k - 1, by omega⟩
    rw [dolmenref5_Ints.l0, if_neg (by omega)]
  | succ d ih =>
    intro i k hd hi hk
    obtain ⟨k, rfl⟩ : ∃ m, k = m + 1 := ⟨k - 1, by omega⟩
    rw [dolmenref5_Ints.l0, if_pos (by omega), if_pos (by omega), if_pos (by omega), if_pos rfl, wrap_up i a.length (by omega) (by omega)]
    exact ih (i + 1) k (by omega) (by omega) (by omega)
theorem ints_f (a : List Int) (ha : a.length ≤ 1000000) (k : Nat) (hk : a.length + 1 ≤ k) : dolmenref5_Ints.f k a a = some true := by
  unfold dolmenref5_Ints.f
  have h := ints_l0 a a rfl ha rfl a.length 0 k (by omega) (by omega) hk
  first | exact h | (rw [if_pos (by omega)]; exact h) | (rw [if_neg (by omega)]; exact h)
theorem crash_text (l : List Int) : script_Text.f 5 0 0 0 (⟨#[]⟩ : ByteArray) (⟨#[]⟩ : ByteArray) 0 0 ([] : List Int) 0 l = some (actX 5 0 0 noneW l) := by
  have h := text_f 5 0 0 0 (⟨#[]⟩ : ByteArray) (⟨#[]⟩ : ByteArray) 0 0 [] 0 l (by decide) (by decide) (by simp) (by simp) (by rw [op_zero]; decide)
  rw [op_zero] at h
  exact h
theorem crash_word : wordA 5 = (⟨#[99, 114, 97, 115, 104]⟩ : ByteArray) := by decide +kernel
theorem crash_words (l : List Int) : actW 5 0 0 noneW l = wordA 5 :: l.map numW := by unfold actW; rfl
/-- A pick out of range, or too many: no text. -/
theorem crash_none (l : List Int) (h : (∃ m, m ∈ l ∧ ¬ (0 ≤ m ∧ m ≤ 1099511627776)) ∨ 100 < l.length) : actX 5 0 0 noneW l = noneW := by
  unfold actX
  by_cases h100 : 100 < l.length
  · rw [if_pos ⟨rfl, h100⟩]
  · obtain ⟨m, hm, hr⟩ := h.resolve_right h100
    rw [if_neg (by simp; omega), if_pos]
    rw [crash_words]
    refine List.any_eq_true.2 ⟨numW m, List.mem_cons_of_mem _ (List.mem_map.2 ⟨m, hm, rfl⟩), ?_⟩
    rw [num_none]
    simp only [Bool.not_eq_true', decide_eq_false_iff_not]
    exact hr
theorem crash_some (l : List Int) (h : ∀ m, m ∈ l → 0 ≤ m ∧ m ≤ 1099511627776) (hl : l.length ≤ 100) : (actX 5 0 0 noneW l).data.toList = Lib.join (datas (wordA 5 :: l.map numW)) [32] ∧ (actX 5 0 0 noneW l).data.toList ≠ [] := by
  have hn : (actW 5 0 0 noneW l).any isNone = false := by
    rw [crash_words]
    rw [List.any_eq_false]
    intro x hx
    rcases List.mem_cons.1 hx with rfl | hx
    · rw [crash_word]; decide
    · obtain ⟨m, hm, rfl⟩ := List.mem_map.1 hx
      rw [num_none]
      simp [h m hm]
  have e : actX 5 0 0 noneW l = ofL (Lib.join (datas (wordA 5 :: l.map numW)) [32]) := by
    unfold actX
    rw [if_neg (by simp; omega), if_neg (by rw [hn]; decide), crash_words]
  refine ⟨by rw [e, ofL_data], fun h0 => ?_⟩
  rw [e, ofL_data] at h0
  unfold datas at h0
  rw [List.map_cons] at h0
  cases hr : List.map (fun x => x.data.toList) (l.map numW) with
  | nil => rw [hr, Lib.join_one, crash_word] at h0; exact absurd h0 (by decide)
  | cons a b => rw [hr, join_cons 32 _ _ (by simp)] at h0; simp at h0
theorem many_text (n : Nat) : ((actX 5 0 0 noneW (List.replicate n 0)).toList == ([] : List UInt8)) = decide ((n : Int) > 100) := by
  by_cases h : 100 < n
  · rw [crash_none _ (.inr (by simp; exact h)), toL]
    rw [decide_eq_true (by omega)]; rfl
  · have := (crash_some (List.replicate n 0) (by intro m hm; rw [(List.mem_replicate.1 hm).2]; decide) (by simp; omega)).2
    rw [toL, decide_eq_false (by omega), beq_eq_false_iff_ne]
    exact this
theorem crash_done (l : List Int) (n : Nat) (h : ∀ m, m ∈ l → 0 ≤ m ∧ m ≤ 1099511627776) (hl : l.length ≤ 30) (hn : n ≤ 110) (i : Nat) (hi : l.length ≤ i) (k : Nat) (hk : 2000200 ≤ k) :
    dolmenlaw29_ScriptCrash.l0 (k + 1) l (n : Int) (i : Int) = some true := by
  obtain ⟨hs, hne⟩ := crash_some l h (by omega)
  have haw : dolmenlaw29_awake.f = some true := rfl
  have hp := parse_act 5 0 0 0 (⟨#[]⟩ : ByteArray) (⟨#[]⟩ : ByteArray) 0 0 [] 0 l (by decide) (by decide) (by simp) (by simp) (by rw [op_zero]; exact hne) k hk
  rw [op_zero, if_neg (by decide), if_neg (by decide), if_neg (by decide), if_pos rfl] at hp
  have hm := many_text n
  rw [dolmenlaw29_ScriptCrash.l0, if_neg (by omega), bind_atC (crash_text l), bind_atC hp, if_pos (by omega), if_pos (by omega), Int.toNat_natCast, bind_atC (crash_text (List.replicate n 0)), if_pos (show (none : Option Int).isNone = true from rfl), if_pos (show (5 : Int) = 5 from rfl), bind_atC (ints_f l (by omega) k (by omega)), if_pos rfl]
  have hmm : (((actX 5 0 0 noneW (List.replicate n 0)).toList == ([] : List UInt8)) == decide ((n : Int) > 100)) = true := by rw [hm]; simp
  by_cases hz : (l.length : Int) > 0
  · rw [if_pos hz, if_pos hmm, bind_atC haw]
  · have hl0 : l = [] := List.eq_nil_of_length_eq_zero (by omega)
    rw [if_neg hz, if_pos, if_pos hmm, bind_atC haw]
    rw [toL, hs, hl0, crash_word]
    decide
theorem crash_loop (l : List Int) (n : Nat) (hl : l.length ≤ 30) (hn : n ≤ 110) : ∀ (d i k : Nat), l.length - i = d → i ≤ l.length → (∀ j, j < i → ∀ (hj : j < l.length), 0 ≤ l[j] ∧ l[j] ≤ 1099511627776) → 2000201 + 3 * d ≤ k →
    dolmenlaw29_ScriptCrash.l0 k l (n : Int) (i : Int) = some true := by
  have haw : dolmenlaw29_awake.f = some true := rfl
  intro d
  induction d with
  | zero =>
    intro i k hd hi hb hk
    obtain ⟨k, rfl⟩ : ∃ m, k = m + 1 := ⟨k - 1, by omega⟩
    refine crash_done l n (fun m hm => ?_) hl hn i (by omega) k (by omega)
    obtain ⟨j, hj, rfl⟩ := List.mem_iff_getElem.1 hm
    exact hb j (by omega) hj
  | succ d ih =>
    intro i k hd hi hb hk
    obtain ⟨k, rfl⟩ : ∃ m, k = m + 2 := ⟨k - 2, by omega⟩
    have hil : i < l.length := by omega
    have hrd : rd l (i : Int) = l[i] := by rw [rd_nat]; exact getD_at 0 l i hil
    rw [dolmenlaw29_ScriptCrash.l0, if_pos (by omega), if_pos (by omega), hrd]
    have hbad : ¬ (0 ≤ l[i] ∧ l[i] ≤ 1099511627776) → dolmenlaw29_ScriptCrash.j2 (k + 1) l (n : Int) (i : Int) true = some true := fun hx => by
      rw [dolmenlaw29_ScriptCrash.j2, if_pos rfl, bind_atC (crash_text l), crash_none l (.inl ⟨l[i], List.getElem_mem hil, hx⟩), if_pos (by rw [toL]; rfl), bind_atC haw]
    by_cases c1 : l[i] < 0
    · rw [if_pos c1]; exact hbad (by omega)
    · rw [if_neg c1]
      by_cases c2 : l[i] > 1099511627776
      · rw [decide_eq_true c2]; exact hbad (by omega)
      · rw [decide_eq_false c2, dolmenlaw29_ScriptCrash.j2, if_neg (by decide), wrap_up i l.length hil (by omega)]
        exact ih (i + 1) k (by omega) (by omega) (fun j hj hjl => by
          by_cases e : j < i
          · exact hb j e hjl
          · obtain rfl : j = i := by omega
            exact ⟨by omega, by omega⟩) (by omega)
theorem ScriptCrash (l : List Int) (n : Int) (_ : l.length * (64 / 8) ≤ 140737488351232) (_ : ∀ x ∈ l, IntKind.i64.min ≤ x ∧ x ≤ IntKind.i64.max) (_ : (Lit.int .i64 n).wf = true) : ∃ k, dolmenlaw29_ScriptCrash.f k l n = some true := by
  refine ⟨2000400, ?_⟩
  have haw : dolmenlaw29_ScriptCrash.j0 2000400 l n true = some true := by
    rw [show (2000400 : Nat) = 2000399 + 1 from rfl, dolmenlaw29_ScriptCrash.j0, if_pos rfl]; rfl
  unfold dolmenlaw29_ScriptCrash.f
  by_cases g1 : (l.length : Int) > 30
  · rw [if_pos g1]; exact haw
  rw [if_neg g1]
  by_cases g2 : n < 0
  · rw [if_pos g2]; exact haw
  rw [if_neg g2]
  by_cases g3 : n > 110
  · rw [decide_eq_true g3]; exact haw
  rw [decide_eq_false g3, show (2000400 : Nat) = 2000399 + 1 from rfl, dolmenlaw29_ScriptCrash.j0, if_neg (by decide)]
  obtain ⟨m, rfl⟩ : ∃ m : Nat, n = m := ⟨n.toNat, by omega⟩
  exact crash_loop l m (by omega) (by omega) l.length 0 2000399 (by omega) (by omega) (fun j hj => by omega) (by omega)
end Go.Proofs.YtcbmbjapcpbnnaaGreatDoor.Pure
