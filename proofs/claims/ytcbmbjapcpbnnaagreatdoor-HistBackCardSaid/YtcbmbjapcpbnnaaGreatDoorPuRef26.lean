/- An operation that hist.Op has no text for has none with the document's own dolmenref26.Op; a line's ends are no blanks. -/
import Derived.Test.YtcbmbjapcpbnnaaGreatDoorG0
import Derived.Test.YtcbmbjapcpbnnaaGreatDoorG10
import Derived.Test.YtcbmbjapcpbnnaaGreatDoorG7
import Derived.Test.YtcbmbjapcpbnnaaGreatDoorPuRefSplit
import Derived.Test.YtcbmbjapcpbnnaaGreatDoorPuHist6b
import Derived.Test.YtcbmbjapcpbnnaaGreatDoorGvRefOp
namespace Go.Proofs.YtcbmbjapcpbnnaaGreatDoor.G
open Go Go.RowKit Go.Proofs.YtcbmbjapcpbnnaaGreatDoorW.PrintWords Go.Proofs.YtcbmbjapcpbnnaaGreatDoorW.PrintLast
set_option linter.unusedVariables false
set_option linter.unusedSimpArgs false

theorem split_codes (p : ByteArray) : (splitR p).2 = none ∨ (splitR p).2 = some 2 ∨ (splitR p).2 = some 3 ∨ (splitR p).2 = some 4 := by
  unfold splitR restOf
  repeat' split
  all_goals simp
theorem good_f (p : ByteArray) (k : Nat) (hk : 300000 ≤ k) : dolmenref26_good.f k p = some ((splitR p).2.isNone) := by
  unfold dolmenref26_good.f
  rw [refsplit_f p k hk]
  simp only [Option.bind_some]
  rcases split_codes p with h | h | h | h <;> rw [h] <;> rfl
theorem pathR_split (p : ByteArray) : pathR p = if (splitR p).2.isNone = true then p else noneW := by
  unfold pathR
  rw [split_f]
  cases h : splitR p with
  | mk l e => cases e <;> rfl
theorem split_good (p : ByteArray) (h : (splitR p).2.isNone = true) : p.size ≤ 200 ∧ p.data.toList ≠ [] := by
  unfold splitR at h
  by_cases h1 : 200 < p.size
  · rw [if_pos h1] at h; cases h
  · rw [if_neg h1] at h
    refine ⟨by omega, fun e => ?_⟩
    rw [if_pos (by rw [e]; simp)] at h
    cases h
theorem path_none (p : ByteArray) : isNone (pathR p) = !(splitR p).2.isNone := by
  rw [pathR_split]
  cases h : (splitR p).2.isNone with
  | true =>
    rw [if_pos rfl]
    have := (split_good p h).2
    simpa [isNone] using this
  | false => rw [if_neg (by simp)]; simp [isNone, noneW]
theorem near_end (l : List Int) (i : Int) (k : Nat) (h : ¬ i < (l.length : Int)) : dolmenref26_near.l0 (k + 1) l i = some true := by
  rw [dolmenref26_near.l0, if_neg h]
theorem near_step (l : List Int) (i x : Int) (k : Nat) (h0 : 0 ≤ i) (h1 : i < (l.length : Int)) (hx : rd l i = x) (b : Bool) (hn : dolmenref26_near.l0 k l (wrap64 (i + 1)) = some b) :
    dolmenref26_near.l0 (k + 1) l i = some (decide (0 ≤ x ∧ x ≤ 1099511627776) && b) := by
  rw [dolmenref26_near.l0, if_pos h1, if_pos h0, hx]
  by_cases c1 : x < 0
  · have e : decide (0 ≤ x ∧ x ≤ 1099511627776) = false := decide_eq_false (by omega)
    rw [if_pos c1, e]; rfl
  · rw [if_neg c1]
    by_cases c2 : x > 1099511627776
    · have e : decide (0 ≤ x ∧ x ≤ 1099511627776) = false := decide_eq_false (by omega)
      rw [if_pos c2, e]; rfl
    · have e : decide (0 ≤ x ∧ x ≤ 1099511627776) = true := decide_eq_true (by omega)
      rw [if_neg c2, e, hn]; rfl
theorem near1_f (x : Int) : dolmenref26_near.f 5 [x] = some (decide (0 ≤ x ∧ x ≤ 1099511627776)) := by
  unfold dolmenref26_near.f
  have w0 : wrap64 ((0 : Int) + 1) = 1 := IntWalk.wrap64_in _ (by omega)
  have h := near_step [x] 0 x 4 (by decide) (by simp) rfl true (by rw [w0]; exact near_end [x] 1 3 (by simp))
  rw [h, Bool.and_true]
theorem near2_f (x y : Int) : dolmenref26_near.f 5 [x, y] = some (decide ((0 ≤ x ∧ x ≤ 1099511627776) ∧ 0 ≤ y ∧ y ≤ 1099511627776)) := by
  unfold dolmenref26_near.f
  have w0 : wrap64 ((0 : Int) + 1) = 1 := IntWalk.wrap64_in _ (by omega)
  have w1 : wrap64 ((1 : Int) + 1) = 2 := IntWalk.wrap64_in _ (by omega)
  have h1 := near_step [x, y] 1 y 3 (by decide) (by simp) rfl true (by rw [w1]; exact near_end [x, y] 2 2 (by simp))
  have h := near_step [x, y] 0 x 4 (by decide) (by simp) rfl _ (by rw [w0]; exact h1)
  rw [h, Bool.and_true, ← Bool.decide_and]
theorem num_none (x : Int) : isNone (numW x) = !decide (0 ≤ x ∧ x ≤ 1099511627776) := by
  unfold numW
  by_cases h1 : x < 0
  · rw [if_pos h1]; simp [isNone, noneW]; omega
  · rw [if_neg h1]
    by_cases h2 : x > 1099511627776
    · rw [if_pos h2]; simp [isNone, noneW]; omega
    · rw [if_neg h2]
      have := itoa_ne x
      unfold isNone
      rw [ofL_data]
      simp [this]; omega
theorem word_some (k : Int) (h1 : 1 ≤ k) (h2 : k ≤ 14) : isNone (wordR k) = false := by
  have h : ∀ n : Fin 15, 1 ≤ n.val → isNone (wordR (n.val : Int)) = false := by decide
  obtain ⟨n, rfl⟩ : ∃ n : Nat, k = n := ⟨k.toNat, by omega⟩
  exact h ⟨n, by omega⟩ (by simp; omega)
theorem hex_some (l : List Int) : isNone (hexW l) = false := by
  unfold hexW isNone
  by_cases h : l.length = 0
  · rw [if_pos h]; rfl
  · rw [if_neg h]
    have hs : (strOfNums (hexL l)).size = 2 * l.length := by rw [strOfNums_size, hexL_len]
    have : (strOfNums (hexL l)).data.toList ≠ [] := fun e => by rw [size_len, e] at hs; simp at hs; omega
    simp [this]
theorem opW_empty (kind : Int) (path to_ : ByteArray) (off n : Int) (data : List Int) (snap : Int) (h : (opW kind path to_ off n data snap).data.toList = []) :
    (kind ≤ 11 ∧ snap ≠ 0 ∧ isNone (numW snap) = true) ∨ (wordsW kind path to_ off n data snap).any isNone = true := by
  unfold opW at h
  split at h
  · assumption
  · rename_i hc
    exfalso
    have hq : (wordsW kind path to_ off n data snap).any isNone = false := by
      cases hq : (wordsW kind path to_ off n data snap).any isNone with
      | false => rfl
      | true => exact absurd (.inr hq) hc
    have hne : isNone (wordR kind) = false := by
      have := List.any_eq_false.1 hq (wordR kind) (by unfold wordsW headW; simp)
      simpa using this
    have hn : (wordR kind).data.toList ≠ [] := fun e => by
      have := (isNone_iff (wordR kind)).2 e
      rw [hne] at this; cases this
    rw [ofL_data] at h
    unfold wordsW headW at h
    simp only [List.cons_append] at h
    unfold datas at h
    rw [List.map_cons] at h
    cases hr : List.map (fun x => x.data.toList) ((if kind ≤ 11 then [pathR path] else []) ++ argsW kind to_ off n data snap ++ snapW kind snap) with
    | nil => rw [hr, Lib.join_one] at h; exact hn h
    | cons a b => rw [hr, join_cons 32 _ _ (by simp)] at h; simp at h
theorem refop_none (kind : Int) (path to_ : ByteArray) (off n : Int) (data : List Int) (snap : Int) (h : (opW kind path to_ off n data snap).data.toList = []) :
    dolmenref26_Op.f kind path to_ off n data snap = some ⟨#[]⟩ := by
  have hc := opW_empty kind path to_ off n data snap h
  unfold dolmenref26_Op.f noText
  by_cases g1 : kind < 1
  · rw [if_pos g1]
  rw [if_neg g1]
  by_cases g2 : 14 < kind
  · rw [if_pos g2]
  rw [if_neg g2]
  have hw := word_some kind (by omega) (by omega)
  by_cases g3 : kind = 13
  · rw [if_pos g3, near1_f]
    have hnn : isNone (numW snap) = true := by
      rcases hc with hc | hc
      · exact hc.2.2
      · unfold wordsW headW argsW snapW at hc
        rw [if_neg (by omega), if_neg (by omega), if_neg (by omega), if_neg (by omega), if_neg (by omega), if_pos g3, if_neg (by omega)] at hc
        simpa [hw] using hc
    rw [num_none] at hnn
    rw [if_pos (by simp only [Option.some.injEq, decide_eq_false_iff_not]; simpa only [Bool.not_eq_true', decide_eq_false_iff_not] using hnn)]
  rw [if_neg g3]
  by_cases g4 : 11 < kind
  · exfalso
    rcases hc with hc | hc
    · omega
    · unfold wordsW headW argsW snapW at hc
      rw [if_neg (by omega), if_neg (by omega), if_neg (by omega), if_neg (by omega), if_neg (by omega), if_neg (by omega), if_neg (by omega)] at hc
      simp [hw] at hc
  rw [if_neg g4, good_f path 300001 (by omega), good_f to_ 300001 (by omega)]
  cases hp : (splitR path).2.isNone with
  | false => rw [if_pos rfl]
  | true =>
    rw [if_neg (by simp), if_pos ⟨rfl, (split_good path hp).1⟩]
    have hpn : isNone (pathR path) = false := by rw [path_none, hp]; rfl
    by_cases g7 : snap < 0
    · rw [if_pos g7]
    rw [if_neg g7, near1_f snap]
    by_cases g8 : 0 ≤ snap ∧ snap ≤ 1099511627776
    · rw [if_neg (by simp [g8]), if_pos (by simp [g8])]
      have hsn : isNone (numW snap) = false := by rw [num_none]; simp [g8]
      have ha : (argsW kind to_ off n data snap).any isNone = true := by
        rcases hc with hc | hc
        · rw [hsn] at hc; exact absurd hc.2.2 (by decide)
        · have h11 : kind ≤ 11 := by omega
          unfold wordsW headW at hc
          rw [if_pos h11] at hc
          have hs : (snapW kind snap).any isNone = false := by
            unfold snapW; split <;> simp [isNone]
          simpa [hw, hpn, hs] using hc
      unfold argsW at ha
      by_cases k5 : kind = 5 ∨ kind = 6
      · rw [if_pos k5] at ha ⊢
        have : isNone (pathR to_) = true := by simpa using ha
        rw [path_none] at this
        rw [if_pos (by simpa using this)]
      rw [if_neg k5] at ha ⊢
      by_cases k7 : kind = 7
      · rw [if_neg (by omega), if_pos k7] at ha
        rw [if_pos k7, near2_f]
        have hx : isNone (numW off) = true ∨ isNone (numW n) = true := by simpa using ha
        rw [num_none, num_none] at hx
        rw [if_pos]
        simp only [Option.some.injEq, decide_eq_false_iff_not]
        rintro ⟨x1, x2⟩
        rcases hx with hx | hx
        · simp [x1] at hx
        · simp [x2] at hx
      rw [if_neg k7]
      by_cases k8 : kind = 8
      · rw [if_pos k8] at ha ⊢
        rw [near1_f]
        have hx : isNone (numW off) = true := by simpa [hex_some] using ha
        rw [num_none] at hx
        rw [if_pos (by simp only [Option.some.injEq, decide_eq_false_iff_not]; simpa only [Bool.not_eq_true', decide_eq_false_iff_not] using hx)]
      rw [if_neg k8] at ha ⊢
      rw [if_neg k7] at ha
      by_cases k9 : kind = 9
      · rw [if_pos k9] at ha ⊢
        rw [near1_f]
        have hx : isNone (numW n) = true := by simpa using ha
        rw [num_none] at hx
        rw [if_pos (by simp only [Option.some.injEq, decide_eq_false_iff_not]; simpa only [Bool.not_eq_true', decide_eq_false_iff_not] using hx)]
      rw [if_neg k9] at ha
      rw [if_neg g3] at ha
      simp at ha
    · rw [if_pos (by simp only [Option.some.injEq, decide_eq_false_iff_not]; exact g8)]

/-! ### a line's ends -/
theorem join_ends : ∀ l : List (List UInt8), l ≠ [] → (∀ x, x ∈ l → x ≠ [] ∧ (32 : UInt8) ∉ x) →
    (∃ a r, Lib.join l [32] = a :: r ∧ a ≠ 32) ∧ ∃ r b, Lib.join l [32] = r ++ [b] ∧ b ≠ 32
  | [], h, _ => absurd rfl h
  | [x], _, hx => by
    obtain ⟨h1, h2⟩ := hx x (by simp)
    rw [Lib.join_one]
    refine ⟨?_, ?_⟩
    · cases x with
      | nil => exact absurd rfl h1
      | cons a r => exact ⟨a, r, rfl, fun e => h2 (by rw [e]; simp)⟩
    · exact ⟨x.dropLast, x.getLast h1, (List.dropLast_concat_getLast h1).symm, fun e => h2 (by rw [← e]; exact List.getLast_mem h1)⟩
  | x :: y :: l, _, hx => by
    obtain ⟨h1, h2⟩ := hx x (by simp)
    obtain ⟨_, r, b, hr, hb⟩ := join_ends (y :: l) (by simp) (fun z hz => hx z (by simp [hz]))
    rw [join_cons 32 x (y :: l) (by simp), hr]
    refine ⟨?_, x ++ 32 :: r, b, by simp, hb⟩
    cases x with
    | nil => exact absurd rfl h1
    | cons a q => exact ⟨a, _, rfl, fun e => h2 (by rw [e]; simp)⟩
theorem line_ends (kind : Int) (path to_ : ByteArray) (off n : Int) (data : List Int) (snap : Int) (hb : ∀ c, c ∈ data → IsByte c) (h : (opW kind path to_ off n data snap).data.toList ≠ []) :
    (∃ a r, (opW kind path to_ off n data snap).data.toList = a :: r ∧ a ≠ 32) ∧ ∃ r b, (opW kind path to_ off n data snap).data.toList = r ++ [b] ∧ b ≠ 32 := by
  obtain ⟨hw, _, hs⟩ := opW_some kind path to_ off n data snap h
  rw [hs, ofL_data]
  refine join_ends _ (by unfold datas wordsW headW; simp) (fun x hx => ?_)
  obtain ⟨y, hy, rfl⟩ := List.mem_map.1 hx
  refine ⟨fun e => ?_, words_clean kind path to_ off n data snap hb y hy⟩
  have := (isNone_iff y).2 e
  rw [hw y hy] at this; cases this
/-- A text that ends, or begins, with a blank is no operation's. -/
theorem parse_blank (s : ByteArray) (hs : s.size ≤ 900000) (k : Nat) (hk : 2000100 ≤ k) (h : (∃ r, s.data.toList = r ++ [32]) ∨ ∃ r, s.data.toList = 32 :: r) : hist_ParseOp.f k s = some bad14 := by
  rcases parse_any s hs k hk with hp | ⟨kind, path, to_, off, n, data, snap, _, he, hb⟩
  · exact hp
  · exfalso
    have hne : (opW kind path to_ off n data snap).data.toList ≠ [] := by
      rw [he]; rcases h with ⟨r, h⟩ | ⟨r, h⟩ <;> rw [h] <;> simp
    obtain ⟨⟨a, r1, e1, n1⟩, r2, b, e2, n2⟩ := line_ends kind path to_ off n data snap hb hne
    rw [he] at e1 e2
    rcases h with ⟨r, h⟩ | ⟨r, h⟩
    · rw [h] at e2
      have := (List.append_inj' e2 rfl).2
      injection this with this
      exact n2 this.symm
    · rw [h] at e1
      injection e1 with e1
      exact n1 e1.symm
end Go.Proofs.YtcbmbjapcpbnnaaGreatDoor.G
