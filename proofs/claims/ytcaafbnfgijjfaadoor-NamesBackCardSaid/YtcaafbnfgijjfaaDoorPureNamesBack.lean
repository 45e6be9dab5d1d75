/- NamesBack: names joined are split as they were; the parent and the last name are the path. For every list of texts; no condition. -/
import Derived.Test.YtcaafbnfgijjfaaDoorG0
import Derived.Test.YtcaafbnfgijjfaaDoorG10
import Derived.Test.YtcaafbnfgijjfaaDoorPuRef1
namespace Go.Proofs.YtcaafbnfgijjfaaDoor.Pure
open Go.RowKit Go.Proofs.YtcaafbnfgijjfaaDoor.G Go.Proofs.YtcaafbnfgijjfaaDoorW.PrintWords Go.Proofs.YtcaafbnfgijjfaaDoorW.PrintLast

/-- What the names make is the path. -/
theorem join_split (p : ByteArray) (h : (splitR p).2 = none) : ofL (joinL (datas (splitR p).1)) = p := by
  rcases split_none p h with ⟨h1, h2⟩ | ⟨h1, h2, _⟩
  · rw [h2]; exact data_inj (by rw [ofL_data, h1]; rfl)
  · refine data_inj ?_
    rw [ofL_data, join_glue _ (by rw [h1]; intro e; exact cutL_ne 47 _ (List.map_eq_nil_iff.1 e)), h1]
    have : datas ((cutL 47 p.data.toList.tail).map ofL) = cutL 47 p.data.toList.tail := by
      unfold datas; rw [List.map_map]
      conv => rhs; rw [← List.map_id (cutL 47 p.data.toList.tail)]
      exact List.map_congr_left fun x _ => ofL_data x
    rw [this, glue_cut, ← h2]
theorem cut_noslash : ∀ (l x : List UInt8), x ∈ cutL 47 l → (47 : UInt8) ∉ x
  | [], x, h => by simp [cutL] at h; simp [h]
  | y :: l, x, h => by
    have ih := cut_noslash l
    have hn := cutL_ne 47 l
    rw [cutL] at h
    split at h
    · rcases List.mem_cons.1 h with rfl | h
      · simp
      · exact ih x h
    · rename_i hy
      rcases List.mem_cons.1 h with rfl | h
      · have h1 : (cutL 47 l).headD [] ∈ cutL 47 l := by
          cases hc : cutL 47 l with
          | nil => exact absurd hc hn
          | cons a b => simp
        have := ih _ h1
        simp only [List.mem_cons, not_or]
        exact ⟨fun e => hy e.symm, this⟩
      · exact ih x (List.mem_of_mem_tail h)
/-- Names without a slash, glued, are cut as they were. -/
theorem cut_glue : ∀ (l : List (List UInt8)), l ≠ [] → (∀ x, x ∈ l → (47 : UInt8) ∉ x) → cutL 47 (glueL l).tail = l
  | [], h, _ => absurd rfl h
  | [x], _, h => by rw [glue_cons]; simpa [glueL] using cutL_no 47 x (h x (by simp))
  | x :: y :: l, _, h => by
    have ih := cut_glue (y :: l) (by simp) (fun z hz => h z (by simp [hz]))
    have hx := h x (by simp)
    rw [glue_cons, List.cons_append, List.tail_cons]
    have e : glueL (y :: l) = 47 :: (glueL (y :: l)).tail := by rw [glue_cons]; simp
    rw [e, cutL_at 47 x _ hx, ih]
/-- A path without its last name has the other names; it doesn't stand under the whole. -/
theorem split_dir (p : ByteArray) (h : (splitR p).2 = none) (hn : (splitR p).1 ≠ []) :
    splitR (ofL (joinL (datas (splitR p).1.dropLast))) = ((splitR p).1.dropLast, none) := by
  rcases split_none p h with ⟨_, h2⟩ | ⟨h1, h2, h3, h4, h5⟩
  · exact absurd h2 hn
  generalize hL : (splitR p).1 = L at *
  have hdat : datas L = cutL 47 p.data.toList.tail := by
    rw [h1]; unfold datas; rw [List.map_map]
    conv => rhs; rw [← List.map_id (cutL 47 p.data.toList.tail)]
    exact List.map_congr_left fun x _ => ofL_data x
  have hrest := rest_none _ (show (restOf ((cutL 47 p.data.toList.tail).map ofL)).2 = none by rw [h5])
  rw [← h1] at hrest
  by_cases hd : L.dropLast = []
  · rw [hd]; decide +kernel
  · have hjd := join_glue L.dropLast hd
    have hg : joinL (datas L.dropLast) = glueL (datas L.dropLast) := hjd
    have hdd : datas L.dropLast = (datas L).dropLast := by unfold datas; rw [List.map_dropLast]
    have hns : ∀ x, x ∈ datas L.dropLast → (47 : UInt8) ∉ x := by
      intro x hx
      rw [hdd, hdat] at hx
      exact cut_noslash _ x (List.dropLast_subset _ hx)
    have hdn : datas L.dropLast ≠ [] := fun e => hd (List.map_eq_nil_iff.1 e)
    have hc := cut_glue _ hdn hns
    have hlen : (glueL (datas L.dropLast)).length ≤ 200 := by
      have e : glueL (datas L) = p.data.toList := by rw [hdat, glue_cut, ← h2]
      have : glueL (datas L) = glueL (datas L.dropLast) ++ glueL [(datas L).getLastD []] := by
        have hne : datas L ≠ [] := by rw [hdat]; exact cutL_ne 47 _
        have hgl : (datas L).getLastD [] = (datas L).getLast hne := by rw [List.getLastD_eq_getLast?, List.getLast?_eq_some_getLast hne]; rfl
        rw [hgl, hdd]
        conv => lhs; rw [← List.dropLast_concat_getLast hne]
        generalize (datas L).dropLast = u
        generalize (datas L).getLast hne = v
        simp [glueL]
      have hlen : (glueL (datas L)).length ≤ 200 := by rw [e, ← size_len]; exact h4
      rw [this, List.length_append] at hlen; omega
    unfold splitR
    rw [hg, if_neg (by rw [ofL_size]; omega), if_neg (by
      rw [ofL_data]
      obtain ⟨x, r, hx⟩ := List.exists_cons_of_ne_nil hdn
      rw [hx, glue_cons]; simp), if_neg (by
      rw [ofL_data]
      intro hh
      have := hc
      rw [hh] at this
      have hbad : datas L.dropLast = [[]] := this.symm
      have hmem : (⟨#[]⟩ : ByteArray) ∈ L := by
        have : L.dropLast.map (·.data.toList) = [[]] := hbad
        cases hq : L.dropLast with
        | nil => exact absurd hq hd
        | cons z zs =>
          rw [hq] at this
          simp at this
          have hz : z = ⟨#[]⟩ := data_inj (by rw [this.1])
          have : z ∈ L.dropLast := by rw [hq]; simp
          rw [← hz]; exact List.dropLast_subset _ this
      have := List.any_eq_false.1 hrest.2.1 _ hmem
      exact this (by decide +kernel)), ofL_data, hc]
    have hmap : (datas L.dropLast).map ofL = L.dropLast := by
      unfold datas; rw [List.map_map]
      conv => rhs; rw [← List.map_id L.dropLast]
      exact List.map_congr_left fun x _ => ofL_of x
    rw [hmap]
    unfold restOf
    have q1 : ¬ (L.dropLast.any fun x => !nameOk x) = true := by
      intro hq
      obtain ⟨x, hx, hx2⟩ := List.any_eq_true.1 hq
      exact List.any_eq_false.1 hrest.2.1 x (List.dropLast_subset _ hx) hx2
    have q2 : ¬ (L.dropLast.any fun x => decide (12 < x.size)) = true := by
      intro hq
      obtain ⟨x, hx, hx2⟩ := List.any_eq_true.1 hq
      exact List.any_eq_false.1 hrest.2.2.1 x (List.dropLast_subset _ hx) hx2
    have q3 : ¬ 6 < L.dropLast.length := by have := hrest.2.2.2; simp; omega
    rw [if_neg q1, if_neg q2, if_neg q3]
/-- The law behind its guard. -/
theorem tail_f (l : List ByteArray) (hl : l.length ≤ 10) (hz : ∀ x, x ∈ l → x.size ≤ 30) (k : Nat) (hk : 300000 ≤ k) :
    dolmenlaw4_NamesBack.l0 (k + 1) l (l.length : Int) = some true := by
  have hj := join_f l 30 hz (by omega)
  generalize hp : ofL (joinL (datas l)) = p at *
  have hlen := split_len p
  have hsz := split_sizes p
  have ha := awake_f k (by omega)
  rw [dolmenlaw4_NamesBack.l0, if_neg (by omega), hj, ha]
  simp only [Option.bind_some]
  rw [split_f, parent_f, refsplit_f p k hk]
  simp only [Option.bind_some]
  cases he : (splitR p).2 with
  | some e =>
    have hc : dolmenalike_Code.f (some e) = some e ∧ e ≠ 0 ∧ (splitR p).1 = [] := by
      revert he
      unfold splitR restOf
      repeat' split
      all_goals (intro h; cases h; try (refine ⟨rfl, by decide, rfl⟩))
    simp only [Option.isNone_some, Bool.false_eq_true, if_false, Option.getD_some]
    rw [hc.1]
    simp [codeOf, hc.2.1, hc.2.2]
  | none =>
    simp only [Option.isNone_none, if_true]
    have hjs := join_split p he
    rw [join_f (splitR p).1 12 hsz (by omega), hjs]
    simp only [Option.bind_some, if_true]
    by_cases hn : (splitR p).1 = []
    · have : parentR p = (⟨#[]⟩, ⟨#[]⟩, some 2) := by unfold parentR; rw [if_pos he, if_pos hn]
      rw [hn, this]
      have hcc : dolmenalike_Code.f (some 2) = some 2 := rfl
      simp [hcc]
    · have hpr : parentR p = (ofL (joinL (datas (splitR p).1.dropLast)), (splitR p).1.getLastD ByteArray.empty, none) := by unfold parentR; rw [if_pos he, if_neg hn]
      have hd := split_dir p he hn
      rw [hpr]
      generalize hL : (splitR p).1 = L at *
      generalize hD : ofL (joinL (datas L.dropLast)) = D at *
      have hp0 : 0 < L.length := List.length_pos_iff.2 hn
      have hw : wrap64 ((L.length : Int) - 1) = ((L.length - 1 : Nat) : Int) := by rw [IntWalk.wrap64_in _ (by omega)]; omega
      rw [hw]
      clear hw
      have e1 : (((L.length - 1 : Nat) : Int)).toNat = L.length - 1 := by omega
      have hdl : L.dropLast.length ≤ 6 := by simp; omega
      have u1 : underB p D = true := by
        unfold underB; rw [he, hd, hL, List.dropLast_eq_take]; simp
      have u2 : underB D p = false := by
        unfold underB; rw [he, hd, hL]
        simp only [Option.isNone_none, Bool.true_and, decide_eq_false_iff_not]
        intro h
        have := congrArg List.length h
        simp at this; omega
      rw [if_neg (by omega), last_at L hn, e1, ← List.dropLast_eq_take, join_f L.dropLast 12 (fun x hx => hsz x (List.dropLast_subset _ hx)) (by omega), hD, under_f p D k (by omega), under_f D p k (by omega), u1, u2]
      have g1 : (0 : Int) ≤ ((L.length - 1 : Nat) : Int) := Int.natCast_nonneg _
      have g2 : ((L.length - 1 : Nat) : Int) < (L.length : Int) := by omega
      have g3 : ((L.length - 1 : Nat) : Int) ≤ (L.length : Int) := by omega
      simp [g1, g2, g3]
theorem l0_f (l : List ByteArray) (hl : l.length ≤ 10) : ∀ (d i k : Nat), l.length - i = d → i ≤ l.length → (∀ x, x ∈ l.take i → x.size ≤ 30) → 300000 ≤ k →
    dolmenlaw4_NamesBack.l0 (k + d + 1) l (i : Int) = some true := by
  intro d
  induction d with
  | zero =>
    intro i k hd hi hz hk
    have : i = l.length := by omega
    subst this
    exact tail_f l hl (fun x hx => hz x (by rw [List.take_length]; exact hx)) k hk
  | succ d ih =>
    intro i k hd hi hz hk
    have hlt : i < l.length := by omega
    have e : k + (d + 1) + 1 = (k + d + 1) + 1 := by omega
    have ha := awake_f (k + d + 1) (by omega)
    rw [e, dolmenlaw4_NamesBack.l0, if_pos (by omega), if_pos (by omega), rdOf_nat, getD_at _ _ _ hlt, ha]
    by_cases h30 : (l[i]).size ≤ 30
    · rw [if_neg (by omega), wrap_up i 100 (by omega) (by omega)]
      refine ih (i + 1) k (by omega) (by omega) ?_ hk
      intro x hx
      rw [List.take_succ_eq_append_getElem hlt] at hx
      rcases List.mem_append.1 hx with h | h
      · exact hz x h
      · rw [List.mem_singleton.1 h]; exact h30
    · rw [if_pos (by omega)]; rfl
theorem NamesBack (l : List ByteArray) (_ : l.length * 16 ≤ 140737488351232) (_ : ∀ x ∈ l, x.size ≤ 9223372036854775807) : ∃ k, dolmenlaw4_NamesBack.f k l = some true := by
  refine ⟨300100, ?_⟩
  unfold dolmenlaw4_NamesBack.f
  by_cases h : l.length ≤ 10
  · rw [if_neg (by omega)]
    have := l0_f l h l.length 0 (300099 - l.length) (by omega) (by omega) (by simp) (by omega)
    have e : 300099 - l.length + l.length + 1 = 300100 := by omega
    rw [e] at this
    exact this
  · rw [if_pos (by omega), awake_f 300100 (by decide)]; rfl
end Go.Proofs.YtcaafbnfgijjfaaDoor.Pure
