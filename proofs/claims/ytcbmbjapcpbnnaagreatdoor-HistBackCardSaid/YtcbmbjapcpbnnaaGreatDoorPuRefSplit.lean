/- names.Split and the document's own dolmenref1.Split tell the same. -/
import Derived.Test.YtcbmbjapcpbnnaaGreatDoorG0
import Derived.Test.YtcbmbjapcpbnnaaGreatDoorG7
import Derived.Test.YtcbmbjapcpbnnaaGreatDoorG8
import Derived.Test.YtcbmbjapcpbnnaaGreatDoorG9
import Derived.Test.YtcbmbjapcpbnnaaGreatDoorPuHist1
namespace Go.Proofs.YtcbmbjapcpbnnaaGreatDoor.G
open Go.RowKit Go.Proofs.YtcbmbjapcpbnnaaGreatDoorW.PrintWords Go.Proofs.YtcbmbjapcpbnnaaGreatDoorW.PrintLast
set_option linter.unusedVariables false
set_option linter.unusedSimpArgs false

/-! ### a path's names -/
def splitR (a0 : ByteArray) : List ByteArray × Option Int :=
  if 200 < a0.size then ([], some 2)
  else if a0.data.toList.head? ≠ some 47 then ([], some 2)
  else if a0.data.toList = [47] then ([], none)
  else restOf ((cutL 47 a0.data.toList.tail).map ofL)
theorem split_f (a0 : ByteArray) : names_Split.f a0 = some (splitR a0) := by
  unfold names_Split.f splitR
  split
  · rfl
  · split
    · rfl
    · split <;> rfl
theorem split_len (a0 : ByteArray) : (splitR a0).1.length ≤ 6 := by
  unfold splitR restOf
  repeat' split
  all_goals first | (simp; done) | (simp at *; omega)
theorem rletter_f (c : Int) : dolmenref1_letter.f c = some (letterB c) := by
  unfold dolmenref1_letter.f letterB
  repeat' split
  all_goals (simp only [Option.some.injEq]; rw [Bool.eq_iff_iff]; simp only [decide_eq_true_eq, beq_iff_eq, true_iff]; omega)

/-! ### cut at a byte -/
theorem uint_inj {a b : UInt8} : ((a.toNat : Int) = (b.toNat : Int)) ↔ a = b := ⟨fun h => UInt8.toNat_inj.1 (by omega), fun h => by rw [h]⟩
/-- The rest's pieces, the first of them begun. -/
def begunL (c : UInt8) (pre rest : List UInt8) : List (List UInt8) := (pre ++ (cutL c rest).headD []) :: (cutL c rest).tail
theorem begun_nil (c : UInt8) (rest : List UInt8) : begunL c [] rest = cutL c rest := by
  unfold begunL
  cases h : cutL c rest with
  | nil => exact absurd h (cutL_ne c rest)
  | cons a b => simp
theorem begun_cut (c : UInt8) (pre rest : List UInt8) : begunL c pre (c :: rest) = pre :: cutL c rest := by unfold begunL; simp [cutL]
theorem begun_on (c x : UInt8) (h : x ≠ c) (pre rest : List UInt8) : begunL c pre (x :: rest) = begunL c (pre ++ [x]) rest := by unfold begunL; simp [cutL, h]
theorem ofL_app (a b : List UInt8) : ofL a ++ ofL b = ofL (a ++ b) := data_inj (by simp [ofL])
theorem ext_ofL (s : ByteArray) (a b : Nat) : s.extract a b = ofL ((s.data.toList.drop a).take (b - a)) := data_inj (by rw [ext_data, ofL_data])
theorem drop_take_snoc (l : List UInt8) (a i : Nat) (ha : a ≤ i) (hi : i < l.length) : (l.drop a).take (i - a) ++ [l[i]] = (l.drop a).take (i + 1 - a) := by
  have e : i + 1 - a = (i - a) + 1 := by omega
  have h2 : i - a < (l.drop a).length := by simp; omega
  rw [e, List.take_succ_eq_append_getElem h2]
  simp only [List.getElem_drop]
  congr 3; omega
theorem cut_l0 (s : ByteArray) (c : UInt8) (hs : s.size ≤ 1000000) : ∀ (d i a k : Nat) (acc : List ByteArray), s.data.toList.length - i = d → i ≤ s.data.toList.length → a ≤ i → acc.length ≤ i → d + 3 ≤ k →
    dolmenref1_Cut.l0 k s (c.toNat : Int) acc (a : Int) (i : Int) = some (acc ++ (begunL c ((s.data.toList.drop a).take (i - a)) (s.data.toList.drop i)).map ofL) := by
  have hsz := size_len s
  intro d
  induction d with
  | zero =>
    intro i a k acc hd hi ha hacc hk
    obtain ⟨k, rfl⟩ : ∃ m, k = m + 2 := ⟨k - 2, by omega⟩
    have c1 : acc.length < 8796093022208 := by omega
    rw [dolmenref1_Cut.l0, if_pos (by omega), if_pos (by omega), if_pos (by omega), if_pos (by omega), if_pos c1, wrap_up i 2000000 (by omega) (by omega), dolmenref1_Cut.l0, if_neg (by omega)]
    rw [show ((a : Int)).toNat = a by omega, show ((i : Int)).toNat = i by omega, ext_ofL]
    have : s.data.toList.drop i = [] := List.drop_of_length_le (by omega)
    rw [this]; simp [begunL, cutL]
  | succ d ih =>
    intro i a k acc hd hi ha hacc hk
    obtain ⟨k, rfl⟩ : ∃ m, k = m + 1 := ⟨k - 1, by omega⟩
    have hlt : i < s.data.toList.length := by omega
    have c1 : acc.length < 8796093022208 := by omega
    have hw := wrap_up i 2000000 (by omega) (by omega)
    have h0 : (0 : Int) ≤ (i : Int) := Int.natCast_nonneg _
    have h1 : (i : Int) < (s.size : Int) := by omega
    have h2 : (i : Int) ≤ (s.size : Int) := by omega
    have h3 : ¬ (i : Int) = (s.size : Int) := by omega
    have ha0 : (0 : Int) ≤ (a : Int) := Int.natCast_nonneg _
    have ha1 : (a : Int) ≤ (i : Int) := by omega
    rw [dolmenref1_Cut.l0, if_pos h2, if_neg h3, if_pos h0, if_pos h1, bt_get s i hlt, List.drop_eq_getElem_cons hlt, hw]
    clear hw
    by_cases hc : s.data.toList[i] = c
    · rw [if_pos (uint_inj.2 hc), if_pos ha0, if_pos ha1, if_pos c1, ih (i + 1) (i + 1) k _ (by omega) (by omega) (by omega) (by simp; omega) (by omega), hc, begun_cut]
      rw [show ((a : Int)).toNat = a by omega, show ((i : Int)).toNat = i by omega, ext_ofL]
      simp [begun_nil]
    · rw [if_neg (fun h => hc (uint_inj.1 h)), ih (i + 1) a k _ (by omega) (by omega) (by omega) (by omega) (by omega), begun_on c _ hc, drop_take_snoc _ a i ha hlt]
theorem cut_f (s : ByteArray) (c : UInt8) (hs : s.size ≤ 1000000) (k : Nat) (hk : s.size + 3 ≤ k) : dolmenref1_Cut.f k s (c.toNat : Int) = some (cutB c s) := by
  have := cut_l0 s c hs s.data.toList.length 0 0 k [] (by omega) (by omega) (by omega) (by simp) (by rw [← size_len]; exact hk)
  unfold dolmenref1_Cut.f
  refine Eq.trans this ?_
  simp [begun_nil, cutB]

/-! ### Split -/
def codeOf (e : Option Int) : Int := e.getD 0
theorem j2_f (l : List ByteArray) (long : Bool) (i : Nat) (k : Nat) : dolmenref1_Split.j2 (k + 1) l long (i : Int) true = some ([], 2) := by
  rw [dolmenref1_Split.j2, if_pos rfl]
theorem split_l1 (l : List ByteArray) (long : Bool) (i : Nat) (hi : i < l.length) (hz : (l[i]).size ≤ 1000) : ∀ (d j k : Nat), (l[i]).data.toList.length - j = d → j ≤ (l[i]).data.toList.length →
    dolmenref1_Split.l1 (k + d + 1) l long (i : Int) (j : Int) = if (((l[i]).data.toList.drop j).all fun b => letterB b.toNat) = true then dolmenref1_Split.l0 k l (long || decide (12 < (l[i]).size)) (wrap64 ((i : Int) + 1)) else some ([], 2) := by
  have hsz := size_len l[i]
  have hget : rdOf ByteArray.empty l (i : Int) = l[i] := by rw [rdOf_nat, getD_at _ _ _ hi]
  have h0 : (0 : Int) ≤ (i : Int) := Int.natCast_nonneg _
  have h1 : (i : Int) < (l.length : Int) := by omega
  intro d
  induction d with
  | zero =>
    intro j k hd hj
    rw [dolmenref1_Split.l1, if_pos h0, if_pos h1, hget, if_neg (by omega), List.drop_of_length_le (by omega)]
    simp only [List.all_nil, if_true]
    cases long with
    | true => rw [if_pos rfl]; rfl
    | false =>
      rw [if_neg (by decide)]
      congr 1
      rw [Bool.false_or]
      rw [Bool.eq_iff_iff, decide_eq_true_eq, decide_eq_true_eq]; omega
  | succ d ih =>
    intro j k hd hj
    have e : k + (d + 1) + 1 = (k + d + 1) + 1 := by omega
    have hlt : j < (l[i]).data.toList.length := by omega
    have hih := ih (j + 1) k (by omega) (by omega)
    rw [e, dolmenref1_Split.l1, if_pos h0, if_pos h1, hget, if_pos (by omega), if_pos (by omega), bt_get _ j hlt, rletter_f]
    simp only [Option.bind_some]
    rw [List.drop_eq_getElem_cons hlt, List.all_cons]
    by_cases hl : letterB ((l[i]).data.toList[j].toNat : Int) = true
    · rw [if_pos hl, wrap_up j 100000 (by omega) (by omega), hih, hl, Bool.true_and]
    · rw [if_neg hl]
      have : letterB ((l[i]).data.toList[j].toNat : Int) = false := by simpa using hl
      rw [this, Bool.false_and]; simp
def restI (l : List ByteArray) (long : Bool) (i : Nat) : List ByteArray × Int :=
  if (l.drop i).any (fun x => !nameOk x) then ([], 2) else if long || (l.drop i).any (fun x => decide (12 < x.size)) then ([], 3) else if 6 < l.length then ([], 4) else (l, 0)
theorem split_l0 (l : List ByteArray) (hz : ∀ x, x ∈ l → x.size ≤ 1000) (hl : l.length ≤ 1000) : ∀ (d i k : Nat) (long : Bool), l.length - i = d → i ≤ l.length → d * 1003 + 3 ≤ k →
    dolmenref1_Split.l0 k l long (i : Int) = some (restI l long i) := by
  intro d
  induction d with
  | zero =>
    intro i k long hd hi hk
    obtain ⟨k, rfl⟩ : ∃ m, k = m + 1 := ⟨k - 1, by omega⟩
    rw [dolmenref1_Split.l0, if_neg (by omega)]
    unfold restI
    rw [List.drop_of_length_le (by omega)]
    simp only [List.any_nil, Bool.or_false, Bool.false_eq_true, if_false]
    cases long with
    | true => simp
    | false =>
      simp only [Bool.false_eq_true, if_false]
      by_cases h6 : 6 < l.length
      · rw [if_pos (by omega), if_pos h6]
      · rw [if_neg (by omega), if_neg h6]
  | succ d ih =>
    intro i k long hd hi hk
    have hlt : i < l.length := by omega
    have hzi := hz l[i] (List.getElem_mem hlt)
    have hsz := size_len l[i]
    have hk2 : d * 1003 + 3 + 1003 ≤ k := by omega
    obtain ⟨m, hm⟩ : ∃ m, m = d * 1003 := ⟨_, rfl⟩
    rw [← hm] at hk2 ih
    clear hk hm
    obtain ⟨k', hk'⟩ : ∃ k', k = (k' + (l[i]).data.toList.length + 1) + 1 + 1 := ⟨k - (l[i]).data.toList.length - 3, by omega⟩
    have hih := fun long => ih (i + 1) k' long (by omega) (by omega) (by omega)
    have h1 := split_l1 l long i hlt hzi (l[i]).data.toList.length 0 k' (by omega) (by omega)
    rw [wrap_up i 100000 (by omega) (by omega), hih, List.drop_zero] at h1
    have hget : rdOf ByteArray.empty l (i : Int) = l[i] := by rw [rdOf_nat, getD_at _ _ _ hlt]
    have h1' : dolmenref1_Split.l1 (k' + (l[i]).data.toList.length + 1) l long (i : Int) 0 = _ := h1
    rw [hk', dolmenref1_Split.l0, if_pos (by omega), if_pos (by omega), hget, toL, j2_f, dolmenref1_Split.j2, h1']
    unfold restI
    rw [List.drop_eq_getElem_cons hlt, List.any_cons, List.any_cons]
    have hname : nameOk l[i] = ((l[i]).data.toList.all (fun b => letterB b.toNat) && !((l[i]).data.toList == []) && !((l[i]).data.toList == [46]) && !((l[i]).data.toList == [46, 46])) := rfl
    generalize hA : (l[i]).data.toList.all (fun b => letterB b.toNat) = A at *
    generalize hD : (l[i]).data.toList = D at *
    by_cases e1 : D = []
    · rw [if_pos e1, hname, e1]; simp
    · by_cases e2 : D = [46]
      · rw [if_neg e1, if_pos e2, hname, e2]; simp
      · by_cases e3 : D = [46, 46]
        · rw [if_neg e1, if_neg e2, e3, if_pos (by decide), hname, e3]; simp
        · have b1 : (D == []) = false := by simpa using e1
          have b2 : (D == [46]) = false := by simpa using e2
          have b3 : (D == [46, 46]) = false := by simpa using e3
          rw [if_neg e1, if_neg e2, b3, if_neg (by decide), hname, b1, b2, b3]
          cases A with
          | false => simp
          | true =>
            rw [if_pos rfl]
            simp only [Bool.not_false, Bool.and_self, Bool.not_true, Bool.false_or, Bool.or_assoc]
theorem refsplit_f (a : ByteArray) (k : Nat) (hk : 300000 ≤ k) : dolmenref1_Split.f k a = some ((splitR a).1, codeOf (splitR a).2) := by
  have hsz := size_len a
  obtain ⟨k, rfl⟩ : ∃ m, k = m + 1 := ⟨k - 1, by omega⟩
  have hbad : dolmenref1_Split.j0 (k + 1) a true = some ([], 2) := by rw [dolmenref1_Split.j0, if_pos rfl]
  unfold dolmenref1_Split.f splitR
  rw [hbad]
  by_cases h47 : a.data.toList = [47]
  · rw [if_pos (by rw [toL]; exact h47), if_neg (by rw [hsz, h47]; decide), if_neg (by rw [h47]; simp), if_pos h47]; rfl
  · rw [if_neg (by rw [toL]; exact h47)]
    by_cases hnil : a.data.toList = []
    · rw [if_pos (by rw [toL]; exact hnil), if_neg (by rw [hsz, hnil]; decide), if_pos (by rw [hnil]; simp)]; rfl
    · rw [if_neg (by rw [toL]; exact hnil)]
      by_cases h200 : 200 < a.size
      · rw [if_pos (by omega), if_pos h200]; rfl
      · have hpos : 0 < a.data.toList.length := List.length_pos_iff.2 hnil
        rw [if_neg (by omega), if_pos (by omega), if_neg h200]
        have hb := bt_get a 0 hpos
        have hb' : bt a 0 = (a.data.toList[0].toNat : Int) := hb
        have hhead : a.data.toList.head? = some a.data.toList[0] := by rw [List.head?_eq_getElem?, List.getElem?_eq_getElem hpos]
        rw [hb', hhead]
        by_cases hc : a.data.toList[0] = 47
        · have hne : (((a.data.toList[0].toNat : Int)) != 47) = false := by rw [hc]; rfl
          rw [hne, if_neg (fun h => h (by rw [hc])), if_neg h47, dolmenref1_Split.j0, if_neg (by decide), if_pos (by omega)]
          have hcut := cut_f (a.extract 1 a.size) 47 (by rw [size_len, ext_data]; simp; omega) k (by rw [size_len, ext_data]; simp; omega)
          rw [cut_tail] at hcut
          have hcut' : dolmenref1_Cut.f k (a.extract 1 a.size) 47 = some ((cutL 47 a.data.toList.tail).map ofL) := hcut
          rw [hcut']
          simp only [Option.bind_some]
          have hll : ((cutL 47 a.data.toList.tail).map ofL).length ≤ 201 := by
            rw [List.length_map]; have := cutL_le 47 a.data.toList.tail; simp at this; omega
          have hzz : ∀ x, x ∈ (cutL 47 a.data.toList.tail).map ofL → x.size ≤ 1000 := by
            intro x hx
            obtain ⟨y, hy, rfl⟩ := List.mem_map.1 hx
            have := cut_sizes 47 _ y hy
            rw [ofL_size]; simp at this; omega
          generalize (cutL 47 a.data.toList.tail).map ofL = l at *
          have h0 := split_l0 l hzz (by omega) l.length 0 k false (by omega) (by omega) (by omega)
          refine Eq.trans h0 ?_
          unfold restI restOf
          rw [List.drop_zero, Bool.false_or]
          by_cases q1 : l.any (fun x => !nameOk x) = true
          · rw [if_pos q1, if_pos q1]; rfl
          · rw [if_neg q1, if_neg q1]
            by_cases q2 : l.any (fun x => decide (12 < x.size)) = true
            · rw [if_pos q2, if_pos q2]; rfl
            · rw [if_neg q2, if_neg q2]
              by_cases q3 : 6 < l.length
              · rw [if_pos q3, if_pos q3]; rfl
              · rw [if_neg q3, if_neg q3]; rfl
        · have hne : (((a.data.toList[0].toNat : Int)) != 47) = true := by
            rw [bne_iff_ne]; intro h; exact hc ((uint_inj (b := 47)).1 h)
          rw [hne, hbad, if_pos (fun h => hc (Option.some.inj h))]; rfl

end Go.Proofs.YtcbmbjapcpbnnaaGreatDoor.G
