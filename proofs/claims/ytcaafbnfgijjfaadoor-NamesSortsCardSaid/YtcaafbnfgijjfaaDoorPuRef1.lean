/- What the document's own paths tell (the printed dolmenref1.Cut, letter, Split, Join, Parent, Under), and names.Parent: the same as names' own. -/
import Derived.Test.YtcaafbnfgijjfaaDoorG0
import Derived.Test.YtcaafbnfgijjfaaDoorG10
import Derived.Test.YtcaafbnfgijjfaaDoorG11
import Derived.Test.YtcaafbnfgijjfaaDoorG8
import Derived.Test.YtcaafbnfgijjfaaDoorG9
import Derived.Test.YtcaafbnfgijjfaaDoorPuNames
namespace Go.Proofs.YtcaafbnfgijjfaaDoor.G
open Go.RowKit Go.Proofs.YtcaafbnfgijjfaaDoorW.PrintWords Go.Proofs.YtcaafbnfgijjfaaDoorW.PrintLast
set_option linter.unusedVariables false
set_option linter.unusedSimpArgs false

theorem rletter_f (c : Int) : dolmenref1_letter.f c = some (letterB c) := by
  unfold dolmenref1_letter.f letterB
  repeat' split
  all_goals (simp only [Option.some.injEq]; rw [Bool.eq_iff_iff]; simp only [decide_eq_true_eq, beq_iff_eq, true_iff]; omega)

/-! ### cut at a byte -/
theorem uint_inj {a b : UInt8} : ((a.toNat : Int) = (b.toNat : Int)) ↔ a = b := ⟨fun h => UInt8.toNat_inj.1 (by omega), fun h => by rw [h]⟩
/-- The rest's pieces, the first of them begun. -/
def begunL (c : UInt8) (pre rest : List UInt8) : List (List UInt8) := (pre ++ (cutL c rest).headD []) :: (cutL c rest).tail
theorem begun_nil (c : UInt8) (rest : List UInt8) : begunL c [] rest = cutL c rest := by
  unfold begunL
  cases h : cutL c rest with
  | nil => exact absurd h (cutL_ne c rest)
  | cons a b => simp
theorem begun_cut (c : UInt8) (pre rest : List UInt8) : begunL c pre (c :: rest) = pre :: cutL c rest := by unfold begunL; simp [cutL]
theorem begun_on (c x : UInt8) (h : x ≠ c) (pre rest : List UInt8) : begunL c pre (x :: rest) = begunL c (pre ++ [x]) rest := by unfold begunL; simp [cutL, h]
theorem ofL_app (a b : List UInt8) : ofL a ++ ofL b = ofL (a ++ b) := data_inj (by simp [ofL])
theorem ext_ofL (s : ByteArray) (a b : Nat) : s.extract a b = ofL ((s.data.toList.drop a).take (b - a)) := data_inj (by rw [ext_data, ofL_data])
theorem drop_take_snoc (l : List UInt8) (a i : Nat) (ha : a ≤ i) (hi : i < l.length) : (l.drop a).take (i - a) ++ [l[i]] = (l.drop a).take (i + 1 - a) := by
  have e : i + 1 - a = (i - a) + 1 := by omega
  have h2 : i - a < (l.drop a).length := by simp; omega
  rw [e, List.take_succ_eq_append_getElem h2]
  simp only [List.getElem_drop]
  congr 3; omega
theorem cut_l0 (s : ByteArray) (c : UInt8) (hs : s.size ≤ 1000000) : ∀ (d i a k : Nat) (acc : List ByteArray), s.data.toList.length - i = d → i ≤ s.data.toList.length → a ≤ i → acc.length ≤ i → d + 3 ≤ k →
    dolmenref1_Cut.l0 k s (c.toNat : Int) acc (a : Int) (i : Int) = some (acc ++ (begunL c ((s.data.toList.drop a).take (i - a)) (s.data.toList.drop i)).map ofL) := by
  have hsz := size_len s
  intro d
  induction d with
  | zero =>
    intro i a k acc hd hi ha hacc hk
    obtain ⟨k, rfl⟩ : ∃ m, k = m + 2 := ⟨k - 2, by omega⟩
    have c1 : acc.length < 8796093022208 := by omega
    rw [dolmenref1_Cut.l0, if_pos (by omega), if_pos (by omega), if_pos (by omega), if_pos (by omega), if_pos c1, wrap_up i 2000000 (by omega) (by omega), dolmenref1_Cut.l0, if_neg (by omega)]
    rw [show ((a : Int)).toNat = a by omega, show ((i : Int)).toNat = i by omega, ext_ofL]
    have : s.data.toList.drop i = [] := List.drop_of_length_le (by omega)
    rw [this]; simp [begunL, cutL]
  | succ d ih =>
    intro i a k acc hd hi ha hacc hk
    obtain ⟨k, rfl⟩ : ∃ m, k = m + 1 := ⟨k - 1, by omega⟩
    have hlt : i < s.data.toList.length := by omega
    have c1 : acc.length < 8796093022208 := by omega
    have hw := wrap_up i 2000000 (by omega) (by omega)
    have h0 : (0 : Int) ≤ (i : Int) := Int.natCast_nonneg _
    have h1 : (i : Int) < (s.size : Int) := by omega
    have h2 : (i : Int) ≤ (s.size : Int) := by omega
    have h3 : ¬ (i : Int) = (s.size : Int) := by omega
    have ha0 : (0 : Int) ≤ (a : Int) := Int.natCast_nonneg _
    have ha1 : (a : Int) ≤ (i : Int) := by omega
    rw [dolmenref1_Cut.l0, if_pos h2, if_neg h3, if_pos h0, if_pos h1, bt_get s i hlt, List.drop_eq_getElem_cons hlt, hw]
    clear hw
    by_cases hc : s.data.toList[i] = c
    · rw [if_pos (uint_inj.2 hc), if_pos ha0, if_pos ha1, if_pos c1, ih (i + 1) (i + 1) k _ (by omega) (by omega) (by omega) (by simp; omega) (by omega), hc, begun_cut]
      rw [show ((a : Int)).toNat = a by omega, show ((i : Int)).toNat = i by omega, ext_ofL]
      simp [begun_nil]
    · rw [if_neg (fun h => hc (uint_inj.1 h)), ih (i + 1) a k _ (by omega) (by omega) (by omega) (by omega) (by omega), begun_on c _ hc, drop_take_snoc _ a i ha hlt]
theorem cut_f (s : ByteArray) (c : UInt8) (hs : s.size ≤ 1000000) (k : Nat) (hk : s.size + 3 ≤ k) : dolmenref1_Cut.f k s (c.toNat : Int) = some (cutB c s) := by
  have := cut_l0 s c hs s.data.toList.length 0 0 k [] (by omega) (by omega) (by omega) (by simp) (by rw [← size_len]; exact hk)
  unfold dolmenref1_Cut.f
  refine Eq.trans this ?_
  simp [begun_nil, cutB]

/-! ### Split -/
def codeOf (e : Option Int) : Int := e.getD 0
theorem j2_f (l : List ByteArray) (long : Bool) (i : Nat) (k : Nat) : dolmenref1_Split.j2 (k + 1) l long (i : Int) true = some ([], 2) := by
  rw [dolmenref1_Split.j2, if_pos rfl]
theorem split_l1 (l : List ByteArray) (long : Bool) (i : Nat) (hi : i < l.length) (hz : (l[i]).size ≤ 1000) : ∀ (d j k : Nat), (l[i]).data.toList.length - j = d → j ≤ (l[i]).data.toList.length →
    dolmenref1_Split.l1 (k + d + 1) l long (i : Int) (j : Int) = if (((l[i]).data.toList.drop j).all fun b => letterB b.toNat) = true then dolmenref1_Split.l0 k l (long || decide (12 < (l[i]).size)) (wrap64 ((i : Int) + 1)) else some ([], 2) := by
  have hsz := size_len l[i]
  have hget : rdOf ByteArray.empty l (i : Int) = l[i] := by rw [rdOf_nat, getD_at _ _ _ hi]
  have h0 : (0 : Int) ≤ (i : Int) := Int.natCast_nonneg _
  have h1 : (i : Int) < (l.length : Int) := by omega
  intro d
  induction d with
  | zero =>
    intro j k hd hj
    rw [dolmenref1_Split.l1, if_pos h0, if_pos h1, hget, if_neg (by omega), List.drop_of_length_le (by omega)]
    simp only [List.all_nil, if_true]
    cases long with
    | true => rw [if_pos rfl]; rfl
    | false =>
      rw [if_neg (by decide)]
      congr 1
      rw [Bool.false_or]
      rw [Bool.eq_iff_iff, decide_eq_true_eq, decide_eq_true_eq]; omega
  | succ d ih =>
    intro j k hd hj
    have e : k + (d + 1) + 1 = (k + d + 1) + 1 := by omega
    have hlt : j < (l[i]).data.toList.length := by omega
    have hih := ih (j + 1) k (by omega) (by omega)
    rw [e, dolmenref1_Split.l1, if_pos h0, if_pos h1, hget, if_pos (by omega), if_pos (by omega), bt_get _ j hlt, rletter_f]
    simp only [Option.bind_some]
    rw [List.drop_eq_getElem_cons hlt, List.all_cons]
    by_cases hl : letterB ((l[i]).data.toList[j].toNat : Int) = true
    · rw [if_pos hl, wrap_up j 100000 (by omega) (by omega), hih, hl, Bool.true_and]
    · rw [if_neg hl]
      have : letterB ((l[i]).data.toList[j].toNat : Int) = false := by simpa using hl
      rw [this, Bool.false_and]; simp
def restI (l : List ByteArray) (long : Bool) (i : Nat) : List ByteArray × Int :=
  if (l.drop i).any (fun x => !nameOk x) then ([], 2) else if long || (l.drop i).any (fun x => decide (12 < x.size)) then ([], 3) else if 6 < l.length then ([], 4) else (l, 0)
theorem split_l0 (l : List ByteArray) (hz : ∀ x, x ∈ l → x.size ≤ 1000) (hl : l.length ≤ 1000) : ∀ (d i k : Nat) (long : Bool), l.length - i = d → i ≤ l.length → d * 1003 + 3 ≤ k →
    dolmenref1_Split.l0 k l long (i : Int) = some (restI l long i) := by
  intro d
  induction d with
  | zero =>
    intro i k long hd hi hk
    obtain ⟨k, rfl⟩ : ∃ m, k = m + 1 := ⟨k - 1, by omega⟩
    rw [dolmenref1_Split.l0, if_neg (by omega)]
    unfold restI
    rw [List.drop_of_length_le (by omega)]
    simp only [List.any_nil, Bool.or_false, Bool.false_eq_true, if_false]
    cases long with
    | true => simp
    | false =>
      simp only [Bool.false_eq_true, if_false]
      by_cases h6 : 6 < l.length
      · rw [if_pos (by omega), if_pos h6]
      · rw [if_neg (by omega), if_neg h6]
  | succ d ih =>
    intro i k long hd hi hk
    have hlt : i < l.length := by omega
    have hzi := hz l[i] (List.getElem_mem hlt)
    have hsz := size_len l[i]
    have hk2 : d * 1003 + 3 + 1003 ≤ k := by omega
    obtain ⟨m, hm⟩ : ∃ m, m = d * 1003 := ⟨_, rfl⟩
    rw [← hm] at hk2 ih
    clear hk hm
    obtain ⟨k', hk'⟩ : ∃ k', k = (k' + (l[i]).data.toList.length + 1) + 1 + 1 := ⟨k - (l[i]).data.toList.length - 3, by omega⟩
    have hih := fun long => ih (i + 1) k' long (by omega) (by omega) (by omega)
    have h1 := split_l1 l long i hlt hzi (l[i]).data.toList.length 0 k' (by omega) (by omega)
    rw [wrap_up i 100000 (by omega) (by omega), hih, List.drop_zero] at h1
    have hget : rdOf ByteArray.empty l (i : Int) = l[i] := by rw [rdOf_nat, getD_at _ _ _ hlt]
    have h1' : dolmenref1_Split.l1 (k' + (l[i]).data.toList.length + 1) l long (i : Int) 0 = _ := h1
    rw [hk', dolmenref1_Split.l0, if_pos (by omega), if_pos (by omega), hget, toL, j2_f, dolmenref1_Split.j2, h1']
    unfold restI
    rw [List.drop_eq_getElem_cons hlt, List.any_cons, List.any_cons]
    have hname : nameOk l[i] = ((l[i]).data.toList.all (fun b => letterB b.toNat) && !((l[i]).data.toList == []) && !((l[i]).data.toList == [46]) && !((l[i]).data.toList == [46, 46])) := rfl
    generalize hA : (l[i]).data.toList.all (fun b => letterB b.toNat) = A at *
    generalize hD : (l[i]).data.toList = D at *
    by_cases e1 : D = []
    · rw [if_pos e1, hname, e1]; simp
    · by_cases e2 : D = [46]
      · rw [if_neg e1, if_pos e2, hname, e2]; simp
      · by_cases e3 : D = [46, 46]
        · rw [if_neg e1, if_neg e2, e3, if_pos (by decide), hname, e3]; simp
        · have b1 : (D == []) = false := by simpa using e1
          have b2 : (D == [46]) = false := by simpa using e2
          have b3 : (D == [46, 46]) = false := by simpa using e3
          rw [if_neg e1, if_neg e2, b3, if_neg (by decide), hname, b1, b2, b3]
          cases A with
          | false => simp
          | true =>
            rw [if_pos rfl]
            simp only [Bool.not_false, Bool.and_self, Bool.not_true, Bool.false_or, Bool.or_assoc]
theorem refsplit_f (a : ByteArray) (k : Nat) (hk : 300000 ≤ k) : dolmenref1_Split.f k a = some ((splitR a).1, codeOf (splitR a).2) := by
  have hsz := size_len a
  obtain ⟨k, rfl⟩ : ∃ m, k = m + 1 := ⟨k - 1, by omega⟩
  have hbad : dolmenref1_Split.j0 (k + 1) a true = some ([], 2) := by rw [dolmenref1_Split.j0, if_pos rfl]
  unfold dolmenref1_Split.f splitR
  rw [hbad]
  by_cases h47 : a.data.toList = [47]
  · rw [if_pos (by rw [toL]; exact h47), if_neg (by rw [hsz, h47]; decide), if_neg (by rw [h47]; simp), if_pos h47]; rfl
  · rw [if_neg (by rw [toL]; exact h47)]
    by_cases hnil : a.data.toList = []
    · rw [if_pos (by rw [toL]; exact hnil), if_neg (by rw [hsz, hnil]; decide), if_pos (by rw [hnil]; simp)]; rfl
    · rw [if_neg (by rw [toL]; exact hnil)]
      by_cases h200 : 200 < a.size
      · rw [if_pos (by omega), if_pos h200]; rfl
      · have hpos : 0 < a.data.toList.length := List.length_pos_iff.2 hnil
        rw [if_neg (by omega), if_pos (by omega), if_neg h200]
        have hb := bt_get a 0 hpos
        have hb' : bt a 0 = (a.data.toList[0].toNat : Int) := hb
        have hhead : a.data.toList.head? = some a.data.toList[0] := by rw [List.head?_eq_getElem?, List.getElem?_eq_getElem hpos]
        rw [hb', hhead]
        by_cases hc : a.data.toList[0] = 47
        · have hne : (((a.data.toList[0].toNat : Int)) != 47) = false := by rw [hc]; rfl
          rw [hne, if_neg (fun h => h (by rw [hc])), if_neg h47, dolmenref1_Split.j0, if_neg (by decide), if_pos (by omega)]
          have hcut := cut_f (a.extract 1 a.size) 47 (by rw [size_len, ext_data]; simp; omega) k (by rw [size_len, ext_data]; simp; omega)
          rw [cut_tail] at hcut
          have hcut' : dolmenref1_Cut.f k (a.extract 1 a.size) 47 = some ((cutL 47 a.data.toList.tail).map ofL) := hcut
          rw [hcut']
          simp only [Option.bind_some]
          have hll : ((cutL 47 a.data.toList.tail).map ofL).length ≤ 201 := by
            rw [List.length_map]; have := cutL_le 47 a.data.toList.tail; simp at this; omega
          have hzz : ∀ x, x ∈ (cutL 47 a.data.toList.tail).map ofL → x.size ≤ 1000 := by
            intro x hx
            obtain ⟨y, hy, rfl⟩ := List.mem_map.1 hx
            have := cut_sizes 47 _ y hy
            rw [ofL_size]; simp at this; omega
          generalize (cutL 47 a.data.toList.tail).map ofL = l at *
          have h0 := split_l0 l hzz (by omega) l.length 0 k false (by omega) (by omega) (by omega)
          refine Eq.trans h0 ?_
          unfold restI restOf
          rw [List.drop_zero, Bool.false_or]
          by_cases q1 : l.any (fun x => !nameOk x) = true
          · rw [if_pos q1, if_pos q1]; rfl
          · rw [if_neg q1, if_neg q1]
            by_cases q2 : l.any (fun x => decide (12 < x.size)) = true
            · rw [if_pos q2, if_pos q2]; rfl
            · rw [if_neg q2, if_neg q2]
              by_cases q3 : 6 < l.length
              · rw [if_pos q3, if_pos q3]; rfl
              · rw [if_neg q3, if_neg q3]; rfl
        · have hne : (((a.data.toList[0].toNat : Int)) != 47) = true := by
            rw [bne_iff_ne]; intro h; exact hc ((uint_inj (b := 47)).1 h)
          rw [hne, hbad, if_pos (fun h => hc (Option.some.inj h))]; rfl

/-! ### Join -/
theorem glue_cons (x : List UInt8) (l : List (List UInt8)) : glueL (x :: l) = 47 :: x ++ glueL l := by simp [glueL]
theorem glue_join : ∀ l : List (List UInt8), l ≠ [] → 47 :: Lib.join l [47] = glueL l
  | [], h => absurd rfl h
  | [x], _ => by rw [Lib.join_one, glue_cons]; simp [glueL]
  | x :: y :: l, _ => by
    have ih := glue_join (y :: l) (by simp)
    rw [glue_cons, ← ih, Lib.join_cons x (y :: l) [47]]
    have : Lib.joinTail [47] (y :: l) = glueL (y :: l) := by unfold Lib.joinTail glueL; rfl
    rw [this, ← ih]; rfl
theorem glue_len (B : Nat) : ∀ l : List (List UInt8), (∀ x, x ∈ l → x.length ≤ B) → (glueL l).length ≤ l.length * (B + 1)
  | [], _ => by simp [glueL]
  | x :: l, h => by
    have ih := glue_len B l (fun y hy => h y (by simp [hy]))
    have hx := h x (by simp)
    rw [glue_cons, List.length_cons, Nat.succ_mul]
    simp only [List.cons_append, List.length_cons, List.length_append]
    omega
def datas (l : List ByteArray) : List (List UInt8) := l.map (·.data.toList)
/-- Names behind a slash each; of none a slash. -/
theorem join_glue (l : List ByteArray) (h : l ≠ []) : joinL (datas l) = glueL (datas l) := glue_join _ (by simpa [datas] using h)
theorem join_f (l : List ByteArray) (B : Nat) (hB : ∀ x, x ∈ l → x.size ≤ B) (hl : l.length * (B + 1) ≤ 140737488355328) : names_Join.f l = some (ofL (joinL (datas l))) := by
  unfold names_Join.f
  have h1 : l.length ≤ 140737488355328 := Nat.le_trans (Nat.le_mul_of_pos_right _ (by omega)) hl
  have h2 : (Lib.join (l.map (·.data.toList)) [47]).length ≤ 140737488355328 := by
    by_cases hn : l = []
    · subst hn; simp [Lib.join, List.intercalate]
    · have hg := join_glue l hn
      have hgl := glue_len B (datas l) (by
        intro x hx
        obtain ⟨y, hy, rfl⟩ := List.mem_map.1 hx
        have := hB y hy
        rw [size_len] at this; exact this)
      have : (joinL (datas l)).length = (Lib.join (l.map (·.data.toList)) [47]).length + 1 := rfl
      rw [hg] at this
      have hd : (datas l).length = l.length := by simp [datas]
      rw [hd] at hgl
      omega
  rw [if_pos ⟨h1, h2⟩]; rfl
theorem refjoin_l0 (l : List ByteArray) (B : Nat) (hB : ∀ x, x ∈ l → x.size ≤ B) (hl : l.length * (B + 1) ≤ 1000000000) : ∀ (d i k : Nat) (s : List UInt8), l.length - i = d → i ≤ l.length → s.length ≤ i * (B + 1) → d + 1 ≤ k →
    dolmenref1_Join.l0 k l (ofL s) (i : Int) = some (if s ++ glueL (datas (l.drop i)) = [] then ofL [47] else ofL (s ++ glueL (datas (l.drop i)))) := by
  intro d
  induction d with
  | zero =>
    intro i k s hd hi hs hk
    obtain ⟨k, rfl⟩ : ∃ m, k = m + 1 := ⟨k - 1, by omega⟩
    rw [dolmenref1_Join.l0, if_neg (by omega), List.drop_of_length_le (by omega), ofL_toL]
    have : s ++ glueL (datas []) = s := by simp [glueL, datas]
    rw [this]
    by_cases h : s = []
    · rw [if_pos h, if_pos h]; rfl
    · rw [if_neg h, if_neg h]
  | succ d ih =>
    intro i k s hd hi hs hk
    obtain ⟨k, rfl⟩ : ∃ m, k = m + 1 := ⟨k - 1, by omega⟩
    have hlt : i < l.length := by omega
    have hx := hB l[i] (List.getElem_mem hlt)
    have hmul : (i + 1) * (B + 1) ≤ l.length * (B + 1) := Nat.mul_le_mul_right _ (by omega)
    have hmul2 : (i + 1) * (B + 1) = i * (B + 1) + (B + 1) := Nat.succ_mul _ _
    have hi1 : i ≤ i * (B + 1) := Nat.le_mul_of_pos_right _ (by omega)
    have hsz := size_len l[i]
    have hget : rdOf ByteArray.empty l (i : Int) = ofL (l[i]).data.toList := by rw [rdOf_nat, getD_at _ _ _ hlt, ofL_of]
    have g0 : (0 : Int) ≤ (i : Int) := Int.natCast_nonneg _
    have g1 : (i : Int) < (l.length : Int) := by omega
    have g2 : (ofL s).size + 1 ≤ 9223372036854775807 := by rw [ofL_size]; omega
    have e47 : (⟨#[47]⟩ : ByteArray) = ofL [47] := rfl
    have g3 : (ofL (s ++ [47])).size + (ofL (l[i]).data.toList).size ≤ 9223372036854775807 := by rw [ofL_size, ofL_size]; simp; omega
    have hw := wrap_up i 1000000001 (by omega) (by omega)
    rw [dolmenref1_Join.l0, if_pos g1, if_pos g2, if_pos g0, hget, e47, ofL_app, if_pos g3, ofL_app, hw]
    clear hw
    rw [ih (i + 1) k _ (by omega) (by omega) (by simp only [List.length_append, List.length_singleton]; omega) (by omega), List.drop_eq_getElem_cons hlt]
    have : s ++ [47] ++ (l[i]).data.toList ++ glueL (datas (l.drop (i + 1))) = s ++ glueL (datas (l[i] :: l.drop (i + 1))) := by
      rw [show datas (l[i] :: l.drop (i + 1)) = (l[i]).data.toList :: datas (l.drop (i + 1)) from rfl, glue_cons]; simp
    rw [this]
theorem refjoin_f (l : List ByteArray) (B : Nat) (hB : ∀ x, x ∈ l → x.size ≤ B) (hl : l.length * (B + 1) ≤ 1000000000) (k : Nat) (hk : l.length + 1 ≤ k) : dolmenref1_Join.f k l = some (ofL (joinL (datas l))) := by
  have h := refjoin_l0 l B hB hl l.length 0 k [] (by omega) (by omega) (by simp) hk
  unfold dolmenref1_Join.f
  refine Eq.trans h ?_
  rw [List.drop_zero, List.nil_append]
  by_cases hn : l = []
  · subst hn; simp [datas, glueL, joinL, Lib.join, List.intercalate]
  · rw [join_glue l hn, if_neg]
    rw [← join_glue l hn]; simp [joinL]

/-! ### Parent -/
def parentR (a : ByteArray) : ByteArray × ByteArray × Option Int :=
  if (splitR a).2 = none then (if (splitR a).1 = [] then (⟨#[]⟩, ⟨#[]⟩, some 2) else (ofL (joinL (datas (splitR a).1.dropLast)), (splitR a).1.getLastD ByteArray.empty, none))
  else (⟨#[]⟩, ⟨#[]⟩, (splitR a).2)
theorem split_sizes (a : ByteArray) : ∀ x, x ∈ (splitR a).1 → x.size ≤ 12 := by
  intro x hx
  cases h : (splitR a).2 with
  | none =>
    rcases split_none a h with ⟨_, h2⟩ | ⟨h1, _, _, _, h5⟩
    · rw [h2] at hx; cases hx
    · have := (rest_none _ (by rw [h5])).2.2.1
      rw [h1] at hx
      have := List.any_eq_false.1 this x hx
      simp at this; omega
  | some e =>
    exfalso
    have : (splitR a).1 = [] := by
      revert h
      unfold splitR restOf
      repeat' split
      all_goals simp
    rw [this] at hx; cases hx
theorem last_at (l : List ByteArray) (h : l ≠ []) : rdOf ByteArray.empty l ((l.length - 1 : Nat) : Int) = l.getLastD ByteArray.empty := by
  have hp : 0 < l.length := List.length_pos_iff.2 h
  rw [rdOf_nat, getD_at _ _ _ (by omega), List.getLastD_eq_getLast?, List.getLast?_eq_getElem?, List.getElem?_eq_getElem (by omega)]; rfl
theorem parent_f (a : ByteArray) : names_Parent.f a = some (parentR a) := by
  have hl := split_len a
  have hz := split_sizes a
  unfold names_Parent.f parentR
  rw [split_f]
  simp only [Option.bind_some]
  generalize splitR a = x at *
  obtain ⟨l, e⟩ := x
  cases e with
  | some e => simp
  | none =>
    simp only [Option.isNone_none, if_true]
    by_cases hn : l = []
    · subst hn; simp
    · have hp : 0 < l.length := List.length_pos_iff.2 hn
      simp only at hl hz
      have hw : wrap64 ((l.length : Int) - 1) = ((l.length - 1 : Nat) : Int) := by rw [IntWalk.wrap64_in _ (by omega)]; omega
      rw [hw]
      clear hw
      have e1 : (((l.length - 1 : Nat) : Int)).toNat = l.length - 1 := by omega
      have hdl : l.dropLast.length ≤ 6 := by simp; omega
      rw [if_neg (by omega), if_pos (by omega), if_pos (by omega), e1, ← List.dropLast_eq_take, join_f l.dropLast 12 (fun x hx => hz x (List.dropLast_subset _ hx)) (by omega)]
      simp only [Option.bind_some]
      rw [if_pos (by omega), last_at l hn, if_neg hn]
theorem refparent_f (a : ByteArray) (k : Nat) (hk : 300000 ≤ k) : dolmenref1_Parent.f k a = some ((parentR a).1, (parentR a).2.1, codeOf (parentR a).2.2) := by
  have hl := split_len a
  have hz := split_sizes a
  have hok : ∀ e, (splitR a).2 = some e → e ≠ 0 := by
    intro e
    unfold splitR restOf
    repeat' split
    all_goals (intro h; cases h; try decide)
  unfold dolmenref1_Parent.f parentR
  rw [refsplit_f a k hk]
  simp only [Option.bind_some]
  generalize splitR a = x at *
  obtain ⟨l, e⟩ := x
  cases e with
  | some e =>
    have := hok e rfl
    simp [codeOf, this]
  | none =>
    simp only [codeOf, Option.getD_none, if_true]
    by_cases hn : l = []
    · subst hn; simp
    · have hp : 0 < l.length := List.length_pos_iff.2 hn
      simp only at hl hz
      have hw : wrap64 ((l.length : Int) - 1) = ((l.length - 1 : Nat) : Int) := by rw [IntWalk.wrap64_in _ (by omega)]; omega
      rw [hw]
      clear hw
      have e1 : (((l.length - 1 : Nat) : Int)).toNat = l.length - 1 := by omega
      have hdl : l.dropLast.length ≤ 6 := by simp; omega
      rw [if_neg (by omega), if_pos (by omega), if_pos (by omega), e1, ← List.dropLast_eq_take, refjoin_f l.dropLast 12 (fun x hx => hz x (List.dropLast_subset _ hx)) (by omega) k (by omega)]
      simp only [Option.bind_some]
      rw [if_pos (by omega), last_at l hn, if_neg hn]
      rfl

/-! ### Under -/
theorem refunder_l0 (a b : List ByteArray) (hab : b.length ≤ a.length) (ha : a.length ≤ 1000) : ∀ (d i k : Nat), b.length - i = d → i ≤ b.length → d + 1 ≤ k →
    dolmenref1_Under.l0 k a b (i : Int) = some (decide ((a.drop i).take (b.length - i) = b.drop i)) := by
  intro d
  induction d with
  | zero =>
    intro i k hd hi hk
    obtain ⟨k, rfl⟩ : ∃ m, k = m + 1 := ⟨k - 1, by omega⟩
    rw [dolmenref1_Under.l0, if_neg (by omega), hd, List.drop_of_length_le (by omega : b.length ≤ i)]; simp
  | succ d ih =>
    intro i k hd hi hk
    obtain ⟨k, rfl⟩ : ∃ m, k = m + 1 := ⟨k - 1, by omega⟩
    have h1 : i < b.length := by omega
    have h2 : i < a.length := by omega
    have e : b.length - i = (b.length - (i + 1)) + 1 := by omega
    rw [dolmenref1_Under.l0, if_pos (by omega), if_pos (by omega), if_pos (by omega), rdOf_nat, rdOf_nat, getD_at _ _ _ h1, getD_at _ _ _ h2, List.drop_eq_getElem_cons h1, List.drop_eq_getElem_cons h2, e, List.take_succ_cons]
    by_cases he : a[i] = b[i]
    · rw [if_pos (toL_inj.2 he), wrap_up i 2000 (by omega) (by omega), ih (i + 1) k (by omega) (by omega) (by omega)]
      simp only [List.cons.injEq, he, true_and]
    · rw [if_neg (fun h => he (toL_inj.1 h))]
      simp only [List.cons.injEq, he, false_and, decide_false]
theorem refunder_f (p q : ByteArray) (k : Nat) (hk : 300000 ≤ k) : dolmenref1_Under.f k p q = some (underB p q) := by
  have hp := split_len p
  have hq := split_len q
  have hok : ∀ (a : ByteArray) e, (splitR a).2 = some e → e ≠ 0 := by
    intro a e
    unfold splitR restOf
    repeat' split
    all_goals (intro h; cases h; try decide)
  have hp2 := hok p
  have hq2 := hok q
  obtain ⟨k, rfl⟩ : ∃ m, k = m + 1 := ⟨k - 1, by omega⟩
  have hbad : ∀ a b, dolmenref1_Under.j0 (k + 1) a b true = some false := fun a b => by rw [dolmenref1_Under.j0, if_pos rfl]
  unfold dolmenref1_Under.f underB
  rw [refsplit_f p _ hk, refsplit_f q _ hk]
  simp only [Option.bind_some]
  simp only [hbad]
  generalize splitR p = x at *
  generalize splitR q = y at *
  obtain ⟨a, e⟩ := x
  obtain ⟨b, f⟩ := y
  cases e with
  | some e => have := hp2 e rfl; simp [codeOf, this]
  | none =>
    cases f with
    | some f => have := hq2 f rfl; simp [codeOf, this]
    | none =>
      simp only [codeOf, Option.getD_none, if_true, Option.isNone_none, Bool.true_and] at *
      by_cases hl : b.length ≤ a.length
      · rw [decide_eq_false (by omega), dolmenref1_Under.j0, if_neg (by decide)]
        have := refunder_l0 a b hl (by omega) b.length 0 k (by omega) (by omega) (by omega)
        simpa using this
      · rw [decide_eq_true (by omega), hbad]
        have : ¬ a.take b.length = b := fun h => hl (by rw [← h, List.length_take]; exact Nat.min_le_right _ _)
        simp [this]
end Go.Proofs.YtcaafbnfgijjfaaDoor.G
