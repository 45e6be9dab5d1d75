/- An act's text is read as the act, as far as its kind names it. -/
import Derived.Test.YtcbmbjapcpbnnaaGreatDoorG0
import Derived.Test.YtcbmbjapcpbnnaaGreatDoorG17
import Derived.Test.YtcbmbjapcpbnnaaGreatDoorG18
import Derived.Test.YtcbmbjapcpbnnaaGreatDoorPuScript2
namespace Go.Proofs.YtcbmbjapcpbnnaaGreatDoor.G
open Go Go.RowKit Go.Proofs.YtcbmbjapcpbnnaaGreatDoorW.PrintWords Go.Proofs.YtcbmbjapcpbnnaaGreatDoorW.PrintLast
set_option linter.unusedVariables false
set_option linter.unusedSimpArgs false

theorem index_no : ∀ (x : List UInt8) (c : UInt8), c ∉ x → Lib.indexByte x c = -1
  | [], c, _ => rfl
  | y :: x, c, h => by
    have ih := index_no x c (fun e => h (by simp [e]))
    have hy : (y == c) = false := by rw [beq_eq_false_iff_ne]; exact fun e => h (by simp [e])
    rw [Lib.indexByte, hy, ih]; rfl
theorem index_at : ∀ (x r : List UInt8) (c : UInt8), c ∉ x → Lib.indexByte (x ++ c :: r) c = x.length
  | [], r, c, _ => by simp [Lib.indexByte]
  | y :: x, r, c, h => by
    have ih := index_at x r c (fun e => h (by simp [e]))
    have hy : (y == c) = false := by rw [beq_eq_false_iff_ne]; exact fun e => h (by simp [e])
    have hn : (((x.length : Nat) : Int) == -1) = false := by rw [beq_eq_false_iff_ne]; omega
    rw [List.cons_append, Lib.indexByte, hy, ih, hn]
    simp
theorem cutAt_no (s : ByteArray) (h : (32 : UInt8) ∉ s.data.toList) : cutAt 32 s = (s, ⟨#[]⟩, false) := by
  unfold cutAt
  rw [index_no _ _ h, if_neg (by decide)]
theorem cutAt_at (s : ByteArray) (x r : List UInt8) (hs : s.data.toList = x ++ 32 :: r) (h : (32 : UInt8) ∉ x) : cutAt 32 s = (ofL x, ofL r, true) := by
  unfold cutAt
  rw [hs, index_at x r 32 h, if_pos (by omega), Int.toNat_natCast]
  congr 1
  · exact data_inj (by rw [ext_data, hs, ofL_data]; simp)
  · congr 1
    exact data_inj (by rw [ext_data, size_len, hs, ofL_data, show x ++ 32 :: r = (x ++ [32]) ++ r by simp, List.drop_left' (by simp), List.take_of_length_le (by simp; omega)])
theorem wordA_range (k : Int) (h : isNone (wordA k) = false) : 1 ≤ k ∧ k ≤ 6 := by
  have e := wordA_f k
  unfold script_word.f at e
  simp only [Option.bind_some] at e
  by_cases h1 : k < 1
  · rw [if_pos h1] at e
    injection e with e
    rw [← e] at h; exact absurd h (by decide)
  · rw [if_neg h1] at e
    by_cases h2 : k ≥ 7
    · rw [if_pos (by simpa using h2)] at e
      injection e with e
      rw [← e] at h; exact absurd h (by decide)
    · omega
theorem parse_head (s : ByteArray) (hz : s.size ≤ 4000000) (kd : Int) (h1 : 1 ≤ kd) (h2 : kd ≤ 6) (r : ByteArray) (b : Bool) (hc : cutAt 32 s = (wordA kd, r, b)) (k : Nat) :
    script_Parse.f (k + 1 + 6) s = script_Parse.l0 (k + 1) s (wordA kd) r b 7 kd 0 0 0 (⟨#[]⟩ : ByteArray) (⟨#[]⟩ : ByteArray) 0 0 0 := by
  unfold script_Parse.f
  rw [cut_f32 s hz, hc]
  simp only [Option.bind_some]
  rw [parseA_scan s _ _ _ 6 1 0 (k + 1) (by decide) (by decide), ascan_word kd h1 h2]
theorem act_size (kind thread n : Int) (ot : ByteArray) (picks : List Int) (ho : ot.size ≤ 40000) : (actX kind thread n ot picks).size ≤ 900000 ∨ False := by
  left
  have hw := wordA_size kind
  have hn := numW_size
  unfold actX
  split
  · decide
  · rename_i hc
    split
    · decide
    · have hB : ∀ x, x ∈ datas (actW kind thread n ot picks) → x.length ≤ (if kind = 1 then 40000 else 30) := by
        intro x hx
        obtain ⟨y, hy, rfl⟩ := List.mem_map.1 hx
        rw [← size_len]
        unfold actW at hy
        rcases List.mem_append.1 hy with hy | hy
        · rw [List.mem_singleton.1 hy]; split <;> omega
        · by_cases k1 : kind = 1
          · rw [if_pos k1] at hy ⊢
            simp at hy
            rcases hy with rfl | rfl
            · have := hn thread; omega
            · omega
          rw [if_neg k1] at hy ⊢
          have hnum : ∀ m : Int, y = numW m → y.size ≤ 30 := fun m e => by rw [e]; have := hn m; omega
          by_cases k2 : kind = 2
          · rw [if_pos k2] at hy
            simp at hy
            exact hnum _ hy
          rw [if_neg k2] at hy
          by_cases k4 : kind = 4 ∨ kind = 6
          · rw [if_pos k4] at hy
            simp at hy
            exact hnum _ hy
          rw [if_neg k4] at hy
          by_cases k5 : kind = 5
          · rw [if_pos k5] at hy
            obtain ⟨m, _, e⟩ := List.mem_map.1 hy
            exact hnum m e.symm
          · rw [if_neg k5] at hy
            simp at hy
      have hj := join_len 32 _ _ hB
      have hl : (datas (actW kind thread n ot picks)).length ≤ (if kind = 1 then 3 else 101) := by
        unfold datas actW
        rw [List.length_map, List.length_append, List.length_singleton]
        by_cases k1 : kind = 1
        · rw [if_pos k1, if_pos k1]; simp
        rw [if_neg k1, if_neg k1]
        by_cases k2 : kind = 2
        · rw [if_pos k2]; simp
        rw [if_neg k2]
        by_cases k4 : kind = 4 ∨ kind = 6
        · rw [if_pos k4]; simp
        rw [if_neg k4]
        by_cases k5 : kind = 5
        · rw [if_pos k5, List.length_map]; omega
        · rw [if_neg k5]; simp
      rw [ofL_size]
      by_cases k1 : kind = 1
      · rw [if_pos k1] at hj hl
        have := Nat.mul_le_mul_right (40000 + 1) hl
        omega
      · rw [if_neg k1] at hj hl
        have := Nat.mul_le_mul_right (30 + 1) hl
        omega
theorem ofL_self (x : ByteArray) : ofL x.data.toList = x := data_inj (by rw [ofL_data])
theorem nums_map (picks : List Int) (h : ∀ m, m ∈ picks → isNone (numW m) = false) : (picks.map numW).map numR = picks := by
  rw [List.map_map]
  conv => rhs; rw [← List.map_id picks]
  exact List.map_congr_left fun m hm => (num_same m (h m hm)).1
set_option maxHeartbeats 1000000 in
theorem parse_act (kind thread n okind : Int) (opath oto : ByteArray) (ooff on : Int) (data : List Int) (osnap : Int) (picks : List Int) (hp : opath.size ≤ 6000) (ht : oto.size ≤ 6000) (hb : ∀ c, c ∈ data → IsByte c) (hd : data.length ≤ 3000)
    (hne : (actX kind thread n (opW okind opath oto ooff on data osnap) picks).data.toList ≠ []) (k : Nat) (hk : 2000200 ≤ k) :
    script_Parse.f k (actX kind thread n (opW okind opath oto ooff on data osnap) picks) =
      if kind = 1 then some (1, thread, 0, okind, nPath okind opath, nTo okind oto, nOff okind ooff, nN okind on, nData okind data, nSnap okind osnap, [], none)
      else some (kind, if kind = 2 then thread else 0, if kind = 4 ∨ kind = 6 then n else 0, 0, (⟨#[]⟩ : ByteArray), (⟨#[]⟩ : ByteArray), 0, 0, [], 0, if kind = 5 then picks else [], none) := by
  obtain ⟨k, rfl⟩ : ∃ m, k = m + 1 + 6 := ⟨k - 7, by omega⟩
  obtain ⟨c1, hw, hs⟩ := actX_some _ _ _ _ _ hne
  have hoz := line_size okind opath oto ooff on data osnap hp ht hd
  have hz : (actX kind thread n (opW okind opath oto ooff on data osnap) picks).size ≤ 900000 := (act_size kind thread n _ picks hoz).resolve_right id
  have hwk : isNone (wordA kind) = false := hw _ (by unfold actW; simp)
  obtain ⟨r1, r6⟩ := wordA_range kind hwk
  have hcl := wordA_clean kind
  by_cases k1 : kind = 1
  · subst k1
    rw [if_pos rfl]
    have hwt : isNone (numW thread) = false := hw _ (by unfold actW; simp)
    have hwo : isNone (opW okind opath oto ooff on data osnap) = false := hw _ (by unfold actW; simp)
    have hone : (opW okind opath oto ooff on data osnap).data.toList ≠ [] := fun e => by
      have := (isNone_iff _).2 e; rw [hwo] at this; cases this
    have hdat : (actX 1 thread n (opW okind opath oto ooff on data osnap) picks).data.toList = (wordA 1).data.toList ++ 32 :: ((numW thread).data.toList ++ 32 :: (opW okind opath oto ooff on data osnap).data.toList) := by
      rw [hs, ofL_data]
      unfold actW datas
      rw [if_pos rfl]
      simp only [List.singleton_append, List.map_cons, List.map_nil]
      rw [join_cons 32 _ _ (by simp), join_cons 32 _ _ (by simp), Lib.join_one]
    have hc := cutAt_at _ _ _ hdat hcl
    rw [ofL_self] at hc
    have hc2 := cutAt_at (ofL ((numW thread).data.toList ++ 32 :: (opW okind opath oto ooff on data osnap).data.toList)) (numW thread).data.toList (opW okind opath oto ooff on data osnap).data.toList (by rw [ofL_data]) (fun h => (num_clean thread 32 h).1 rfl)
    rw [ofL_self, ofL_self] at hc2
    rw [parse_head _ (by omega) 1 (by omega) (by omega) _ _ hc k, script_Parse.l0, if_neg (by decide), if_pos rfl, cut_f32 _ (by rw [ofL_size, List.length_append, List.length_cons, ← size_len, ← size_len]; have := numW_size thread; omega), hc2]
    simp only [Option.bind_some]
    rw [numR_f _ (by have := numW_size thread; omega), (num_same thread hwt).1]
    simp only [Option.bind_some]
    rw [parse_op okind opath oto ooff on data osnap hp ht hb hd hone k (by omega)]
    simp only [Option.bind_some]
    have e : opW okind (nPath okind opath) (nTo okind oto) (nOff okind ooff) (nN okind on) (nData okind data) (nSnap okind osnap) = opW okind opath oto ooff on data osnap := by
      have h1 := parse_op okind opath oto ooff on data osnap hp ht hb hd hone 2000100 (Nat.le_refl _)
      rcases parse_any (opW okind opath oto ooff on data osnap) (by omega) 2000100 (Nat.le_refl _) with h2 | ⟨a1, a2, a3, a4, a5, a6, a7, h2, he, _⟩
      · rw [h1] at h2
        unfold bad14 at h2
        injection h2 with h2
        simp only [Prod.mk.injEq] at h2
        exact absurd h2.2.2.2.2.2.2.2 (by simp)
      · rw [h1] at h2
        injection h2 with h2
        simp only [Prod.mk.injEq] at h2
        obtain ⟨e1, e2, e3, e4, e5, e6, e7, _⟩ := h2
        rw [e2, e3, e4, e5, e6, e7]
        rw [← e1] at he
        exact he
    have hP : (nPath okind opath).size ≤ 3000000 := by
      unfold nPath; split
      · omega
      · exact Nat.zero_le _
    have hT : (nTo okind oto).size ≤ 3000000 := by
      unfold nTo; split
      · omega
      · exact Nat.zero_le _
    have hD : ∀ c, c ∈ nData okind data → IsByte c := by
      unfold nData; split
      · exact hb
      · simp
    have hL : (nData okind data).length ≤ 3000 := by
      unfold nData; split
      · exact hd
      · simp
    have ex : actX 1 thread 0 (opW okind opath oto ooff on data osnap) [] = actX 1 thread n (opW okind opath oto ooff on data osnap) picks := by
      unfold actX actW
      simp
    have hfin := doneA_eq (actX 1 thread n (opW okind opath oto ooff on data osnap) picks) 1 thread 0 okind (nPath okind opath) (nTo okind oto) (nOff okind ooff) (nN okind on) (nData okind data) (nSnap okind osnap) [] hP hT hD (by omega) (by rw [e]; omega) hne (by rw [e]; exact ex)
    exact hfin
  rw [if_neg k1]
  have hnumdat : ∀ m : Int, actW kind thread n (opW okind opath oto ooff on data osnap) picks = [wordA kind, numW m] →
      (actX kind thread n (opW okind opath oto ooff on data osnap) picks).data.toList = (wordA kind).data.toList ++ 32 :: (numW m).data.toList ∧ isNone (numW m) = false := fun m e => by
    refine ⟨?_, hw _ (by rw [e]; simp)⟩
    rw [hs, ofL_data, e]
    unfold datas
    simp only [List.map_cons, List.map_nil]
    rw [join_cons 32 _ _ (by simp), Lib.join_one]
  by_cases k2 : kind = 2
  · subst k2
    obtain ⟨hdat, hwt⟩ := hnumdat thread (by unfold actW; rfl)
    have hc := cutAt_at _ _ _ hdat hcl
    rw [ofL_self, ofL_self] at hc
    rw [parse_head _ (by omega) 2 (by omega) (by omega) _ _ hc k, script_Parse.l0, if_neg (by decide), if_neg (by decide), if_pos rfl, numR_f _ (by have := numW_size thread; omega), (num_same thread hwt).1]
    simp only [Option.bind_some]
    exact doneA_none_eq _ 2 thread 0 [] hne (by unfold actX actW; simp)
  by_cases k4 : kind = 4
  · subst k4
    obtain ⟨hdat, hwt⟩ := hnumdat n (by unfold actW; rfl)
    have hc := cutAt_at _ _ _ hdat hcl
    rw [ofL_self, ofL_self] at hc
    rw [parse_head _ (by omega) 4 (by omega) (by omega) _ _ hc k, script_Parse.l0, if_neg (by decide), if_neg (by decide), if_neg (by decide), if_pos rfl]
    obtain ⟨k, rfl⟩ : ∃ m, k = m + 1 := ⟨k - 1, by omega⟩
    rw [script_Parse.j1, if_pos (by decide), numR_f _ (by have := numW_size n; omega), (num_same n hwt).1]
    simp only [Option.bind_some]
    exact doneA_none_eq _ 4 0 n [] hne (by unfold actX actW; simp)
  by_cases k6 : kind = 6
  · subst k6
    obtain ⟨hdat, hwt⟩ := hnumdat n (by unfold actW; rfl)
    have hc := cutAt_at _ _ _ hdat hcl
    rw [ofL_self, ofL_self] at hc
    rw [parse_head _ (by omega) 6 (by omega) (by omega) _ _ hc k, script_Parse.l0, if_neg (by decide), if_neg (by decide), if_neg (by decide), if_neg (by decide)]
    obtain ⟨k, rfl⟩ : ∃ m, k = m + 1 := ⟨k - 1, by omega⟩
    rw [script_Parse.j1, if_pos (by decide), numR_f _ (by have := numW_size n; omega), (num_same n hwt).1]
    simp only [Option.bind_some]
    exact doneA_none_eq _ 6 0 n [] hne (by unfold actX actW; simp)
  have honly : ∀ (q : List Int), actW kind thread n (opW okind opath oto ooff on data osnap) picks = [wordA kind] → actX kind thread n (opW okind opath oto ooff on data osnap) picks = wordA kind := fun q e => by
    rw [hs, e]
    unfold datas
    simp only [List.map_cons, List.map_nil]
    rw [Lib.join_one, ofL_self]
  by_cases k5 : kind = 5
  · subst k5
    rw [if_neg (by decide), if_neg (by decide), if_pos rfl]
    by_cases hpk : picks = []
    · have e := honly [] (by unfold actW; rw [hpk]; rfl)
      have hc := cutAt_no (actX 5 thread n (opW okind opath oto ooff on data osnap) picks) (by rw [e]; exact hcl)
      rw [parse_head _ (by omega) 5 (by omega) (by omega) _ _ (by rw [hc, e]) k, script_Parse.l0, if_neg (by decide), if_neg (by decide), if_neg (by decide), if_neg (by decide)]
      obtain ⟨k, rfl⟩ : ∃ m, k = m + 1 := ⟨k - 1, by omega⟩
      rw [script_Parse.j1, if_neg (by decide), if_pos rfl, if_neg (by decide), hpk]
      exact doneA_none_eq _ 5 0 0 [] (by rw [hpk] at hne; exact hne) (by unfold actX actW; simp)
    · have hwp : ∀ m, m ∈ picks → isNone (numW m) = false := fun m hm => hw _ (by unfold actW; simp; exact .inr ⟨m, hm, rfl⟩)
      have hdat : (actX 5 thread n (opW okind opath oto ooff on data osnap) picks).data.toList = (wordA 5).data.toList ++ 32 :: Lib.join (datas (picks.map numW)) [32] := by
        rw [hs, ofL_data]
        have ew : actW 5 thread n (opW okind opath oto ooff on data osnap) picks = wordA 5 :: picks.map numW := by unfold actW; rfl
        rw [ew]
        unfold datas
        rw [List.map_cons, join_cons 32 _ _ (by simpa using hpk)]
      have hc := cutAt_at _ _ _ hdat hcl
      rw [ofL_self] at hc
      have hcw : cutB 32 (ofL (Lib.join (datas (picks.map numW)) [32])) = picks.map numW := cut_words _ (by simpa using hpk) (fun x hx => by
        obtain ⟨m, _, rfl⟩ := List.mem_map.1 hx
        exact fun h => (num_clean m 32 h).1 rfl)
      have hl100 : picks.length ≤ 100 := by
        rcases Nat.lt_or_ge 100 picks.length with h | h
        · exact absurd ⟨rfl, h⟩ c1
        · exact h
      have hjs : (ofL (Lib.join (datas (picks.map numW)) [32])).size ≤ 900000 := by
        have h2 : (actX 5 thread n (opW okind opath oto ooff on data osnap) picks).size = _ := size_len _
        rw [hdat, List.length_append, List.length_cons] at h2
        rw [ofL_size]; omega
      have hS : strings_Split.f (ofL (Lib.join (datas (picks.map numW)) [32])) (⟨#[32]⟩ : ByteArray) = some (picks.map numW) := by
        unfold strings_Split.f; rw [if_pos (by omega)]; exact congrArg some hcw
      rw [parse_head _ (by omega) 5 (by omega) (by omega) _ _ hc k, script_Parse.l0, if_neg (by decide), if_neg (by decide), if_neg (by decide), if_neg (by decide)]
      obtain ⟨k, rfl⟩ : ∃ m, k = m + 1 := ⟨k - 1, by omega⟩
      rw [script_Parse.j1, if_neg (by decide), if_pos rfl, if_pos rfl, hS]
      simp only [Option.bind_some]
      have h := parseA_l1 (actX 5 thread n (opW okind opath oto ooff on data osnap) picks) (picks.map numW) (by simp; omega) (fun x hx => by
        obtain ⟨m, _, rfl⟩ := List.mem_map.1 hx
        have := numW_size m; omega) 5 0 0 picks.length 0 k [] (by simp) (by omega) (by simp) (by omega)
      rw [show ((0 : Nat) : Int) = 0 from rfl] at h
      rw [h, List.nil_append, List.drop_zero, nums_map picks hwp]
      exact doneA_none_eq _ 5 0 0 picks hne (by unfold actX actW; simp)
  have k3 : kind = 3 := by omega
  subst k3
  have e := honly [] (by unfold actW; rfl)
  have hc := cutAt_no (actX 3 thread n (opW okind opath oto ooff on data osnap) picks) (by rw [e]; exact hcl)
  rw [parse_head _ (by omega) 3 (by omega) (by omega) _ _ (by rw [hc, e]) k, script_Parse.l0, if_neg (by decide), if_neg (by decide), if_neg (by decide), if_neg (by decide)]
  obtain ⟨k, rfl⟩ : ∃ m, k = m + 1 := ⟨k - 1, by omega⟩
  rw [script_Parse.j1, if_neg (by decide), if_neg (by decide)]
  exact doneA_none_eq _ 3 0 0 [] hne (by unfold actX actW; simp)

/-! ### two texts -/
theorem word_start : wordA 1 = (⟨#[115, 116, 97, 114, 116]⟩ : ByteArray) := by decide +kernel
theorem word_step : wordA 2 = (⟨#[115, 116, 101, 112]⟩ : ByteArray) := by decide +kernel
theorem parse_step (k : Nat) (hk : 2000200 ≤ k) : script_Parse.f k (⟨#[115, 116, 101, 112]⟩ : ByteArray) = some badA := by
  obtain ⟨k, rfl⟩ : ∃ m, k = m + 1 + 6 := ⟨k - 7, by omega⟩
  have hc := cutAt_no (⟨#[115, 116, 101, 112]⟩ : ByteArray) (by decide)
  rw [← word_step] at hc ⊢
  have hr : numR (⟨#[]⟩ : ByteArray) = -1 := by decide +kernel
  rw [parse_head _ (by rw [word_step]; decide) 2 (by decide) (by decide) _ _ hc k, script_Parse.l0, if_neg (by decide), if_neg (by decide), if_pos rfl, numR_f _ (by decide), hr]
  simp only [Option.bind_some]
  rcases doneA_none (wordA 2) 2 (-1) 0 [] with h | ⟨a1, a2, a3, a4, a5, a6, a7, a8, a9, a10, a11, h, he, _⟩
  · exact h
  · exfalso
    have hd := text_f 2 (-1) 0 0 (⟨#[]⟩ : ByteArray) (⟨#[]⟩ : ByteArray) 0 0 [] 0 [] (by decide) (by decide) (by simp) (by simp) (by rw [op_zero]; decide)
    have ex : actX 2 (-1) 0 (opW 0 (⟨#[]⟩ : ByteArray) (⟨#[]⟩ : ByteArray) 0 0 [] 0) [] = noneW := by rw [op_zero]; decide +kernel
    rw [ex] at hd
    unfold doneA at h
    rw [hd] at h
    have hne : ¬ (wordA 2).toList = ([] : List UInt8) := by rw [toL, word_step]; decide
    rw [if_neg hne] at h
    simp only [Option.bind_some] at h
    rw [if_neg (by rw [toL, toL, word_step]; decide)] at h
    unfold badA at h
    injection h with h
    simp only [Prod.mk.injEq] at h
    exact absurd h.2.2.2.2.2.2.2.2.2.2.2 (by simp)
end Go.Proofs.YtcbmbjapcpbnnaaGreatDoor.G
