/- hist.ParseOp of what hist.Op wrote: the whole. -/
import Derived.Test.YtcbmbjapcpbnnaaGreatDoorG0
import Derived.Test.YtcbmbjapcpbnnaaGreatDoorPuHist5
namespace Go.Proofs.YtcbmbjapcpbnnaaGreatDoor.G
open Go Go.RowKit Go.Proofs.YtcbmbjapcpbnnaaGreatDoorW.PrintWords Go.Proofs.YtcbmbjapcpbnnaaGreatDoorW.PrintLast
set_option linter.unusedVariables false
set_option linter.unusedSimpArgs false

theorem j1_eq (x0 : ByteArray) (kind : Int) (path to_ : ByteArray) (off n : Int) (data : List Int) (snap : Int) (rest : List ByteArray) (h1 : 1 ≤ kind) (h14 : kind ≤ 14)
    (hp : path.size ≤ 900000) (ht : to_.size ≤ 900000) (hb : ∀ c, c ∈ data → IsByte c) (hd : data.length ≤ 400000)
    (hw : ∀ x, x ∈ argsW kind to_ off n data snap → isNone x = false) (h0 : x0.data.toList ≠ []) (hx : opW kind path to_ off n data snap = x0) (hr : 3 ≤ rest.length) (k : Nat) (hk : 2000001 ≤ k) :
    hist_ParseOp.j1 k x0 (headW kind path ++ argsW kind to_ off n data snap ++ rest) kind (nPath kind path) noneW 0 0 (if kind ≤ 11 then snap else 0) =
      some (kind, nPath kind path, nTo kind to_, nOff kind off, nN kind n, nData kind data, nSnap kind snap, none) := by
  obtain ⟨k, rfl⟩ : ∃ m, k = m + 1 := ⟨k - 1, by omega⟩
  rw [hist_ParseOp.j1]
  by_cases h5 : kind = 5
  · rw [if_pos h5]
    exact j2_eq x0 kind path to_ off n data snap rest h1 h14 hp ht hb hd hw h0 hx hr _ (by subst h5; rfl) k (by omega)
  · rw [if_neg h5]
    exact j2_eq x0 kind path to_ off n data snap rest h1 h14 hp ht hb hd hw h0 hx hr _ (by by_cases h6 : kind = 6 <;> simp [h5, h6]) k (by omega)
theorem args_size (kind : Int) (to_ : ByteArray) (off n : Int) (data : List Int) (snap : Int) (ht : to_.size ≤ 6000) (hd : data.length ≤ 3000) : ∀ x, x ∈ argsW kind to_ off n data snap → x.size ≤ 7000 := by
  intro x hx
  have n1 := fun z => numW_size z
  unfold argsW at hx
  repeat' split at hx
  · rw [List.mem_singleton.1 hx]; exact pathR_size _ _ (by omega)
  · simp at hx; rcases hx with rfl | rfl
    · have := n1 off; omega
    · have := hexW_size data; omega
  · simp at hx; rcases hx with rfl | rfl
    · have := n1 off; omega
    · have := n1 n; omega
  · rw [List.mem_singleton.1 hx]; have := n1 n; omega
  · rw [List.mem_singleton.1 hx]; have := n1 snap; omega
  · simp at hx
theorem words_size (kind : Int) (path to_ : ByteArray) (off n : Int) (data : List Int) (snap : Int) (hp : path.size ≤ 6000) (ht : to_.size ≤ 6000) (hd : data.length ≤ 3000) : ∀ x, x ∈ wordsW kind path to_ off n data snap → x.size ≤ 7000 := by
  intro x hx
  unfold wordsW at hx
  rcases List.mem_append.1 hx with hx | hx
  · rcases List.mem_append.1 hx with hx | hx
    · unfold headW at hx
      rcases List.mem_cons.1 hx with rfl | hx
      · have := wordR_size kind; omega
      · split at hx
        · rw [List.mem_singleton.1 hx]; exact pathR_size _ _ (by omega)
        · simp at hx
    · exact args_size kind to_ off n data snap ht hd x hx
  · unfold snapW at hx
    split at hx
    · rw [List.mem_singleton.1 hx, size_len]
      have h3 := numW_size snap
      have : (numW snap).data.toList.length ≤ 21 := by rw [← size_len]; exact numW_size snap
      simp; omega
    · simp at hx
theorem words_length (kind : Int) (path to_ : ByteArray) (off n : Int) (data : List Int) (snap : Int) : (wordsW kind path to_ off n data snap).length ≤ 5 := by
  have h1 : (headW kind path).length ≤ 2 := by unfold headW; split <;> simp
  have h2 : (argsW kind to_ off n data snap).length ≤ 2 := by
    unfold argsW
    repeat' split
    all_goals simp
  have h3 : (snapW kind snap).length ≤ 1 := by unfold snapW; split <;> simp
  unfold wordsW
  rw [List.length_append, List.length_append]; omega
theorem line_size (kind : Int) (path to_ : ByteArray) (off n : Int) (data : List Int) (snap : Int) (hp : path.size ≤ 6000) (ht : to_.size ≤ 6000) (hd : data.length ≤ 3000) : (opW kind path to_ off n data snap).size ≤ 40000 := by
  unfold opW
  split
  · exact Nat.zero_le _
  · have hl := words_length kind path to_ off n data snap
    have := join_len 32 7000 (datas (wordsW kind path to_ off n data snap)) (fun x hx => by
      obtain ⟨y, hy, rfl⟩ := List.mem_map.1 hx
      have := words_size kind path to_ off n data snap hp ht hd y hy
      rw [← size_len]; exact this)
    have e : (datas (wordsW kind path to_ off n data snap)).length = (wordsW kind path to_ off n data snap).length := by simp [datas]
    rw [e] at this
    have h2 : (wordsW kind path to_ off n data snap).length * (7000 + 1) ≤ 5 * (7000 + 1) := Nat.mul_le_mul_right _ hl
    rw [ofL_size]; omega
set_option maxHeartbeats 1000000 in
theorem parse_op (kind : Int) (path to_ : ByteArray) (off n : Int) (data : List Int) (snap : Int) (hp : path.size ≤ 6000) (ht : to_.size ≤ 6000) (hb : ∀ c, c ∈ data → IsByte c) (hd : data.length ≤ 3000)
    (hne : (opW kind path to_ off n data snap).data.toList ≠ []) (k : Nat) (hk : 2000100 ≤ k) :
    hist_ParseOp.f k (opW kind path to_ off n data snap) = some (kind, nPath kind path, nTo kind to_, nOff kind off, nN kind n, nData kind data, nSnap kind snap, none) := by
  obtain ⟨k, rfl⟩ : ∃ m, k = m + 1 + 14 := ⟨k - 15, by omega⟩
  obtain ⟨hw, hcc, hs⟩ := opW_some kind path to_ off n data snap hne
  have hsz := line_size kind path to_ off n data snap hp ht hd
  have hwl := words_length kind path to_ off n data snap
  have hwne : wordsW kind path to_ off n data snap ≠ [] := by unfold wordsW headW; simp
  have hcut : cutB 32 (opW kind path to_ off n data snap) = wordsW kind path to_ off n data snap := by
    rw [hs]; exact cut_words _ hwne (words_clean kind path to_ off n data snap hb)
  have hwr : isNone (wordR kind) = false := hw _ (by unfold wordsW headW; simp)
  obtain ⟨h1, h14⟩ := word_range kind hwr
  have hargs : ∀ x, x ∈ argsW kind to_ off n data snap → isNone x = false := fun x hx => hw x (by unfold wordsW; simp [hx])
  have hJ := j1_eq (opW kind path to_ off n data snap) kind path to_ off n data snap (snapW kind snap ++ [(⟨#[]⟩ : ByteArray), ⟨#[]⟩, ⟨#[]⟩]) h1 h14 (by omega) (by omega) hb (by omega) hargs hne rfl (by simp) k (by omega)
  have hS : strings_Split.f (opW kind path to_ off n data snap) (⟨#[32]⟩ : ByteArray) = some (wordsW kind path to_ off n data snap) := by
    unfold strings_Split.f; rw [if_pos (by omega), ← hcut]
  have hL : strings_LastIndexByte.f (opW kind path to_ off n data snap) 64 = some (Lib.lastIndexByte (opW kind path to_ off n data snap) 64) := by unfold strings_LastIndexByte.f; rw [if_pos (by omega)]
  have hx4 : wordsW kind path to_ off n data snap ++ [(⟨#[]⟩ : ByteArray), ⟨#[]⟩, ⟨#[]⟩] = headW kind path ++ argsW kind to_ off n data snap ++ (snapW kind snap ++ [(⟨#[]⟩ : ByteArray), ⟨#[]⟩, ⟨#[]⟩]) := by
    unfold wordsW; rw [List.append_assoc]
  unfold hist_ParseOp.f
  rw [hS]
  simp only [Option.bind_some]
  rw [if_pos (by simp; omega)]
  have e0 : (wordsW kind path to_ off n data snap ++ [(⟨#[]⟩ : ByteArray), ⟨#[]⟩, ⟨#[]⟩]).getD 0 ByteArray.empty = wordR kind := by unfold wordsW headW; rfl
  rw [parse_scan _ _ (by simp) _ _ _ _ _ 14 1 0 (k + 1) rfl (by omega), e0, kscan_word kind h1 h14, hist_ParseOp.l0, if_neg (by omega)]
  by_cases h11 : kind ≤ 11
  · have hpath : pathR path = path := path_same path (hw _ (by unfold wordsW headW; rw [if_pos h11]; simp))
    have e1 : rdOf ByteArray.empty (wordsW kind path to_ off n data snap ++ [(⟨#[]⟩ : ByteArray), ⟨#[]⟩, ⟨#[]⟩]) 1 = nPath kind path := by
      unfold nPath wordsW headW; rw [if_pos h11, if_pos h11, hpath]; rfl
    rw [if_pos h11, if_pos (by simp; omega), hL, e1]
    simp only [Option.bind_some]
    rw [if_pos h11] at hJ
    by_cases hsn : snap = 0
    · have es : snapW kind snap = [] := by unfold snapW; rw [if_neg (by simp [hsn])]
      have hno : (64 : UInt8) ∉ (opW kind path to_ off n data snap).data.toList := by
        rw [hs, ofL_data]
        intro h
        rcases join_mem 32 _ _ h with h | ⟨x, hx, hbx⟩
        · exact absurd h (by decide)
        · obtain ⟨y, hy, rfl⟩ := List.mem_map.1 hx
          unfold wordsW at hy
          rw [es, List.append_nil] at hy
          rcases List.mem_append.1 hy with hy | hy
          · exact (head_clean kind path y hy 64 hbx).2 rfl
          · exact (args_clean kind to_ off n data snap hb y hy 64 hbx).2 rfl
      rw [last_no _ hno, if_neg (by decide), hx4]
      rw [hsn] at hJ ⊢
      exact hJ
    · have es : snapW kind snap = [(⟨#[64]⟩ : ByteArray) ++ numW snap] := by unfold snapW; rw [if_pos ⟨h11, hsn⟩]
      have hnn : isNone (numW snap) = false := by
        cases hq : isNone (numW snap) with
        | false => rfl
        | true => exact absurd ⟨h11, hsn, hq⟩ hcc
      have hnum := num_same snap hnn
      have hdat : (opW kind path to_ off n data snap).data.toList = (Lib.join (datas (headW kind path ++ argsW kind to_ off n data snap)) [32] ++ [32]) ++ 64 :: (numW snap).data.toList := by
        rw [hs, ofL_data]
        unfold wordsW
        rw [es]
        have e : datas (headW kind path ++ argsW kind to_ off n data snap ++ [(⟨#[64]⟩ : ByteArray) ++ numW snap]) = datas (headW kind path ++ argsW kind to_ off n data snap) ++ [64 :: (numW snap).data.toList] := by
          unfold datas; rw [List.map_append]; simp
        rw [e, join_snoc 32 _ _ (by unfold datas headW; simp), List.append_assoc]; rfl
      generalize Lib.join (datas (headW kind path ++ argsW kind to_ off n data snap)) [32] ++ [32] = a at hdat
      have hlast := last_at _ a _ hdat (fun h => (num_clean snap 64 h).2 rfl)
      have hlen : (opW kind path to_ off n data snap).size = a.length + 1 + (numW snap).data.toList.length := by rw [size_len, hdat]; simp; omega
      have hex : (opW kind path to_ off n data snap).extract (a.length + 1) (opW kind path to_ off n data snap).size = numW snap := by
        refine data_inj ?_
        rw [ext_data, hdat]
        have e : a ++ 64 :: (numW snap).data.toList = (a ++ [64]) ++ (numW snap).data.toList := by simp
        have hl : (a ++ [(64 : UInt8)]).length = a.length + 1 := by simp
        rw [e, ← hl, List.drop_left, List.take_of_length_le (by rw [hl]; omega)]
      have en : (((a.length + 1 : Nat) : Int)).toNat = a.length + 1 := by omega
      have c1 : (a.length : Int) ≥ 0 := by omega
      have c2 : (0 : Int) ≤ ((a.length + 1 : Nat) : Int) := by omega
      have c3 : ((a.length + 1 : Nat) : Int) ≤ ((opW kind path to_ off n data snap).size : Int) := by omega
      have hns := numW_size snap
      have hns2 : (numW snap).size ≤ 4000000 := by omega
      have hw2 : wrap64 ((a.length : Int) + 1) = ((a.length + 1 : Nat) : Int) := by rw [IntWalk.wrap64_in _ (by omega)]; omega
      rw [hlast, if_pos c1, hw2]
      clear hw2
      rw [if_pos c2, if_pos c3, en, hex, numR_f _ hns2, hnum.1, hx4]
      simp only [Option.bind_some]
      exact hJ
  · rw [if_neg h11, hx4]
    rw [if_neg h11] at hJ
    have eP : nPath kind path = noneW := by unfold nPath; rw [if_neg h11]
    rw [eP] at hJ ⊢
    exact hJ
end Go.Proofs.YtcbmbjapcpbnnaaGreatDoor.G
