/- hist.ParseOp of what hist.Op wrote. -/
import Derived.Test.YtcbmbjapcpbnnaaGreatDoorG0
import Derived.Test.YtcbmbjapcpbnnaaGreatDoorPuHist4
namespace Go.Proofs.YtcbmbjapcpbnnaaGreatDoor.G
open Go Go.RowKit Go.Proofs.YtcbmbjapcpbnnaaGreatDoorW.PrintWords Go.Proofs.YtcbmbjapcpbnnaaGreatDoorW.PrintLast
set_option linter.unusedVariables false
set_option linter.unusedSimpArgs false

theorem isNone_iff (x : ByteArray) : isNone x = true ↔ x.data.toList = [] := by simp [isNone]
theorem word_range (k : Int) (h : isNone (wordR k) = false) : 1 ≤ k ∧ k ≤ 14 := by
  unfold wordR at h
  split at h
  · exact absurd h (by decide)
  · refine ⟨by omega, ?_⟩
    by_cases h2 : k ≤ 14
    · exact h2
    · rw [List.getD_eq_getElem?_getD, List.getElem?_eq_none (by show wordL.length ≤ _; rw [show wordL.length = 15 from rfl]; omega)] at h
      exact absurd h (by decide)
theorem path_same (p : ByteArray) (h : isNone (pathR p) = false) : pathR p = p := by
  unfold pathR at h ⊢
  split
  · rfl
  · rename_i hq
    split at h
    · rename_i l h2; exact absurd h2 (hq l)
    · exact absurd h (by decide)
theorem num_same (n : Int) (h : isNone (numW n) = false) : numR (numW n) = n ∧ 0 ≤ n ∧ n ≤ 1099511627776 := by
  unfold numW at h ⊢
  split at h
  · exact absurd h (by decide)
  · split at h
    · exact absurd h (by decide)
    · rename_i h1 h2
      rw [if_neg h1, if_neg h2]
      refine ⟨?_, by omega, by omega⟩
      unfold numR
      rw [ofL_data, atoi_itoa n (by omega) (by omega)]
/-- The words of a line that is something. -/
theorem opW_some (kind : Int) (path to_ : ByteArray) (off n : Int) (data : List Int) (snap : Int) (h : (opW kind path to_ off n data snap).data.toList ≠ []) :
    (∀ x, x ∈ wordsW kind path to_ off n data snap → isNone x = false) ∧ ¬ (kind ≤ 11 ∧ snap ≠ 0 ∧ isNone (numW snap) = true) ∧
      opW kind path to_ off n data snap = ofL (Lib.join (datas (wordsW kind path to_ off n data snap)) [32]) := by
  unfold opW at h ⊢
  split at h
  · exact absurd rfl h
  · rename_i hc
    rw [if_neg hc]
    refine ⟨fun x hx => ?_, fun h => hc (.inl h), rfl⟩
    cases hx2 : isNone x with
    | false => rfl
    | true => exact absurd (.inr (List.any_eq_true.2 ⟨x, hx, hx2⟩)) hc
theorem opW_same {kind : Int} {p p' t t' : ByteArray} {o o' n n' : Int} {d d' : List Int} {s : Int} (hp : headW kind p = headW kind p') (ha : argsW kind t o n d s = argsW kind t' o' n' d' s) :
    opW kind p t o n d s = opW kind p' t' o' n' d' s := by unfold opW wordsW; rw [hp, ha]
theorem datas_ofL (l : List ByteArray) : (datas l).map ofL = l := by
  unfold datas; rw [List.map_map]
  conv => rhs; rw [← List.map_id l]
  exact List.map_congr_left fun x _ => ofL_of x
theorem cut_words (l : List ByteArray) (hne : l ≠ []) (hc : ∀ x, x ∈ l → (32 : UInt8) ∉ x.data.toList) : cutB 32 (ofL (Lib.join (datas l) [32])) = l := by
  unfold cutB
  rw [ofL_data, cut_join 32 (datas l) (fun e => hne (List.map_eq_nil_iff.1 e)) (fun x hx => by
    obtain ⟨y, hy, rfl⟩ := List.mem_map.1 hx
    exact hc y hy), datas_ofL]
theorem words_clean (kind : Int) (path to_ : ByteArray) (off n : Int) (data : List Int) (snap : Int) (hb : ∀ c, c ∈ data → IsByte c) :
    ∀ x, x ∈ wordsW kind path to_ off n data snap → (32 : UInt8) ∉ x.data.toList := by
  intro x hx h
  unfold wordsW at hx
  rcases List.mem_append.1 hx with hx | hx
  · rcases List.mem_append.1 hx with hx | hx
    · exact (head_clean kind path x hx 32 h).1 rfl
    · exact (args_clean kind to_ off n data snap hb x hx 32 h).1 rfl
  · unfold snapW at hx
    split at hx
    · rw [List.mem_singleton.1 hx] at h
      have e : ((⟨#[64]⟩ : ByteArray) ++ numW snap).data.toList = 64 :: (numW snap).data.toList := by simp
      rw [e] at h
      rcases List.mem_cons.1 h with h | h
      · exact absurd h (by decide)
      · exact (num_clean snap 32 h).1 rfl
    · simp at hx

def nPath (kind : Int) (path : ByteArray) : ByteArray := if kind ≤ 11 then path else noneW
def nTo (kind : Int) (to_ : ByteArray) : ByteArray := if kind = 5 ∨ kind = 6 then to_ else noneW
def nOff (kind off : Int) : Int := if kind = 8 ∨ kind = 7 then off else 0
def nN (kind n : Int) : Int := if kind = 7 ∨ kind = 9 then n else 0
def nData (kind : Int) (data : List Int) : List Int := if kind = 8 then data else []
def nSnap (kind snap : Int) : Int := if kind ≤ 11 ∨ kind = 13 then snap else 0
theorem j2_eq (x0 : ByteArray) (kind : Int) (path to_ : ByteArray) (off n : Int) (data : List Int) (snap : Int) (rest : List ByteArray) (h1 : 1 ≤ kind) (h14 : kind ≤ 14)
    (hp : path.size ≤ 900000) (ht : to_.size ≤ 900000) (hb : ∀ c, c ∈ data → IsByte c) (hd : data.length ≤ 400000)
    (hw : ∀ x, x ∈ argsW kind to_ off n data snap → isNone x = false) (h0 : x0.data.toList ≠ []) (hx : opW kind path to_ off n data snap = x0) (hr : 3 ≤ rest.length)
    (c : Bool) (hc : c = decide (kind = 5 ∨ kind = 6)) (k : Nat) (hk : 2000000 ≤ k) :
    hist_ParseOp.j2 k x0 (headW kind path ++ argsW kind to_ off n data snap ++ rest) kind c kind (nPath kind path) noneW 0 0 (if kind ≤ 11 then snap else 0) =
      some (kind, nPath kind path, nTo kind to_, nOff kind off, nN kind n, nData kind data, nSnap kind snap, none) := by
  obtain ⟨k, rfl⟩ : ∃ m, k = m + 1 := ⟨k - 1, by omega⟩
  have hP : (nPath kind path).size ≤ 3000000 := by
    unfold nPath; split
    · omega
    · exact Nat.zero_le _
  have hhead : headW kind path = headW kind (nPath kind path) := by
    unfold headW nPath; split <;> rfl
  have nil : ∀ c, c ∈ ([] : List Int) → IsByte c := by simp
  have hN : noneW.size ≤ 3000000 := Nat.zero_le _
  rw [hist_ParseOp.j2]
  subst hc
  by_cases h56 : kind = 5 ∨ kind = 6
  · have h11 : kind ≤ 11 := by omega
    have ea : argsW kind to_ off n data snap = [pathR to_] := by unfold argsW; rw [if_pos h56]
    have hto := path_same to_ (hw _ (by rw [ea]; simp))
    have e2 : rdOf ByteArray.empty (headW kind path ++ argsW kind to_ off n data snap ++ rest) 2 = to_ := by
      rw [ea, hto]; unfold headW; rw [if_pos h11]; rfl
    have hl : (2 : Int) < ((headW kind path ++ argsW kind to_ off n data snap ++ rest).length : Int) := by
      rw [ea]; unfold headW; rw [if_pos h11]; simp; omega
    have hop : opW kind (nPath kind path) to_ 0 0 [] snap = x0 := by
      rw [← hx]; exact opW_same hhead.symm (by rw [ea]; unfold argsW; rw [if_pos h56])
    rw [decide_eq_true h56, if_pos rfl, if_pos hl, e2, if_pos h11]
    have := done_eq x0 kind (nPath kind path) to_ 0 0 [] snap hP (by omega) nil (by simp) k (by simp; omega) h0 hop
    refine Eq.trans this ?_
    unfold nTo nOff nN nData nSnap
    rw [if_pos h56, if_neg (by omega), if_neg (by omega), if_neg (by omega), if_pos (Or.inl h11)]
  · rw [decide_eq_false h56, if_neg (by decide)]
    have eT : nTo kind to_ = noneW := by unfold nTo; rw [if_neg h56]
    by_cases h8 : kind = 8
    · have h11 : kind ≤ 11 := by omega
      have ea : argsW kind to_ off n data snap = [numW off, hexW data] := by unfold argsW; rw [if_neg h56, if_pos h8]
      have hoff := num_same off (hw _ (by rw [ea]; simp))
      have e2 : rdOf ByteArray.empty (headW kind path ++ argsW kind to_ off n data snap ++ rest) 2 = numW off := by
        rw [ea]; unfold headW; rw [if_pos h11]; rfl
      have e3 : rdOf ByteArray.empty (headW kind path ++ argsW kind to_ off n data snap ++ rest) 3 = hexW data := by
        rw [ea]; unfold headW; rw [if_pos h11]; rfl
      have hl : (3 : Int) < ((headW kind path ++ argsW kind to_ off n data snap ++ rest).length : Int) := by
        rw [ea]; unfold headW; rw [if_pos h11]; simp; omega
      have hop : opW kind (nPath kind path) noneW off 0 data snap = x0 := by
        rw [← hx]; exact opW_same hhead.symm (by rw [ea]; unfold argsW; rw [if_neg h56, if_pos h8])
      have hs := numW_size off
      rw [if_pos h8, if_pos (by omega), e2, numR_f _ (by omega), hoff.1]
      simp only [Option.bind_some]
      rw [if_pos hl, e3, unhex_hex data hb (by omega) k (by omega), if_pos h11]
      simp only [Option.bind_some]
      have := done_eq x0 kind (nPath kind path) noneW off 0 data snap hP hN hb (by omega) k (by omega) h0 hop
      refine Eq.trans this ?_
      rw [eT]
      unfold nOff nN nData nSnap
      rw [if_pos (Or.inl h8), if_neg (by omega), if_pos h8, if_pos (Or.inl h11)]
    · rw [if_neg h8]
      have eD : nData kind data = [] := by unfold nData; rw [if_neg h8]
      by_cases h7 : kind = 7
      · have h11 : kind ≤ 11 := by omega
        have ea : argsW kind to_ off n data snap = [numW off, numW n] := by unfold argsW; rw [if_neg h56, if_neg h8, if_pos h7]
        have hoff := num_same off (hw _ (by rw [ea]; simp))
        have hn := num_same n (hw _ (by rw [ea]; simp))
        have e2 : rdOf ByteArray.empty (headW kind path ++ argsW kind to_ off n data snap ++ rest) 2 = numW off := by
          rw [ea]; unfold headW; rw [if_pos h11]; rfl
        have e3 : rdOf ByteArray.empty (headW kind path ++ argsW kind to_ off n data snap ++ rest) 3 = numW n := by
          rw [ea]; unfold headW; rw [if_pos h11]; rfl
        have hl : (3 : Int) < ((headW kind path ++ argsW kind to_ off n data snap ++ rest).length : Int) := by
          rw [ea]; unfold headW; rw [if_pos h11]; simp; omega
        have hop : opW kind (nPath kind path) noneW off n [] snap = x0 := by
          rw [← hx]; exact opW_same hhead.symm (by rw [ea]; unfold argsW; rw [if_neg h56, if_neg h8, if_pos h7])
        have hs := numW_size off
        have hs2 := numW_size n
        rw [if_pos h7, if_pos (by omega), e2, numR_f _ (by omega), hoff.1]
        simp only [Option.bind_some]
        rw [if_pos hl, e3, numR_f _ (by omega), hn.1, if_pos h11]
        simp only [Option.bind_some]
        have := done_eq x0 kind (nPath kind path) noneW off n [] snap hP hN nil (by simp) k (by simp; omega) h0 hop
        refine Eq.trans this ?_
        rw [eT, eD]
        unfold nOff nN nSnap
        rw [if_pos (Or.inr h7), if_pos (Or.inl h7), if_pos (Or.inl h11)]
      · rw [if_neg h7]
        have eO : nOff kind off = 0 := by unfold nOff; rw [if_neg (by omega)]
        by_cases h9 : kind = 9
        · have h11 : kind ≤ 11 := by omega
          have ea : argsW kind to_ off n data snap = [numW n] := by unfold argsW; rw [if_neg h56, if_neg h8, if_neg h7, if_pos h9]
          have hn := num_same n (hw _ (by rw [ea]; simp))
          have e2 : rdOf ByteArray.empty (headW kind path ++ argsW kind to_ off n data snap ++ rest) 2 = numW n := by
            rw [ea]; unfold headW; rw [if_pos h11]; rfl
          have hl : (2 : Int) < ((headW kind path ++ argsW kind to_ off n data snap ++ rest).length : Int) := by
            rw [ea]; unfold headW; rw [if_pos h11]; simp; omega
          have hop : opW kind (nPath kind path) noneW 0 n [] snap = x0 := by
            rw [← hx]; exact opW_same hhead.symm (by rw [ea]; unfold argsW; rw [if_neg h56, if_neg h8, if_neg h7, if_pos h9])
          have hs2 := numW_size n
          rw [if_pos h9, if_pos hl, e2, numR_f _ (by omega), hn.1, if_pos h11]
          simp only [Option.bind_some]
          have := done_eq x0 kind (nPath kind path) noneW 0 n [] snap hP hN nil (by simp) k (by simp; omega) h0 hop
          refine Eq.trans this ?_
          rw [eT, eD, eO]
          unfold nN nSnap
          rw [if_pos (Or.inr h9), if_pos (Or.inl h11)]
        · rw [if_neg h9]
          have eN : nN kind n = 0 := by unfold nN; rw [if_neg (by omega)]
          by_cases h13 : kind = 13
          · have h11 : ¬ kind ≤ 11 := by omega
            have ea : argsW kind to_ off n data snap = [numW snap] := by unfold argsW; rw [if_neg h56, if_neg h8, if_neg h7, if_neg h9, if_pos h13]
            have hn := num_same snap (hw _ (by rw [ea]; simp))
            have e1 : rdOf ByteArray.empty (headW kind path ++ argsW kind to_ off n data snap ++ rest) 1 = numW snap := by
              rw [ea]; unfold headW; rw [if_neg h11]; rfl
            have hl : (1 : Int) < ((headW kind path ++ argsW kind to_ off n data snap ++ rest).length : Int) := by
              rw [ea]; unfold headW; rw [if_neg h11]; simp; omega
            have hop : opW kind (nPath kind path) noneW 0 0 [] snap = x0 := by
              rw [← hx]; exact opW_same hhead.symm (by rw [ea]; unfold argsW; rw [if_neg h56, if_neg h8, if_neg h7, if_neg h9, if_pos h13])
            have hs2 := numW_size snap
            rw [if_pos h13, if_pos hl, e1, numR_f _ (by omega), hn.1]
            simp only [Option.bind_some]
            have := done_eq x0 kind (nPath kind path) noneW 0 0 [] snap hP hN nil (by simp) k (by simp; omega) h0 hop
            refine Eq.trans this ?_
            rw [eT, eD, eO, eN]
            unfold nSnap
            rw [if_pos (Or.inr h13)]
          · rw [if_neg h13]
            have ea : argsW kind to_ off n data snap = [] := by unfold argsW; rw [if_neg h56, if_neg h8, if_neg h7, if_neg h9, if_neg h13]
            have hsn : nSnap kind snap = (if kind ≤ 11 then snap else 0) := by
              unfold nSnap
              by_cases h11 : kind ≤ 11
              · rw [if_pos (Or.inl h11), if_pos h11]
              · rw [if_neg (by omega), if_neg h11]
            have hop : opW kind (nPath kind path) noneW 0 0 [] (if kind ≤ 11 then snap else 0) = x0 := by
              rw [← hx]
              by_cases h11 : kind ≤ 11
              · rw [if_pos h11]
                exact opW_same hhead.symm (by rw [ea]; unfold argsW; rw [if_neg h56, if_neg h8, if_neg h7, if_neg h9, if_neg h13])
              · rw [if_neg h11]
                have es : ∀ z, snapW kind z = [] := fun z => by unfold snapW; rw [if_neg (by omega)]
                have ez : ∀ t o m d z, argsW kind t o m d z = [] := fun t o m d z => by unfold argsW; rw [if_neg h56, if_neg h8, if_neg h7, if_neg h9, if_neg h13]
                unfold opW wordsW
                simp only [es, ez, ← hhead, h11, false_and, false_or]
            have := done_eq x0 kind (nPath kind path) noneW 0 0 [] (if kind ≤ 11 then snap else 0) hP hN nil (by simp) k (by simp; omega) h0 hop
            refine Eq.trans this ?_
            rw [eT, eD, eO, eN, hsn]
end Go.Proofs.YtcbmbjapcpbnnaaGreatDoor.G
