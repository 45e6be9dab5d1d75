/- The printed dump.Unhex, in plain words: what dump.Hex wrote is read; whatever is read is bytes. -/
import Derived.Test.YtcbmbjapcpbnnaaGreatDoorG0
import Derived.Test.YtcbmbjapcpbnnaaGreatDoorG5
import Derived.Test.YtcbmbjapcpbnnaaGreatDoorPuHist1
namespace Go.Proofs.YtcbmbjapcpbnnaaGreatDoor.G
open Go Go.RowKit Go.Proofs.YtcbmbjapcpbnnaaGreatDoorW.PrintWords Go.Proofs.YtcbmbjapcpbnnaaGreatDoorW.PrintLast
set_option linter.unusedVariables false
set_option linter.unusedSimpArgs false

def place (c : Int) : Int := Lib.indexByte digits.data.toList c.toNat.toUInt8
def byteOf (h l : Int) : Int := (Go.bits .or .i64 (wrap64 (h * 16)) l) % 256
theorem index_f (c : Int) : strings_IndexByte.f (⟨#[48, 49, 50, 51, 52, 53, 54, 55, 56, 57, 97, 98, 99, 100, 101, 102]⟩ : ByteArray) c = some (place c) := rfl
theorem byteOf_is (h l : Int) : IsByte (byteOf h l) := by
  unfold byteOf
  generalize Go.bits .or .i64 (wrap64 (h * 16)) l = z
  constructor <;> omega
theorem unhex_l0 (x0 : ByteArray) (hs : x0.size ≤ 4000000) (he : x0.size % 2 = 0) : ∀ (d i : Nat) (k : Nat) (x4 : List Int), x0.size - i = d → i ≤ x0.size → i % 2 = 0 → d + 1 ≤ k → (∀ c, c ∈ x4 → IsByte c) → x4.length ≤ i →
    ∃ l b, dump_Unhex.l0 k x0 x4 (i : Int) = some (l, b) ∧ (∀ c, c ∈ l → IsByte c) ∧ l.length ≤ x0.size := by
  intro d
  induction d using Nat.strongRecOn with
  | _ d ih =>
    intro i k x4 hd hi hp hk hb hl
    obtain ⟨k, rfl⟩ : ∃ m, k = m + 1 := ⟨k - 1, by omega⟩
    by_cases hlt : i < x0.size
    · have hw := wrap_up i 4000001 (by omega) (by omega)
      have hw2 : wrap64 ((i : Int) + 2) = ((i + 2 : Nat) : Int) := by rw [IntWalk.wrap64_in _ (by omega)]; omega
      have c1 : (i : Int) < (x0.size : Int) := by omega
      have c2 : (0 : Int) ≤ (i : Int) := by omega
      have c3 : (0 : Int) ≤ ((i + 1 : Nat) : Int) := by omega
      have c4 : ((i + 1 : Nat) : Int) < (x0.size : Int) := by omega
      have c5 : x4.length < 140737488355328 := by omega
      have hrec := fun c => ih (d - 2) (by omega) (i + 2) k (x4 ++ [c]) (by omega) (by omega) (by omega) (by omega)
      have hlen : ∀ c, (x4 ++ [c]).length ≤ i + 2 := by intro c; simp; omega
      rw [dump_Unhex.l0, if_pos c1, if_pos c2, index_f, hw, hw2]
      simp only [Option.bind_some]
      rw [if_pos c3, if_pos c4, index_f]
      clear hw hw2
      simp only [Option.bind_some]
      split
      · exact ⟨[], false, rfl, by simp, Nat.zero_le _⟩
      · split
        · exact ⟨[], false, rfl, by simp, Nat.zero_le _⟩
        · refine hrec _ (fun c hc => ?_) (hlen _)
          rcases List.mem_append.1 hc with h | h
          · exact hb c h
          · rw [List.mem_singleton.1 h]; exact byteOf_is _ _
    · rw [dump_Unhex.l0, if_neg (by omega)]
      exact ⟨x4, true, rfl, hb, by omega⟩
theorem unhex_any (x0 : ByteArray) (hs : x0.size ≤ 4000000) (k : Nat) (hk : x0.size + 3 ≤ k) :
    ∃ l b, dump_Unhex.f k x0 = some (l, b) ∧ (∀ c, c ∈ l → IsByte c) ∧ l.length ≤ x0.size := by
  obtain ⟨k, rfl⟩ : ∃ m, k = m + 1 := ⟨k - 1, by omega⟩
  unfold dump_Unhex.f
  split
  · exact ⟨[], true, rfl, by simp, Nat.zero_le _⟩
  · split
    · exact ⟨[], false, by rw [dump_Unhex.j0, if_pos rfl], by simp, Nat.zero_le _⟩
    · rw [dump_Unhex.j0]
      split
      · exact ⟨[], false, rfl, by simp, Nat.zero_le _⟩
      · rename_i h
        have h2 : x0.size % 2 = 0 := by
          simp at h; omega
        exact unhex_l0 x0 hs h2 x0.size 0 k [] (by omega) (by omega) (by omega) (by omega) (by simp) (by simp)
theorem two_back (c : Int) (h : IsByte c) :
    (IsByte (bt digits (c / 16)) ∧ IsByte (bt digits (Go.bits .and .u8 c 15))) ∧ ¬ place (bt digits (c / 16)) < 0 ∧ ¬ place (bt digits (Go.bits .and .u8 c 15)) < 0 ∧ byteOf (place (bt digits (c / 16))) (place (bt digits (Go.bits .and .u8 c 15))) = c := by
  obtain ⟨n, rfl⟩ : ∃ n : Nat, c = n := ⟨c.toNat, by have := h.1; omega⟩
  have hn : n < 256 := by have := h.2; omega
  have := (show ∀ n : Fin 256, ((0 ≤ bt digits ((n.1 : Int) / 16) ∧ bt digits ((n.1 : Int) / 16) ≤ 255) ∧ (0 ≤ bt digits (Go.bits .and .u8 (n.1 : Int) 15) ∧ bt digits (Go.bits .and .u8 (n.1 : Int) 15) ≤ 255)) ∧ ¬ place (bt digits ((n.1 : Int) / 16)) < 0 ∧ ¬ place (bt digits (Go.bits .and .u8 (n.1 : Int) 15)) < 0 ∧ byteOf (place (bt digits ((n.1 : Int) / 16))) (place (bt digits (Go.bits .and .u8 (n.1 : Int) 15))) = (n.1 : Int) by decide +kernel) ⟨n, hn⟩
  exact this
theorem hexL_at (l : List Int) (i : Nat) (h : i < l.length) : (hexL l)[2 * i]? = some (bt digits (l[i] / 16)) ∧ (hexL l)[2 * i + 1]? = some (bt digits (Go.bits .and .u8 l[i] 15)) := by
  have e : hexL l = hexL (l.take i) ++ (twoOf l[i] ++ hexL (l.drop (i + 1))) := by
    conv => lhs; rw [← List.take_append_drop i l, List.drop_eq_getElem_cons h]
    unfold hexL
    rw [List.map_append, List.flatten_append, List.map_cons, List.flatten_cons]
  have hl : (hexL (l.take i)).length = 2 * i := by rw [hexL_len, List.length_take]; omega
  have e0 : 2 * i - 2 * i = 0 := by omega
  have e1 : 2 * i + 1 - 2 * i = 1 := by omega
  rw [e]
  constructor
  · rw [List.getElem?_append_right (by rw [hl]; exact Nat.le_refl _), hl, e0]; rfl
  · rw [List.getElem?_append_right (by rw [hl]; exact Nat.le_succ _), hl, e1]; rfl
theorem bt_nums (l : List Int) (j : Nat) (v : Int) (h : l[j]? = some v) (hv : IsByte v) : bt (strOfNums l) (j : Int) = v := by
  obtain ⟨hj, hjv⟩ := List.getElem?_eq_some_iff.1 h
  have hl : j < (strOfNums l).data.toList.length := by rw [strOfNums_data, List.length_map]; exact hj
  rw [bt_get _ j hl]
  have e : (strOfNums l).data.toList[j] = UInt8.ofNat v.toNat := by
    simp only [strOfNums_data, List.getElem_map, hjv]
  rw [e, UInt8.toNat_ofNat']
  have := hv.1; have := hv.2; omega
theorem hexL_byte (l : List Int) (hb : ∀ c, c ∈ l → IsByte c) : ∀ v, v ∈ hexL l → IsByte v := by
  intro v hv
  unfold hexL at hv
  obtain ⟨t, ht, hvt⟩ := List.mem_flatten.1 hv
  obtain ⟨c, hc, rfl⟩ := List.mem_map.1 ht
  have := two_back c (hb c hc)
  simp only [twoOf, List.mem_cons, List.not_mem_nil, or_false] at hvt
  rcases hvt with rfl | rfl
  · exact this.1.1
  · exact this.1.2
theorem unhex_back (l : List Int) (hb : ∀ c, c ∈ l → IsByte c) (hl : l.length ≤ 1000000) : ∀ (d i k : Nat), l.length - i = d → i ≤ l.length → d + 1 ≤ k →
    dump_Unhex.l0 k (strOfNums (hexL l)) (l.take i) ((2 * i : Nat) : Int) = some (l, true) := by
  have hsz : (strOfNums (hexL l)).size = 2 * l.length := by rw [strOfNums_size, hexL_len]
  intro d
  induction d with
  | zero =>
    intro i k hd hi hk
    obtain ⟨k, rfl⟩ : ∃ m, k = m + 1 := ⟨k - 1, by omega⟩
    have : i = l.length := by omega
    subst this
    rw [dump_Unhex.l0, if_neg (by omega), List.take_length]
  | succ d ih =>
    intro i k hd hi hk
    obtain ⟨k, rfl⟩ : ∃ m, k = m + 1 := ⟨k - 1, by omega⟩
    have hlt : i < l.length := by omega
    have hih := ih (i + 1) k (by omega) (by omega) (by omega)
    have hw := wrap_up (2 * i) 4000001 (by omega) (by omega)
    have hw2 : wrap64 (((2 * i : Nat) : Int) + 2) = ((2 * (i + 1) : Nat) : Int) := by rw [IntWalk.wrap64_in _ (by omega)]; omega
    have c1 : ((2 * i : Nat) : Int) < ((strOfNums (hexL l)).size : Int) := by omega
    have c2 : (0 : Int) ≤ ((2 * i : Nat) : Int) := by omega
    have c3 : (0 : Int) ≤ ((2 * i + 1 : Nat) : Int) := by omega
    have c4 : ((2 * i + 1 : Nat) : Int) < ((strOfNums (hexL l)).size : Int) := by omega
    have c5 : (l.take i).length < 140737488355328 := by rw [List.length_take]; omega
    have ht := two_back l[i] (hb _ (List.getElem_mem hlt))
    have ha := hexL_at l i hlt
    have b1 := bt_nums (hexL l) (2 * i) _ ha.1 ht.1.1
    have b2 := bt_nums (hexL l) (2 * i + 1) _ ha.2 ht.1.2
    rw [dump_Unhex.l0, if_pos c1, if_pos c2, index_f, hw, hw2, b1]
    simp only [Option.bind_some]
    rw [if_pos c3, if_pos c4, index_f, b2]
    clear hw hw2
    simp only [Option.bind_some]
    rw [if_neg ht.2.1, if_neg ht.2.2.1, if_pos c5]
    have e := ht.2.2.2
    unfold byteOf at e
    rw [e, ← List.take_succ_eq_append_getElem hlt]
    exact hih
theorem unhex_hex (l : List Int) (hb : ∀ c, c ∈ l → IsByte c) (hl : l.length ≤ 1000000) (k : Nat) (hk : l.length + 3 ≤ k) : dump_Unhex.f k (hexW l) = some (l, true) := by
  unfold hexW
  by_cases h0 : l.length = 0
  · rw [if_pos h0, List.eq_nil_of_length_eq_zero h0]; unfold dump_Unhex.f; rw [toL, if_pos rfl]
  · rw [if_neg h0]
    obtain ⟨k, rfl⟩ : ∃ m, k = m + 1 := ⟨k - 1, by omega⟩
    have hsz : (strOfNums (hexL l)).size = 2 * l.length := by rw [strOfNums_size, hexL_len]
    have hlen : (strOfNums (hexL l)).data.toList.length = 2 * l.length := by rw [← size_len]; exact hsz
    have hb2 := unhex_back l hb hl l.length 0 k (by omega) (by omega) (by omega)
    generalize strOfNums (hexL l) = s at *
    unfold dump_Unhex.f
    rw [toL, if_neg (by intro e; rw [e] at hlen; simp at hlen; omega), if_neg (by intro e; rw [e] at hlen; simp at hlen; omega)]
    have hp : (((s.size : Int) % 2) != 0) = false := by
      rw [hsz]
      have : (((2 * l.length : Nat) : Int) % 2) = 0 := by omega
      rw [this]; rfl
    rw [hp, dump_Unhex.j0, if_neg (by decide)]
    exact hb2
end Go.Proofs.YtcbmbjapcpbnnaaGreatDoor.G
