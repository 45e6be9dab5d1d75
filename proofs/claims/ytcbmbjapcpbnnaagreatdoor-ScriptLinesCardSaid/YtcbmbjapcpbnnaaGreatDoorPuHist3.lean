/- The printed hist.ParseOp, in plain words: what was written is read as it was; whatever is read is what is written. -/
import Derived.Test.YtcbmbjapcpbnnaaGreatDoorG0
import Derived.Test.YtcbmbjapcpbnnaaGreatDoorG6
import Derived.Test.YtcbmbjapcpbnnaaGreatDoorPuHist2
import Derived.Lib.LastIndexByte
namespace Go.Proofs.YtcbmbjapcpbnnaaGreatDoor.G
open Go Go.RowKit Go.Proofs.YtcbmbjapcpbnnaaGreatDoorW.PrintWords Go.Proofs.YtcbmbjapcpbnnaaGreatDoorW.PrintLast
set_option linter.unusedVariables false
set_option linter.unusedSimpArgs false

def Res := Int × ByteArray × ByteArray × Int × Int × List Int × Int × Option Int
def bad14 : Int × ByteArray × ByteArray × Int × Int × List Int × Int × Option Int := (0, (⟨#[]⟩ : ByteArray), (⟨#[]⟩ : ByteArray), 0, 0, ([] : List Int), 0, some 14)
/-- What is read is what is written, or it is refused. -/
def Reads (x0 : ByteArray) (r : Option (Int × ByteArray × ByteArray × Int × Int × List Int × Int × Option Int)) : Prop :=
  r = some bad14 ∨ ∃ kind path to_ off n data snap, r = some (kind, path, to_, off, n, data, snap, none) ∧ opW kind path to_ off n data snap = x0 ∧ (∀ c, c ∈ data → IsByte c) ∧ path.size ≤ 3000000 ∧ to_.size ≤ 3000000 ∧ data.length ≤ 1000000
theorem done_any (x0 : ByteArray) (kind : Int) (path to_ : ByteArray) (off n : Int) (data : List Int) (snap : Int) (hp : path.size ≤ 3000000) (hto : to_.size ≤ 3000000)
    (hb : ∀ c, c ∈ data → IsByte c) (hd : data.length ≤ 1000000) (k : Nat) (hk : 310 + data.length ≤ k) :
    Reads x0 (if x0.toList = ([] : List UInt8) then some bad14 else (hist_Op.f k kind path to_ off n data snap).bind fun t => if t.toList = x0.toList then some (kind, path, to_, off, n, data, snap, none) else some bad14) := by
  rw [op_f kind path to_ off n data snap hp hto hb hd k hk]
  simp only [Option.bind_some]
  split
  · exact .inl rfl
  · split
    · rename_i h
      exact .inr ⟨kind, path, to_, off, n, data, snap, rfl, toL_inj.1 h, hb, hp, hto, hd⟩
    · exact .inl rfl
theorem done_eq (x0 : ByteArray) (kind : Int) (path to_ : ByteArray) (off n : Int) (data : List Int) (snap : Int) (hp : path.size ≤ 3000000) (hto : to_.size ≤ 3000000)
    (hb : ∀ c, c ∈ data → IsByte c) (hd : data.length ≤ 1000000) (k : Nat) (hk : 310 + data.length ≤ k) (h0 : x0.data.toList ≠ []) (h : opW kind path to_ off n data snap = x0) :
    (if x0.toList = ([] : List UInt8) then some bad14 else (hist_Op.f k kind path to_ off n data snap).bind fun t => if t.toList = x0.toList then some (kind, path, to_, off, n, data, snap, none) else some bad14) = some (kind, path, to_, off, n, data, snap, none) := by
  rw [op_f kind path to_ off n data snap hp hto hb hd k hk, toL, if_neg h0]
  simp only [Option.bind_some]
  rw [h, toL, if_pos rfl]

/-! ### the kind -/
def kscan (w : ByteArray) : Nat → Int → Int → Int
  | 0, _, kd => kd
  | d + 1, i, kd => kscan w d (i + 1) (if wordR i = w then i else kd)
theorem parse_scan (x0 : ByteArray) (x4 : List ByteArray) (hx : 0 < x4.length) (p t : ByteArray) (o n s : Int) : ∀ (d : Nat) (i kd : Int) (k : Nat), i = 15 - (d : Int) → d ≤ 14 →
    hist_ParseOp.l0 (k + d) x0 x4 i kd p t o n s = hist_ParseOp.l0 k x0 x4 15 (kscan (x4.getD 0 ByteArray.empty) d i kd) p t o n s := by
  intro d
  induction d with
  | zero => intro i kd k hi hd; subst hi; rfl
  | succ d ih =>
    intro i kd k hi hd
    have hw : wrap64 (i + 1) = i + 1 := IntWalk.wrap64_in _ (by omega)
    have hz : rdOf ByteArray.empty x4 0 = x4.getD 0 ByteArray.empty := rfl
    rw [show k + (d + 1) = (k + d) + 1 by omega, hist_ParseOp.l0, if_pos (by omega), word_f, hw, hz]
    simp only [Option.bind_some]
    rw [if_pos (by omega), kscan]
    by_cases h : wordR i = x4.getD 0 ByteArray.empty
    · rw [if_pos (toL_inj.2 h), if_pos h]
      exact ih (i + 1) i k (by omega) (by omega)
    · rw [if_neg (fun e => h (toL_inj.1 e)), if_neg h]
      exact ih (i + 1) kd k (by omega) (by omega)
theorem kscan_word (kd : Int) (h1 : 1 ≤ kd) (h2 : kd ≤ 14) : kscan (wordR kd) 14 1 0 = kd := by
  obtain ⟨n, rfl⟩ : ∃ n : Nat, kd = n := ⟨kd.toNat, by omega⟩
  have hn : n < 15 := by omega
  have := (show ∀ n : Fin 15, 1 ≤ n.1 → kscan (wordR (n.1 : Int)) 14 1 0 = (n.1 : Int) by decide +kernel) ⟨n, hn⟩ (by show 1 ≤ n; omega)
  exact this

/-! ### behind the kind -/
theorem numR_f (s : ByteArray) (h : s.size ≤ 4000000) : hist_Num.f s = some (numR s) := by unfold hist_Num.f; rw [if_pos (by omega)]
theorem j2_any (x0 : ByteArray) (x4 : List ByteArray) (hl : 4 ≤ x4.length) (hx : ∀ x, x ∈ x4 → x.size ≤ 900000) (kd : Int) (c : Bool) (p t : ByteArray) (hp : p.size ≤ 900000) (ht : t.size ≤ 900000) (o n s : Int) (k : Nat) (hk : 2000000 ≤ k) :
    Reads x0 (hist_ParseOp.j2 k x0 x4 kd c kd p t o n s) := by
  obtain ⟨k, rfl⟩ : ∃ m, k = m + 1 := ⟨k - 1, by omega⟩
  have hsz : ∀ i : Nat, (x4.getD i ByteArray.empty).size ≤ 900000 := by
    intro i
    rw [List.getD_eq_getElem?_getD]
    cases h : x4[i]? with
    | none => exact Nat.zero_le _
    | some y => exact hx y (List.mem_of_getElem? h)
  have e1 : rdOf ByteArray.empty x4 1 = x4.getD 1 ByteArray.empty := rfl
  have e2 : rdOf ByteArray.empty x4 2 = x4.getD 2 ByteArray.empty := rfl
  have e3 : rdOf ByteArray.empty x4 3 = x4.getD 3 ByteArray.empty := rfl
  have z1 := hsz 1
  have z2 := hsz 2
  have z3 := hsz 3
  have nil : ∀ c, c ∈ ([] : List Int) → IsByte c := by simp
  rw [hist_ParseOp.j2, e1, e2, e3, numR_f _ (by omega), numR_f _ (by omega), numR_f _ (by omega)]
  generalize x4.getD 1 ByteArray.empty = y1 at *
  generalize x4.getD 2 ByteArray.empty = y2 at *
  generalize x4.getD 3 ByteArray.empty = y3 at *
  obtain ⟨l, b, hu, hub, hul⟩ := unhex_any y3 (by omega) k (by omega)
  rw [hu]
  simp only [Option.bind_some]
  by_cases h1 : c = true
  · rw [if_pos h1, if_pos (by omega)]
    exact done_any x0 _ _ _ _ _ _ _ (by omega) (by omega) nil (by simp) k (by simp; omega)
  · rw [if_neg h1]
    by_cases h8 : kd = 8
    · rw [if_pos h8, if_pos (by omega), if_pos (by omega)]
      exact done_any x0 _ _ _ _ _ _ _ (by omega) (by omega) hub (by omega) k (by omega)
    · rw [if_neg h8]
      by_cases h7 : kd = 7
      · rw [if_pos h7, if_pos (by omega), if_pos (by omega)]
        exact done_any x0 _ _ _ _ _ _ _ (by omega) (by omega) nil (by simp) k (by simp; omega)
      · rw [if_neg h7]
        by_cases h9 : kd = 9
        · rw [if_pos h9, if_pos (by omega)]
          exact done_any x0 _ _ _ _ _ _ _ (by omega) (by omega) nil (by simp) k (by simp; omega)
        · rw [if_neg h9]
          by_cases h13 : kd = 13
          · rw [if_pos h13, if_pos (by omega)]
            exact done_any x0 _ _ _ _ _ _ _ (by omega) (by omega) nil (by simp) k (by simp; omega)
          · rw [if_neg h13]
            exact done_any x0 _ _ _ _ _ _ _ (by omega) (by omega) nil (by simp) k (by simp; omega)
theorem j1_any (x0 : ByteArray) (x4 : List ByteArray) (hl : 4 ≤ x4.length) (hx : ∀ x, x ∈ x4 → x.size ≤ 900000) (kd : Int) (p t : ByteArray) (hp : p.size ≤ 900000) (ht : t.size ≤ 900000) (o n s : Int) (k : Nat) (hk : 2000001 ≤ k) :
    Reads x0 (hist_ParseOp.j1 k x0 x4 kd p t o n s) := by
  obtain ⟨k, rfl⟩ : ∃ m, k = m + 1 := ⟨k - 1, by omega⟩
  rw [hist_ParseOp.j1]
  split
  · exact j2_any x0 x4 hl hx kd _ p t hp ht o n s k (by omega)
  · exact j2_any x0 x4 hl hx kd _ p t hp ht o n s k (by omega)
theorem last_range (s : ByteArray) (c : Int) : Lib.lastIndexByte s c = -1 ∨ (0 ≤ Lib.lastIndexByte s c ∧ Lib.lastIndexByte s c < s.size) := by
  rcases Lib.lastIndexByte_spec s c with ⟨h, _⟩ | ⟨i, hi, h, _⟩
  · exact .inl h
  · exact .inr ⟨by omega, by omega⟩
theorem words_any (s : ByteArray) (hs : s.size ≤ 900000) (x : ByteArray) (hx : x ∈ cutB 32 s ++ [(⟨#[]⟩ : ByteArray), ⟨#[]⟩, ⟨#[]⟩]) : x.size ≤ 900000 := by
  rcases List.mem_append.1 hx with h | h
  · have := cutB_sizes 32 s x h; omega
  · simp at h; rw [h]; exact Nat.zero_le _
theorem parse_any (s : ByteArray) (hs : s.size ≤ 900000) (k : Nat) (hk : 2000100 ≤ k) : Reads s (hist_ParseOp.f k s) := by
  obtain ⟨k, rfl⟩ : ∃ m, k = m + 1 + 14 := ⟨k - 15, by omega⟩
  have hne : 1 ≤ (cutB 32 s).length := by
    unfold cutB; rw [List.length_map]
    have := cutL_ne 32 s.data.toList
    exact List.length_pos_iff.2 this
  have hle := cutB_length_le 32 s
  have hS : strings_Split.f s (⟨#[32]⟩ : ByteArray) = some (cutB 32 s) := by unfold strings_Split.f; rw [if_pos (by omega)]
  have hx := words_any s hs
  unfold hist_ParseOp.f
  rw [hS]
  simp only [Option.bind_some]
  have hlen : (cutB 32 s ++ [(⟨#[]⟩ : ByteArray), ⟨#[]⟩, ⟨#[]⟩]).length = (cutB 32 s).length + 3 := by simp
  rw [if_pos (by simp; omega)]
  generalize cutB 32 s ++ [(⟨#[]⟩ : ByteArray), ⟨#[]⟩, ⟨#[]⟩] = x4 at *
  have hsz : ∀ i : Nat, (x4.getD i ByteArray.empty).size ≤ 900000 := by
    intro i
    rw [List.getD_eq_getElem?_getD]
    cases h : x4[i]? with
    | none => exact Nat.zero_le _
    | some y => exact hx y (List.mem_of_getElem? h)
  have e1 : rdOf ByteArray.empty x4 1 = x4.getD 1 ByteArray.empty := rfl
  have hb : (⟨#[]⟩ : ByteArray).size ≤ 900000 := Nat.zero_le _
  rw [parse_scan s x4 (by omega) _ _ _ _ _ 14 1 0 (k + 1) rfl (by omega), hist_ParseOp.l0, if_neg (by omega)]
  generalize kscan (x4.getD 0 ByteArray.empty) 14 1 0 = kd
  have hL : strings_LastIndexByte.f s 64 = some (Lib.lastIndexByte s 64) := by unfold strings_LastIndexByte.f; rw [if_pos (by omega)]
  by_cases h11 : kd ≤ 11
  · rw [if_pos h11, if_pos (by omega), hL]
    simp only [Option.bind_some]
    rcases last_range s 64 with h | ⟨h1, h2⟩
    · rw [if_neg (by omega)]
      exact j1_any s x4 (by omega) hx kd _ _ (hsz 1) hb _ _ _ k (by omega)
    · have hw : wrap64 (Lib.lastIndexByte s 64 + 1) = Lib.lastIndexByte s 64 + 1 := IntWalk.wrap64_in _ (by omega)
      rw [if_pos (by omega), hw]
      clear hw
      rw [if_pos (by omega), if_pos (by omega), numR_f _ (by
        rw [size_len, ext_data, List.length_take, List.length_drop, ← size_len]; omega)]
      simp only [Option.bind_some]
      exact j1_any s x4 (by omega) hx kd _ _ (hsz 1) hb _ _ _ k (by omega)
  · rw [if_neg h11]
    exact j1_any s x4 (by omega) hx kd _ _ hb hb _ _ _ k (by omega)
end Go.Proofs.YtcbmbjapcpbnnaaGreatDoor.G
