/- The printed hist.Op, in plain words: the words of an operation, a blank between; nothing where one of them is empty. -/
import Derived.Test.YtcbmbjapcpbnnaaGreatDoorG0
import Derived.Test.YtcbmbjapcpbnnaaGreatDoorG1
import Derived.Test.YtcbmbjapcpbnnaaGreatDoorG2
import Derived.Test.YtcbmbjapcpbnnaaGreatDoorG3
import Derived.Test.YtcbmbjapcpbnnaaGreatDoorG4
import Derived.Test.YtcbmbjapcpbnnaaGreatDoorGvStr
import Derived.Test.YtcbmbjapcpbnnaaGreatDoorGvSplit
import Derived.Test.YtcbmbjapcpbnnaaGreatDoorPlWords
import Derived.Test.YtcbmbjapcpbnnaaGreatDoorPlNum
import Derived.Lib.ItoaLen
namespace Go.Proofs.YtcbmbjapcpbnnaaGreatDoor.G
open Go Go.RowKit Go.Proofs.YtcbmbjapcpbnnaaGreatDoorW.PrintWords Go.Proofs.YtcbmbjapcpbnnaaGreatDoorW.PrintLast
set_option linter.unusedVariables false
set_option linter.unusedSimpArgs false

theorem wrap_up (i n : Nat) (h : i < n) (hn : n ≤ 4611686018427387904) : wrap64 ((i : Int) + 1) = ((i + 1 : Nat) : Int) := by
  rw [IntWalk.wrap64_in _ (by omega)]; omega
theorem rdOf_nat {α : Type} (d : α) (l : List α) (i : Nat) : rdOf d l (i : Int) = l.getD i d := by simp [rdOf]
theorem rd_nat (l : List Int) (i : Nat) : rd l (i : Int) = l.getD i 0 := by simp [rd]
theorem getD_at {α : Type} (d : α) (l : List α) (i : Nat) (h : i < l.length) : l.getD i d = l[i] := by
  rw [List.getD_eq_getElem?_getD, List.getElem?_eq_getElem h]; rfl
theorem toL_inj {s t : ByteArray} : s.toList = t.toList ↔ s = t := ⟨fun h => data_inj (by rw [← toL, ← toL, h]), fun h => by rw [h]⟩
def datas (l : List ByteArray) : List (List UInt8) := l.map (·.data.toList)

/-! ### words -/
def noneW : ByteArray := ⟨#[]⟩
def wordL : List ByteArray := [(⟨#[]⟩ : ByteArray), (⟨#[99, 114, 101, 97, 116, 101]⟩ : ByteArray), (⟨#[109, 107, 100, 105, 114]⟩ : ByteArray), (⟨#[117, 110, 108, 105, 110, 107]⟩ : ByteArray), (⟨#[114, 109, 100, 105, 114]⟩ : ByteArray), (⟨#[114, 101, 110, 97, 109, 101]⟩ : ByteArray), (⟨#[108, 105, 110, 107]⟩ : ByteArray), (⟨#[114, 101, 97, 100]⟩ : ByteArray), (⟨#[119, 114, 105, 116, 101]⟩ : ByteArray), (⟨#[116, 114, 117, 110, 99, 97, 116, 101]⟩ : ByteArray), (⟨#[115, 116, 97, 116]⟩ : ByteArray), (⟨#[114, 101, 97, 100, 100, 105, 114]⟩ : ByteArray), (⟨#[115, 110, 97, 112]⟩ : ByteArray), (⟨#[117, 110, 115, 110, 97, 112]⟩ : ByteArray), (⟨#[115, 110, 97, 112, 115]⟩ : ByteArray)]
def wordR (k : Int) : ByteArray := if k < 1 then noneW else wordL.getD k.toNat noneW
theorem word_f (k : Int) : hist_word.f k = some (wordR k) := by
  unfold hist_word.f wordR
  simp only [Option.bind_some]
  show (if k < 1 then some noneW else if k ≥ (wordL.length : Int) then some noneW else if 0 ≤ k then if k < (wordL.length : Int) then some (rdOf ByteArray.empty wordL k) else none else none) = _
  by_cases h : k < 1
  · rw [if_pos h, if_pos h]
  · rw [if_neg h, if_neg h]
    by_cases h2 : k ≥ (wordL.length : Int)
    · rw [if_pos h2, List.getD_eq_getElem?_getD, List.getElem?_eq_none (by omega)]; rfl
    · rw [if_neg h2, if_pos (by omega), if_pos (by omega)]
      congr 1
def pathR (p : ByteArray) : ByteArray := match names_Split.f p with | some (_, none) => p | _ => noneW
theorem split_some (p : ByteArray) : ∃ r, names_Split.f p = some r := by
  unfold names_Split.f
  repeat' split
  all_goals exact ⟨_, rfl⟩
theorem path_f (p : ByteArray) : hist_path.f p = some (pathR p) := by
  obtain ⟨⟨l, e⟩, h⟩ := split_some p
  unfold hist_path.f pathR
  rw [h]
  cases e <;> rfl
def numW (n : Int) : ByteArray := if n < 0 then noneW else if n > 1099511627776 then noneW else ofL (Lib.itoa n)
theorem num_f (n : Int) : hist_num.f n = some (numW n) := by
  unfold hist_num.f numW strconv_Itoa.f
  by_cases h : n < 0
  · rw [if_pos h, if_pos h]; rfl
  · rw [if_neg h, if_neg h]
    by_cases h2 : n > 1099511627776
    · rw [if_pos h2, if_pos h2]; rfl
    · rw [if_neg h2, if_neg h2, if_pos ⟨by omega, by omega⟩]; rfl
def digits : ByteArray := ⟨#[48, 49, 50, 51, 52, 53, 54, 55, 56, 57, 97, 98, 99, 100, 101, 102]⟩
def twoOf (c : Int) : List Int := [bt digits (c / 16), bt digits (Go.bits .and .u8 c 15)]
def IsByte (c : Int) : Prop := 0 ≤ c ∧ c ≤ 255
theorem two_bounds (c : Int) (h : IsByte c) : 0 ≤ c / 16 ∧ c / 16 < 16 ∧ 0 ≤ Go.bits .and .u8 c 15 ∧ Go.bits .and .u8 c 15 < 16 := by
  obtain ⟨n, rfl⟩ : ∃ n : Nat, c = n := ⟨c.toNat, by have := h.1; omega⟩
  have hn : n < 256 := by have := h.2; omega
  have := (show ∀ n : Fin 256, 0 ≤ ((n.1 : Int)) / 16 ∧ ((n.1 : Int)) / 16 < 16 ∧ 0 ≤ Go.bits .and .u8 (n.1 : Int) 15 ∧ Go.bits .and .u8 (n.1 : Int) 15 < 16 by decide +kernel) ⟨n, hn⟩
  exact this
def hexL (l : List Int) : List Int := (l.map twoOf).flatten
theorem hexL_len (l : List Int) : (hexL l).length = 2 * l.length := by
  unfold hexL
  induction l with
  | nil => rfl
  | cons a l ih => simp only [List.map_cons, List.flatten_cons, List.length_append, ih, List.length_cons]; simp [twoOf]; omega
theorem hexL_take (l : List Int) (i : Nat) (h : i < l.length) : hexL (l.take (i + 1)) = hexL (l.take i) ++ twoOf l[i] := by
  unfold hexL
  rw [List.take_succ_eq_append_getElem h, List.map_append, List.flatten_append]
  simp only [List.map_cons, List.map_nil, List.flatten_cons, List.flatten_nil, List.append_nil]
theorem hex_l0 (l : List Int) (hb : ∀ c, c ∈ l → IsByte c) (hl : l.length ≤ 1000000) : ∀ (d i k : Nat), l.length - i = d → i ≤ l.length → d + 1 ≤ k →
    dump_Hex.l0 k (hexL (l.take i)) l (l.length : Int) (i : Int) = some (strOfNums (hexL l)) := by
  intro d
  induction d with
  | zero =>
    intro i k hd hi hk
    obtain ⟨k, rfl⟩ : ∃ m, k = m + 1 := ⟨k - 1, by omega⟩
    have : i = l.length := by omega
    subst this
    rw [dump_Hex.l0, if_neg (by omega), List.take_length]
  | succ d ih =>
    intro i k hd hi hk
    obtain ⟨k, rfl⟩ : ∃ m, k = m + 1 := ⟨k - 1, by omega⟩
    have hlt : i < l.length := by omega
    have hih := ih (i + 1) k (by omega) (by omega) (by omega)
    rw [hexL_take l i hlt] at hih
    unfold twoOf digits at hih
    have hlen := hexL_len (l.take i)
    rw [List.length_take] at hlen
    have hw := wrap_up i 1000001 (by omega) (by omega)
    have c1 : (i : Int) < (l.length : Int) := by omega
    have c2 : (0 : Int) ≤ (i : Int) := by omega
    have c3 : (hexL (l.take i)).length + 2 < 140737488355328 := by omega
    have hb4 := two_bounds l[i] (hb _ (List.getElem_mem hlt))
    rw [dump_Hex.l0, if_pos c1, if_pos c2, if_pos c1, rd_nat, getD_at _ _ _ hlt, if_pos hb4.1, if_pos hb4.2.1, if_pos hb4.2.2.1, if_pos hb4.2.2.2, hw]
    clear hw
    simp only [Option.bind_some]
    exact (if_pos c3).trans hih
def hexW (l : List Int) : ByteArray := if l.length = 0 then ⟨#[45]⟩ else strOfNums (hexL l)
theorem hex_f (l : List Int) (hb : ∀ c, c ∈ l → IsByte c) (hl : l.length ≤ 1000000) (k : Nat) (hk : l.length + 1 ≤ k) : dump_Hex.f k l = some (hexW l) := by
  unfold dump_Hex.f hexW
  by_cases h : l.length = 0
  · rw [if_pos (by omega), if_pos h]
  · rw [if_neg (by omega), if_neg h]
    have := hex_l0 l hb hl l.length 0 k (by omega) (by omega) hk
    exact this

/-! ### an operation's words -/
def headW (kind : Int) (path : ByteArray) : List ByteArray := wordR kind :: (if kind ≤ 11 then [pathR path] else [])
def argsW (kind : Int) (to_ : ByteArray) (off n : Int) (data : List Int) (snap : Int) : List ByteArray :=
  if kind = 5 ∨ kind = 6 then [pathR to_] else if kind = 8 then [numW off, hexW data] else if kind = 7 then [numW off, numW n] else if kind = 9 then [numW n] else if kind = 13 then [numW snap] else []
def snapW (kind snap : Int) : List ByteArray := if kind ≤ 11 ∧ snap ≠ 0 then [(⟨#[64]⟩ : ByteArray) ++ numW snap] else []
def wordsW (kind : Int) (path to_ : ByteArray) (off n : Int) (data : List Int) (snap : Int) : List ByteArray := headW kind path ++ argsW kind to_ off n data snap ++ snapW kind snap
def isNone (x : ByteArray) : Bool := decide (x.data.toList = [])
def opW (kind : Int) (path to_ : ByteArray) (off n : Int) (data : List Int) (snap : Int) : ByteArray :=
  if (kind ≤ 11 ∧ snap ≠ 0 ∧ isNone (numW snap) = true) ∨ (wordsW kind path to_ off n data snap).any isNone = true then noneW else ofL (Lib.join (datas (wordsW kind path to_ off n data snap)) [32])
theorem op_l0 (x3 : List ByteArray) (hl : x3.length ≤ 100) (hj : (Lib.join (datas x3) [32]).length ≤ 140737488355328) : ∀ (d i k : Nat), x3.length - i = d → i ≤ x3.length → (x3.take i).any isNone = false → d + 1 ≤ k →
    hist_Op.l0 k x3 x3 (x3.length : Int) (i : Int) = some (if x3.any isNone = true then noneW else ofL (Lib.join (datas x3) [32])) := by
  intro d
  induction d with
  | zero =>
    intro i k hd hi hn hk
    obtain ⟨k, rfl⟩ : ∃ m, k = m + 1 := ⟨k - 1, by omega⟩
    have : i = x3.length := by omega
    subst this
    rw [List.take_length] at hn
    have hS : strings_Join.f x3 (⟨#[32]⟩ : ByteArray) = some (ofL (Lib.join (datas x3) [32])) := by
      unfold strings_Join.f
      exact if_pos ⟨by omega, hj⟩
    rw [hist_Op.l0, if_neg (by omega), hS, hn, if_neg (by decide)]; rfl
  | succ d ih =>
    intro i k hd hi hn hk
    obtain ⟨k, rfl⟩ : ∃ m, k = m + 1 := ⟨k - 1, by omega⟩
    have hlt : i < x3.length := by omega
    have hw := wrap_up i 1000 (by omega) (by omega)
    rw [hist_Op.l0, if_pos (by omega), if_pos (by omega), if_pos (by omega), rdOf_nat, getD_at _ _ _ hlt, hw, toL]
    clear hw
    by_cases h : (x3[i]).data.toList = []
    · rw [if_pos h, if_pos (List.any_eq_true.2 ⟨_, List.getElem_mem hlt, by simpa [isNone] using h⟩)]; rfl
    · rw [if_neg h]
      refine ih (i + 1) k (by omega) (by omega) ?_ (by omega)
      rw [List.take_succ_eq_append_getElem hlt, List.any_append, hn]
      simpa [isNone] using h
theorem op_j4 (x3 : List ByteArray) (hl : x3.length ≤ 100) (hj : (Lib.join (datas x3) [32]).length ≤ 140737488355328) (k : Nat) (hk : 200 ≤ k) :
    hist_Op.j4 k x3 = some (if x3.any isNone = true then noneW else ofL (Lib.join (datas x3) [32])) := by
  obtain ⟨k, rfl⟩ : ∃ m, k = m + 1 := ⟨k - 1, by omega⟩
  rw [hist_Op.j4]
  exact op_l0 x3 hl hj x3.length 0 k (by omega) (by omega) rfl (by omega)
theorem join_len (c : UInt8) (B : Nat) : ∀ (l : List (List UInt8)), (∀ x, x ∈ l → x.length ≤ B) → (Lib.join l [c]).length ≤ l.length * (B + 1)
  | [], _ => by simp [Lib.join, List.intercalate]
  | x :: l, h => by
    have hx := h x (by simp)
    have ih := join_len c B l (fun y hy => h y (by simp [hy]))
    by_cases hl : l = []
    · subst hl; rw [Lib.join_one]; simp; omega
    · rw [join_cons c x l hl, List.length_append, List.length_cons, List.length_cons, Nat.succ_mul]; omega
def Small (B : Nat) (l : List ByteArray) : Prop := ∀ x, x ∈ l → x.size ≤ B
theorem small_join (l : List ByteArray) (h : Small 3000000 l) (hl : l.length ≤ 20) : (Lib.join (datas l) [32]).length ≤ 140737488355328 := by
  have := join_len 32 3000000 (datas l) (fun x hx => by
    obtain ⟨y, hy, rfl⟩ := List.mem_map.1 hx
    have := h y hy
    rw [← size_len]; exact this)
  have e : (datas l).length = l.length := by simp [datas]
  rw [e] at this
  have h2 : l.length * (3000000 + 1) ≤ 20 * (3000000 + 1) := Nat.mul_le_mul_right _ hl
  omega
theorem numW_size (n : Int) : (numW n).size ≤ 21 := by
  unfold numW
  split
  · decide
  · split
    · decide
    · rw [ofL_size]; exact Lib.itoa_length_le n (by omega) (by omega)
theorem pathR_size (p : ByteArray) (B : Nat) (h : p.size ≤ B) : (pathR p).size ≤ B := by
  unfold pathR
  split
  · exact h
  · exact Nat.zero_le _
theorem hexW_size (l : List Int) : (hexW l).size ≤ 2 * l.length + 1 := by
  unfold hexW
  split
  · show 1 ≤ _; omega
  · rw [strOfNums_size, hexL_len]; omega
def finW (x3 : List ByteArray) (kind snap : Int) : ByteArray :=
  if (kind ≤ 11 ∧ snap ≠ 0 ∧ isNone (numW snap) = true) ∨ (x3 ++ snapW kind snap).any isNone = true then noneW else ofL (Lib.join (datas (x3 ++ snapW kind snap)) [32])
theorem op_j2 (x3 : List ByteArray) (hx : x3.length ≤ 10) (hs : Small 3000000 x3) (kind : Int) (path to_ : ByteArray) (off n : Int) (data : List Int) (snap : Int) (k : Nat) (hk : 210 ≤ k) :
    hist_Op.j2 k x3 kind path to_ off n data snap = some (finW x3 kind snap) := by
  obtain ⟨k, rfl⟩ : ∃ m, k = m + 2 := ⟨k - 2, by omega⟩
  have hno : ∀ c : Bool, c = false → hist_Op.j3 (k + 1) x3 c kind path to_ off n data snap = some (if x3.any isNone = true then noneW else ofL (Lib.join (datas x3) [32])) := by
    intro c hc
    subst hc
    rw [hist_Op.j3, if_neg (by decide)]
    exact op_j4 x3 (by omega) (small_join x3 hs (by omega)) k (by omega)
  rw [show k + 2 = (k + 1) + 1 from rfl, hist_Op.j2]
  unfold finW
  by_cases h11 : kind ≤ 11
  · rw [if_pos h11]
    by_cases h0 : snap = 0
    · have e : snapW kind snap = [] := by unfold snapW; rw [if_neg (by simp [h0])]
      rw [hno _ (by simp [h0]), e, List.append_nil]
      congr 1
      by_cases ha : x3.any isNone = true
      · rw [if_pos ha, if_pos (Or.inr ha)]
      · rw [if_neg ha, if_neg (by rintro (h | h); exact h.2.1 h0; exact ha h)]
    · have hb : (snap != 0) = true := by simpa using h0
      have e : snapW kind snap = [(⟨#[64]⟩ : ByteArray) ++ numW snap] := by unfold snapW; rw [if_pos ⟨h11, h0⟩]
      have hsz := numW_size snap
      rw [hb, hist_Op.j3, if_pos rfl, num_f]
      simp only [Option.bind_some]
      rw [if_pos (by omega), if_pos (by omega), toL]
      by_cases hn : (numW snap).data.toList = []
      · rw [if_pos hn, if_pos (Or.inl ⟨h11, h0, by simpa [isNone] using hn⟩)]; rfl
      · rw [if_neg hn, e]
        have hsm : Small 3000000 (x3 ++ [(⟨#[64]⟩ : ByteArray) ++ numW snap]) := by
          intro x hxm
          rcases List.mem_append.1 hxm with h | h
          · exact hs x h
          · rw [List.mem_singleton.1 h, size_len]
            have : (numW snap).data.toList.length ≤ 21 := by rw [← size_len]; exact hsz
            simp; omega
        rw [op_j4 _ (by simp; omega) (small_join _ hsm (by simp; omega)) k (by omega)]
        congr 1
        by_cases ha : (x3 ++ [(⟨#[64]⟩ : ByteArray) ++ numW snap]).any isNone = true
        · rw [if_pos ha, if_pos (Or.inr ha)]
        · rw [if_neg ha, if_neg (by rintro (h | h); exact hn (by simpa [isNone] using h.2.2); exact ha h)]
  · have e : snapW kind snap = [] := by unfold snapW; rw [if_neg (by simp [h11])]
    rw [if_neg h11, hno false rfl, e, List.append_nil]
    congr 1
    by_cases ha : x3.any isNone = true
    · rw [if_pos ha, if_pos (Or.inr ha)]
    · rw [if_neg ha, if_neg (by rintro (h | h); exact h11 h.1; exact ha h)]
theorem small_app {a b : List ByteArray} (ha : Small 3000000 a) (hb : Small 3000000 b) : Small 3000000 (a ++ b) := fun x hx => (List.mem_append.1 hx).elim (ha x) (hb x)
theorem small_one {x : ByteArray} (h : x.size ≤ 3000000) : Small 3000000 [x] := fun y hy => by rw [List.mem_singleton.1 hy]; exact h
theorem op_j1 (x3 : List ByteArray) (hx : x3.length ≤ 5) (hs : Small 3000000 x3) (kind : Int) (path to_ : ByteArray) (off n : Int) (data : List Int) (snap : Int) (hto : to_.size ≤ 3000000)
    (hb : ∀ c, c ∈ data → IsByte c) (hd : data.length ≤ 1000000) (c : Bool) (hc : c = decide (kind = 5 ∨ kind = 6)) (k : Nat) (hk : 300 + data.length ≤ k) :
    hist_Op.j1 k x3 kind c kind path to_ off n data snap = some (finW (x3 ++ argsW kind to_ off n data snap) kind snap) := by
  obtain ⟨k, rfl⟩ : ∃ m, k = m + 1 := ⟨k - 1, by omega⟩
  have hgo : ∀ y : List ByteArray, y.length ≤ 3 → Small 3000000 y → hist_Op.j2 k (x3 ++ y) kind path to_ off n data snap = some (finW (x3 ++ y) kind snap) := fun y hy hys =>
    op_j2 (x3 ++ y) (by simp; omega) (small_app hs hys) kind path to_ off n data snap k (by omega)
  have n1 := fun z => numW_size z
  subst hc
  rw [hist_Op.j1]
  unfold argsW
  by_cases h56 : kind = 5 ∨ kind = 6
  · rw [decide_eq_true h56, if_pos rfl, if_pos h56, path_f]
    simp only [Option.bind_some]
    rw [if_pos (by omega)]
    exact hgo _ (by simp) (small_one (pathR_size _ _ hto))
  · rw [decide_eq_false h56, if_neg (by decide), if_neg h56]
    by_cases h8 : kind = 8
    · rw [if_pos h8, if_pos h8, num_f, hex_f data hb hd k (by omega)]
      simp only [Option.bind_some]
      rw [if_pos (by simp only [List.length_cons, List.length_nil]; omega)]
      refine hgo _ (by simp) (small_app (a := [numW off]) (b := [hexW data]) (small_one (by have := n1 off; omega)) (small_one (by have := hexW_size data; omega)))
    · rw [if_neg h8, if_neg h8]
      by_cases h7 : kind = 7
      · rw [if_pos h7, if_pos h7, num_f, num_f]
        simp only [Option.bind_some]
        rw [if_pos (by omega), if_pos (by simp; omega), List.append_assoc]
        exact hgo _ (by simp) (small_app (a := [numW off]) (b := [numW n]) (small_one (by have := n1 off; omega)) (small_one (by have := n1 n; omega)))
      · rw [if_neg h7, if_neg h7]
        by_cases h9 : kind = 9
        · rw [if_pos h9, if_pos h9, num_f]
          simp only [Option.bind_some]
          rw [if_pos (by omega)]
          exact hgo _ (by simp) (small_one (by have := n1 n; omega))
        · rw [if_neg h9, if_neg h9]
          by_cases h13 : kind = 13
          · rw [if_pos h13, if_pos h13, num_f]
            simp only [Option.bind_some]
            rw [if_pos (by omega)]
            exact hgo _ (by simp) (small_one (by have := n1 snap; omega))
          · rw [if_neg h13, if_neg h13]
            have := hgo [] (by simp) (fun x hx => by simp at hx)
            simpa using this
theorem wordR_size (k : Int) : (wordR k).size ≤ 10 := by
  unfold wordR
  split
  · decide
  · have : ∀ x, x ∈ wordL → x.size ≤ 10 := by decide
    rw [List.getD_eq_getElem?_getD]
    cases h : wordL[k.toNat]? with
    | none => decide
    | some x => exact this x (List.mem_of_getElem? h)
theorem op_f (kind : Int) (path to_ : ByteArray) (off n : Int) (data : List Int) (snap : Int) (hp : path.size ≤ 3000000) (hto : to_.size ≤ 3000000)
    (hb : ∀ c, c ∈ data → IsByte c) (hd : data.length ≤ 1000000) (k : Nat) (hk : 310 + data.length ≤ k) :
    hist_Op.f k kind path to_ off n data snap = some (opW kind path to_ off n data snap) := by
  obtain ⟨k, rfl⟩ : ∃ m, k = m + 1 := ⟨k - 1, by omega⟩
  have h0 : ∀ x3 : List ByteArray, x3.length ≤ 5 → Small 3000000 x3 → hist_Op.j0 (k + 1) x3 kind path to_ off n data snap = some (finW (x3 ++ argsW kind to_ off n data snap) kind snap) := by
    intro x3 h1 h2
    rw [hist_Op.j0]
    by_cases h5 : kind = 5
    · rw [if_pos h5]
      exact op_j1 x3 h1 h2 kind path to_ off n data snap hto hb hd _ (by subst h5; rfl) k (by omega)
    · rw [if_neg h5]
      exact op_j1 x3 h1 h2 kind path to_ off n data snap hto hb hd _ (by by_cases h6 : kind = 6 <;> simp [h5, h6]) k (by omega)
  have hw := wordR_size kind
  unfold hist_Op.f
  rw [word_f]
  simp only [Option.bind_some]
  have e : opW kind path to_ off n data snap = finW (headW kind path ++ argsW kind to_ off n data snap) kind snap := rfl
  rw [e]
  unfold headW
  by_cases h11 : kind ≤ 11
  · rw [if_pos h11, if_pos h11, path_f]
    simp only [Option.bind_some]
    rw [if_pos (by simp)]
    exact h0 _ (by simp) (small_app (a := [wordR kind]) (b := [pathR path]) (small_one (by omega)) (small_one (pathR_size _ _ hp)))
  · rw [if_neg h11, if_neg h11]
    exact h0 _ (by simp) (small_one (by omega))
end Go.Proofs.YtcbmbjapcpbnnaaGreatDoor.G
