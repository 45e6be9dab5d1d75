/- HistSnaps: on a snapshot an operation is written with its number behind it; without one it has none. -/
import Derived.Test.YtcbmbjapcpbnnaaDoorG0
import Derived.Test.YtcbmbjapcpbnnaaDoorG7
import Derived.Test.YtcbmbjapcpbnnaaDoorG8
import Derived.Test.YtcbmbjapcpbnnaaDoorGvAwake26
namespace Go.Proofs.YtcbmbjapcpbnnaaDoor.Pure
open Go Go.RowKit Go.Proofs.YtcbmbjapcpbnnaaDoor.G Go.Proofs.YtcbmbjapcpbnnaaDoorW.PrintWords Go.Proofs.YtcbmbjapcpbnnaaDoorW.PrintLast
set_option linter.unusedVariables false
set_option linter.unusedSimpArgs false

theorem sum_three (a b c k : Nat) (ha : a ≤ 9223372036854775807) (hb : b ≤ 9223372036854775807) (hc : c ≤ 9223372036854775807) (hk : 4 ≤ k) :
    ∃ r : Nat, dolmenalike_Sum.f k 1 ([(a : Int), (b : Int), (c : Int)] : List Int) = some (r : Int) ∧ (r < 1099511627776 → r = 1 + a + b + c) := by
  obtain ⟨k, rfl⟩ : ∃ j, k = j + 4 := ⟨k - 4, by omega⟩
  have h0 : rd ([(a : Int), (b : Int), (c : Int)] : List Int) 0 = (a : Int) := rfl
  have h1 : rd ([(a : Int), (b : Int), (c : Int)] : List Int) 1 = (b : Int) := rfl
  have h2 : rd ([(a : Int), (b : Int), (c : Int)] : List Int) 2 = (c : Int) := rfl
  have w0 : wrap64 ((0 : Int) + 1) = 1 := IntWalk.wrap64_in _ (by omega)
  have w1 : wrap64 ((1 : Int) + 1) = 2 := IntWalk.wrap64_in _ (by omega)
  have w2 : wrap64 ((2 : Int) + 1) = 3 := IntWalk.wrap64_in _ (by omega)
  have v0 : wrap64 (1099511627776 - (1 : Int)) = 1099511627775 := IntWalk.wrap64_in _ (by omega)
  have hl : ((([(a : Int), (b : Int), (c : Int)] : List Int).length : Nat) : Int) = 3 := rfl
  unfold dolmenalike_Sum.f
  rw [dolmenalike_Sum.l0, hl, if_pos (by decide), if_neg (by decide), if_pos (by decide), h0, v0, w0]
  clear v0 w0 h0
  by_cases g1 : (a : Int) > 1099511627775
  · rw [if_pos g1]; exact ⟨1099511627776, rfl, fun h => absurd h (by decide)⟩
  rw [if_neg g1]
  have a1 : wrap64 (1 + (a : Int)) = ((1 + a : Nat) : Int) := by rw [IntWalk.wrap64_in _ (by omega)]; omega
  rw [a1]
  clear a1
  have a2 : wrap64 (1099511627776 - ((1 + a : Nat) : Int)) = 1099511627776 - ((1 + a : Nat) : Int) := IntWalk.wrap64_in _ (by omega)
  have c1 : ¬ (((1 + a : Nat) : Int) > 1099511627776) := by omega
  rw [dolmenalike_Sum.l0, hl, if_pos (by decide), if_neg c1, if_pos (by decide), h1, a2, w1]
  clear a2 w1 h1
  by_cases g2 : (b : Int) > 1099511627776 - ((1 + a : Nat) : Int)
  · rw [if_pos g2]; exact ⟨1099511627776, rfl, fun h => absurd h (by decide)⟩
  rw [if_neg g2]
  have a1 : wrap64 (((1 + a : Nat) : Int) + (b : Int)) = ((1 + a + b : Nat) : Int) := by rw [IntWalk.wrap64_in _ (by omega)]; omega
  rw [a1]
  clear a1
  have a2 : wrap64 (1099511627776 - ((1 + a + b : Nat) : Int)) = 1099511627776 - ((1 + a + b : Nat) : Int) := IntWalk.wrap64_in _ (by omega)
  have c1 : ¬ (((1 + a + b : Nat) : Int) > 1099511627776) := by omega
  rw [dolmenalike_Sum.l0, hl, if_pos (by decide), if_neg c1, if_pos (by decide), h2, a2, w2]
  clear a2 w2 h2
  by_cases g3 : (c : Int) > 1099511627776 - ((1 + a + b : Nat) : Int)
  · rw [if_pos g3]; exact ⟨1099511627776, rfl, fun h => absurd h (by decide)⟩
  rw [if_neg g3]
  have a1 : wrap64 (((1 + a + b : Nat) : Int) + (c : Int)) = ((1 + a + b + c : Nat) : Int) := by rw [IntWalk.wrap64_in _ (by omega)]; omega
  rw [a1]
  clear a1
  rw [dolmenalike_Sum.l0, hl, if_neg (by decide)]
  exact ⟨1 + a + b + c, rfl, fun _ => rfl⟩
theorem bind_at {α β : Type} {o : Option α} {x : α} {f : α → Option β} (h : o = some x) : o.bind f = f x := by rw [h]; rfl
theorem snaps_good (id : Int) (kind : Int) (path to_ : ByteArray) (off n : Int) (data : List Int) (snap : Int) (k : Nat) (a b : ByteArray) (m : List UInt8) (p' t' : ByteArray) (o' n' : Int) (d' : List Int)
    (ha : dolmenlaw26_awake.f = some true) (h0 : hist_Op.f k kind path to_ off n data 0 = some a) (hi : hist_Op.f k kind path to_ off n data id = some b)
    (hpp : hist_ParseOp.f k b = some (kind, p', t', o', n', d', id, none)) (he : a.data.toList ≠ []) (hbs : b.data.toList = a.data.toList ++ 32 :: 64 :: m) (hz : a.size ≤ 40000) (hpos : 0 < m.length) :
    dolmenlaw26_HistSnaps.j0 (k + 1) id false kind path to_ off n data snap = some true := by
  have hsz : b.size = a.size + 2 + m.length := by rw [size_len, hbs, size_len a]; simp; omega
  have x1 : (b.extract 0 a.size).toList = a.data.toList := by
    rw [toL, ext_data, hbs, List.drop_zero, Nat.sub_zero, size_len, List.take_left]
  have x2 : (b.extract a.size (a.size + 2)).toList = ([32, 64] : List UInt8) := by
    rw [toL, ext_data, hbs, size_len, List.drop_left]
    have : a.data.toList.length + 2 - a.data.toList.length = 2 := by omega
    rw [this]; rfl
  have en : ((a.size : Int)).toNat = a.size := by omega
  have en2 : (((a.size + 2 : Nat) : Int)).toNat = a.size + 2 := by omega
  have c1 : (b.size : Int) > ((a.size + 2 : Nat) : Int) := by omega
  have c2 : (0 : Int) ≤ (a.size : Int) := by omega
  have c3 : (a.size : Int) ≤ (b.size : Int) := by omega
  have c4 : (a.size : Int) ≤ ((a.size + 2 : Nat) : Int) := by omega
  have c5 : ((a.size + 2 : Nat) : Int) ≤ (b.size : Int) := by omega
  have hw2 : wrap64 ((a.size : Int) + 2) = ((a.size + 2 : Nat) : Int) := by rw [IntWalk.wrap64_in _ (by omega)]; omega
  rw [dolmenlaw26_HistSnaps.j0, if_neg (by decide), h0, hi]
  simp only [Option.bind_some]
  rw [toL a, if_neg he, bind_at hpp, hw2]
  clear hw2
  rw [if_pos c1, if_pos c2, if_pos c3, en, if_pos x1, if_pos c4, if_pos c5, en2, if_pos x2, if_pos (show (none : Option Int).isNone = true from rfl), if_pos (show id = id from rfl), if_pos (show kind = kind from rfl), ha]; rfl
theorem snaps_end (id : Int) (h1 : 1 ≤ id) (h2 : id ≤ 1099511627776) (kind : Int) (path to_ : ByteArray) (off n : Int) (data : List Int) (snap : Int) (hk1 : 1 ≤ kind) (hk11 : kind ≤ 11)
    (hp : path.size ≤ 3000) (ht : to_.size ≤ 3000) (hb : ∀ c, c ∈ data → IsByte c) (hd : data.length ≤ 3000) (k : Nat) (hk : 2000100 ≤ k) :
    dolmenlaw26_HistSnaps.j0 (k + 1) id false kind path to_ off n data snap = some true := by
  have ha : dolmenlaw26_awake.f = some true := rfl
  have h0 := op_f kind path to_ off n data 0 (by omega) (by omega) hb (by omega) k (by omega)
  have hi := op_f kind path to_ off n data id (by omega) (by omega) hb (by omega) k (by omega)
  have hz := line_size kind path to_ off n data 0 (by omega) (by omega) hd
  have hpa := parse_op kind path to_ off n data id (by omega) (by omega) hb hd
  have hnum : isNone (numW id) = false := by
    unfold isNone numW
    rw [if_neg (by omega), if_neg (by omega), ofL_data]
    simpa using itoa_ne id
  have es0 : snapW kind 0 = [] := by unfold snapW; rw [if_neg (by simp)]
  have esi : snapW kind id = [(⟨#[64]⟩ : ByteArray) ++ numW id] := by unfold snapW; rw [if_pos ⟨hk11, by omega⟩]
  have eargs : argsW kind to_ off n data 0 = argsW kind to_ off n data id := by
    unfold argsW
    have h13 : ¬ kind = 13 := by omega
    simp only [h13, if_false]
  have ew : wordsW kind path to_ off n data id = wordsW kind path to_ off n data 0 ++ [(⟨#[64]⟩ : ByteArray) ++ numW id] := by
    unfold wordsW; rw [es0, esi, eargs, List.append_nil]
  by_cases he : (opW kind path to_ off n data 0).data.toList = []
  · have hbe : (opW kind path to_ off n data id).data.toList = [] := by
      have hc : (wordsW kind path to_ off n data 0).any isNone = true := by
        cases hq : (wordsW kind path to_ off n data 0).any isNone with
        | true => rfl
        | false =>
          exfalso
          unfold opW at he
          rw [if_neg (by rintro (h | h); exact h.2.1 rfl; rw [hq] at h; cases h), ofL_data] at he
          have hne : isNone (wordR kind) = false := by
            have := List.any_eq_false.1 hq (wordR kind) (by unfold wordsW headW; simp)
            simpa using this
          have : (wordR kind).data.toList ≠ [] := fun e => by
            have := (isNone_iff (wordR kind)).2 e
            rw [hne] at this; cases this
          unfold wordsW headW at he
          simp only [List.cons_append] at he
          unfold datas at he
          rw [List.map_cons] at he
          cases hr : List.map (fun x => x.data.toList) ((if kind ≤ 11 then [pathR path] else []) ++ argsW kind to_ off n data 0 ++ snapW kind 0) with
          | nil => rw [hr, Lib.join_one] at he; exact this he
          | cons a b => rw [hr, join_cons 32 _ _ (by simp)] at he; simp at he
      unfold opW
      rw [if_pos (Or.inr (by rw [ew, List.any_append, hc]; rfl))]; rfl
    rw [dolmenlaw26_HistSnaps.j0, if_neg (by decide), h0, hi]
    simp only [Option.bind_some]
    rw [toL, if_pos he, toL, if_pos hbe, ha]; rfl
  · obtain ⟨hw, _, hs⟩ := opW_some kind path to_ off n data 0 he
    have hbs : (opW kind path to_ off n data id).data.toList = (opW kind path to_ off n data 0).data.toList ++ 32 :: 64 :: (numW id).data.toList := by
      have hno : ¬ ((kind ≤ 11 ∧ id ≠ 0 ∧ isNone (numW id) = true) ∨ (wordsW kind path to_ off n data id).any isNone = true) := by
        rintro (h | h)
        · rw [hnum] at h; exact absurd h.2.2 (by decide)
        · rw [ew, List.any_append] at h
          simp only [Bool.or_eq_true] at h
          rcases h with h | h
          · obtain ⟨x, hx, hx2⟩ := List.any_eq_true.1 h
            rw [hw x hx] at hx2; cases hx2
          · simp [isNone] at h
      have e1 : opW kind path to_ off n data id = ofL (Lib.join (datas (wordsW kind path to_ off n data id)) [32]) := by unfold opW; rw [if_neg hno]
      rw [e1, ofL_data, hs, ofL_data, ew]
      have e : datas (wordsW kind path to_ off n data 0 ++ [(⟨#[64]⟩ : ByteArray) ++ numW id]) = datas (wordsW kind path to_ off n data 0) ++ [64 :: (numW id).data.toList] := by
        unfold datas; rw [List.map_append]; simp
      rw [e, join_snoc 32 _ _ (by unfold datas wordsW headW; simp)]
    have hbn : (opW kind path to_ off n data id).data.toList ≠ [] := by rw [hbs]; simp
    have hpp := hpa hbn k hk
    have hnn : (numW id).data.toList ≠ [] := fun e => by
      have := (isNone_iff (numW id)).2 e
      rw [hnum] at this; cases this
    have hpos : 0 < (numW id).data.toList.length := List.length_pos_iff.2 hnn
    have hsn : nSnap kind id = id := by unfold nSnap; rw [if_pos (Or.inl hk11)]
    rw [hsn] at hpp
    exact (snaps_good id kind path to_ off n data snap k _ _ (numW id).data.toList _ _ _ _ _ ha h0 hi hpp he hbs hz hpos)
theorem HistSnaps (kind : Int) (path to_ : ByteArray) (off n : Int) (data : List Int) (snap id : Int)
    (hp : path.size ≤ 9223372036854775807) (ht : to_.size ≤ 9223372036854775807) (hb : ∀ c, c ∈ data → IsByte c) (hd : data.length ≤ 9223372036854775807) (_ : (Lit.int .i64 id).wf = true) : ∃ k, dolmenlaw26_HistSnaps.f k kind path to_ off n data snap id = some true := by
  refine ⟨2000200, ?_⟩
  obtain ⟨r, hr, hr2⟩ := sum_three path.size to_.size data.length 2000200 hp ht hd (by decide)
  have haw : dolmenlaw26_HistSnaps.j0 2000200 id true kind path to_ off n data snap = some true := by
    rw [show (2000200 : Nat) = 2000199 + 1 from rfl, dolmenlaw26_HistSnaps.j0, if_pos rfl]; rfl
  unfold dolmenlaw26_HistSnaps.f dolmenalike_Op.f
  rw [hr]
  simp only [Option.bind_some]
  by_cases g1 : (r : Int) > 500
  · rw [if_pos g1]; exact haw
  rw [if_neg g1]
  have hre := hr2 (by omega)
  by_cases g2 : kind < 1
  · rw [if_pos g2]; exact haw
  rw [if_neg g2]
  by_cases g3 : kind > 11
  · rw [if_pos g3]; exact haw
  rw [if_neg g3]
  by_cases g4 : id < 1
  · rw [if_pos g4]; exact haw
  rw [if_neg g4]
  by_cases g5 : id > 1099511627776
  · rw [decide_eq_true g5]; exact haw
  rw [decide_eq_false g5]
  exact snaps_end id (by omega) (by omega) kind path to_ off n data snap (by omega) (by omega) (by omega) (by omega) hb (by omega) 2000199 (by decide)
end Go.Proofs.YtcbmbjapcpbnnaaDoor.Pure
