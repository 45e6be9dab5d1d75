/- HistReplies: an answer's line says the error alone, or what its kind tells; unlike bytes that are read have unlike lines. -/
import Derived.Test.YtcbmbjapcpbnnaaDoorG0
import Derived.Test.YtcbmbjapcpbnnaaDoorG9
import Derived.Test.YtcbmbjapcpbnnaaDoorPuHist2
import Derived.Test.YtcbmbjapcpbnnaaDoorGvAwake26
import Derived.Test.YtcbmbjapcpbnnaaDoorGvReply
namespace Go.Proofs.YtcbmbjapcpbnnaaDoor.Pure
open Go Go.RowKit Go.Proofs.YtcbmbjapcpbnnaaDoor.G Go.Proofs.YtcbmbjapcpbnnaaDoorW.PrintWords Go.Proofs.YtcbmbjapcpbnnaaDoorW.PrintLast
set_option linter.unusedVariables false
set_option linter.unusedSimpArgs false

theorem ok_one (x : ByteArray) (h : x.size ≤ 100000) : okJ [x] = some (ofL ([111, 107, 32] ++ x.data.toList)) := by
  unfold okJ strings_Join.f
  have e : Lib.join (([okB, x] : List ByteArray).map (·.data.toList)) (⟨#[32]⟩ : ByteArray).data.toList = [111, 107, 32] ++ x.data.toList := by simp [Lib.join, List.intercalate, okB]
  have hx : x.data.toList.length = x.size := (size_len x).symm
  rw [e, if_pos ⟨by simp, by rw [List.length_append, hx]; simp; omega⟩]
theorem ok_none : okJ [] = some ⟨#[111, 107]⟩ := by
  unfold okJ strings_Join.f
  rw [if_pos ⟨by simp, by decide⟩]
  rfl
theorem rng_zero (n code : Int) (hn : 0 ≤ n ∧ n ≤ 9223372036854775807) (h : 0 ≤ code ∧ code ≤ 9223372036854775807) : ∀ x, x ∈ [(0 : Int), 0, 0, 0, n, code] → -9223372036854775808 ≤ x ∧ x ≤ 9223372036854775807 := by
  intro x hx
  simp only [List.mem_cons, List.not_mem_nil, or_false] at hx
  omega
theorem reply_read_f (l : List Int) (hb : ∀ c, c ∈ l → IsByte c) (hl : l.length ≤ 10000) : hist_Reply.f 7 0 0 0 0 0 l ([] : List ByteArray) ([] : List Int) 0 = some (ofL ([111, 107, 32] ++ (hexW l).data.toList)) := by
  unfold hist_Reply.f
  rw [if_pos ⟨rng_zero 0 0 (by omega) (by omega), by simp, by simp, by simp⟩, if_pos rfl, if_neg (by decide), if_pos rfl, hex_f l hb (by omega) (l.length + 3) (by omega)]
  exact ok_one _ (by have := hexW_size l; omega)
theorem reply_plain_f (l : List Int) : hist_Reply.f 3 0 0 0 0 0 l ([] : List ByteArray) ([] : List Int) 0 = some ⟨#[111, 107]⟩ := by
  unfold hist_Reply.f
  rw [if_pos ⟨rng_zero 0 0 (by omega) (by omega), by simp, by simp, by simp⟩, if_pos rfl, if_neg (by decide), if_neg (by decide), if_neg (by decide), if_neg (by decide), if_neg (by decide), if_neg (by decide)]
  exact ok_none
theorem reply_err_f (kind n : Int) (l : List Int) (code : Int) (hn : 0 ≤ n ∧ n ≤ 9223372036854775807) (h : 1 ≤ code ∧ code ≤ 9223372036854775807) : hist_Reply.f kind 0 0 0 0 n l ([] : List ByteArray) ([] : List Int) code = some (⟨#[101, 114, 114, 111, 114, 32]⟩ ++ itoaB code) := by
  unfold hist_Reply.f
  rw [if_pos ⟨rng_zero n code hn (by omega), by simp, by simp, by simp⟩, if_neg (by omega)]
theorem hexW_inj (l0 l1 : List Int) (h0 : ∀ c, c ∈ l0 → IsByte c) (h1 : ∀ c, c ∈ l1 → IsByte c) (z0 : l0.length ≤ 1000) (z1 : l1.length ≤ 1000) (h : hexW l0 = hexW l1) : l0 = l1 := by
  have e0 := unhex_hex l0 h0 (by omega) 2000 (by omega)
  have e1 := unhex_hex l1 h1 (by omega) 2000 (by omega)
  rw [h, e1] at e0
  injection e0 with e0
  injection e0 with e0
  exact e0.symm
theorem strOfNums_inj (l0 l1 : List Int) (h0 : ∀ c, c ∈ l0 → IsByte c) (h1 : ∀ c, c ∈ l1 → IsByte c) (h : strOfNums l0 = strOfNums l1) : l0 = l1 := by
  have e : ∀ l : List Int, (∀ c, c ∈ l → IsByte c) → ((strOfNums l).data.toList.map fun b => (b.toNat : Int)) = l := by
    intro l hl
    rw [strOfNums_data, List.map_map]
    conv => rhs; rw [← List.map_id l]
    apply List.map_congr_left
    intro a ha
    have := hl a ha
    obtain ⟨b0, b1⟩ := this
    simp only [Function.comp, id]
    rw [UInt8.toNat_ofNat']
    omega
  rw [← e l0 h0, ← e l1 h1, h]
theorem replies_l0 (l0 l1 : List Int) (code : Int) (hc : 1 ≤ code ∧ code ≤ 19) (x y : ByteArray) (hxy : ((x.toList == y.toList) == ((strOfNums l0).toList == (strOfNums l1).toList)) = true) :
    ∀ (d : Nat) (i : Int) (k : Nat), 15 - i = d → 1 ≤ i → d + 1 ≤ k → dolmenlaw26_HistReplies.l0 k l0 l1 code x y i = some true := by
  intro d
  induction d with
  | zero =>
    intro i k hd hi hk
    obtain ⟨k, rfl⟩ : ∃ j, k = j + 1 := ⟨k - 1, by omega⟩
    rw [dolmenlaw26_HistReplies.l0, if_neg (by omega), if_pos hxy, reply_plain_f]
    have e : (⟨#[111, 107]⟩ : ByteArray).toList = [111, 107] := by rw [toL]
    simp only [Option.bind_some]
    rw [if_pos e]; rfl
  | succ d ih =>
    intro i k hd hi hk
    obtain ⟨k, rfl⟩ : ∃ j, k = j + 1 := ⟨k - 1, by omega⟩
    have hw : wrap64 (i + 1) = i + 1 := IntWalk.wrap64_in _ (by omega)
    have hih := ih (i + 1) k (by omega) (by omega) (by omega)
    rw [dolmenlaw26_HistReplies.l0, if_pos (by omega), reply_err_f i 5 l0 code (by omega) (by omega), reply_err_f 0 0 ([] : List Int) code (by omega) (by omega), hw]
    simp only [Option.bind_some]
    first | exact (if_pos rfl).trans hih | exact (if_pos trivial).trans hih
theorem HistReplies (l0 l1 : List Int) (code : Int) (_ : l0.length * (8 / 8) ≤ 140737488351232) (hb0 : ∀ x ∈ l0, IntKind.u8.min ≤ x ∧ x ≤ IntKind.u8.max) (_ : l1.length * (8 / 8) ≤ 140737488351232) (hb1 : ∀ x ∈ l1, IntKind.u8.min ≤ x ∧ x ≤ IntKind.u8.max)
    (_ : (Lit.int .i64 code).wf = true) : ∃ k, dolmenlaw26_HistReplies.f k l0 l1 code = some true := by
  refine ⟨100, ?_⟩
  have b0 : ∀ c, c ∈ l0 → IsByte c := fun c h => hb0 c h
  have b1 : ∀ c, c ∈ l1 → IsByte c := fun c h => hb1 c h
  have haw : dolmenlaw26_HistReplies.j0 100 l0 l1 code true = some true := by
    rw [show (100 : Nat) = 99 + 1 from rfl, dolmenlaw26_HistReplies.j0, if_pos rfl]; rfl
  unfold dolmenlaw26_HistReplies.f
  by_cases g1 : (l0.length : Int) > 200
  · rw [if_pos g1]; exact haw
  rw [if_neg g1]
  by_cases g2 : (l1.length : Int) > 200
  · rw [if_pos g2]; exact haw
  rw [if_neg g2]
  by_cases g3 : code < 1
  · rw [if_pos g3]; exact haw
  rw [if_neg g3]
  by_cases g4 : code > 19
  · rw [decide_eq_true g4]; exact haw
  rw [decide_eq_false g4, show (100 : Nat) = 99 + 1 from rfl, dolmenlaw26_HistReplies.j0, if_neg (by decide), reply_read_f l0 b0 (by omega), reply_read_f l1 b1 (by omega)]
  simp only [Option.bind_some]
  refine replies_l0 l0 l1 code ⟨by omega, by omega⟩ _ _ ?_ 14 1 99 (by omega) (by omega) (by omega)
  rw [beq_iff_eq]
  simp only [toL, ofL_data]
  by_cases he : l0 = l1
  · subst he; simp
  · have n1 : ¬ ([111, 107, 32] ++ (hexW l0).data.toList = [111, 107, 32] ++ (hexW l1).data.toList) := fun e => he (hexW_inj l0 l1 b0 b1 (by omega) (by omega) (data_inj (List.append_cancel_left e)))
    have n2 : ¬ ((strOfNums l0).data.toList = (strOfNums l1).data.toList) := fun e => he (strOfNums_inj l0 l1 b0 b1 (data_inj e))
    rw [beq_eq_false_iff_ne.2 n1, beq_eq_false_iff_ne.2 n2]
end Go.Proofs.YtcbmbjapcpbnnaaDoor.Pure
