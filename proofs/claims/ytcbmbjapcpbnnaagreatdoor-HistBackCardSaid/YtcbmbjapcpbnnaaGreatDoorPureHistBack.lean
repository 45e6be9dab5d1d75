/- HistBack: what was written is read as it was, as far as its kind names it; written again it is the same line; a blank more, and it is none. -/
import Derived.Test.YtcbmbjapcpbnnaaGreatDoorG0
import Derived.Test.YtcbmbjapcpbnnaaGreatDoorG11
import Derived.Test.YtcbmbjapcpbnnaaGreatDoorGvAwake26
import Derived.Test.YtcbmbjapcpbnnaaGreatDoorPuRef26
import Derived.Test.YtcbmbjapcpbnnaaGreatDoorPuOpSum
namespace Go.Proofs.YtcbmbjapcpbnnaaGreatDoor.Pure
open Go Go.RowKit Go.Proofs.YtcbmbjapcpbnnaaGreatDoor.G Go.Proofs.YtcbmbjapcpbnnaaGreatDoorW.PrintWords Go.Proofs.YtcbmbjapcpbnnaaGreatDoorW.PrintLast
set_option linter.unusedVariables false
set_option linter.unusedSimpArgs false

theorem written_again (kind : Int) (path to_ : ByteArray) (off n : Int) (data : List Int) (snap : Int) (hp : path.size ≤ 6000) (ht : to_.size ≤ 6000) (hb : ∀ c, c ∈ data → IsByte c) (hd : data.length ≤ 3000)
    (hne : (opW kind path to_ off n data snap).data.toList ≠ []) (k : Nat) (hk : 2000100 ≤ k) :
    hist_Op.f k kind (nPath kind path) (nTo kind to_) (nOff kind off) (nN kind n) (nData kind data) (nSnap kind snap) = some (opW kind path to_ off n data snap) := by
  have h1 := parse_op kind path to_ off n data snap hp ht hb hd hne k hk
  have hz := line_size kind path to_ off n data snap hp ht hd
  have e : opW kind (nPath kind path) (nTo kind to_) (nOff kind off) (nN kind n) (nData kind data) (nSnap kind snap) = opW kind path to_ off n data snap := by
    rcases parse_any (opW kind path to_ off n data snap) (by omega) k hk with h2 | ⟨a1, a2, a3, a4, a5, a6, a7, h2, he, _⟩
    · rw [h1] at h2
      unfold bad14 at h2
      injection h2 with h2
      simp only [Prod.mk.injEq] at h2
      exact absurd h2.2.2.2.2.2.2.2 (by simp)
    · rw [h1] at h2
      injection h2 with h2
      simp only [Prod.mk.injEq] at h2
      obtain ⟨e1, e2, e3, e4, e5, e6, e7, _⟩ := h2
      rw [e2, e3, e4, e5, e6, e7]
      rw [← e1] at he
      exact he
  have hP : (nPath kind path).size ≤ 3000000 := by
    unfold nPath; split
    · omega
    · exact Nat.zero_le _
  have hT : (nTo kind to_).size ≤ 3000000 := by
    unfold nTo; split
    · omega
    · exact Nat.zero_le _
  have hD : ∀ c, c ∈ nData kind data → IsByte c := by
    unfold nData; split
    · exact hb
    · simp
  have hL : (nData kind data).length ≤ 3000 := by
    unfold nData; split
    · exact hd
    · simp
  rw [op_f kind _ _ _ _ _ _ hP hT hD (by omega) k (by omega), e]
theorem HistBack (kind : Int) (path to_ : ByteArray) (off n : Int) (data : List Int) (snap : Int)
    (hp : path.size ≤ 9223372036854775807) (ht : to_.size ≤ 9223372036854775807) (hb : ∀ c, c ∈ data → IsByte c) (hd : data.length ≤ 9223372036854775807) : ∃ k, dolmenlaw26_HistBack.f k kind path to_ off n data snap = some true := by
  refine ⟨2000200, ?_⟩
  obtain ⟨r, hr, hr2⟩ := sum_three path.size to_.size data.length 2000200 hp ht hd (by decide)
  have haw : dolmenlaw26_awake.f = some true := rfl
  unfold dolmenlaw26_HistBack.f dolmenalike_Op.f
  rw [hr]
  simp only [Option.bind_some]
  by_cases g1 : (r : Int) > 2500
  · rw [if_pos g1, bind_at haw]
  rw [if_neg g1]
  have hre := hr2 (by omega)
  have h0 := op_f kind path to_ off n data snap (by omega) (by omega) hb (by omega) 2000200 (by omega)
  rw [bind_at h0]
  by_cases he : (opW kind path to_ off n data snap).data.toList = []
  · rw [if_pos (show (opW kind path to_ off n data snap).toList = ([] : List UInt8) by rw [toL]; exact he), bind_at (refop_none kind path to_ off n data snap he)]
    rw [if_pos (show ((⟨#[]⟩ : ByteArray)).toList = ([] : List UInt8) by rw [toL]), bind_at haw]
  · have hz := line_size kind path to_ off n data snap (by omega) (by omega) (by omega)
    have h1 := parse_op kind path to_ off n data snap (by omega) (by omega) hb (by omega) he 2000200 (by omega)
    have h2 := written_again kind path to_ off n data snap (by omega) (by omega) hb (by omega) he 2000200 (by omega)
    have d1 : (opW kind path to_ off n data snap ++ (⟨#[32]⟩ : ByteArray)).data.toList = (opW kind path to_ off n data snap).data.toList ++ [32] := by simp
    have d2 : ((⟨#[32]⟩ : ByteArray) ++ opW kind path to_ off n data snap).data.toList = 32 :: (opW kind path to_ off n data snap).data.toList := by simp
    have z1 : (opW kind path to_ off n data snap ++ (⟨#[32]⟩ : ByteArray)).size ≤ 900000 := by rw [size_len, d1, List.length_append, ← size_len]; simp; omega
    have z2 : ((⟨#[32]⟩ : ByteArray) ++ opW kind path to_ off n data snap).size ≤ 900000 := by rw [size_len, d2, List.length_cons, ← size_len]; omega
    have h3 := parse_blank _ z1 2000200 (by omega) (.inl ⟨_, d1⟩)
    have h4 := parse_blank _ z2 2000200 (by omega) (.inr ⟨_, d2⟩)
    have hC : dolmenalike_Code.f (some 14) = some 14 := rfl
    rw [if_neg (show ¬ (opW kind path to_ off n data snap).toList = ([] : List UInt8) by rw [toL]; exact he), bind_at h1, if_pos (by omega), bind_at h3, if_pos (by omega), bind_at h4]
    rw [if_pos (show (none : Option Int).isNone = true from rfl), if_pos (show kind = kind from rfl), bind_at h2, if_pos (show (opW kind path to_ off n data snap).toList = (opW kind path to_ off n data snap).toList from rfl)]
    unfold bad14
    rw [bind_at hC, if_pos (by decide), bind_at hC, if_pos (by decide), bind_at haw]
end Go.Proofs.YtcbmbjapcpbnnaaGreatDoor.Pure
