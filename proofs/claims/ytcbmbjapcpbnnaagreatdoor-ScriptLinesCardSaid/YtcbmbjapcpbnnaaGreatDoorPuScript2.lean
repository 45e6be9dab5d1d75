/- What script.Parse tells, in plain words: what it reads is what is written, or it is refused. -/
import Derived.Test.YtcbmbjapcpbnnaaGreatDoorG0
import Derived.Test.YtcbmbjapcpbnnaaGreatDoorG17
import Derived.Test.YtcbmbjapcpbnnaaGreatDoorG18
import Derived.Test.YtcbmbjapcpbnnaaGreatDoorPuScript1
import Derived.Test.YtcbmbjapcpbnnaaGreatDoorGvCut
namespace Go.Proofs.YtcbmbjapcpbnnaaGreatDoor.G
open Go Go.RowKit Go.Proofs.YtcbmbjapcpbnnaaGreatDoorW.PrintWords Go.Proofs.YtcbmbjapcpbnnaaGreatDoorW.PrintLast
set_option linter.unusedVariables false
set_option linter.unusedSimpArgs false

def badA : Int × Int × Int × Int × ByteArray × ByteArray × Int × Int × List Int × Int × List Int × Option Int := (0, 0, 0, 0, (⟨#[]⟩ : ByteArray), (⟨#[]⟩ : ByteArray), 0, 0, ([] : List Int), 0, ([] : List Int), some 14)
def doneA (x0 : ByteArray) (kind thread n okind : Int) (opath oto : ByteArray) (ooff on : Int) (data : List Int) (osnap : Int) (picks : List Int) : Option (Int × Int × Int × Int × ByteArray × ByteArray × Int × Int × List Int × Int × List Int × Option Int) :=
  if x0.toList = ([] : List UInt8) then some badA else (script_Text.f kind thread n okind opath oto ooff on data osnap picks).bind fun t => if t.toList = x0.toList then some (kind, thread, n, okind, opath, oto, ooff, on, data, osnap, picks, none) else some badA
/-- What is read is what is written, or it is refused. -/
def ReadsA (x0 : ByteArray) (r : Option (Int × Int × Int × Int × ByteArray × ByteArray × Int × Int × List Int × Int × List Int × Option Int)) : Prop :=
  r = some badA ∨ ∃ kind thread n okind opath oto ooff on data osnap picks, r = some (kind, thread, n, okind, opath, oto, ooff, on, data, osnap, picks, none) ∧ actX kind thread n (opW okind opath oto ooff on data osnap) picks = x0 ∧ ∀ c, c ∈ data → IsByte c
theorem doneA_any (x0 : ByteArray) (kind thread n okind : Int) (opath oto : ByteArray) (ooff on : Int) (data : List Int) (osnap : Int) (picks : List Int) (hp : opath.size ≤ 3000000) (ht : oto.size ≤ 3000000)
    (hb : ∀ c, c ∈ data → IsByte c) (hd : data.length ≤ 1000000) (ho : (opW okind opath oto ooff on data osnap).size ≤ 1000000) :
    ReadsA x0 (doneA x0 kind thread n okind opath oto ooff on data osnap picks) := by
  unfold doneA
  rw [text_f kind thread n okind opath oto ooff on data osnap picks hp ht hb hd ho]
  simp only [Option.bind_some]
  split
  · exact .inl rfl
  · split
    · rename_i h
      exact .inr ⟨kind, thread, n, okind, opath, oto, ooff, on, data, osnap, picks, rfl, toL_inj.1 h, hb⟩
    · exact .inl rfl
theorem doneA_eq (x0 : ByteArray) (kind thread n okind : Int) (opath oto : ByteArray) (ooff on : Int) (data : List Int) (osnap : Int) (picks : List Int) (hp : opath.size ≤ 3000000) (ht : oto.size ≤ 3000000)
    (hb : ∀ c, c ∈ data → IsByte c) (hd : data.length ≤ 1000000) (ho : (opW okind opath oto ooff on data osnap).size ≤ 1000000) (h0 : x0.data.toList ≠ [])
    (h : actX kind thread n (opW okind opath oto ooff on data osnap) picks = x0) :
    doneA x0 kind thread n okind opath oto ooff on data osnap picks = some (kind, thread, n, okind, opath, oto, ooff, on, data, osnap, picks, none) := by
  unfold doneA
  rw [text_f kind thread n okind opath oto ooff on data osnap picks hp ht hb hd ho, toL, if_neg h0]
  simp only [Option.bind_some]
  rw [h, toL, if_pos rfl]
theorem op_zero : opW 0 (⟨#[]⟩ : ByteArray) (⟨#[]⟩ : ByteArray) 0 0 [] 0 = noneW := by
  unfold opW
  rw [if_pos (.inr (by decide))]
/-- No operation: the act's own fields alone. -/
theorem doneA_none (x0 : ByteArray) (kind thread n : Int) (picks : List Int) : ReadsA x0 (doneA x0 kind thread n 0 (⟨#[]⟩ : ByteArray) (⟨#[]⟩ : ByteArray) 0 0 ([] : List Int) 0 picks) :=
  doneA_any x0 kind thread n 0 _ _ 0 0 [] 0 picks (by decide) (by decide) (by simp) (by simp) (by rw [op_zero]; decide)
theorem doneA_none_eq (x0 : ByteArray) (kind thread n : Int) (picks : List Int) (h0 : x0.data.toList ≠ []) (h : actX kind thread n noneW picks = x0) :
    doneA x0 kind thread n 0 (⟨#[]⟩ : ByteArray) (⟨#[]⟩ : ByteArray) 0 0 ([] : List Int) 0 picks = some (kind, thread, n, 0, (⟨#[]⟩ : ByteArray), (⟨#[]⟩ : ByteArray), 0, 0, ([] : List Int), 0, picks, none) :=
  doneA_eq x0 kind thread n 0 _ _ 0 0 [] 0 picks (by decide) (by decide) (by simp) (by simp) (by rw [op_zero]; decide) h0 (by rw [op_zero]; exact h)

/-! ### the kind -/
def ascan (w : ByteArray) : Nat → Int → Int → Int
  | 0, _, kd => kd
  | d + 1, i, kd => ascan w d (i + 1) (if wordA i = w then i else kd)
theorem parseA_scan (x0 x4 x5 : ByteArray) (x6 : Bool) : ∀ (d : Nat) (i kd : Int) (k : Nat), i = 7 - (d : Int) → d ≤ 6 →
    script_Parse.l0 (k + d) x0 x4 x5 x6 i kd 0 0 0 (⟨#[]⟩ : ByteArray) (⟨#[]⟩ : ByteArray) 0 0 0 = script_Parse.l0 k x0 x4 x5 x6 7 (ascan x4 d i kd) 0 0 0 (⟨#[]⟩ : ByteArray) (⟨#[]⟩ : ByteArray) 0 0 0 := by
  intro d
  induction d with
  | zero => intro i kd k hi hd; subst hi; rfl
  | succ d ih =>
    intro i kd k hi hd
    have hw : wrap64 (i + 1) = i + 1 := IntWalk.wrap64_in _ (by omega)
    rw [show k + (d + 1) = (k + d) + 1 by omega, script_Parse.l0, if_pos (by omega), wordA_f, hw]
    simp only [Option.bind_some]
    rw [ascan]
    by_cases h : wordA i = x4
    · rw [if_pos (toL_inj.2 h), if_pos h]
      exact ih (i + 1) i k (by omega) (by omega)
    · rw [if_neg (fun e => h (toL_inj.1 e)), if_neg h]
      exact ih (i + 1) kd k (by omega) (by omega)
theorem ascan_word (kd : Int) (h1 : 1 ≤ kd) (h2 : kd ≤ 6) : ascan (wordA kd) 6 1 0 = kd := by
  obtain ⟨n, rfl⟩ : ∃ n : Nat, kd = n := ⟨kd.toNat, by omega⟩
  have hn : n < 7 := by omega
  have := (show ∀ n : Fin 7, 1 ≤ n.1 → ascan (wordA (n.1 : Int)) 6 1 0 = (n.1 : Int) by decide +kernel) ⟨n, hn⟩ (by show 1 ≤ n; omega)
  exact this

/-! ### the picks -/
theorem parseA_l1 (x0 : ByteArray) (ws : List ByteArray) (hl : ws.length ≤ 1000000) (hz : ∀ x, x ∈ ws → x.size ≤ 4000000) (kind thread n : Int) : ∀ (d i k : Nat) (acc : List Int), ws.length - i = d → i ≤ ws.length → acc.length ≤ i → d + 1 ≤ k →
    script_Parse.l1 k x0 ws (ws.length : Int) (i : Int) kind thread n 0 (⟨#[]⟩ : ByteArray) (⟨#[]⟩ : ByteArray) 0 0 0 acc = doneA x0 kind thread n 0 (⟨#[]⟩ : ByteArray) (⟨#[]⟩ : ByteArray) 0 0 ([] : List Int) 0 (acc ++ (ws.drop i).map numR) := by
  intro d
  induction d with
  | zero =>
    intro i k acc hd hi ha hk
    obtain ⟨k, rfl⟩ : ∃ m, k = m + 1 := ⟨k - 1, by omega⟩
    rw [script_Parse.l1, if_neg (by omega), List.drop_of_length_le (by omega), List.map_nil, List.append_nil]
    rfl
  | succ d ih =>
    intro i k acc hd hi ha hk
    obtain ⟨k, rfl⟩ : ∃ m, k = m + 1 := ⟨k - 1, by omega⟩
    have h1 : i < ws.length := by omega
    have hzz := hz _ (List.getElem_mem h1)
    rw [script_Parse.l1, if_pos (by omega), if_pos (by omega), if_pos (by omega), rdOf_nat, getD_at _ _ _ h1, numR_f _ hzz]
    simp only [Option.bind_some]
    rw [if_pos (by omega), wrap_up i ws.length h1 (by omega), ih (i + 1) k _ (by omega) (by omega) (by simp; omega) (by omega), List.drop_eq_getElem_cons h1, List.map_cons]
    congr 1
    simp

/-! ### any text -/
theorem cutAt_size (b : UInt8) (s : ByteArray) : (cutAt b s).1.size ≤ s.size ∧ (cutAt b s).2.1.size ≤ s.size := by
  unfold cutAt
  split
  · constructor <;> (rw [size_len, ext_data, size_len]; first | (simp; done) | (simp; omega))
  · exact ⟨Nat.le_refl _, Nat.zero_le _⟩
theorem cut_f32 (s : ByteArray) (h : s.size ≤ 4000000) : strings_Cut.f s (⟨#[32]⟩ : ByteArray) = some (cutAt 32 s) := by
  unfold strings_Cut.f; rw [if_pos (by omega)]
theorem j1A_any (x0 x5 : ByteArray) (h5 : x5.size ≤ 900000) (x6 : Bool) (kd : Int) (c : Bool) (k : Nat) (hk : 1000100 ≤ k) :
    ReadsA x0 (script_Parse.j1 k x0 x5 x6 kd c kd 0 0 0 (⟨#[]⟩ : ByteArray) (⟨#[]⟩ : ByteArray) 0 0 0) := by
  obtain ⟨k, rfl⟩ : ∃ m, k = m + 1 := ⟨k - 1, by omega⟩
  rw [script_Parse.j1, numR_f _ (by omega)]
  simp only [Option.bind_some]
  split
  · exact doneA_none x0 kd 0 (numR x5) []
  · split
    · split
      · have hS : strings_Split.f x5 (⟨#[32]⟩ : ByteArray) = some (cutB 32 x5) := by unfold strings_Split.f; rw [if_pos (by omega)]
        have hle := cutB_length_le 32 x5
        rw [hS]
        simp only [Option.bind_some]
        have h := parseA_l1 x0 (cutB 32 x5) (by omega) (fun x hx => by have := cutB_sizes 32 x5 x hx; omega) kd 0 0 (cutB 32 x5).length 0 k [] (by omega) (by omega) (by simp) (by omega)
        rw [show ((0 : Nat) : Int) = 0 from rfl] at h
        rw [h]
        exact doneA_none x0 kd 0 0 _
      · exact doneA_none x0 kd 0 0 []
    · exact doneA_none x0 kd 0 0 []
theorem parseA_any (s : ByteArray) (hs : s.size ≤ 900000) (k : Nat) (hk : 2000200 ≤ k) : ReadsA s (script_Parse.f k s) := by
  obtain ⟨k, rfl⟩ : ∃ m, k = m + 1 + 6 := ⟨k - 7, by omega⟩
  have hz := cutAt_size 32 s
  unfold script_Parse.f
  rw [cut_f32 s (by omega)]
  simp only [Option.bind_some]
  generalize cutAt 32 s = c at hz ⊢
  obtain ⟨x4, x5, x6⟩ := c
  have hz4 : x4.size ≤ s.size := hz.1
  have hz5 : x5.size ≤ s.size := hz.2
  clear hz
  rw [parseA_scan s x4 x5 x6 6 1 0 (k + 1) (by decide) (by decide)]
  generalize ascan x4 6 1 0 = kd
  rw [script_Parse.l0, if_neg (by decide)]
  by_cases k1 : kd = 1
  · rw [if_pos k1, cut_f32 x5 (by omega)]
    simp only [Option.bind_some]
    have hz2 := cutAt_size 32 x5
    generalize cutAt 32 x5 = c2 at hz2 ⊢
    obtain ⟨y4, y5, y6⟩ := c2
    have hy4 : y4.size ≤ x5.size := hz2.1
    have hy5 : y5.size ≤ x5.size := hz2.2
    clear hz2
    rw [numR_f y4 (by omega)]
    simp only [Option.bind_some]
    rcases parse_any y5 (by omega) k (by omega) with hp | ⟨a1, a2, a3, a4, a5, a6, a7, hp, he, hb, q1, q2, q3⟩
    · rw [hp]
      exact doneA_none s kd (numR y4) 0 []
    · rw [hp]
      exact doneA_any s kd (numR y4) 0 a1 a2 a3 a4 a5 a6 a7 [] q1 q2 hb q3 (by rw [he]; omega)
  rw [if_neg k1]
  by_cases k2 : kd = 2
  · rw [if_pos k2, numR_f x5 (by omega)]
    exact doneA_none s kd (numR x5) 0 []
  rw [if_neg k2]
  split
  · exact j1A_any s x5 (by omega) x6 kd _ k (by omega)
  · exact j1A_any s x5 (by omega) x6 kd _ k (by omega)
theorem parseA_blank (s : ByteArray) (hs : s.size ≤ 900000) (k : Nat) (hk : 2000200 ≤ k) (h : (∃ r, s.data.toList = r ++ [32]) ∨ ∃ r, s.data.toList = 32 :: r) : script_Parse.f k s = some badA := by
  rcases parseA_any s hs k hk with hp | ⟨kind, thread, n, okind, opath, oto, ooff, on, data, osnap, picks, _, he, hb⟩
  · exact hp
  · exfalso
    have hne : (actX kind thread n (opW okind opath oto ooff on data osnap) picks).data.toList ≠ [] := by
      rw [he]; rcases h with ⟨r, h⟩ | ⟨r, h⟩ <;> rw [h] <;> simp
    obtain ⟨⟨a, r1, e1, n1⟩, r2, b, e2, n2⟩ := act_ends kind thread n okind opath oto ooff on data osnap picks hb hne
    rw [he] at e1 e2
    rcases h with ⟨r, h⟩ | ⟨r, h⟩
    · rw [h] at e2
      have := (List.append_inj' e2 rfl).2
      injection this with this
      exact n2 this.symm
    · rw [h] at e1
      injection e1 with e1
      exact n1 e1.symm
end Go.Proofs.YtcbmbjapcpbnnaaGreatDoor.G
