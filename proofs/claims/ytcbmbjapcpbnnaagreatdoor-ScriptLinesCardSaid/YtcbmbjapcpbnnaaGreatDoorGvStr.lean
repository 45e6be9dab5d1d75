/- strings.Join, Split (at a blank, at a line's end), IndexByte, LastIndexByte, strconv.Itoa, hist.Num by their contracts, out of the shelf's. -/
import Derived.Test.YtcbmbjapcpbnnaaGreatDoorG0
import Derived.Test.YtcbmbjapcpbnnaaGreatDoorShelf
import Derived.Test.YtcbmbjapcpbnnaaGreatDoorPlNames
import Derived.Test.YtcbmbjapcpbnnaaGreatDoorTabs
import Derived.Lib.SmallJoins
import Derived.Lib.AppendIntMem
namespace Go.Proofs.YtcbmbjapcpbnnaaGreatDoor.G
open Go.RowKit Go.Proofs.YtcbmbjapcpbnnaaGreatDoorW.PrintWords Go.Proofs.YtcbmbjapcpbnnaaGreatDoorW.PrintLast
set_option linter.unusedVariables false
set_option linter.unusedSimpArgs false

/-- What a read of texts says of the cells. -/
theorem C_str_at {w : World} {A : Option Addr} {xs : List ByteArray} (h : Kd.string.C w A xs.length xs) (hn : 0 < xs.length) :
    ∃ b o, A = some ⟨b, o, none⟩ ∧ b < w.heap.size ∧ ∀ j, j < xs.length → w.cell? ⟨b, o + j, none⟩ = some (.string (xs.getD j ByteArray.empty)) := by
  obtain ⟨ad, e1, hx⟩ := Kd.at_string h 0 (by omega) (by omega)
  subst e1
  have hz : ((0 : Int)).toNat = 0 := rfl
  rw [hz] at hx
  have hx0 : w.cell? ad = some (.string (rdOf ByteArray.empty xs 0)) := by simpa [Addr.add] using hx
  have hb := World.block_lt_of_cell? w ad hx0
  obtain ⟨b, o, sp⟩ := ad
  have hsp : sp = none := by
    cases sp with
    | none => rfl
    | some q =>
      exfalso
      simp only [World.cell?, Option.isSome_some, if_true] at hx0
      split at hx0 <;> simp at hx0
  subst hsp
  refine ⟨b, o, rfl, hb, fun j hj => ?_⟩
  obtain ⟨ad', e2, hx'⟩ := Kd.at_string h (j : Int) (by omega) (by omega)
  cases e2
  have ej : ((j : Int)).toNat = j := by omega
  rw [ej] at hx'
  have ha : (⟨b, o, none⟩ : Addr).add j = ⟨b, o + j, none⟩ := by unfold Addr.add; split <;> simp_all
  rw [ha] at hx'
  rw [hx']; simp [rdOf, ej]

def strings_Join.f (l0 : List ByteArray) (a1 : ByteArray) : Option ByteArray :=
  if l0.length ≤ 140737488355328 ∧ (Lib.join (l0.map (·.data.toList)) a1.data.toList).length ≤ 140737488355328 then some (ofL (Lib.join (l0.map (·.data.toList)) a1.data.toList)) else none
theorem strings_Join.calls (A0 : Option Addr) (c0 : Nat) (l0 : List ByteArray) (a1 : ByteArray) (r : ByteArray) (w : World) (hr0 : Kd.C Kd.string w A0 l0.length l0) (hc0 : l0.length ≤ c0) (h : strings_Join.f l0 a1 = some r) :
    Calls Tryz.prog 36 #[.slice A0 l0.length c0, .string a1] w fun e w' => e = .returned (.string r) ∧ Below w.heap.size w w' := by
  unfold strings_Join.f at h
  split at h
  · rename_i hb
    cases h
    rcases Nat.eq_zero_or_pos l0.length with h0 | h0
    · obtain rfl : l0 = [] := List.eq_nil_of_length_eq_zero h0
      exact (Tryz.strings_Join_none A0 c0 a1 w).mono fun e w' ⟨he, hw⟩ => ⟨he, by rw [hw]; exact Below.refl _ _⟩
    · obtain ⟨bk, o, rfl, hlt, hx⟩ := C_str_at hr0 h0
      refine Tryz.strings_Join bk o c0 l0 a1 w ?_ hlt hb.1 hc0 hb.2
      intro j x hj
      have hjl : j < l0.length := by
        rcases Nat.lt_or_ge j l0.length with h | h
        · exact h
        · rw [List.getElem?_eq_none h] at hj; cases hj
      rw [hx j hjl, List.getD_eq_getElem?_getD, hj]; rfl
  · cases h

/-! ### strings.Split at one byte -/
set_option maxRecDepth 100000 in
theorem split_one (b : UInt8) (s : ByteArray) (w : World) (hs : s.size < 4294967281) :
    Calls Tryz.prog 42 #[.string s, .string ⟨#[b]⟩] w fun e w' => ∃ v, e = .returned v ∧ Kd.R Kd.string 9 w' w.heap.size (fun _ => True) v (cutB b s) ∧ Below w.heap.size w w' := by
  have hle := cutB_length_le b s
  have h1 : 1 ≤ (⟨#[b]⟩ : ByteArray).size := Nat.le_refl _
  have h0 : (⟨#[b]⟩ : ByteArray).size = 1 := rfl
  have hlen := Lib.splitB_all ⟨#[b]⟩ h1 0 _ s rfl
  have hsp := splitB_one b s
  have c := Any.strings_genSplit_core Tryz.lays221 (by kernel_rfl) s ⟨#[b]⟩ 0 (-1) (Lib.countB s ⟨#[b]⟩ + 1) w hs h1 (Nat.zero_le _)
    (fun x c hx => (Tryz.strings_Index_one x b _).mono fun e w' ⟨he, hw⟩ => ⟨by rw [he]; congr 2; exact (Lib.index_one _ _).symm, hw⟩)
    ((Tryz.strings_Count_one s b w).mono fun e w' ⟨he, hw⟩ => ⟨by rw [he]; show _ = Ending.returned (Value.int .i64 ((Lib.count s.data.toList [b] : Nat) : Int)); rw [Lib.count_one]; rfl, hw⟩)
    (by decide) (by decide) (by rw [if_pos (by decide)]; have := Lib.countB_le ⟨#[b]⟩ h1 s.size s (Nat.le_refl _); omega)
  rw [Nat.add_sub_cancel, hlen] at c
  have e2 : Lib.cellsOf (Lib.splitB ⟨#[b]⟩ 0 (Lib.countB s ⟨#[b]⟩) s) (Lib.countB s ⟨#[b]⟩ + 1) = ((Lib.splitB ⟨#[b]⟩ 0 (Lib.countB s ⟨#[b]⟩) s).map Value.string).toArray := by rw [← hlen]; exact Lib.cellsOf_full _
  rw [e2, hsp] at c
  rw [hsp] at hlen
  rw [← hlen] at c
  clear e2 hsp hlen
  obtain ⟨l, hl⟩ : ∃ l, l = cutB b s := ⟨_, rfl⟩
  rw [← hl] at c hle ⊢
  clear hl h1 h0
  have HC := Aside0.mk c
  clear c
  have HL := Aside0.mk hle
  clear hle
  obtain ⟨sep, hsep⟩ : ∃ sep : ByteArray, sep = ⟨#[b]⟩ := ⟨_, rfl⟩
  rw [← hsep] at HC ⊢
  clear hsep
  go_enter Tryz.func42, Tryz.ntmps42
  go_wp2_with (go_at_call 61; refine HC.out.mono ?_; rintro e w' ⟨rfl, rfl⟩)
  go_ret
  refine ⟨_, rfl, ?_, (Below.refl _ _).alloc (Nat.le_refl _) _⟩
  have ho : (w.alloc (.cells (l.map Value.string).toArray 9)).ownsRow w.heap.size 9 1 (.slice (some ⟨w.heap.size, 0, none⟩) l.length l.length) l.length (encs Value.string l) := by
    simpa [encs] using World.ownsRow_lit (base := w.heap.size) (e := 9) (size := 1) w (l.map Value.string).toArray l.length (Nat.le_refl _) (by have := HL.out; simp only [maxLen]; omega) (by simp)
  exact Kd.R_of_own ho (fun _ _ => trivial)
def strings_Split.f (a0 : ByteArray) (a1 : ByteArray) : Option (List ByteArray) :=
  if a0.size < 4294967281 then match a1.data.toList with | [b] => some (cutB b a0) | _ => none else none
theorem strings_Split.calls (a0 : ByteArray) (a1 : ByteArray) (r : List ByteArray) (w : World) (h : strings_Split.f a0 a1 = some r) :
    Calls Tryz.prog 42 #[.string a0, .string a1] w fun e w' => ∃ v0_ : Value, e = .returned (v0_) ∧ Kd.R Kd.string 9 w' w.heap.size (fun _ => True) v0_ r ∧ Below w.heap.size w w' := by
  unfold strings_Split.f at h
  split at h
  · rename_i hs
    split at h
    · rename_i b hb
      cases h
      have e : a1 = ⟨#[b]⟩ := data_inj (by rw [hb])
      subst e
      exact split_one b a0 w hs
    · cases h
  · cases h

/-! ### the place of a byte -/
def strings_IndexByte.f (a0 : ByteArray) (a1 : Int) : Option Int := some (Lib.indexByte a0.data.toList a1.toNat.toUInt8)
theorem strings_IndexByte.calls (a0 : ByteArray) (a1 : Int) (r : Int) (w : World) (h : strings_IndexByte.f a0 a1 = some r) :
    Calls Tryz.prog 64 #[.string a0, .int .u8 a1] w fun e w' => e = .returned (.int .i64 r) ∧ Drawn0 w w' := by
  cases h
  exact (Tryz.strings_IndexByte a0 a1 w).mono fun e w' ⟨he, hw⟩ => ⟨he, by rw [hw]; exact Drawn0.refl _⟩
def strings_LastIndexByte.f (a0 : ByteArray) (a1 : Int) : Option Int := if a0.size < 4611686018427387904 then some (Lib.lastIndexByte a0 a1) else none
theorem strings_LastIndexByte.calls (a0 : ByteArray) (a1 : Int) (r : Int) (w : World) (h : strings_LastIndexByte.f a0 a1 = some r) :
    Calls Tryz.prog 43 #[.string a0, .int .u8 a1] w fun e w' => e = .returned (.int .i64 r) ∧ Drawn0 w w' := by
  unfold strings_LastIndexByte.f at h
  split at h
  · rename_i hs
    cases h
    exact (Tryz.strings_LastIndexByte a0 a1 hs w).mono fun e w' ⟨he, hw⟩ => ⟨he, by rw [hw]; exact Drawn0.refl _⟩
  · cases h

/-! ### numerals -/
def strconv_Itoa.f (a0 : Int) : Option ByteArray := if -9223372036854775808 ≤ a0 ∧ a0 ≤ 9223372036854775807 then some (ofL (Lib.itoa a0)) else none
theorem strconv_Itoa.calls (a0 : Int) (r : ByteArray) (w : World) (h : strconv_Itoa.f a0 = some r) (hT : Tabs w) :
    Calls Tryz.prog 52 #[.int .i64 a0] w fun e w' => e = .returned (.string r) ∧ Below w.heap.size w w' := by
  unfold strconv_Itoa.f at h
  split at h
  · rename_i hs
    cases h
    exact (Tryz.strconv_Itoa a0 hs.1 hs.2 w hT.tens).mono fun e w' ⟨he, k, os, hw⟩ => ⟨he, by rw [hw]; exact Lib.below_grow _ _ (Nat.le_refl _) _ _⟩
  · cases h
/-- The number that a word is; -1: it is none. -/
def numR (s : ByteArray) : Int := match Lib.atoiAll s.data.toList with | .ok v => v | _ => -1
def hist_Num.f (a0 : ByteArray) : Option Int := if a0.size ≤ 281474976710656 then some (numR a0) else none
set_option maxRecDepth 100000 in
theorem num_good (a0 : ByteArray) (n : Int) (w : World)
    (hc : Calls Tryz.prog 63 #[.string a0] w fun e w' => e = .returned (.tuple #[.int .i64 n, .nilIface]) ∧ Below w.heap.size w w') :
    Calls Tryz.prog 44 #[.string a0] w fun e w' => e = .returned (.int .i64 n) ∧ Below w.heap.size w w' := by
  have HC := Aside0.mk hc
  clear hc
  go_enter Tryz.func44, Tryz.ntmps44
  go_wp2_with fail
  refine HC.out.mono ?_
  rintro e w1 ⟨rfl, HB⟩
  go_wp2_with fail
  go_ret
  exact ⟨rfl, HB⟩
set_option maxRecDepth 100000 in
theorem num_bad (a0 : ByteArray) (n : Int) (w : World)
    (hc : Calls Tryz.prog 63 #[.string a0] w fun e w' => ∃ t p, e = .returned (.tuple #[.int .i64 n, .iface t p]) ∧ Below w.heap.size w w') :
    Calls Tryz.prog 44 #[.string a0] w fun e w' => e = .returned (.int .i64 (-1)) ∧ Below w.heap.size w w' := by
  have HC := Aside0.mk hc
  clear hc
  go_enter Tryz.func44, Tryz.ntmps44
  go_wp2_with fail
  refine HC.out.mono ?_
  rintro e w1 ⟨t, p, rfl, HB⟩
  go_wp2_with fail
  go_ret
  exact ⟨rfl, HB⟩
theorem hist_Num.calls (a0 : ByteArray) (r : Int) (w : World) (h : hist_Num.f a0 = some r) (hT : Tabs w) :
    Calls Tryz.prog 44 #[.string a0] w fun e w' => e = .returned (.int .i64 r) ∧ Below w.heap.size w w' := by
  unfold hist_Num.f at h
  split at h
  · rename_i hs
    cases h
    unfold numR
    cases hq : Lib.atoiAll a0.data.toList with
    | ok v =>
      refine num_good a0 v w ?_
      refine (Tryz.strconv_Atoi_ok a0 (by omega) v hq w).mono fun e w' ⟨he, hw⟩ => ⟨he, ?_⟩
      rcases hw with rfl | ⟨t, rfl⟩
      · exact Below.refl _ _
      · exact Go.Joins.below_bytesWorld _ _ _ _ (Nat.le_refl _)
    | range =>
      obtain ⟨tp, p, hv⟩ := hT.rng
      exact num_bad a0 _ w ((Tryz.strconv_Atoi_range_var a0 hs hq tp p w hv).mono fun e w' ⟨N, he, _, _, hb⟩ => ⟨_, _, he, hb⟩)
    | _ =>
      obtain ⟨tp, p, hv⟩ := hT.syn
      exact num_bad a0 0 w ((Any.strconv_Atoi_syntax_var Tryz.laysC172 a0 hs hq tp p w hv).mono fun e w' ⟨N, he, _, _, hb⟩ => ⟨_, _, he, hb⟩)
  · cases h
end Go.Proofs.YtcbmbjapcpbnnaaGreatDoor.G
