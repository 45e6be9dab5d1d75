/- names.Sorted by its contract: slices.Clone, Sort, Compact at texts, out of the shelf's contracts. -/
import Derived.Test.YtcaafbnfgijjfaaDoorG0
import Derived.Test.YtcaafbnfgijjfaaDoorShelf
import Derived.Test.YtcaafbnfgijjfaaDoorPlNames
import Derived.Sort.OwnSorted
namespace Go.Proofs.YtcaafbnfgijjfaaDoor.G
open Go.RowKit Go.Proofs.YtcaafbnfgijjfaaDoorW.PrintWords Go.Proofs.YtcaafbnfgijjfaaDoorW.PrintLast Go.Sort
set_option linter.unusedVariables false
set_option linter.unusedSimpArgs false

/-- Texts in order, each once. -/
def sortedL (l : List (List UInt8)) : List (List UInt8) := Lib.compact (l.mergeSort fun x y => decide (x ≤ y))
def sortedB (l : List ByteArray) : List ByteArray := (sortedL (l.map (·.data.toList))).map ofL
def names_Sorted.f (l0 : List ByteArray) : Option (List ByteArray) := if l0.length * 16 ≤ 140737488355328 then some (sortedB l0) else none

theorem encs_ofL (l : List (List UInt8)) : encs Value.string (l.map ofL) = l.map encStr := by
  unfold encs; rw [List.map_map]; rfl
theorem encs_data (l : List ByteArray) : encs Value.string l = (l.map (·.data.toList)).map encStr := by
  unfold encs; rw [List.map_map]
  refine List.map_congr_left fun x _ => ?_
  show Value.string x = encStr x.data.toList
  cases x with | mk d => simp [encStr]
theorem compact_len (l : List (List UInt8)) : (Lib.compact l).length ≤ l.length := by
  unfold Lib.compact Lib.compactUpTo
  rw [List.length_map]
  refine Nat.le_trans (List.length_filter_le _ _) ?_
  simp

/-- What a read of texts says of the cells. -/
theorem C_str_at {w : World} {A : Option Addr} {xs : List ByteArray} (h : Kd.string.C w A xs.length xs) (hn : 0 < xs.length) :
    ∃ b o, A = some ⟨b, o, none⟩ ∧ b < w.heap.size ∧ ∀ j, j < xs.length → w.cell? ⟨b, o + j, none⟩ = some (.string (xs.getD j ByteArray.empty)) := by
  obtain ⟨ad, e1, hx⟩ := Kd.at_string h 0 (by omega) (by omega)
  subst e1
  have hz : ((0 : Int)).toNat = 0 := rfl
  rw [hz] at hx
  have hx0 : w.cell? ad = some (.string (rdOf ByteArray.empty xs 0)) := by simpa [Addr.add] using hx
  have hb := World.block_lt_of_cell? w ad hx0
  obtain ⟨b, o, sp⟩ := ad
  have hsp : sp = none := by
    cases sp with
    | none => rfl
    | some q =>
      exfalso
      simp only [World.cell?, Option.isSome_some, if_true] at hx0
      split at hx0 <;> simp at hx0
  subst hsp
  refine ⟨b, o, rfl, hb, fun j hj => ?_⟩
  obtain ⟨ad', e2, hx'⟩ := Kd.at_string h (j : Int) (by omega) (by omega)
  cases e2
  have ej : ((j : Int)).toNat = j := by omega
  rw [ej] at hx'
  have ha : (⟨b, o, none⟩ : Addr).add j = ⟨b, o + j, none⟩ := by unfold Addr.add; split <;> simp_all
  rw [ha] at hx'
  rw [hx']; simp [rdOf, ej]

set_option maxRecDepth 100000 in
set_option maxHeartbeats 1000000 in
theorem sorted_many (b o c0 : Nat) (l0 : List ByteArray) (w : World) (hn : 0 < l0.length) (hc0 : l0.length ≤ c0) (hbig : l0.length * 16 ≤ 140737488355328)
    (hc : ∀ j, j < l0.length → w.cell? ⟨b, o + j, none⟩ = some (.string (l0.getD j ByteArray.empty))) :
    Calls Tryd.prog 23 #[.slice (some ⟨b, o, none⟩) l0.length c0] w fun e w' => ∃ v0_ : Value, e = .returned v0_ ∧ Kd.R Kd.string 9 w' w.heap.size (fun _ => True) v0_ (sortedB l0) ∧ Below w.heap.size w w' := by
  have HC := Aside0.mk (Tryd.slices_Clone_string b o l0.length c0 l0 w (Nat.le_refl _) hbig hc)
  have HN := Aside0.mk (And.intro hn hbig)
  clear hn hc0 hbig hc
  rw [show (l0.take l0.length).map Value.string = (l0.map (·.data.toList)).map encStr from by rw [List.take_length]; exact encs_data l0] at HC
  obtain ⟨ss, hss⟩ : ∃ ss, ss = l0.map (·.data.toList) := ⟨_, rfl⟩
  have hlen : l0.length = ss.length := by rw [hss]; simp
  have HS : Aside0 (sortedB l0 = (sortedL ss).map ofL) := ⟨by unfold sortedB; rw [hss]⟩
  rw [← hss, hlen] at HC
  rw [hlen] at HN ⊢
  clear hss hlen
  have hm1 := HN.out.1
  have hm2 := HN.out.2
  go_enter Tryd.func23, Tryd.ntmps23
  go_wp2_with fail
  refine HC.out.mono ?_
  rintro e w1 ⟨v, rfl, HO, hnn, HB⟩
  have HB := Aside0.mk HB
  rcases HO.2 with ⟨hnil, _⟩ | ⟨g, cap, cur, rfl, hbase, hb, h1, h2, h3, h4⟩
  · exact absurd hnil hnn
  have hH : Holds encStr w1 g 0 ss.toArray := holds_of_block hb (by simpa using h4)
  have hgl : g < w1.heap.size := (Array.getElem?_eq_some_iff.1 hb).1
  have HSo := Aside0.mk (Tryd.slices_Sort_string g 0 cap ss w1 hH hgl (by omega))
  have HX := Aside0.mk (And.intro hbase (And.intro hb (And.intro h1 (And.intro h2 h3))))
  clear HO hnn hbase hb h1 h2 h3 h4 hH hgl
  go_wp2_with fail
  refine HSo.out.mono ?_
  rintro e w2 ⟨rfl, n, os, hw2⟩
  obtain ⟨ts, hts⟩ : ∃ ts, ts = ss.mergeSort fun x y => decide (x ≤ y) := ⟨_, rfl⟩
  have hlt : ts.length = ss.length := by rw [hts]; simp
  rw [← hts] at hw2
  have HO2 := ownsRow_sorted (w := w1) (n := n) (os := os) hlt HX.out.1 HX.out.2.1 HX.out.2.2.1 HX.out.2.2.2.1 HX.out.2.2.2.2
  rw [← hw2] at HO2
  have HG2 : w1.grownBy w2 (some g) := by rw [hw2]; exact grownBy_sorted _
  have HTS : Aside0 ((sortedL ss).map ofL = (Lib.compact ts).map ofL) := ⟨by unfold sortedL; rw [hts]⟩
  clear hw2 hts
  rcases HO2.2 with ⟨hnil, _⟩ | ⟨g2, cap2, cur2, he2, hbase2, hb2, h12, h22, h32, h42⟩
  · cases hnil
  cases he2
  rw [← hlt] at h12 h42
  have hH2 : Holds encStr w2 g 0 ts.toArray := holds_of_block hb2 (by simpa using h42)
  have HCo := Aside0.mk (Tryd.slices_Compact_string g 0 cap ts w2 hH2 (by omega) (by omega))
  rw [hlt] at HCo h12
  have HY := Aside0.mk (And.intro hbase2 (And.intro hb2 (And.intro h12 (And.intro h22 h32))))
  have HG2 := Aside0.mk HG2
  have HLT := Aside0.mk hlt
  clear HO2 hbase2 hb2 h12 h22 h32 h42 hH2 hlt
  go_wp2_with fail
  refine HCo.out.mono ?_
  rintro e w3 ⟨rfl, q, hw3⟩
  have hw3' : w3 = grow (putRow encStr (Sort.ahead w2 q) g 0 (Lib.compact ts ++ List.replicate (ss.length - (Lib.compact ts).length) []).toArray) #[] := by rw [grow_empty]; exact hw3
  have hcl := compact_len ts
  have hl3 : (Lib.compact ts ++ List.replicate (ss.length - (Lib.compact ts).length) []).length = ss.length := by have := HLT.out; simp; omega
  have HO3 := ownsRow_sorted (w := w2) (n := q) (os := #[]) hl3 HY.out.1 HY.out.2.1 HY.out.2.2.1 HY.out.2.2.2.1 HY.out.2.2.2.2
  rw [← hw3'] at HO3
  have HG3 : w2.grownBy w3 (some g) := by rw [hw3']; exact grownBy_sorted _
  have HO4 := own_take HO3 (m := (Lib.compact ts).length) (by have := HLT.out; omega)
  rw [Nat.mul_one, List.map_append, List.take_left' (by simp)] at HO4
  have HO4 := Aside0.mk HO4
  have HG3 := Aside0.mk HG3
  clear hw3 hw3' HO3 hl3 hcl
  go_wp2_with fail
  go_ret
  refine ⟨_, rfl, ?_, ?_⟩
  · rw [HS.out, HTS.out]
    exact Kd.R_of_own (xs := (Lib.compact ts).map ofL) (by rw [encs_ofL, List.length_map]; exact HO4.out) (fun _ _ => trivial)
  · exact (HB.out.grown HG2.out HB.out.size (fun k hk => by cases hk; exact HX.out.1)).grown HG3.out (Nat.le_trans HB.out.size HG2.out.size) (fun k hk => by cases hk; exact HX.out.1)

set_option maxRecDepth 100000 in
theorem sorted_none (A0 : Option Addr) (c0 : Nat) (w : World) :
    Calls Tryd.prog 23 #[.slice A0 0 c0] w fun e w' => ∃ v0_ : Value, e = .returned v0_ ∧ Kd.R Kd.string 9 w' w.heap.size (fun _ => True) v0_ [] ∧ Below w.heap.size w w' := by
  cases A0 with
  | none =>
    have HC := Aside0.mk (Tryd.slices_Clone_string_nil 0 c0 w)
    have HSo := Aside0.mk (Tryd.slices_Sort_string_none none 0 w)
    have HCo := Aside0.mk (Tryd.slices_Compact_string_empty none 0 w)
    go_enter Tryd.func23, Tryd.ntmps23
    go_wp2_with fail
    refine HC.out.mono ?_
    rintro e w1 ⟨rfl, rfl⟩
    go_wp2_with fail
    refine HSo.out.mono ?_
    rintro e w2 ⟨rfl, rfl⟩
    go_wp2_with fail
    refine HCo.out.mono ?_
    rintro e w3 ⟨rfl, rfl⟩
    go_wp2_with fail
    go_ret
    exact ⟨_, rfl, Kd.R_nil _ _ _ _ _, Below.refl _ _⟩
  | some a =>
    have HC := Aside0.mk (Tryd.slices_Clone_string_zero a c0 w)
    go_enter Tryd.func23, Tryd.ntmps23
    go_wp2_with fail
    refine HC.out.mono ?_
    rintro e w1 ⟨v, rfl, HO, hnn, HB⟩
    have HB := Aside0.mk HB
    rcases HO.2 with ⟨hnil, _⟩ | ⟨g, cap, cur, rfl, hbase, hb, h1, h2, h3, h4⟩
    · exact absurd hnil hnn
    have HO := Aside0.mk HO
    have HSo := Aside0.mk (Tryd.slices_Sort_string_none (some ⟨g, 0, none⟩) cap w1)
    have HCo := Aside0.mk (Tryd.slices_Compact_string_empty (some ⟨g, 0, none⟩) cap w1)
    clear hnn hbase hb h1 h2 h3 h4
    go_wp2_with fail
    refine HSo.out.mono ?_
    rintro e w2 ⟨rfl, hw2⟩
    subst hw2
    go_wp2_with fail
    refine HCo.out.mono ?_
    rintro e w3 ⟨rfl, hw3⟩
    subst hw3
    go_wp2_with fail
    go_ret
    exact ⟨_, rfl, Kd.R_of_own (xs := []) (by simpa [encs] using HO.out) (fun _ _ => trivial), HB.out⟩

theorem names_Sorted.calls (A0 : Option Addr) (c0 : Nat) (l0 : List ByteArray) (r : List ByteArray) (w : World) (hr0 : Kd.C Kd.string w A0 l0.length l0) (hc0 : l0.length ≤ c0) (h : names_Sorted.f l0 = some r) :
    Calls Tryd.prog 23 #[.slice A0 l0.length c0] w fun e w' => ∃ v0_ : Value, e = .returned (v0_) ∧ Kd.R Kd.string 9 w' w.heap.size (fun _ => True) v0_ r ∧ Below w.heap.size w w' := by
  unfold names_Sorted.f at h
  split at h
  · rename_i hb
    cases h
    rcases Nat.eq_zero_or_pos l0.length with h0 | h0
    · obtain rfl : l0 = [] := List.eq_nil_of_length_eq_zero h0
      rw [show sortedB [] = [] from by simp [sortedB, sortedL, Lib.compact, Lib.compactUpTo]]
      exact sorted_none A0 c0 w
    · obtain ⟨b, o, rfl, _, hx⟩ := C_str_at hr0 h0
      exact sorted_many b o c0 l0 w h0 hc0 hb hx
  · cases h
end Go.Proofs.YtcaafbnfgijjfaaDoor.G
