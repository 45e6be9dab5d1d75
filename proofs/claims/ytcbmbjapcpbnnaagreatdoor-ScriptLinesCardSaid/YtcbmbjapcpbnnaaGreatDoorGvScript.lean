/- script.Text by its contract: the closure that appends numbers' words to a captured list, by its own. -/
import Derived.Test.YtcbmbjapcpbnnaaGreatDoorG0
import Derived.Test.YtcbmbjapcpbnnaaGreatDoorG17
import Derived.Test.YtcbmbjapcpbnnaaGreatDoorG4
import Derived.Test.YtcbmbjapcpbnnaaGreatDoorPuHist1
import Derived.OneCell
import Derived.Lib.ItoaLen
namespace Go.Proofs.YtcbmbjapcpbnnaaGreatDoor.G
open Go.RowKit Go.Proofs.YtcbmbjapcpbnnaaGreatDoorW.PrintWords Go.Proofs.YtcbmbjapcpbnnaaGreatDoorW.PrintLast
set_option linter.unusedVariables false
set_option linter.unusedSimpArgs false

def itoaS (n : Int) : ByteArray := ofL (Lib.itoa n)
theorem itoaS_f {n : Int} (h : -9223372036854775808 ≤ n ∧ n ≤ 9223372036854775807) : strconv_Itoa.f n = some (itoaS n) := by
  unfold strconv_Itoa.f; rw [if_pos h]; rfl
theorem take_nextN (xs : List ByteArray) (l : List Int) (k : Nat) (h : k < l.length) : xs ++ (l.take k).map numW ++ [numW (l.getD k 0)] = xs ++ (l.take (k + 1)).map numW := by
  have e : l.take (k + 1) = l.take k ++ [l.getD k 0] := by
    rw [List.take_add_one, List.getElem?_eq_getElem h, List.getD_eq_getElem?_getD, List.getElem?_eq_getElem h]; rfl
  rw [e, List.map_append, List.append_assoc]; rfl
theorem cell_stays {w w1 : World} {a : Addr} (h : w1.heap[a.block]? = w.heap[a.block]?) : w1.cell? a = w.cell? a := by
  unfold World.cell?; rw [h]
theorem add_blk (a : Addr) (n : Nat) : (a.add n).block = a.block := by unfold Addr.add; split <;> rfl

set_option maxRecDepth 100000 in
set_option maxHeartbeats 2000000 in
/-- The closure: what it has appended, and where; all else stays. -/
theorem snums_calls (w0 : World) (hT : Tabs w0) (ad : Addr) (A : Option Addr) (c : Nat) (l : List Int) (Bo : Nat) (v : Value) (xs : List ByteArray) (w : World)
    (hA : l ≠ [] → A = some ad) (hx : ∀ j, j < l.length → w.cell? (ad.add j) = some (.int .i64 (l.getD j 0)))
    (hlt : ad.block < w.heap.size) (hn1 : ad.block ≠ Bo) (hn2 : some ad.block ≠ v.ownBlock)
    (hB : w.heap[Bo]? = some (.cells #[v] 38 (0, 0))) (hR : Kd.R Kd.string 9 w w0.heap.size (fun k => k ≠ Bo) v xs) (hW : Below w0.heap.size w0 w) (hBo : w0.heap.size ≤ Bo)
    (hsz : xs.length + l.length < 8796093022208) :
    Calls Tryz.prog 51 #[.slice A l.length c, .pointer (some ⟨Bo, 0, none⟩)] w fun e w' => e = .returned (.tuple #[]) ∧ ∃ v' : Value, w'.heap[Bo]? = some (.cells #[v'] 38 (0, 0)) ∧ Kd.R Kd.string 9 w' w0.heap.size (fun k => k ≠ Bo) v' (xs ++ l.map numW) ∧ Below w0.heap.size w0 w' ∧ (∀ g, g < w.heap.size → g ≠ Bo → some g ≠ v.ownBlock → w'.heap[g]? = w.heap[g]?) := by
  have HT := Aside0.mk hT
  have HX := Aside0.mk hx
  have HA := Aside0.mk hA
  have HW := Aside0.mk hW
  have HB := Aside0.mk hB
  have HR := Aside0.mk hR
  have HLT := Aside0.mk hlt
  have HN1 := Aside0.mk hn1
  have HN2 := Aside0.mk hn2
  have HBO := Aside0.mk hBo
  have HSZ := Aside0.mk hsz
  clear hT hx hA hW hB hR hlt hn1 hn2 hBo hsz
  go_enter Tryz.func51, Tryz.ntmps51
  go_wp2_with fail
  go_loopw [8] (fun v8 wr => ∃ (k : Nat) (vr : Value), k ≤ l.length ∧ v8 = .int .i64 k ∧ Aside0 (wr.heap[Bo]? = some (.cells #[vr] 38 (0, 0))) ∧ Aside0 (Kd.R Kd.string 9 wr w0.heap.size (fun q => q ≠ Bo) vr (xs ++ (l.take k).map numW)) ∧ Aside0 (Below w0.heap.size w0 wr) ∧ Aside0 (∀ g, g < w.heap.size → g ≠ Bo → some g ≠ v.ownBlock → wr.heap[g]? = w.heap[g]?) ∧ Aside0 (vr.ownBlock = v.ownBlock ∨ ∃ b, vr.ownBlock = some b ∧ w.heap.size ≤ b) ∧ Aside0 (w.heap.size ≤ wr.heap.size)) (fun v8 _ => l.length - (intOf v8).toNat)
  case atStart => exact ⟨0, v, by omega, rfl, HB, ⟨by simpa using HR.out⟩, HW, ⟨fun _ _ _ _ => rfl⟩, ⟨.inl rfl⟩, ⟨Nat.le_refl _⟩⟩
  case round =>
    obtain ⟨k, vr, hk, rfl, HBr, HRr, HWr, HMr, HOr, HSr⟩ := hrel
    have hln : l.length < 8796093022208 := by have := HSZ.out; omega
    by_cases hkl : k < l.length
    · have hcell : wr.cell? (ad.add k) = some (.int .i64 (l.getD k 0)) := by
        rw [← HX.out k hkl]
        exact cell_stays (by rw [add_blk]; exact HMr.out ad.block HLT.out HN1.out HN2.out)
      have hAA : A = some ad := HA.out (by intro he; rw [he] at hkl; simp at hkl)
      subst hAA
      obtain ⟨n, hn⟩ : ∃ n, n = l.getD k 0 := ⟨_, rfl⟩
      rw [← hn] at hcell
      have HN := Aside0.mk hn
      have hc0 := cell_of_one HBr.out
      have hf0 := free_of_one HBr.out
      clear hn
      by_cases c1 : n < 0
      · have HV : Aside0 (noneW = numW (l.getD k 0)) := ⟨by unfold numW; rw [← HN.out, if_pos c1]⟩
        have c1b : decide (0 ≤ n) = false := decide_eq_false (by omega)
        clear c1
        go_wp2_with (first | ((with_reducible refine gate_builtin (b := .append) (xs := #[.tmp 20, .tmp 22]) rfl ?_); at_builtin; refine Kd.R_append Kd.string (w0 := w0) w0.heap.size rfl (.tmp 20) (.tmp 22) 38 9 (.string ⟨#[]⟩) 16 rfl Tryz.underlying38 info9 rfl (by decide) (by omega) vr (xs ++ (l.take k).map numW) noneW [.string noneW] (fun q => q ≠ Bo) (fun _ => False) rfl rfl ?aP (fun _ hk => hk.elim) ?aF ?aO ?aB ?aS ?aL ?_; (case aP => exact rfl); (case aF => exact (fun q hq => by have := blk_lt HBr.out; omega)); (case aO => exact HRr.out); (case aB => exact HWr.out); (case aS => exact below_size HWr.out); (case aL => simp only [List.length_append, List.length_map, List.length_take]; have := HSZ.out; omega); intro v1 w2 ho hb hg hat; obtain ⟨A1, c1, hv1, _, _⟩ := Kd.R_reads ho; obtain ⟨m1, hm1⟩ : ∃ m1, m1 = (xs ++ (l.take k).map numW ++ [noneW]).length := ⟨_, rfl⟩; rw [← hm1] at hv1; clear hm1; subst hv1; have hv2 : (noneW : ByteArray) = numW (l.getD k 0) := HV.out; rw [hv2, take_nextN xs l k hkl] at ho; clear hv2; have HRn := Aside0.mk ho; have HWn := Aside0.mk hb; have hBn := blk_grown HBr.out hg (fun he => HRr.out.1 Bo he.symm rfl); have hcB := cell_of_one hBn; have hfB := free_of_one hBn; have HBn := Aside0.mk hBn; have HG := Aside0.mk hg; have HAT := Aside0.mk hat; clear hBn ho hb hg hat))
        have hgsz : wr.heap.size ≤ (w2.setCell ⟨Bo, 0, none⟩ (Value.slice A1 m1 c1)).heap.size := by
          have := HG.out.size; simpa [World.setCell] using this
        have HOn : ∀ g, g < w.heap.size → some g ≠ v.ownBlock → some g ≠ vr.ownBlock := fun g h1 h2 => by
          rcases HOr.out with h | ⟨b, h, hb⟩
          · rw [h]; exact h2
          · rw [h]; intro he; injection he with he; omega
        go_roundw
        case rel =>
          refine ⟨k + 1, .slice A1 m1 c1, by omega, by go_num, ⟨one_setCell HBn.out⟩, ⟨Kd.R_far HRn.out (p := ⟨Bo, 0, none⟩) (fun q hq => hq) _⟩, ⟨below_set HWn.out HBO.out⟩, ⟨fun g hg1 hg2 hg3 => by
            have hz := Nat.lt_of_lt_of_le hg1 HSr.out
            rw [Below.heap_setCell _ _ _ _ hg2, HG.out.block g hz (HOn g hg1 hg3)]; exact HMr.out g hg1 hg2 hg3⟩, ⟨?_⟩, ⟨Nat.le_trans HSr.out hgsz⟩⟩
          rcases HAT.out with h | ⟨b, h, hb⟩
          · rw [h]; exact HOr.out
          · exact .inr ⟨b, h, Nat.le_trans HSr.out hb⟩
        case measure => simp [intOf]; omega
      by_cases c2 : n > 1099511627776
      · have HV : Aside0 (noneW = numW (l.getD k 0)) := ⟨by unfold numW; rw [← HN.out, if_neg c1, if_pos c2]⟩
        have c1b : decide (0 ≤ n) = true := decide_eq_true (by omega)
        have c2b : decide (n ≤ 1099511627776) = false := decide_eq_false (by omega)
        clear c1 c2
        go_wp2_with (first | ((with_reducible refine gate_builtin (b := .append) (xs := #[.tmp 20, .tmp 22]) rfl ?_); at_builtin; refine Kd.R_append Kd.string (w0 := w0) w0.heap.size rfl (.tmp 20) (.tmp 22) 38 9 (.string ⟨#[]⟩) 16 rfl Tryz.underlying38 info9 rfl (by decide) (by omega) vr (xs ++ (l.take k).map numW) noneW [.string noneW] (fun q => q ≠ Bo) (fun _ => False) rfl rfl ?aP (fun _ hk => hk.elim) ?aF ?aO ?aB ?aS ?aL ?_; (case aP => exact rfl); (case aF => exact (fun q hq => by have := blk_lt HBr.out; omega)); (case aO => exact HRr.out); (case aB => exact HWr.out); (case aS => exact below_size HWr.out); (case aL => simp only [List.length_append, List.length_map, List.length_take]; have := HSZ.out; omega); intro v1 w2 ho hb hg hat; obtain ⟨A1, c1, hv1, _, _⟩ := Kd.R_reads ho; obtain ⟨m1, hm1⟩ : ∃ m1, m1 = (xs ++ (l.take k).map numW ++ [noneW]).length := ⟨_, rfl⟩; rw [← hm1] at hv1; clear hm1; subst hv1; have hv2 : (noneW : ByteArray) = numW (l.getD k 0) := HV.out; rw [hv2, take_nextN xs l k hkl] at ho; clear hv2; have HRn := Aside0.mk ho; have HWn := Aside0.mk hb; have hBn := blk_grown HBr.out hg (fun he => HRr.out.1 Bo he.symm rfl); have hcB := cell_of_one hBn; have hfB := free_of_one hBn; have HBn := Aside0.mk hBn; have HG := Aside0.mk hg; have HAT := Aside0.mk hat; clear hBn ho hb hg hat))
        have hgsz : wr.heap.size ≤ (w2.setCell ⟨Bo, 0, none⟩ (Value.slice A1 m1 c1)).heap.size := by
          have := HG.out.size; simpa [World.setCell] using this
        have HOn : ∀ g, g < w.heap.size → some g ≠ v.ownBlock → some g ≠ vr.ownBlock := fun g h1 h2 => by
          rcases HOr.out with h | ⟨b, h, hb⟩
          · rw [h]; exact h2
          · rw [h]; intro he; injection he with he; omega
        go_roundw
        case rel =>
          refine ⟨k + 1, .slice A1 m1 c1, by omega, by go_num, ⟨one_setCell HBn.out⟩, ⟨Kd.R_far HRn.out (p := ⟨Bo, 0, none⟩) (fun q hq => hq) _⟩, ⟨below_set HWn.out HBO.out⟩, ⟨fun g hg1 hg2 hg3 => by
            have hz := Nat.lt_of_lt_of_le hg1 HSr.out
            rw [Below.heap_setCell _ _ _ _ hg2, HG.out.block g hz (HOn g hg1 hg3)]; exact HMr.out g hg1 hg2 hg3⟩, ⟨?_⟩, ⟨Nat.le_trans HSr.out hgsz⟩⟩
          rcases HAT.out with h | ⟨b, h, hb⟩
          · rw [h]; exact HOr.out
          · exact .inr ⟨b, h, Nat.le_trans HSr.out hb⟩
        case measure => simp [intOf]; omega
      · have HV : Aside0 (itoaS n = numW (l.getD k 0)) := ⟨by unfold numW itoaS; rw [← HN.out, if_neg c1, if_neg c2]⟩
        have HI := Aside0.mk (itoaS_f (n := n) ⟨by omega, by omega⟩)
        have c1b : decide (0 ≤ n) = true := decide_eq_true (by omega)
        have c2b : decide (n ≤ 1099511627776) = true := decide_eq_true (by omega)
        clear c1 c2
        go_wp2_with (first | (go_at_call 52; refine (strconv_Itoa.calls n (itoaS n) _ HI.out (Tabs.after HT.out (by repeat (first | (with_reducible first | exact HWr.out | apply below_alloc | apply pw_below_drewN | apply below_drew1) | exact HWr.out)))).mono ?_; rintro e w1 ⟨rfl, hb1⟩; have n0_ := Aside0.mk (Kd.R_below HRr.out hb1); have n1_ := Aside0.mk (blk_below HBr.out hb1); have n2_ := Aside0.mk (below_step HWr.out hb1); have n3_ := Aside0.mk hb1; clear HRr HBr HWr; have HRr := n0_; have HBr := n1_; have HWr := n2_; have HB1 := n3_; have hc1 := cell_of_one HBr.out; have hf1 := free_of_one HBr.out; clear n0_ n1_ n2_ n3_ hb1) | ((with_reducible refine gate_builtin (b := .append) (xs := #[.tmp 20, .tmp 22]) rfl ?_); at_builtin; refine Kd.R_append Kd.string (w0 := w0) w0.heap.size rfl (.tmp 20) (.tmp 22) 38 9 (.string ⟨#[]⟩) 16 rfl Tryz.underlying38 info9 rfl (by decide) (by omega) vr (xs ++ (l.take k).map numW) (itoaS n) [.string (itoaS n)] (fun q => q ≠ Bo) (fun _ => False) rfl rfl ?aP (fun _ hk => hk.elim) ?aF ?aO ?aB ?aS ?aL ?_; (case aP => exact rfl); (case aF => exact (fun q hq => by have := blk_lt HBr.out; omega)); (case aO => exact HRr.out); (case aB => exact HWr.out); (case aS => exact below_size HWr.out); (case aL => simp only [List.length_append, List.length_map, List.length_take]; have := HSZ.out; omega); intro v1 w2 ho hb hg hat; obtain ⟨A1, c1, hv1, _, _⟩ := Kd.R_reads ho; obtain ⟨m1, hm1⟩ : ∃ m1, m1 = (xs ++ (l.take k).map numW ++ [(itoaS n)]).length := ⟨_, rfl⟩; rw [← hm1] at hv1; clear hm1; subst hv1; have hv2 : ((itoaS n) : ByteArray) = numW (l.getD k 0) := HV.out; rw [hv2, take_nextN xs l k hkl] at ho; clear hv2; have HRn := Aside0.mk ho; have HWn := Aside0.mk hb; have hBn := blk_grown HBr.out hg (fun he => HRr.out.1 Bo he.symm rfl); have hcB := cell_of_one hBn; have hfB := free_of_one hBn; have HBn := Aside0.mk hBn; have HG := Aside0.mk hg; have HAT := Aside0.mk hat; clear hBn ho hb hg hat))
        have hgsz : w1.heap.size ≤ (w2.setCell ⟨Bo, 0, none⟩ (Value.slice A1 m1 c1)).heap.size := by
          have := HG.out.size; simpa [World.setCell] using this
        have HOn : ∀ g, g < w.heap.size → some g ≠ v.ownBlock → some g ≠ vr.ownBlock := fun g h1 h2 => by
          rcases HOr.out with h | ⟨b, h, hb⟩
          · rw [h]; exact h2
          · rw [h]; intro he; injection he with he; omega
        go_roundw
        case rel =>
          refine ⟨k + 1, .slice A1 m1 c1, by omega, by go_num, ⟨one_setCell HBn.out⟩, ⟨Kd.R_far HRn.out (p := ⟨Bo, 0, none⟩) (fun q hq => hq) _⟩, ⟨below_set HWn.out HBO.out⟩, ⟨fun g hg1 hg2 hg3 => by
            have hz := Nat.lt_of_lt_of_le hg1 HSr.out
            rw [Below.heap_setCell _ _ _ _ hg2, HG.out.block g (Nat.lt_of_lt_of_le hz HB1.out.size) (HOn g hg1 hg3), HB1.out.block g hz]; exact HMr.out g hg1 hg2 hg3⟩, ⟨?_⟩, ⟨Nat.le_trans (Nat.le_trans HSr.out HB1.out.size) hgsz⟩⟩
          rcases HAT.out with h | ⟨b, h, hb⟩
          · rw [h]; exact HOr.out
          · exact .inr ⟨b, h, Nat.le_trans (Nat.le_trans HSr.out HB1.out.size) hb⟩
        case measure => simp [intOf]; omega

    · go_wp2_with fail
      go_end0
      have e : k = l.length := by omega
      subst e
      exact ⟨rfl, vr, HBr.out, by simpa using HRr.out, HWr.out, HMr.out⟩
theorem R_freshS {α : Type} {d : Kd α} {e : Nat} {w : World} {base : Nat} {ok : Nat → Prop} {v : Value} {xs : List α} (h : d.R e w base ok v xs) : some w.heap.size ≠ v.ownBlock := fun he => by
  have := ((Kd.R_bound h).1 _ he.symm).2.2.1
  omega
theorem lit_cellsS (W : World) (q : Nat) (hq : q = W.heap.size) (l : List Int) : ∀ j, j < l.length → (W.alloc (.cells (l.map (Value.int .i64)).toArray 3)).cell? ((⟨q, 0, none⟩ : Addr).add j) = some (.int .i64 (l.getD j 0)) := by
  intro j hj
  subst hq
  have e : (⟨W.heap.size, 0, none⟩ : Addr).add j = ⟨W.heap.size, j, none⟩ := by unfold Addr.add; split <;> simp_all
  rw [e]
  have h := heap_alloc_new W (.cells (l.map (Value.int .i64)).toArray 3)
  simp only [World.cell?, h]
  simp [List.getD_eq_getElem?_getD, List.getElem?_eq_getElem hj]

theorem ints_atS {w0 : World} {A : Option Addr} {l : List Int} (h : Kd.C (Kd.int .i64) w0 A l.length l) (hn : 0 < l.length) :
    ∃ ad : Addr, A = some ad ∧ ∀ W, Below w0.heap.size w0 W → ∀ j, j < l.length → W.cell? (ad.add j) = some (.int .i64 (l.getD j 0)) := by
  obtain ⟨ad, e, _⟩ := Kd.at_int h 0 (by omega) (by omega)
  refine ⟨ad, e, fun W hW j hj => ?_⟩
  obtain ⟨ad', e', hx⟩ := Kd.at_int (Kd.C_below h hW) (j : Int) (by omega) (by omega)
  rw [e] at e'; cases e'
  simpa [rd] using hx

theorem cap_storeS {w0 w : World} {Bo : Nat} {u v1 : Value} {xs : List ByteArray} (hBn : w.heap[Bo]? = some (.cells #[u] 38 (0, 0))) (ho : Kd.R Kd.string 9 w w0.heap.size (fun q => q ≠ Bo) v1 xs) (hb : Below w0.heap.size w0 w) (hge : w0.heap.size ≤ Bo) :
    ∃ Az m1 cz, v1 = .slice Az m1 cz ∧ m1 = xs.length ∧ m1 ≤ cz ∧ (w.setCell ⟨Bo, 0, none⟩ v1).cell? ⟨Bo, 0, none⟩ = some v1 ∧ Kd.string.C (w.setCell ⟨Bo, 0, none⟩ v1) Az xs.length xs ∧ Below w0.heap.size w0 (w.setCell ⟨Bo, 0, none⟩ v1) := by
  have hR := Kd.R_far (p := ⟨Bo, 0, none⟩) ho (fun q hq => hq) v1
  obtain ⟨Az, cz, h1, h2, h3⟩ := Kd.R_reads hR
  exact ⟨Az, _, cz, h1, rfl, h2, cell_of_one (one_setCell hBn), h3, below_set hb hge⟩

/-! ### what the text is -/
def wordA (k : Int) : ByteArray := (script_word.f k).getD noneW
theorem wordA_f (k : Int) : script_word.f k = some (wordA k) := by
  have h : ∃ r, script_word.f k = some r := by
    unfold script_word.f
    simp only [Option.bind_some]
    repeat' split
    all_goals first | exact ⟨_, rfl⟩ | (exfalso; omega)
  obtain ⟨r, h⟩ := h
  unfold wordA
  rw [h]; rfl
/-- The words' text; none where one of them is none. -/
def actT (ws : List ByteArray) : Option ByteArray := if ws.any isNone = true then some ⟨#[]⟩ else strings_Join.f ws ⟨#[32]⟩
theorem isNone_beq (x : ByteArray) : (x.toList == ([] : List UInt8)) = isNone x := by
  unfold isNone; rw [toL, Bool.eq_iff_iff]; simp
theorem actT_none {ws : List ByteArray} {r : ByteArray} (h : actT ws = some r) (k : Nat) (hk : k < ws.length) (hn : isNone (ws.getD k ByteArray.empty) = true) : r = ⟨#[]⟩ := by
  unfold actT at h
  rw [List.getD_eq_getElem?_getD, List.getElem?_eq_getElem hk] at hn
  rw [if_pos (List.any_eq_true.2 ⟨_, List.getElem_mem hk, hn⟩)] at h
  injection h with h
  exact h.symm
theorem actT_some {ws : List ByteArray} {r : ByteArray} (h : actT ws = some r) (hn : ∀ j, j < ws.length → isNone (ws.getD j ByteArray.empty) = false) : strings_Join.f ws ⟨#[32]⟩ = some r := by
  unfold actT at h
  rwa [if_neg] at h
  intro ha
  obtain ⟨x, hx, hx2⟩ := List.any_eq_true.1 ha
  obtain ⟨j, hj, rfl⟩ := List.mem_iff_getElem.1 hx
  have := hn j hj
  rw [List.getD_eq_getElem?_getD, List.getElem?_eq_getElem hj] at this
  rw [show (some ws[j]).getD ByteArray.empty = ws[j] from rfl, hx2] at this
  cases this
set_option maxRecDepth 100000 in
set_option maxHeartbeats 2000000 in
theorem stext_step (kind thread n okind : Int) (opath oto : ByteArray) (ooff on : Int) (A8 : Option Addr) (c8 : Nat) (l8 : List Int) (osnap : Int) (A10 : Option Addr) (c10 : Nat) (l10 : List Int) (r : ByteArray) (w0 : World) (hT : Tabs w0)
    (hr8 : Kd.C (Kd.int .u8) w0 A8 l8.length l8) (hc8 : l8.length ≤ c8) (hr10 : Kd.C (Kd.int .i64) w0 A10 l10.length l10)
    (hj : actT ([wordA 2] ++ List.map numW [thread]) = some r) :
    Calls Tryz.prog 22 #[.agg #[.int .i64 2, .int .i64 thread, .int .i64 n, .int .i64 okind, .string opath, .string oto, .int .i64 ooff, .int .i64 on, .slice A8 l8.length c8, .int .i64 osnap, .slice A10 l10.length c10]] w0 fun e w' => e = .returned (.string r) ∧ Below w0.heap.size w0 w' := by
  have HT := Aside0.mk hT
  have HR8 := Aside0.mk hr8
  have HC8 := Aside0.mk hc8
  have HR10 := Aside0.mk hr10
  have HB := Aside0.mk (Below.refl w0.heap.size w0)
  clear hT hr8 hc8 hr10
  have HJ := Aside0.mk hj
  clear hj
  have HSZ : Aside0 (([wordA 2] ++ List.map numW [thread]).length < 8796093022208) := ⟨by simp⟩
  go_enter Tryz.func22, Tryz.ntmps22
  go_wp2_with (first | ((with_reducible refine gate_dst (N := 1) rfl ?_); refine box_event ?hg (N := 1) ?hd (cs := #[.int .i64 2, .int .i64 thread, .int .i64 n, .int .i64 okind, .string opath, .string oto, .int .i64 ooff, .int .i64 on, .slice A8 l8.length c8, .int .i64 osnap, .slice A10 l10.length c10]) (t := 52) ?hr ?_; (case hd => rfl); (case hg => rfl); (case hr => first | (go_simp; done) | (go_simp; rfl)); intro gb hg w1 hbox hb; have n0_ := Aside0.mk (below_step (by repeat (first | (with_reducible first | exact HB.out | apply below_alloc | apply pw_below_drewN | apply below_drew1) | exact HB.out)) hb); have BK := Aside0.mk hbox; have HG1 := Aside0.mk hg; clear HB; have HB := n0_; clear n0_; have hz0 := (blk_cell BK.out 0).trans (show _ = some (.int .i64 2 : Value) from rfl); clear hb hbox hg) | (go_at_call 50; refine (script_word.calls 2 (wordA 2) _ (wordA_f 2)).mono ?_; rintro e w1b ⟨rfl, hb⟩; have n0_ := Aside0.mk (below_step (by repeat (first | (with_reducible first | exact HB.out | apply below_alloc | apply pw_below_drewN | apply below_drew1) | exact HB.out)) hb); have n1_ := Aside0.mk (blk_below BK.out hb); clear HB BK; have HB := n0_; have BK := n1_; clear n0_ n1_ hb) | ((with_reducible refine gate_dst (N := 11) rfl ?_); refine Kd.R_lit Kd.string _ 9 ?hg (N := 11) ?hd (xs := [wordA 2]) (inner := [.string (wordA 2)]) (ok := fun _ => True) (okp := fun _ => True) ?hr ?hp (fun _ hk => hk) trivial (Below.refl _ _) (Nat.le_refl _) (by simp) ?_; (case hd => rfl); (case hg => rfl); (case hr => first | (go_simp; done) | (go_simp; rfl)); (case hp => exact (Reps.one (show Kd.M Kd.string _ _ _ (wordA 2) [.string (wordA 2)] from rfl) (Reps.none _ _))); intro v w2 ho hb hg_ hnew_; clear hg_; obtain ⟨A2, c2, hv_, hcc_, _⟩ := Kd.R_reads ho; have HCC := Aside0.mk hcc_; clear hcc_; have hv : v = .slice A2 1 c2 := hv_; subst hv; have HR2 := Aside0.mk (Kd.R_lower ho (below_size (by repeat (first | (with_reducible first | exact HB.out | apply below_alloc | apply pw_below_drewN | apply below_drew1) | exact HB.out)))); have n1_ := Aside0.mk (blk_below BK.out hb); have n0_ := Aside0.mk (below_step (by repeat (first | (with_reducible first | exact HB.out | apply below_alloc | apply pw_below_drewN | apply below_drew1) | exact HB.out)) hb); clear HB BK; have HB := n0_; have BK := n1_; clear n0_ n1_ ho hb hnew_ hv_; have hBo_ := blk_new w2 (.cells #[Value.slice A2 1 c2] 38 (0, 0)); have HBo := Aside0.mk hBo_; have hcS := cell_of_one hBo_; have hfS := free_of_one hBo_; have HR3 : Aside0 (Kd.R Kd.string 9 (w2.alloc (.cells #[Value.slice A2 1 c2] 38)) w0.heap.size (fun q => q ≠ w2.heap.size) (.slice A2 1 c2) [wordA 2]) := ⟨Kd.R_alloc (Kd.R_mono (Kd.R_bound HR2.out) (fun q hq => Nat.ne_of_lt hq.2.2.1)) _⟩; have HGE : Aside0 (w0.heap.size ≤ w2.heap.size) := ⟨below_size HB.out⟩; have HLG : Aside0 (gb < w2.heap.size) := ⟨blk_lt BK.out⟩; have BK3 := Aside0.mk (blk_alloc BK.out (.cells #[Value.slice A2 1 c2] 38 (0, 0))); have HWs : Aside0 (Below w0.heap.size w0 (w2.alloc (.cells #[Value.slice A2 1 c2] 38))) := ⟨below_alloc HB.out _⟩; have hz0 := (blk_cell BK3.out 0).trans (show _ = some (.int .i64 2 : Value) from rfl); have hz1 := (blk_cell BK3.out 1).trans (show _ = some (.int .i64 thread : Value) from rfl); have hz2 := (blk_cell BK3.out 2).trans (show _ = some (.int .i64 n : Value) from rfl); have hz10 := (blk_cell BK3.out 10).trans (show _ = some (.slice A10 l10.length c10 : Value) from rfl); clear hBo_ HB BK HR2) | (go_at_call 51; refine (snums_calls w0 HT.out ⟨w2.heap.size + 1, 0, none⟩ _ _ [thread] w2.heap.size _ [wordA 2] _ (fun _ => rfl) (lit_cellsS _ _ (by simp) [thread]) (by simp) (by simp) (by have := R_freshS HR3.out; simpa using this) (blk_alloc HBo.out _) (Kd.R_alloc HR3.out _) (below_alloc HWs.out _) HGE.out (by simp)).mono ?_; rintro e w5 ⟨rfl, ve, hBe, hRe, hWe, hKe⟩;  obtain ⟨Az, cz, hvz, hcz, hCz⟩ := Kd.R_reads hRe; obtain ⟨m1, hm1⟩ : ∃ m1, m1 = ([wordA 2] ++ List.map numW [thread]).length := ⟨_, rfl⟩; rw [← hm1] at hvz hcz; subst hvz; have hzz := cell_of_one hBe; have HCz := Aside0.mk hCz; have HWe := Aside0.mk hWe; have HM1 := Aside0.mk hm1; have HCZ := Aside0.mk hcz; clear hRe hWe hCz hm1 hcz; clear hBe hKe))
  have hm1s : m1 < 8796093022208 := by have := HM1.out; have := HSZ.out; omega
  go_wp2_with fail
  go_loopw [53] (fun v53 wr => ∃ k : Nat, k ≤ m1 ∧ v53 = .int .i64 k ∧ Aside0 (∀ j, j < k → isNone (([wordA 2] ++ List.map numW [thread]).getD j ByteArray.empty) = false) ∧ Aside0 (Drawn0 (w5) wr)) (fun v53 _ => m1 - (intOf v53).toNat)
  case atStart => exact ⟨0, by omega, rfl, ⟨fun j hj => by omega⟩, ⟨Drawn0.refl _⟩⟩
  case round =>
    obtain ⟨k, hk, rfl, HN, HD⟩ := hrel
    have HWr : Aside0 (Below w0.heap.size w0 wr) := ⟨below_step HWe.out HD.out.below⟩
    by_cases hkl : k < m1
    · obtain ⟨ad, e1, hx⟩ := Kd.at_string HCz.out (k : Int) (by omega) (by have := HM1.out; omega)
      subst e1
      have hx' : wr.cell? (ad.add k) = some (.string (rdOf ByteArray.empty ([wordA 2] ++ List.map numW [thread]) (k : Int))) := by
        obtain ⟨⟨nd, rfl⟩⟩ := HD.out
        simpa using hx
      clear hx
      obtain ⟨x, hxe⟩ : ∃ x, x = rdOf ByteArray.empty ([wordA 2] ++ List.map numW [thread]) (k : Int) := ⟨_, rfl⟩
      rw [← hxe] at hx'
      have HX := Aside0.mk hxe
      clear hxe
      cases hq : isNone x with
      | true =>
        have hq1 : (x.toList == ([] : List UInt8)) = true := (isNone_beq x).trans hq
        have HQ := Aside0.mk hq
        clear hq
        go_wp2_with fail
        go_ret
        have hr : r = ⟨#[]⟩ := actT_none HJ.out k (by have := HM1.out; omega) (by have := HQ.out; rw [HX.out] at this; simpa [rdOf] using this)
        exact ⟨by rw [hr]; rfl, HWr.out⟩
      | false =>
        have hq1 : (x.toList == ([] : List UInt8)) = false := (isNone_beq x).trans hq
        have HQ := Aside0.mk hq
        clear hq
        go_wp2_with fail
        go_roundw
        case rel =>
          refine ⟨k + 1, by omega, by go_num, ⟨fun j hj => ?_⟩, HD⟩
          by_cases hjk : j < k
          · exact HN.out j hjk
          · obtain rfl : j = k := by omega
            have := HQ.out; rw [HX.out] at this; simpa [rdOf] using this
        case measure => simp [intOf]; omega
    · have hzw : wr.cell? ⟨w2.heap.size, 0, none⟩ = some (.slice Az m1 cz) := by
        obtain ⟨⟨nd, rfl⟩⟩ := HD.out
        exact hzz
      have HCw := Aside0.mk (Kd.C_below HCz.out HD.out.below)
      have hJ := actT_some HJ.out (fun j hj => HN.out j (by have := HM1.out; omega))
      have HJ2 := Aside0.mk hJ
      clear hJ
      go_wp2_with (go_at_call 36; have hjc : Calls Tryz.prog 36 #[.slice Az m1 cz, .string ⟨#[32]⟩] _ _ := (by rw [HM1.out]; exact strings_Join.calls Az cz ([wordA 2] ++ List.map numW [thread]) ⟨#[32]⟩ r _ HCw.out (by rw [← HM1.out]; exact HCZ.out) HJ2.out); refine hjc.mono ?_; rintro e w9 ⟨rfl, hb9⟩; have HW9 := Aside0.mk (below_step HWr.out hb9); clear hb9)
      go_ret
      exact ⟨rfl, HW9.out⟩

set_option maxRecDepth 100000 in
set_option maxHeartbeats 2000000 in
theorem stext_cut (kind thread n okind : Int) (opath oto : ByteArray) (ooff on : Int) (A8 : Option Addr) (c8 : Nat) (l8 : List Int) (osnap : Int) (A10 : Option Addr) (c10 : Nat) (l10 : List Int) (r : ByteArray) (w0 : World) (hT : Tabs w0)
    (hr8 : Kd.C (Kd.int .u8) w0 A8 l8.length l8) (hc8 : l8.length ≤ c8) (hr10 : Kd.C (Kd.int .i64) w0 A10 l10.length l10)
    (hj : actT ([wordA 4] ++ List.map numW [n]) = some r) :
    Calls Tryz.prog 22 #[.agg #[.int .i64 4, .int .i64 thread, .int .i64 n, .int .i64 okind, .string opath, .string oto, .int .i64 ooff, .int .i64 on, .slice A8 l8.length c8, .int .i64 osnap, .slice A10 l10.length c10]] w0 fun e w' => e = .returned (.string r) ∧ Below w0.heap.size w0 w' := by
  have HT := Aside0.mk hT
  have HR8 := Aside0.mk hr8
  have HC8 := Aside0.mk hc8
  have HR10 := Aside0.mk hr10
  have HB := Aside0.mk (Below.refl w0.heap.size w0)
  clear hT hr8 hc8 hr10
  have HJ := Aside0.mk hj
  clear hj
  have HSZ : Aside0 (([wordA 4] ++ List.map numW [n]).length < 8796093022208) := ⟨by simp⟩
  go_enter Tryz.func22, Tryz.ntmps22
  go_wp2_with (first | ((with_reducible refine gate_dst (N := 1) rfl ?_); refine box_event ?hg (N := 1) ?hd (cs := #[.int .i64 4, .int .i64 thread, .int .i64 n, .int .i64 okind, .string opath, .string oto, .int .i64 ooff, .int .i64 on, .slice A8 l8.length c8, .int .i64 osnap, .slice A10 l10.length c10]) (t := 52) ?hr ?_; (case hd => rfl); (case hg => rfl); (case hr => first | (go_simp; done) | (go_simp; rfl)); intro gb hg w1 hbox hb; have n0_ := Aside0.mk (below_step (by repeat (first | (with_reducible first | exact HB.out | apply below_alloc | apply pw_below_drewN | apply below_drew1) | exact HB.out)) hb); have BK := Aside0.mk hbox; have HG1 := Aside0.mk hg; clear HB; have HB := n0_; clear n0_; have hz0 := (blk_cell BK.out 0).trans (show _ = some (.int .i64 4 : Value) from rfl); clear hb hbox hg) | (go_at_call 50; refine (script_word.calls 4 (wordA 4) _ (wordA_f 4)).mono ?_; rintro e w1b ⟨rfl, hb⟩; have n0_ := Aside0.mk (below_step (by repeat (first | (with_reducible first | exact HB.out | apply below_alloc | apply pw_below_drewN | apply below_drew1) | exact HB.out)) hb); have n1_ := Aside0.mk (blk_below BK.out hb); clear HB BK; have HB := n0_; have BK := n1_; clear n0_ n1_ hb) | ((with_reducible refine gate_dst (N := 11) rfl ?_); refine Kd.R_lit Kd.string _ 9 ?hg (N := 11) ?hd (xs := [wordA 4]) (inner := [.string (wordA 4)]) (ok := fun _ => True) (okp := fun _ => True) ?hr ?hp (fun _ hk => hk) trivial (Below.refl _ _) (Nat.le_refl _) (by simp) ?_; (case hd => rfl); (case hg => rfl); (case hr => first | (go_simp; done) | (go_simp; rfl)); (case hp => exact (Reps.one (show Kd.M Kd.string _ _ _ (wordA 4) [.string (wordA 4)] from rfl) (Reps.none _ _))); intro v w2 ho hb hg_ hnew_; clear hg_; obtain ⟨A2, c2, hv_, hcc_, _⟩ := Kd.R_reads ho; have HCC := Aside0.mk hcc_; clear hcc_; have hv : v = .slice A2 1 c2 := hv_; subst hv; have HR2 := Aside0.mk (Kd.R_lower ho (below_size (by repeat (first | (with_reducible first | exact HB.out | apply below_alloc | apply pw_below_drewN | apply below_drew1) | exact HB.out)))); have n1_ := Aside0.mk (blk_below BK.out hb); have n0_ := Aside0.mk (below_step (by repeat (first | (with_reducible first | exact HB.out | apply below_alloc | apply pw_below_drewN | apply below_drew1) | exact HB.out)) hb); clear HB BK; have HB := n0_; have BK := n1_; clear n0_ n1_ ho hb hnew_ hv_; have hBo_ := blk_new w2 (.cells #[Value.slice A2 1 c2] 38 (0, 0)); have HBo := Aside0.mk hBo_; have hcS := cell_of_one hBo_; have hfS := free_of_one hBo_; have HR3 : Aside0 (Kd.R Kd.string 9 (w2.alloc (.cells #[Value.slice A2 1 c2] 38)) w0.heap.size (fun q => q ≠ w2.heap.size) (.slice A2 1 c2) [wordA 4]) := ⟨Kd.R_alloc (Kd.R_mono (Kd.R_bound HR2.out) (fun q hq => Nat.ne_of_lt hq.2.2.1)) _⟩; have HGE : Aside0 (w0.heap.size ≤ w2.heap.size) := ⟨below_size HB.out⟩; have HLG : Aside0 (gb < w2.heap.size) := ⟨blk_lt BK.out⟩; have BK3 := Aside0.mk (blk_alloc BK.out (.cells #[Value.slice A2 1 c2] 38 (0, 0))); have HWs : Aside0 (Below w0.heap.size w0 (w2.alloc (.cells #[Value.slice A2 1 c2] 38))) := ⟨below_alloc HB.out _⟩; have hz0 := (blk_cell BK3.out 0).trans (show _ = some (.int .i64 4 : Value) from rfl); have hz1 := (blk_cell BK3.out 1).trans (show _ = some (.int .i64 thread : Value) from rfl); have hz2 := (blk_cell BK3.out 2).trans (show _ = some (.int .i64 n : Value) from rfl); have hz10 := (blk_cell BK3.out 10).trans (show _ = some (.slice A10 l10.length c10 : Value) from rfl); clear hBo_ HB BK HR2) | (go_at_call 51; refine (snums_calls w0 HT.out ⟨w2.heap.size + 1, 0, none⟩ _ _ [n] w2.heap.size _ [wordA 4] _ (fun _ => rfl) (lit_cellsS _ _ (by simp) [n]) (by simp) (by simp) (by have := R_freshS HR3.out; simpa using this) (blk_alloc HBo.out _) (Kd.R_alloc HR3.out _) (below_alloc HWs.out _) HGE.out (by simp)).mono ?_; rintro e w5 ⟨rfl, ve, hBe, hRe, hWe, hKe⟩;  obtain ⟨Az, cz, hvz, hcz, hCz⟩ := Kd.R_reads hRe; obtain ⟨m1, hm1⟩ : ∃ m1, m1 = ([wordA 4] ++ List.map numW [n]).length := ⟨_, rfl⟩; rw [← hm1] at hvz hcz; subst hvz; have hzz := cell_of_one hBe; have HCz := Aside0.mk hCz; have HWe := Aside0.mk hWe; have HM1 := Aside0.mk hm1; have HCZ := Aside0.mk hcz; clear hRe hWe hCz hm1 hcz; clear hBe hKe))
  have hm1s : m1 < 8796093022208 := by have := HM1.out; have := HSZ.out; omega
  go_wp2_with fail
  go_loopw [53] (fun v53 wr => ∃ k : Nat, k ≤ m1 ∧ v53 = .int .i64 k ∧ Aside0 (∀ j, j < k → isNone (([wordA 4] ++ List.map numW [n]).getD j ByteArray.empty) = false) ∧ Aside0 (Drawn0 (w5) wr)) (fun v53 _ => m1 - (intOf v53).toNat)
  case atStart => exact ⟨0, by omega, rfl, ⟨fun j hj => by omega⟩, ⟨Drawn0.refl _⟩⟩
  case round =>
    obtain ⟨k, hk, rfl, HN, HD⟩ := hrel
    have HWr : Aside0 (Below w0.heap.size w0 wr) := ⟨below_step HWe.out HD.out.below⟩
    by_cases hkl : k < m1
    · obtain ⟨ad, e1, hx⟩ := Kd.at_string HCz.out (k : Int) (by omega) (by have := HM1.out; omega)
      subst e1
      have hx' : wr.cell? (ad.add k) = some (.string (rdOf ByteArray.empty ([wordA 4] ++ List.map numW [n]) (k : Int))) := by
        obtain ⟨⟨nd, rfl⟩⟩ := HD.out
        simpa using hx
      clear hx
      obtain ⟨x, hxe⟩ : ∃ x, x = rdOf ByteArray.empty ([wordA 4] ++ List.map numW [n]) (k : Int) := ⟨_, rfl⟩
      rw [← hxe] at hx'
      have HX := Aside0.mk hxe
      clear hxe
      cases hq : isNone x with
      | true =>
        have hq1 : (x.toList == ([] : List UInt8)) = true := (isNone_beq x).trans hq
        have HQ := Aside0.mk hq
        clear hq
        go_wp2_with fail
        go_ret
        have hr : r = ⟨#[]⟩ := actT_none HJ.out k (by have := HM1.out; omega) (by have := HQ.out; rw [HX.out] at this; simpa [rdOf] using this)
        exact ⟨by rw [hr]; rfl, HWr.out⟩
      | false =>
        have hq1 : (x.toList == ([] : List UInt8)) = false := (isNone_beq x).trans hq
        have HQ := Aside0.mk hq
        clear hq
        go_wp2_with fail
        go_roundw
        case rel =>
          refine ⟨k + 1, by omega, by go_num, ⟨fun j hj => ?_⟩, HD⟩
          by_cases hjk : j < k
          · exact HN.out j hjk
          · obtain rfl : j = k := by omega
            have := HQ.out; rw [HX.out] at this; simpa [rdOf] using this
        case measure => simp [intOf]; omega
    · have hzw : wr.cell? ⟨w2.heap.size, 0, none⟩ = some (.slice Az m1 cz) := by
        obtain ⟨⟨nd, rfl⟩⟩ := HD.out
        exact hzz
      have HCw := Aside0.mk (Kd.C_below HCz.out HD.out.below)
      have hJ := actT_some HJ.out (fun j hj => HN.out j (by have := HM1.out; omega))
      have HJ2 := Aside0.mk hJ
      clear hJ
      go_wp2_with (go_at_call 36; have hjc : Calls Tryz.prog 36 #[.slice Az m1 cz, .string ⟨#[32]⟩] _ _ := (by rw [HM1.out]; exact strings_Join.calls Az cz ([wordA 4] ++ List.map numW [n]) ⟨#[32]⟩ r _ HCw.out (by rw [← HM1.out]; exact HCZ.out) HJ2.out); refine hjc.mono ?_; rintro e w9 ⟨rfl, hb9⟩; have HW9 := Aside0.mk (below_step HWr.out hb9); clear hb9)
      go_ret
      exact ⟨rfl, HW9.out⟩

set_option maxRecDepth 100000 in
set_option maxHeartbeats 2000000 in
theorem stext_round (kind thread n okind : Int) (opath oto : ByteArray) (ooff on : Int) (A8 : Option Addr) (c8 : Nat) (l8 : List Int) (osnap : Int) (A10 : Option Addr) (c10 : Nat) (l10 : List Int) (r : ByteArray) (w0 : World) (hT : Tabs w0)
    (hr8 : Kd.C (Kd.int .u8) w0 A8 l8.length l8) (hc8 : l8.length ≤ c8) (hr10 : Kd.C (Kd.int .i64) w0 A10 l10.length l10)
    (hj : actT ([wordA 6] ++ List.map numW [n]) = some r) :
    Calls Tryz.prog 22 #[.agg #[.int .i64 6, .int .i64 thread, .int .i64 n, .int .i64 okind, .string opath, .string oto, .int .i64 ooff, .int .i64 on, .slice A8 l8.length c8, .int .i64 osnap, .slice A10 l10.length c10]] w0 fun e w' => e = .returned (.string r) ∧ Below w0.heap.size w0 w' := by
  have HT := Aside0.mk hT
  have HR8 := Aside0.mk hr8
  have HC8 := Aside0.mk hc8
  have HR10 := Aside0.mk hr10
  have HB := Aside0.mk (Below.refl w0.heap.size w0)
  clear hT hr8 hc8 hr10
  have HJ := Aside0.mk hj
  clear hj
  have HSZ : Aside0 (([wordA 6] ++ List.map numW [n]).length < 8796093022208) := ⟨by simp⟩
  go_enter Tryz.func22, Tryz.ntmps22
  go_wp2_with (first | ((with_reducible refine gate_dst (N := 1) rfl ?_); refine box_event ?hg (N := 1) ?hd (cs := #[.int .i64 6, .int .i64 thread, .int .i64 n, .int .i64 okind, .string opath, .string oto, .int .i64 ooff, .int .i64 on, .slice A8 l8.length c8, .int .i64 osnap, .slice A10 l10.length c10]) (t := 52) ?hr ?_; (case hd => rfl); (case hg => rfl); (case hr => first | (go_simp; done) | (go_simp; rfl)); intro gb hg w1 hbox hb; have n0_ := Aside0.mk (below_step (by repeat (first | (with_reducible first | exact HB.out | apply below_alloc | apply pw_below_drewN | apply below_drew1) | exact HB.out)) hb); have BK := Aside0.mk hbox; have HG1 := Aside0.mk hg; clear HB; have HB := n0_; clear n0_; have hz0 := (blk_cell BK.out 0).trans (show _ = some (.int .i64 6 : Value) from rfl); clear hb hbox hg) | (go_at_call 50; refine (script_word.calls 6 (wordA 6) _ (wordA_f 6)).mono ?_; rintro e w1b ⟨rfl, hb⟩; have n0_ := Aside0.mk (below_step (by repeat (first | (with_reducible first | exact HB.out | apply below_alloc | apply pw_below_drewN | apply below_drew1) | exact HB.out)) hb); have n1_ := Aside0.mk (blk_below BK.out hb); clear HB BK; have HB := n0_; have BK := n1_; clear n0_ n1_ hb) | ((with_reducible refine gate_dst (N := 11) rfl ?_); refine Kd.R_lit Kd.string _ 9 ?hg (N := 11) ?hd (xs := [wordA 6]) (inner := [.string (wordA 6)]) (ok := fun _ => True) (okp := fun _ => True) ?hr ?hp (fun _ hk => hk) trivial (Below.refl _ _) (Nat.le_refl _) (by simp) ?_; (case hd => rfl); (case hg => rfl); (case hr => first | (go_simp; done) | (go_simp; rfl)); (case hp => exact (Reps.one (show Kd.M Kd.string _ _ _ (wordA 6) [.string (wordA 6)] from rfl) (Reps.none _ _))); intro v w2 ho hb hg_ hnew_; clear hg_; obtain ⟨A2, c2, hv_, hcc_, _⟩ := Kd.R_reads ho; have HCC := Aside0.mk hcc_; clear hcc_; have hv : v = .slice A2 1 c2 := hv_; subst hv; have HR2 := Aside0.mk (Kd.R_lower ho (below_size (by repeat (first | (with_reducible first | exact HB.out | apply below_alloc | apply pw_below_drewN | apply below_drew1) | exact HB.out)))); have n1_ := Aside0.mk (blk_below BK.out hb); have n0_ := Aside0.mk (below_step (by repeat (first | (with_reducible first | exact HB.out | apply below_alloc | apply pw_below_drewN | apply below_drew1) | exact HB.out)) hb); clear HB BK; have HB := n0_; have BK := n1_; clear n0_ n1_ ho hb hnew_ hv_; have hBo_ := blk_new w2 (.cells #[Value.slice A2 1 c2] 38 (0, 0)); have HBo := Aside0.mk hBo_; have hcS := cell_of_one hBo_; have hfS := free_of_one hBo_; have HR3 : Aside0 (Kd.R Kd.string 9 (w2.alloc (.cells #[Value.slice A2 1 c2] 38)) w0.heap.size (fun q => q ≠ w2.heap.size) (.slice A2 1 c2) [wordA 6]) := ⟨Kd.R_alloc (Kd.R_mono (Kd.R_bound HR2.out) (fun q hq => Nat.ne_of_lt hq.2.2.1)) _⟩; have HGE : Aside0 (w0.heap.size ≤ w2.heap.size) := ⟨below_size HB.out⟩; have HLG : Aside0 (gb < w2.heap.size) := ⟨blk_lt BK.out⟩; have BK3 := Aside0.mk (blk_alloc BK.out (.cells #[Value.slice A2 1 c2] 38 (0, 0))); have HWs : Aside0 (Below w0.heap.size w0 (w2.alloc (.cells #[Value.slice A2 1 c2] 38))) := ⟨below_alloc HB.out _⟩; have hz0 := (blk_cell BK3.out 0).trans (show _ = some (.int .i64 6 : Value) from rfl); have hz1 := (blk_cell BK3.out 1).trans (show _ = some (.int .i64 thread : Value) from rfl); have hz2 := (blk_cell BK3.out 2).trans (show _ = some (.int .i64 n : Value) from rfl); have hz10 := (blk_cell BK3.out 10).trans (show _ = some (.slice A10 l10.length c10 : Value) from rfl); clear hBo_ HB BK HR2) | (go_at_call 51; refine (snums_calls w0 HT.out ⟨w2.heap.size + 1, 0, none⟩ _ _ [n] w2.heap.size _ [wordA 6] _ (fun _ => rfl) (lit_cellsS _ _ (by simp) [n]) (by simp) (by simp) (by have := R_freshS HR3.out; simpa using this) (blk_alloc HBo.out _) (Kd.R_alloc HR3.out _) (below_alloc HWs.out _) HGE.out (by simp)).mono ?_; rintro e w5 ⟨rfl, ve, hBe, hRe, hWe, hKe⟩;  obtain ⟨Az, cz, hvz, hcz, hCz⟩ := Kd.R_reads hRe; obtain ⟨m1, hm1⟩ : ∃ m1, m1 = ([wordA 6] ++ List.map numW [n]).length := ⟨_, rfl⟩; rw [← hm1] at hvz hcz; subst hvz; have hzz := cell_of_one hBe; have HCz := Aside0.mk hCz; have HWe := Aside0.mk hWe; have HM1 := Aside0.mk hm1; have HCZ := Aside0.mk hcz; clear hRe hWe hCz hm1 hcz; clear hBe hKe))
  have hm1s : m1 < 8796093022208 := by have := HM1.out; have := HSZ.out; omega
  go_wp2_with fail
  go_loopw [53] (fun v53 wr => ∃ k : Nat, k ≤ m1 ∧ v53 = .int .i64 k ∧ Aside0 (∀ j, j < k → isNone (([wordA 6] ++ List.map numW [n]).getD j ByteArray.empty) = false) ∧ Aside0 (Drawn0 (w5) wr)) (fun v53 _ => m1 - (intOf v53).toNat)
  case atStart => exact ⟨0, by omega, rfl, ⟨fun j hj => by omega⟩, ⟨Drawn0.refl _⟩⟩
  case round =>
    obtain ⟨k, hk, rfl, HN, HD⟩ := hrel
    have HWr : Aside0 (Below w0.heap.size w0 wr) := ⟨below_step HWe.out HD.out.below⟩
    by_cases hkl : k < m1
    · obtain ⟨ad, e1, hx⟩ := Kd.at_string HCz.out (k : Int) (by omega) (by have := HM1.out; omega)
      subst e1
      have hx' : wr.cell? (ad.add k) = some (.string (rdOf ByteArray.empty ([wordA 6] ++ List.map numW [n]) (k : Int))) := by
        obtain ⟨⟨nd, rfl⟩⟩ := HD.out
        simpa using hx
      clear hx
      obtain ⟨x, hxe⟩ : ∃ x, x = rdOf ByteArray.empty ([wordA 6] ++ List.map numW [n]) (k : Int) := ⟨_, rfl⟩
      rw [← hxe] at hx'
      have HX := Aside0.mk hxe
      clear hxe
      cases hq : isNone x with
      | true =>
        have hq1 : (x.toList == ([] : List UInt8)) = true := (isNone_beq x).trans hq
        have HQ := Aside0.mk hq
        clear hq
        go_wp2_with fail
        go_ret
        have hr : r = ⟨#[]⟩ := actT_none HJ.out k (by have := HM1.out; omega) (by have := HQ.out; rw [HX.out] at this; simpa [rdOf] using this)
        exact ⟨by rw [hr]; rfl, HWr.out⟩
      | false =>
        have hq1 : (x.toList == ([] : List UInt8)) = false := (isNone_beq x).trans hq
        have HQ := Aside0.mk hq
        clear hq
        go_wp2_with fail
        go_roundw
        case rel =>
          refine ⟨k + 1, by omega, by go_num, ⟨fun j hj => ?_⟩, HD⟩
          by_cases hjk : j < k
          · exact HN.out j hjk
          · obtain rfl : j = k := by omega
            have := HQ.out; rw [HX.out] at this; simpa [rdOf] using this
        case measure => simp [intOf]; omega
    · have hzw : wr.cell? ⟨w2.heap.size, 0, none⟩ = some (.slice Az m1 cz) := by
        obtain ⟨⟨nd, rfl⟩⟩ := HD.out
        exact hzz
      have HCw := Aside0.mk (Kd.C_below HCz.out HD.out.below)
      have hJ := actT_some HJ.out (fun j hj => HN.out j (by have := HM1.out; omega))
      have HJ2 := Aside0.mk hJ
      clear hJ
      go_wp2_with (go_at_call 36; have hjc : Calls Tryz.prog 36 #[.slice Az m1 cz, .string ⟨#[32]⟩] _ _ := (by rw [HM1.out]; exact strings_Join.calls Az cz ([wordA 6] ++ List.map numW [n]) ⟨#[32]⟩ r _ HCw.out (by rw [← HM1.out]; exact HCZ.out) HJ2.out); refine hjc.mono ?_; rintro e w9 ⟨rfl, hb9⟩; have HW9 := Aside0.mk (below_step HWr.out hb9); clear hb9)
      go_ret
      exact ⟨rfl, HW9.out⟩

set_option maxRecDepth 100000 in
set_option maxHeartbeats 2000000 in
theorem stext_plain (kind thread n okind : Int) (opath oto : ByteArray) (ooff on : Int) (A8 : Option Addr) (c8 : Nat) (l8 : List Int) (osnap : Int) (A10 : Option Addr) (c10 : Nat) (l10 : List Int) (r : ByteArray) (w0 : World) (hT : Tabs w0)
    (hr8 : Kd.C (Kd.int .u8) w0 A8 l8.length l8) (hc8 : l8.length ≤ c8) (hr10 : Kd.C (Kd.int .i64) w0 A10 l10.length l10)
    (hk : kind ≠ 1 ∧ kind ≠ 2 ∧ kind ≠ 4 ∧ kind ≠ 6 ∧ kind ≠ 5) (hj : actT ([wordA kind]) = some r) :
    Calls Tryz.prog 22 #[.agg #[.int .i64 kind, .int .i64 thread, .int .i64 n, .int .i64 okind, .string opath, .string oto, .int .i64 ooff, .int .i64 on, .slice A8 l8.length c8, .int .i64 osnap, .slice A10 l10.length c10]] w0 fun e w' => e = .returned (.string r) ∧ Below w0.heap.size w0 w' := by
  have HT := Aside0.mk hT
  have HR8 := Aside0.mk hr8
  have HC8 := Aside0.mk hc8
  have HR10 := Aside0.mk hr10
  have HB := Aside0.mk (Below.refl w0.heap.size w0)
  clear hT hr8 hc8 hr10
  have HJ := Aside0.mk hj
  clear hj
  have HSZ : Aside0 (([wordA kind]).length < 8796093022208) := ⟨by simp⟩
  obtain ⟨k1, k2, k4, k6, k5⟩ := hk
  have e1 : (kind == 1) = false := by simpa using k1
  have e2 : (kind == 2) = false := by simpa using k2
  have e4 : (kind == 4) = false := by simpa using k4
  have e6 : (kind == 6) = false := by simpa using k6
  have e5 : (kind == 5) = false := by simpa using k5
  clear k1 k2 k4 k6 k5
  go_enter Tryz.func22, Tryz.ntmps22
  go_wp2_with (first | ((with_reducible refine gate_dst (N := 1) rfl ?_); refine box_event ?hg (N := 1) ?hd (cs := #[.int .i64 kind, .int .i64 thread, .int .i64 n, .int .i64 okind, .string opath, .string oto, .int .i64 ooff, .int .i64 on, .slice A8 l8.length c8, .int .i64 osnap, .slice A10 l10.length c10]) (t := 52) ?hr ?_; (case hd => rfl); (case hg => rfl); (case hr => first | (go_simp; done) | (go_simp; rfl)); intro gb hg w1 hbox hb; have n0_ := Aside0.mk (below_step (by repeat (first | (with_reducible first | exact HB.out | apply below_alloc | apply pw_below_drewN | apply below_drew1) | exact HB.out)) hb); have BK := Aside0.mk hbox; have HG1 := Aside0.mk hg; clear HB; have HB := n0_; clear n0_; have hz0 := (blk_cell BK.out 0).trans (show _ = some (.int .i64 kind : Value) from rfl); clear hb hbox hg) | (go_at_call 50; refine (script_word.calls kind (wordA kind) _ (wordA_f kind)).mono ?_; rintro e w1b ⟨rfl, hb⟩; have n0_ := Aside0.mk (below_step (by repeat (first | (with_reducible first | exact HB.out | apply below_alloc | apply pw_below_drewN | apply below_drew1) | exact HB.out)) hb); have n1_ := Aside0.mk (blk_below BK.out hb); clear HB BK; have HB := n0_; have BK := n1_; clear n0_ n1_ hb) | ((with_reducible refine gate_dst (N := 11) rfl ?_); refine Kd.R_lit Kd.string _ 9 ?hg (N := 11) ?hd (xs := [wordA kind]) (inner := [.string (wordA kind)]) (ok := fun _ => True) (okp := fun _ => True) ?hr ?hp (fun _ hk => hk) trivial (Below.refl _ _) (Nat.le_refl _) (by simp) ?_; (case hd => rfl); (case hg => rfl); (case hr => first | (go_simp; done) | (go_simp; rfl)); (case hp => exact (Reps.one (show Kd.M Kd.string _ _ _ (wordA kind) [.string (wordA kind)] from rfl) (Reps.none _ _))); intro v w2 ho hb hg_ hnew_; clear hg_; obtain ⟨A2, c2, hv_, hcc_, _⟩ := Kd.R_reads ho; have HCC := Aside0.mk hcc_; clear hcc_; have hv : v = .slice A2 1 c2 := hv_; subst hv; have HR2 := Aside0.mk (Kd.R_lower ho (below_size (by repeat (first | (with_reducible first | exact HB.out | apply below_alloc | apply pw_below_drewN | apply below_drew1) | exact HB.out)))); have n1_ := Aside0.mk (blk_below BK.out hb); have n0_ := Aside0.mk (below_step (by repeat (first | (with_reducible first | exact HB.out | apply below_alloc | apply pw_below_drewN | apply below_drew1) | exact HB.out)) hb); clear HB BK; have HB := n0_; have BK := n1_; clear n0_ n1_ ho hb hnew_ hv_; have hBo_ := blk_new w2 (.cells #[Value.slice A2 1 c2] 38 (0, 0)); have HBo := Aside0.mk hBo_; have hcS := cell_of_one hBo_; have hfS := free_of_one hBo_; have HR3 : Aside0 (Kd.R Kd.string 9 (w2.alloc (.cells #[Value.slice A2 1 c2] 38)) w0.heap.size (fun q => q ≠ w2.heap.size) (.slice A2 1 c2) [wordA kind]) := ⟨Kd.R_alloc (Kd.R_mono (Kd.R_bound HR2.out) (fun q hq => Nat.ne_of_lt hq.2.2.1)) _⟩; have HGE : Aside0 (w0.heap.size ≤ w2.heap.size) := ⟨below_size HB.out⟩; have HLG : Aside0 (gb < w2.heap.size) := ⟨blk_lt BK.out⟩; have BK3 := Aside0.mk (blk_alloc BK.out (.cells #[Value.slice A2 1 c2] 38 (0, 0))); have HWs : Aside0 (Below w0.heap.size w0 (w2.alloc (.cells #[Value.slice A2 1 c2] 38))) := ⟨below_alloc HB.out _⟩; have hz0 := (blk_cell BK3.out 0).trans (show _ = some (.int .i64 kind : Value) from rfl); have hz1 := (blk_cell BK3.out 1).trans (show _ = some (.int .i64 thread : Value) from rfl); have hz2 := (blk_cell BK3.out 2).trans (show _ = some (.int .i64 n : Value) from rfl); have hz10 := (blk_cell BK3.out 10).trans (show _ = some (.slice A10 l10.length c10 : Value) from rfl); clear hBo_ HB BK HR2) | fail)
  have HM1 : Aside0 (1 = ([wordA kind] : List ByteArray).length) := ⟨rfl⟩
  have HCZ : Aside0 (1 ≤ c2) := HCC
  have HWe := HWs
  have hzz := hcS
  have HCz : Aside0 (Kd.C Kd.string (w2.alloc (.cells #[Value.slice A2 1 c2] 38)) A2 ([wordA kind] : List ByteArray).length [wordA kind]) := ⟨by
    obtain ⟨Aq, cq, hq1, _, hq2⟩ := Kd.R_reads HR3.out
    injection hq1 with hq1
    subst hq1
    exact hq2⟩
  have h1s : 1 < 8796093022208 := by have := HM1.out; have := HSZ.out; omega
  go_wp2_with fail
  go_loopw [53] (fun v53 wr => ∃ k : Nat, k ≤ 1 ∧ v53 = .int .i64 k ∧ Aside0 (∀ j, j < k → isNone (([wordA kind]).getD j ByteArray.empty) = false) ∧ Aside0 (Drawn0 (w2.alloc (.cells #[Value.slice A2 1 c2] 38)) wr)) (fun v53 _ => 1 - (intOf v53).toNat)
  case atStart => exact ⟨0, by omega, rfl, ⟨fun j hj => by omega⟩, ⟨Drawn0.refl _⟩⟩
  case round =>
    obtain ⟨k, hk, rfl, HN, HD⟩ := hrel
    have HWr : Aside0 (Below w0.heap.size w0 wr) := ⟨below_step HWe.out HD.out.below⟩
    by_cases hkl : k < 1
    · obtain ⟨ad, e1, hx⟩ := Kd.at_string HCz.out (k : Int) (by omega) (by have := HM1.out; omega)
      subst e1
      have hx' : wr.cell? (ad.add k) = some (.string (rdOf ByteArray.empty ([wordA kind]) (k : Int))) := by
        obtain ⟨⟨nd, rfl⟩⟩ := HD.out
        simpa using hx
      clear hx
      obtain ⟨x, hxe⟩ : ∃ x, x = rdOf ByteArray.empty ([wordA kind]) (k : Int) := ⟨_, rfl⟩
      rw [← hxe] at hx'
      have HX := Aside0.mk hxe
      clear hxe
      cases hq : isNone x with
      | true =>
        have hq1 : (x.toList == ([] : List UInt8)) = true := (isNone_beq x).trans hq
        have HQ := Aside0.mk hq
        clear hq
        go_wp2_with fail
        go_ret
        have hr : r = ⟨#[]⟩ := actT_none HJ.out k (by have := HM1.out; omega) (by have := HQ.out; rw [HX.out] at this; simpa [rdOf] using this)
        exact ⟨by rw [hr]; rfl, HWr.out⟩
      | false =>
        have hq1 : (x.toList == ([] : List UInt8)) = false := (isNone_beq x).trans hq
        have HQ := Aside0.mk hq
        clear hq
        go_wp2_with fail
        go_roundw
        case rel =>
          refine ⟨k + 1, by omega, by go_num, ⟨fun j hj => ?_⟩, HD⟩
          by_cases hjk : j < k
          · exact HN.out j hjk
          · obtain rfl : j = k := by omega
            have := HQ.out; rw [HX.out] at this; simpa [rdOf] using this
        case measure => simp [intOf]; omega
    · have hzw : wr.cell? ⟨w2.heap.size, 0, none⟩ = some (.slice A2 1 c2) := by
        obtain ⟨⟨nd, rfl⟩⟩ := HD.out
        exact hzz
      have HCw := Aside0.mk (Kd.C_below HCz.out HD.out.below)
      have hJ := actT_some HJ.out (fun j hj => HN.out j (by have := HM1.out; omega))
      have HJ2 := Aside0.mk hJ
      clear hJ
      go_wp2_with (go_at_call 36; have hjc : Calls Tryz.prog 36 #[.slice A2 1 c2, .string ⟨#[32]⟩] _ _ := (by rw [HM1.out]; exact strings_Join.calls A2 c2 ([wordA kind]) ⟨#[32]⟩ r _ HCw.out (by rw [← HM1.out]; exact HCZ.out) HJ2.out); refine hjc.mono ?_; rintro e w9 ⟨rfl, hb9⟩; have HW9 := Aside0.mk (below_step HWr.out hb9); clear hb9)
      go_ret
      exact ⟨rfl, HW9.out⟩

set_option maxRecDepth 100000 in
set_option maxHeartbeats 2000000 in
theorem stext_many (kind thread n okind : Int) (opath oto : ByteArray) (ooff on : Int) (A8 : Option Addr) (c8 : Nat) (l8 : List Int) (osnap : Int) (A10 : Option Addr) (c10 : Nat) (l10 : List Int) (r : ByteArray) (w0 : World) (hT : Tabs w0)
    (hr8 : Kd.C (Kd.int .u8) w0 A8 l8.length l8) (hc8 : l8.length ≤ c8) (hr10 : Kd.C (Kd.int .i64) w0 A10 l10.length l10)
    (hm : 100 < l10.length)  :
    Calls Tryz.prog 22 #[.agg #[.int .i64 5, .int .i64 thread, .int .i64 n, .int .i64 okind, .string opath, .string oto, .int .i64 ooff, .int .i64 on, .slice A8 l8.length c8, .int .i64 osnap, .slice A10 l10.length c10]] w0 fun e w' => e = .returned (.string ⟨#[]⟩) ∧ Below w0.heap.size w0 w' := by
  have HT := Aside0.mk hT
  have HR8 := Aside0.mk hr8
  have HC8 := Aside0.mk hc8
  have HR10 := Aside0.mk hr10
  have HB := Aside0.mk (Below.refl w0.heap.size w0)
  clear hT hr8 hc8 hr10
  go_enter Tryz.func22, Tryz.ntmps22
  go_wp2_with (first | ((with_reducible refine gate_dst (N := 1) rfl ?_); refine box_event ?hg (N := 1) ?hd (cs := #[.int .i64 5, .int .i64 thread, .int .i64 n, .int .i64 okind, .string opath, .string oto, .int .i64 ooff, .int .i64 on, .slice A8 l8.length c8, .int .i64 osnap, .slice A10 l10.length c10]) (t := 52) ?hr ?_; (case hd => rfl); (case hg => rfl); (case hr => first | (go_simp; done) | (go_simp; rfl)); intro gb hg w1 hbox hb; have n0_ := Aside0.mk (below_step (by repeat (first | (with_reducible first | exact HB.out | apply below_alloc | apply pw_below_drewN | apply below_drew1) | exact HB.out)) hb); have BK := Aside0.mk hbox; have HG1 := Aside0.mk hg; clear HB; have HB := n0_; clear n0_; have hz0 := (blk_cell BK.out 0).trans (show _ = some (.int .i64 5 : Value) from rfl); clear hb hbox hg) | (go_at_call 50; refine (script_word.calls 5 (wordA 5) _ (wordA_f 5)).mono ?_; rintro e w1b ⟨rfl, hb⟩; have n0_ := Aside0.mk (below_step (by repeat (first | (with_reducible first | exact HB.out | apply below_alloc | apply pw_below_drewN | apply below_drew1) | exact HB.out)) hb); have n1_ := Aside0.mk (blk_below BK.out hb); clear HB BK; have HB := n0_; have BK := n1_; clear n0_ n1_ hb) | ((with_reducible refine gate_dst (N := 11) rfl ?_); refine Kd.R_lit Kd.string _ 9 ?hg (N := 11) ?hd (xs := [wordA 5]) (inner := [.string (wordA 5)]) (ok := fun _ => True) (okp := fun _ => True) ?hr ?hp (fun _ hk => hk) trivial (Below.refl _ _) (Nat.le_refl _) (by simp) ?_; (case hd => rfl); (case hg => rfl); (case hr => first | (go_simp; done) | (go_simp; rfl)); (case hp => exact (Reps.one (show Kd.M Kd.string _ _ _ (wordA 5) [.string (wordA 5)] from rfl) (Reps.none _ _))); intro v w2 ho hb hg_ hnew_; clear hg_; obtain ⟨A2, c2, hv_, hcc_, _⟩ := Kd.R_reads ho; have HCC := Aside0.mk hcc_; clear hcc_; have hv : v = .slice A2 1 c2 := hv_; subst hv; have HR2 := Aside0.mk (Kd.R_lower ho (below_size (by repeat (first | (with_reducible first | exact HB.out | apply below_alloc | apply pw_below_drewN | apply below_drew1) | exact HB.out)))); have n1_ := Aside0.mk (blk_below BK.out hb); have n0_ := Aside0.mk (below_step (by repeat (first | (with_reducible first | exact HB.out | apply below_alloc | apply pw_below_drewN | apply below_drew1) | exact HB.out)) hb); clear HB BK; have HB := n0_; have BK := n1_; clear n0_ n1_ ho hb hnew_ hv_; have hBo_ := blk_new w2 (.cells #[Value.slice A2 1 c2] 38 (0, 0)); have HBo := Aside0.mk hBo_; have hcS := cell_of_one hBo_; have hfS := free_of_one hBo_; have HR3 : Aside0 (Kd.R Kd.string 9 (w2.alloc (.cells #[Value.slice A2 1 c2] 38)) w0.heap.size (fun q => q ≠ w2.heap.size) (.slice A2 1 c2) [wordA 5]) := ⟨Kd.R_alloc (Kd.R_mono (Kd.R_bound HR2.out) (fun q hq => Nat.ne_of_lt hq.2.2.1)) _⟩; have HGE : Aside0 (w0.heap.size ≤ w2.heap.size) := ⟨below_size HB.out⟩; have HLG : Aside0 (gb < w2.heap.size) := ⟨blk_lt BK.out⟩; have BK3 := Aside0.mk (blk_alloc BK.out (.cells #[Value.slice A2 1 c2] 38 (0, 0))); have HWs : Aside0 (Below w0.heap.size w0 (w2.alloc (.cells #[Value.slice A2 1 c2] 38))) := ⟨below_alloc HB.out _⟩; have hz0 := (blk_cell BK3.out 0).trans (show _ = some (.int .i64 5 : Value) from rfl); have hz1 := (blk_cell BK3.out 1).trans (show _ = some (.int .i64 thread : Value) from rfl); have hz2 := (blk_cell BK3.out 2).trans (show _ = some (.int .i64 n : Value) from rfl); have hz10 := (blk_cell BK3.out 10).trans (show _ = some (.slice A10 l10.length c10 : Value) from rfl); clear hBo_ HB BK HR2))
  go_ret
  exact ⟨rfl, HWs.out⟩

set_option maxRecDepth 100000 in
set_option maxHeartbeats 2000000 in
theorem stext_picks (kind thread n okind : Int) (opath oto : ByteArray) (ooff on : Int) (A8 : Option Addr) (c8 : Nat) (l8 : List Int) (osnap : Int) (A10 : Option Addr) (c10 : Nat) (l10 : List Int) (r : ByteArray) (w0 : World) (hT : Tabs w0)
    (hr8 : Kd.C (Kd.int .u8) w0 A8 l8.length l8) (hc8 : l8.length ≤ c8) (hr10 : Kd.C (Kd.int .i64) w0 A10 l10.length l10)
    (hl : l10.length ≤ 100) (hne : 0 < l10.length) (hj : actT ([wordA 5] ++ List.map numW l10) = some r) :
    Calls Tryz.prog 22 #[.agg #[.int .i64 5, .int .i64 thread, .int .i64 n, .int .i64 okind, .string opath, .string oto, .int .i64 ooff, .int .i64 on, .slice A8 l8.length c8, .int .i64 osnap, .slice A10 l10.length c10]] w0 fun e w' => e = .returned (.string r) ∧ Below w0.heap.size w0 w' := by
  have HT := Aside0.mk hT
  have HR8 := Aside0.mk hr8
  have HC8 := Aside0.mk hc8
  have HR10 := Aside0.mk hr10
  have HB := Aside0.mk (Below.refl w0.heap.size w0)
  clear hT hr8 hc8 hr10
  have HJ := Aside0.mk hj
  clear hj
  have HSZ : Aside0 (([wordA 5] ++ List.map numW l10).length < 8796093022208) := ⟨by simp; omega⟩
  obtain ⟨ad, hA, hx⟩ := ints_atS HR10.out hne
  have hlt : ad.block < w0.heap.size := by
    have := hx w0 (Below.refl _ _) 0 hne
    have h2 := World.block_lt_of_cell? _ _ this
    rw [add_blk] at h2; exact h2
  have HX7 := Aside0.mk hx
  have HLT := Aside0.mk hlt
  have HA7 : Aside0 (A10 = some ad) := ⟨hA⟩
  have hl2 : ¬ 100 < l10.length := by omega
  clear hx hlt hA hne
  go_enter Tryz.func22, Tryz.ntmps22
  go_wp2_with (first | ((with_reducible refine gate_dst (N := 1) rfl ?_); refine box_event ?hg (N := 1) ?hd (cs := #[.int .i64 5, .int .i64 thread, .int .i64 n, .int .i64 okind, .string opath, .string oto, .int .i64 ooff, .int .i64 on, .slice A8 l8.length c8, .int .i64 osnap, .slice A10 l10.length c10]) (t := 52) ?hr ?_; (case hd => rfl); (case hg => rfl); (case hr => first | (go_simp; done) | (go_simp; rfl)); intro gb hg w1 hbox hb; have n0_ := Aside0.mk (below_step (by repeat (first | (with_reducible first | exact HB.out | apply below_alloc | apply pw_below_drewN | apply below_drew1) | exact HB.out)) hb); have BK := Aside0.mk hbox; have HG1 := Aside0.mk hg; clear HB; have HB := n0_; clear n0_; have hz0 := (blk_cell BK.out 0).trans (show _ = some (.int .i64 5 : Value) from rfl); clear hb hbox hg) | (go_at_call 50; refine (script_word.calls 5 (wordA 5) _ (wordA_f 5)).mono ?_; rintro e w1b ⟨rfl, hb⟩; have n0_ := Aside0.mk (below_step (by repeat (first | (with_reducible first | exact HB.out | apply below_alloc | apply pw_below_drewN | apply below_drew1) | exact HB.out)) hb); have n1_ := Aside0.mk (blk_below BK.out hb); clear HB BK; have HB := n0_; have BK := n1_; clear n0_ n1_ hb) | ((with_reducible refine gate_dst (N := 11) rfl ?_); refine Kd.R_lit Kd.string _ 9 ?hg (N := 11) ?hd (xs := [wordA 5]) (inner := [.string (wordA 5)]) (ok := fun _ => True) (okp := fun _ => True) ?hr ?hp (fun _ hk => hk) trivial (Below.refl _ _) (Nat.le_refl _) (by simp) ?_; (case hd => rfl); (case hg => rfl); (case hr => first | (go_simp; done) | (go_simp; rfl)); (case hp => exact (Reps.one (show Kd.M Kd.string _ _ _ (wordA 5) [.string (wordA 5)] from rfl) (Reps.none _ _))); intro v w2 ho hb hg_ hnew_; clear hg_; obtain ⟨A2, c2, hv_, hcc_, _⟩ := Kd.R_reads ho; have HCC := Aside0.mk hcc_; clear hcc_; have hv : v = .slice A2 1 c2 := hv_; subst hv; have HR2 := Aside0.mk (Kd.R_lower ho (below_size (by repeat (first | (with_reducible first | exact HB.out | apply below_alloc | apply pw_below_drewN | apply below_drew1) | exact HB.out)))); have n1_ := Aside0.mk (blk_below BK.out hb); have n0_ := Aside0.mk (below_step (by repeat (first | (with_reducible first | exact HB.out | apply below_alloc | apply pw_below_drewN | apply below_drew1) | exact HB.out)) hb); clear HB BK; have HB := n0_; have BK := n1_; clear n0_ n1_ ho hb hnew_ hv_; have hBo_ := blk_new w2 (.cells #[Value.slice A2 1 c2] 38 (0, 0)); have HBo := Aside0.mk hBo_; have hcS := cell_of_one hBo_; have hfS := free_of_one hBo_; have HR3 : Aside0 (Kd.R Kd.string 9 (w2.alloc (.cells #[Value.slice A2 1 c2] 38)) w0.heap.size (fun q => q ≠ w2.heap.size) (.slice A2 1 c2) [wordA 5]) := ⟨Kd.R_alloc (Kd.R_mono (Kd.R_bound HR2.out) (fun q hq => Nat.ne_of_lt hq.2.2.1)) _⟩; have HGE : Aside0 (w0.heap.size ≤ w2.heap.size) := ⟨below_size HB.out⟩; have HLG : Aside0 (gb < w2.heap.size) := ⟨blk_lt BK.out⟩; have BK3 := Aside0.mk (blk_alloc BK.out (.cells #[Value.slice A2 1 c2] 38 (0, 0))); have HWs : Aside0 (Below w0.heap.size w0 (w2.alloc (.cells #[Value.slice A2 1 c2] 38))) := ⟨below_alloc HB.out _⟩; have hz0 := (blk_cell BK3.out 0).trans (show _ = some (.int .i64 5 : Value) from rfl); have hz1 := (blk_cell BK3.out 1).trans (show _ = some (.int .i64 thread : Value) from rfl); have hz2 := (blk_cell BK3.out 2).trans (show _ = some (.int .i64 n : Value) from rfl); have hz10 := (blk_cell BK3.out 10).trans (show _ = some (.slice A10 l10.length c10 : Value) from rfl); clear hBo_ HB BK HR2) | (go_at_call 51; refine (snums_calls w0 HT.out ad _ _ l10 w2.heap.size _ [wordA 5] _ (fun _ => HA7.out) (HX7.out _ HWs.out) (Nat.lt_of_lt_of_le HLT.out HWs.out.size) (by have h1 := HLT.out; have h2 := HGE.out; show _ ≠ _; intro he; rw [he] at h1; omega) (fun he => by have h1 := ((Kd.R_bound HR3.out).1 _ he.symm).2.1; have h2 := HLT.out; omega) HBo.out HR3.out HWs.out HGE.out (by have := HSZ.out; simp at this ⊢; omega)).mono ?_; rintro e w5 ⟨rfl, ve, hBe, hRe, hWe, hKe⟩;  obtain ⟨Az, cz, hvz, hcz, hCz⟩ := Kd.R_reads hRe; obtain ⟨m1, hm1⟩ : ∃ m1, m1 = ([wordA 5] ++ List.map numW l10).length := ⟨_, rfl⟩; rw [← hm1] at hvz hcz; subst hvz; have hzz := cell_of_one hBe; have HCz := Aside0.mk hCz; have HWe := Aside0.mk hWe; have HM1 := Aside0.mk hm1; have HCZ := Aside0.mk hcz; clear hRe hWe hCz hm1 hcz; clear hBe hKe))
  have hm1s : m1 < 8796093022208 := by have := HM1.out; have := HSZ.out; omega
  go_wp2_with fail
  go_loopw [53] (fun v53 wr => ∃ k : Nat, k ≤ m1 ∧ v53 = .int .i64 k ∧ Aside0 (∀ j, j < k → isNone (([wordA 5] ++ List.map numW l10).getD j ByteArray.empty) = false) ∧ Aside0 (Drawn0 (w5) wr)) (fun v53 _ => m1 - (intOf v53).toNat)
  case atStart => exact ⟨0, by omega, rfl, ⟨fun j hj => by omega⟩, ⟨Drawn0.refl _⟩⟩
  case round =>
    obtain ⟨k, hk, rfl, HN, HD⟩ := hrel
    have HWr : Aside0 (Below w0.heap.size w0 wr) := ⟨below_step HWe.out HD.out.below⟩
    by_cases hkl : k < m1
    · obtain ⟨ad, e1, hx⟩ := Kd.at_string HCz.out (k : Int) (by omega) (by have := HM1.out; omega)
      subst e1
      have hx' : wr.cell? (ad.add k) = some (.string (rdOf ByteArray.empty ([wordA 5] ++ List.map numW l10) (k : Int))) := by
        obtain ⟨⟨nd, rfl⟩⟩ := HD.out
        simpa using hx
      clear hx
      obtain ⟨x, hxe⟩ : ∃ x, x = rdOf ByteArray.empty ([wordA 5] ++ List.map numW l10) (k : Int) := ⟨_, rfl⟩
      rw [← hxe] at hx'
      have HX := Aside0.mk hxe
      clear hxe
      cases hq : isNone x with
      | true =>
        have hq1 : (x.toList == ([] : List UInt8)) = true := (isNone_beq x).trans hq
        have HQ := Aside0.mk hq
        clear hq
        go_wp2_with fail
        go_ret
        have hr : r = ⟨#[]⟩ := actT_none HJ.out k (by have := HM1.out; omega) (by have := HQ.out; rw [HX.out] at this; simpa [rdOf] using this)
        exact ⟨by rw [hr]; rfl, HWr.out⟩
      | false =>
        have hq1 : (x.toList == ([] : List UInt8)) = false := (isNone_beq x).trans hq
        have HQ := Aside0.mk hq
        clear hq
        go_wp2_with fail
        go_roundw
        case rel =>
          refine ⟨k + 1, by omega, by go_num, ⟨fun j hj => ?_⟩, HD⟩
          by_cases hjk : j < k
          · exact HN.out j hjk
          · obtain rfl : j = k := by omega
            have := HQ.out; rw [HX.out] at this; simpa [rdOf] using this
        case measure => simp [intOf]; omega
    · have hzw : wr.cell? ⟨w2.heap.size, 0, none⟩ = some (.slice Az m1 cz) := by
        obtain ⟨⟨nd, rfl⟩⟩ := HD.out
        exact hzz
      have HCw := Aside0.mk (Kd.C_below HCz.out HD.out.below)
      have hJ := actT_some HJ.out (fun j hj => HN.out j (by have := HM1.out; omega))
      have HJ2 := Aside0.mk hJ
      clear hJ
      go_wp2_with (go_at_call 36; have hjc : Calls Tryz.prog 36 #[.slice Az m1 cz, .string ⟨#[32]⟩] _ _ := (by rw [HM1.out]; exact strings_Join.calls Az cz ([wordA 5] ++ List.map numW l10) ⟨#[32]⟩ r _ HCw.out (by rw [← HM1.out]; exact HCZ.out) HJ2.out); refine hjc.mono ?_; rintro e w9 ⟨rfl, hb9⟩; have HW9 := Aside0.mk (below_step HWr.out hb9); clear hb9)
      go_ret
      exact ⟨rfl, HW9.out⟩

set_option maxRecDepth 100000 in
set_option maxHeartbeats 2000000 in
theorem stext_nopicks (kind thread n okind : Int) (opath oto : ByteArray) (ooff on : Int) (A8 : Option Addr) (c8 : Nat) (l8 : List Int) (osnap : Int) (A10 : Option Addr) (c10 : Nat) (l10 : List Int) (r : ByteArray) (w0 : World) (hT : Tabs w0)
    (hr8 : Kd.C (Kd.int .u8) w0 A8 l8.length l8) (hc8 : l8.length ≤ c8) (hr10 : Kd.C (Kd.int .i64) w0 A10 l10.length l10)
    (hz : l10.length = 0) (hj : actT ([wordA 5] ++ List.map numW l10) = some r) :
    Calls Tryz.prog 22 #[.agg #[.int .i64 5, .int .i64 thread, .int .i64 n, .int .i64 okind, .string opath, .string oto, .int .i64 ooff, .int .i64 on, .slice A8 l8.length c8, .int .i64 osnap, .slice A10 l10.length c10]] w0 fun e w' => e = .returned (.string r) ∧ Below w0.heap.size w0 w' := by
  have HT := Aside0.mk hT
  have HR8 := Aside0.mk hr8
  have HC8 := Aside0.mk hc8
  have HR10 := Aside0.mk hr10
  have HB := Aside0.mk (Below.refl w0.heap.size w0)
  clear hT hr8 hc8 hr10
  have HJ := Aside0.mk hj
  clear hj
  have HSZ : Aside0 (([wordA 5] ++ List.map numW l10).length < 8796093022208) := ⟨by simp; omega⟩
  have HZ := Aside0.mk hz
  have hl2 : ¬ 100 < l10.length := by omega
  clear hz
  go_enter Tryz.func22, Tryz.ntmps22
  go_wp2_with (first | ((with_reducible refine gate_dst (N := 1) rfl ?_); refine box_event ?hg (N := 1) ?hd (cs := #[.int .i64 5, .int .i64 thread, .int .i64 n, .int .i64 okind, .string opath, .string oto, .int .i64 ooff, .int .i64 on, .slice A8 l8.length c8, .int .i64 osnap, .slice A10 l10.length c10]) (t := 52) ?hr ?_; (case hd => rfl); (case hg => rfl); (case hr => first | (go_simp; done) | (go_simp; rfl)); intro gb hg w1 hbox hb; have n0_ := Aside0.mk (below_step (by repeat (first | (with_reducible first | exact HB.out | apply below_alloc | apply pw_below_drewN | apply below_drew1) | exact HB.out)) hb); have BK := Aside0.mk hbox; have HG1 := Aside0.mk hg; clear HB; have HB := n0_; clear n0_; have hz0 := (blk_cell BK.out 0).trans (show _ = some (.int .i64 5 : Value) from rfl); clear hb hbox hg) | (go_at_call 50; refine (script_word.calls 5 (wordA 5) _ (wordA_f 5)).mono ?_; rintro e w1b ⟨rfl, hb⟩; have n0_ := Aside0.mk (below_step (by repeat (first | (with_reducible first | exact HB.out | apply below_alloc | apply pw_below_drewN | apply below_drew1) | exact HB.out)) hb); have n1_ := Aside0.mk (blk_below BK.out hb); clear HB BK; have HB := n0_; have BK := n1_; clear n0_ n1_ hb) | ((with_reducible refine gate_dst (N := 11) rfl ?_); refine Kd.R_lit Kd.string _ 9 ?hg (N := 11) ?hd (xs := [wordA 5]) (inner := [.string (wordA 5)]) (ok := fun _ => True) (okp := fun _ => True) ?hr ?hp (fun _ hk => hk) trivial (Below.refl _ _) (Nat.le_refl _) (by simp) ?_; (case hd => rfl); (case hg => rfl); (case hr => first | (go_simp; done) | (go_simp; rfl)); (case hp => exact (Reps.one (show Kd.M Kd.string _ _ _ (wordA 5) [.string (wordA 5)] from rfl) (Reps.none _ _))); intro v w2 ho hb hg_ hnew_; clear hg_; obtain ⟨A2, c2, hv_, hcc_, _⟩ := Kd.R_reads ho; have HCC := Aside0.mk hcc_; clear hcc_; have hv : v = .slice A2 1 c2 := hv_; subst hv; have HR2 := Aside0.mk (Kd.R_lower ho (below_size (by repeat (first | (with_reducible first | exact HB.out | apply below_alloc | apply pw_below_drewN | apply below_drew1) | exact HB.out)))); have n1_ := Aside0.mk (blk_below BK.out hb); have n0_ := Aside0.mk (below_step (by repeat (first | (with_reducible first | exact HB.out | apply below_alloc | apply pw_below_drewN | apply below_drew1) | exact HB.out)) hb); clear HB BK; have HB := n0_; have BK := n1_; clear n0_ n1_ ho hb hnew_ hv_; have hBo_ := blk_new w2 (.cells #[Value.slice A2 1 c2] 38 (0, 0)); have HBo := Aside0.mk hBo_; have hcS := cell_of_one hBo_; have hfS := free_of_one hBo_; have HR3 : Aside0 (Kd.R Kd.string 9 (w2.alloc (.cells #[Value.slice A2 1 c2] 38)) w0.heap.size (fun q => q ≠ w2.heap.size) (.slice A2 1 c2) [wordA 5]) := ⟨Kd.R_alloc (Kd.R_mono (Kd.R_bound HR2.out) (fun q hq => Nat.ne_of_lt hq.2.2.1)) _⟩; have HGE : Aside0 (w0.heap.size ≤ w2.heap.size) := ⟨below_size HB.out⟩; have HLG : Aside0 (gb < w2.heap.size) := ⟨blk_lt BK.out⟩; have BK3 := Aside0.mk (blk_alloc BK.out (.cells #[Value.slice A2 1 c2] 38 (0, 0))); have HWs : Aside0 (Below w0.heap.size w0 (w2.alloc (.cells #[Value.slice A2 1 c2] 38))) := ⟨below_alloc HB.out _⟩; have hz0 := (blk_cell BK3.out 0).trans (show _ = some (.int .i64 5 : Value) from rfl); have hz1 := (blk_cell BK3.out 1).trans (show _ = some (.int .i64 thread : Value) from rfl); have hz2 := (blk_cell BK3.out 2).trans (show _ = some (.int .i64 n : Value) from rfl); have hz10 := (blk_cell BK3.out 10).trans (show _ = some (.slice A10 l10.length c10 : Value) from rfl); clear hBo_ HB BK HR2) | (go_at_call 51; refine (snums_calls w0 HT.out ⟨gb, 0, none⟩ _ _ l10 w2.heap.size _ [wordA 5] _ (fun h => absurd (List.eq_nil_of_length_eq_zero HZ.out) h) (fun j hj => absurd hj (by have := HZ.out; omega)) (blk_lt BK3.out) (by have h3 := HLG.out; show gb ≠ _; omega) (fun he => by have h1 := ((Kd.R_bound HR3.out).1 _ he.symm); have := h1.2.2.2; obtain ⟨q, hq, cells, hc⟩ := this; have h4 := BK3.out; rw [hc] at h4; injection h4 with h4; injection h4 with _ h4; rw [h4] at hq; revert hq; decide) HBo.out HR3.out HWs.out HGE.out (by have := HSZ.out; simp at this ⊢; omega)).mono ?_; rintro e w5 ⟨rfl, ve, hBe, hRe, hWe, hKe⟩;  obtain ⟨Az, cz, hvz, hcz, hCz⟩ := Kd.R_reads hRe; obtain ⟨m1, hm1⟩ : ∃ m1, m1 = ([wordA 5] ++ List.map numW l10).length := ⟨_, rfl⟩; rw [← hm1] at hvz hcz; subst hvz; have hzz := cell_of_one hBe; have HCz := Aside0.mk hCz; have HWe := Aside0.mk hWe; have HM1 := Aside0.mk hm1; have HCZ := Aside0.mk hcz; clear hRe hWe hCz hm1 hcz; clear hBe hKe))
  have hm1s : m1 < 8796093022208 := by have := HM1.out; have := HSZ.out; omega
  go_wp2_with fail
  go_loopw [53] (fun v53 wr => ∃ k : Nat, k ≤ m1 ∧ v53 = .int .i64 k ∧ Aside0 (∀ j, j < k → isNone (([wordA 5] ++ List.map numW l10).getD j ByteArray.empty) = false) ∧ Aside0 (Drawn0 (w5) wr)) (fun v53 _ => m1 - (intOf v53).toNat)
  case atStart => exact ⟨0, by omega, rfl, ⟨fun j hj => by omega⟩, ⟨Drawn0.refl _⟩⟩
  case round =>
    obtain ⟨k, hk, rfl, HN, HD⟩ := hrel
    have HWr : Aside0 (Below w0.heap.size w0 wr) := ⟨below_step HWe.out HD.out.below⟩
    by_cases hkl : k < m1
    · obtain ⟨ad, e1, hx⟩ := Kd.at_string HCz.out (k : Int) (by omega) (by have := HM1.out; omega)
      subst e1
      have hx' : wr.cell? (ad.add k) = some (.string (rdOf ByteArray.empty ([wordA 5] ++ List.map numW l10) (k : Int))) := by
        obtain ⟨⟨nd, rfl⟩⟩ := HD.out
        simpa using hx
      clear hx
      obtain ⟨x, hxe⟩ : ∃ x, x = rdOf ByteArray.empty ([wordA 5] ++ List.map numW l10) (k : Int) := ⟨_, rfl⟩
      rw [← hxe] at hx'
      have HX := Aside0.mk hxe
      clear hxe
      cases hq : isNone x with
      | true =>
        have hq1 : (x.toList == ([] : List UInt8)) = true := (isNone_beq x).trans hq
        have HQ := Aside0.mk hq
        clear hq
        go_wp2_with fail
        go_ret
        have hr : r = ⟨#[]⟩ := actT_none HJ.out k (by have := HM1.out; omega) (by have := HQ.out; rw [HX.out] at this; simpa [rdOf] using this)
        exact ⟨by rw [hr]; rfl, HWr.out⟩
      | false =>
        have hq1 : (x.toList == ([] : List UInt8)) = false := (isNone_beq x).trans hq
        have HQ := Aside0.mk hq
        clear hq
        go_wp2_with fail
        go_roundw
        case rel =>
          refine ⟨k + 1, by omega, by go_num, ⟨fun j hj => ?_⟩, HD⟩
          by_cases hjk : j < k
          · exact HN.out j hjk
          · obtain rfl : j = k := by omega
            have := HQ.out; rw [HX.out] at this; simpa [rdOf] using this
        case measure => simp [intOf]; omega
    · have hzw : wr.cell? ⟨w2.heap.size, 0, none⟩ = some (.slice Az m1 cz) := by
        obtain ⟨⟨nd, rfl⟩⟩ := HD.out
        exact hzz
      have HCw := Aside0.mk (Kd.C_below HCz.out HD.out.below)
      have hJ := actT_some HJ.out (fun j hj => HN.out j (by have := HM1.out; omega))
      have HJ2 := Aside0.mk hJ
      clear hJ
      go_wp2_with (go_at_call 36; have hjc : Calls Tryz.prog 36 #[.slice Az m1 cz, .string ⟨#[32]⟩] _ _ := (by rw [HM1.out]; exact strings_Join.calls Az cz ([wordA 5] ++ List.map numW l10) ⟨#[32]⟩ r _ HCw.out (by rw [← HM1.out]; exact HCZ.out) HJ2.out); refine hjc.mono ?_; rintro e w9 ⟨rfl, hb9⟩; have HW9 := Aside0.mk (below_step HWr.out hb9); clear hb9)
      go_ret
      exact ⟨rfl, HW9.out⟩

set_option maxRecDepth 100000 in
set_option maxHeartbeats 2000000 in
theorem stext_start (kind thread n okind : Int) (opath oto : ByteArray) (ooff on : Int) (A8 : Option Addr) (c8 : Nat) (l8 : List Int) (osnap : Int) (A10 : Option Addr) (c10 : Nat) (l10 : List Int) (r : ByteArray) (w0 : World) (hT : Tabs w0)
    (hr8 : Kd.C (Kd.int .u8) w0 A8 l8.length l8) (hc8 : l8.length ≤ c8) (hr10 : Kd.C (Kd.int .i64) w0 A10 l10.length l10)
    (ot : ByteArray) (ho : hist_Op.f (310 + l8.length) okind opath oto ooff on l8 osnap = some ot) (hj : actT ([wordA 1] ++ List.map numW [thread] ++ [ot]) = some r) :
    Calls Tryz.prog 22 #[.agg #[.int .i64 1, .int .i64 thread, .int .i64 n, .int .i64 okind, .string opath, .string oto, .int .i64 ooff, .int .i64 on, .slice A8 l8.length c8, .int .i64 osnap, .slice A10 l10.length c10]] w0 fun e w' => e = .returned (.string r) ∧ Below w0.heap.size w0 w' := by
  have HT := Aside0.mk hT
  have HR8 := Aside0.mk hr8
  have HC8 := Aside0.mk hc8
  have HR10 := Aside0.mk hr10
  have HB := Aside0.mk (Below.refl w0.heap.size w0)
  clear hT hr8 hc8 hr10
  have HJ := Aside0.mk hj
  clear hj
  have HSZ : Aside0 (([wordA 1] ++ List.map numW [thread] ++ [ot]).length < 8796093022208) := ⟨by simp⟩
  have HO := Aside0.mk ho
  clear ho
  go_enter Tryz.func22, Tryz.ntmps22
  go_wp2_with (first | ((with_reducible refine gate_dst (N := 1) rfl ?_); refine box_event ?hg (N := 1) ?hd (cs := #[.int .i64 1, .int .i64 thread, .int .i64 n, .int .i64 okind, .string opath, .string oto, .int .i64 ooff, .int .i64 on, .slice A8 l8.length c8, .int .i64 osnap, .slice A10 l10.length c10]) (t := 52) ?hr ?_; (case hd => rfl); (case hg => rfl); (case hr => first | (go_simp; done) | (go_simp; rfl)); intro gb hg w1 hbox hb; have n0_ := Aside0.mk (below_step (by repeat (first | (with_reducible first | exact HB.out | apply below_alloc | apply pw_below_drewN | apply below_drew1) | exact HB.out)) hb); have BK := Aside0.mk hbox; have HG1 := Aside0.mk hg; clear HB; have HB := n0_; clear n0_; have hz0 := (blk_cell BK.out 0).trans (show _ = some (.int .i64 1 : Value) from rfl); clear hb hbox hg) | (go_at_call 50; refine (script_word.calls 1 (wordA 1) _ (wordA_f 1)).mono ?_; rintro e w1b ⟨rfl, hb⟩; have n0_ := Aside0.mk (below_step (by repeat (first | (with_reducible first | exact HB.out | apply below_alloc | apply pw_below_drewN | apply below_drew1) | exact HB.out)) hb); have n1_ := Aside0.mk (blk_below BK.out hb); clear HB BK; have HB := n0_; have BK := n1_; clear n0_ n1_ hb) | ((with_reducible refine gate_dst (N := 11) rfl ?_); refine Kd.R_lit Kd.string _ 9 ?hg (N := 11) ?hd (xs := [wordA 1]) (inner := [.string (wordA 1)]) (ok := fun _ => True) (okp := fun _ => True) ?hr ?hp (fun _ hk => hk) trivial (Below.refl _ _) (Nat.le_refl _) (by simp) ?_; (case hd => rfl); (case hg => rfl); (case hr => first | (go_simp; done) | (go_simp; rfl)); (case hp => exact (Reps.one (show Kd.M Kd.string _ _ _ (wordA 1) [.string (wordA 1)] from rfl) (Reps.none _ _))); intro v w2 ho hb hg_ hnew_; clear hg_; obtain ⟨A2, c2, hv_, hcc_, _⟩ := Kd.R_reads ho; have HCC := Aside0.mk hcc_; clear hcc_; have hv : v = .slice A2 1 c2 := hv_; subst hv; have HR2 := Aside0.mk (Kd.R_lower ho (below_size (by repeat (first | (with_reducible first | exact HB.out | apply below_alloc | apply pw_below_drewN | apply below_drew1) | exact HB.out)))); have n1_ := Aside0.mk (blk_below BK.out hb); have n0_ := Aside0.mk (below_step (by repeat (first | (with_reducible first | exact HB.out | apply below_alloc | apply pw_below_drewN | apply below_drew1) | exact HB.out)) hb); clear HB BK; have HB := n0_; have BK := n1_; clear n0_ n1_ ho hb hnew_ hv_; have hBo_ := blk_new w2 (.cells #[Value.slice A2 1 c2] 38 (0, 0)); have HBo := Aside0.mk hBo_; have hcS := cell_of_one hBo_; have hfS := free_of_one hBo_; have HR3 : Aside0 (Kd.R Kd.string 9 (w2.alloc (.cells #[Value.slice A2 1 c2] 38)) w0.heap.size (fun q => q ≠ w2.heap.size) (.slice A2 1 c2) [wordA 1]) := ⟨Kd.R_alloc (Kd.R_mono (Kd.R_bound HR2.out) (fun q hq => Nat.ne_of_lt hq.2.2.1)) _⟩; have HGE : Aside0 (w0.heap.size ≤ w2.heap.size) := ⟨below_size HB.out⟩; have HLG : Aside0 (gb < w2.heap.size) := ⟨blk_lt BK.out⟩; have BK3 := Aside0.mk (blk_alloc BK.out (.cells #[Value.slice A2 1 c2] 38 (0, 0))); have HWs : Aside0 (Below w0.heap.size w0 (w2.alloc (.cells #[Value.slice A2 1 c2] 38))) := ⟨below_alloc HB.out _⟩; have hz0 := (blk_cell BK3.out 0).trans (show _ = some (.int .i64 1 : Value) from rfl); have hz1 := (blk_cell BK3.out 1).trans (show _ = some (.int .i64 thread : Value) from rfl); have hz2 := (blk_cell BK3.out 2).trans (show _ = some (.int .i64 n : Value) from rfl); have hz10 := (blk_cell BK3.out 10).trans (show _ = some (.slice A10 l10.length c10 : Value) from rfl); clear hBo_ HB BK HR2) | (go_at_call 51; refine (snums_calls w0 HT.out ⟨w2.heap.size + 1, 0, none⟩ _ _ [thread] w2.heap.size _ [wordA 1] _ (fun _ => rfl) (lit_cellsS _ _ (by simp) [thread]) (by simp) (by simp) (by have := R_freshS HR3.out; simpa using this) (blk_alloc HBo.out _) (Kd.R_alloc HR3.out _) (below_alloc HWs.out _) HGE.out (by simp)).mono ?_; rintro e w5 ⟨rfl, ve, hBe, hRe, hWe, hKe⟩; have BK5 := Aside0.mk ((hKe gb (by have h3 := HLG.out; simp; omega) (by have h3 := HLG.out; omega) (fun he => by have h1 := ((Kd.R_bound HR3.out).1 _ he.symm); have := h1.2.2.2; obtain ⟨q, hq, cells, hc⟩ := this; have h4 := BK3.out; rw [hc] at h4; injection h4 with h4; injection h4 with _ h4; rw [h4] at hq; revert hq; decide)).trans (blk_alloc BK3.out _)); have HBo5 := Aside0.mk hBe; have HR5_ := Aside0.mk hRe; have HW5 := Aside0.mk hWe; have hc5 := cell_of_one hBe; have hf5 := free_of_one hBe; have hy0 := (blk_cell BK5.out 0).trans (show _ = some (.int .i64 1 : Value) from rfl); have hy1 := (blk_cell BK5.out 1).trans (show _ = some (.int .i64 thread : Value) from rfl); have hy2 := (blk_cell BK5.out 2).trans (show _ = some (.int .i64 n : Value) from rfl); have hy3 := (blk_cell BK5.out 3).trans (show _ = some (.int .i64 okind : Value) from rfl); have hy4 := (blk_cell BK5.out 4).trans (show _ = some (.string opath : Value) from rfl); have hy5 := (blk_cell BK5.out 5).trans (show _ = some (.string oto : Value) from rfl); have hy6 := (blk_cell BK5.out 6).trans (show _ = some (.int .i64 ooff : Value) from rfl); have hy7 := (blk_cell BK5.out 7).trans (show _ = some (.int .i64 on : Value) from rfl); have hy8 := (blk_cell BK5.out 8).trans (show _ = some (.slice A8 l8.length c8 : Value) from rfl); have hy9 := (blk_cell BK5.out 9).trans (show _ = some (.int .i64 osnap : Value) from rfl); have hy10 := (blk_cell BK5.out 10).trans (show _ = some (.slice A10 l10.length c10 : Value) from rfl); clear hRe hWe; clear hBe hKe))
  refine wp_region_any (by kernel_rfl) ?_
  (try (change wpAny _ _ _ _ _ _ _ (World.drew _)))
  refine wpAny_take (i := 1) (v := ?_) rfl (by kernel_rfl) (by kernel_rfl) (by kernel_rfl) (fun _ _ _ h => h) (Or.inl ⟨by rfl, ?_⟩) ?_
  rotate_left
  · intro w; go_simp
    try (with_reducible rfl)
  refine wpAny_ready (rs := [0, 2]) (by kernel_rfl) (by simp) ?_
  refine AllReady.cons rfl (fun K hK => ?_) ?_
  · go_simp
    refine hK _ _ ?_
    (try clear hK K)
    refine wpAny_ready (rs := [2]) (by kernel_rfl) (by simp) ?_
    refine AllReady.cons rfl (fun K hK => ?_) ?_
    · go_simp
      refine hK _ _ ?_
      (try clear hK K)
      refine wpAny_ready (rs := [3]) (by kernel_rfl) (by simp) ?_
      refine AllReady.cons rfl (fun K hK => ?_) ?_
      · go_wp2_with (go_at_call 11; refine (hist_Op.calls (310 + l8.length) okind opath oto ooff on A8 c8 l8 osnap ot _ (Kd.C_below HR8.out (by repeat (first | (with_reducible first | exact HW5.out | apply below_alloc | apply pw_below_drewN | apply below_drew1) | exact HW5.out))) HC8.out HO.out (Tabs.after HT.out (by repeat (first | (with_reducible first | exact HW5.out | apply below_alloc | apply pw_below_drewN | apply below_drew1) | exact HW5.out)))).mono ?_; rintro e w6 ⟨rfl, hb1⟩; have n0_ := Aside0.mk (Kd.R_below (by first | exact HR5_.out | (apply Kd.R_drew; exact HR5_.out) | (apply Kd.R_alloc; exact HR5_.out)) hb1); have n1_ := Aside0.mk (blk_below (g := w2.heap.size) (o := .cells #[ve] 38 (0, 0)) (by first | exact HBo5.out | exact blk_drew HBo5.out | exact blk_alloc HBo5.out _) hb1); have n2_ := Aside0.mk (below_step (by repeat (first | (with_reducible first | exact HW5.out | apply below_alloc | apply pw_below_drewN | apply below_drew1) | exact HW5.out)) hb1); clear HR5_ HBo5 HW5; have HR5_ := n0_; have HBo5 := n1_; have HW5 := n2_; have hc1 := cell_of_one HBo5.out; have hf1 := free_of_one HBo5.out; have hcA := fun o => cell_of_one (blk_alloc HBo5.out o); clear n0_ n1_ n2_; clear hb1)
        (try (refine hK _ _ ?_; clear hK K))
        (try clear hK K)
        refine wpAny_ready (rs := [4]) (by kernel_rfl) (by simp) ?_
        refine AllReady.cons rfl (fun K hK => ?_) ?_
        · go_simp
          refine hK _ _ ?_
          (try clear hK K)
          refine wpAny_ready (rs := [5]) (by kernel_rfl) (by simp) ?_
          refine AllReady.cons rfl (fun K hK => ?_) ?_
          · refine Kd.R_append_step Kd.string (w0 := w0) w0.heap.size (by rfl) (.tmp 31) (.tmp 35) 38 9 (.string ⟨#[]⟩) 16 rfl Tryz.underlying38 info9 rfl (by decide) (by omega) ve ([wordA 1] ++ List.map numW [thread]) ot [.string ot] (fun q => q ≠ w2.heap.size) (fun _ => False) rfl rfl ?aP (fun _ hk => hk.elim) ?aF ?aO ?aB ?aS ?aL ?_
            case aP => exact rfl
            case aF => exact (fun q hq => by have := blk_lt HBo5.out; first | omega | (simp only [World.alloc, Array.size_push] at hq; omega))
            case aO => exact (by first | exact HR5_.out | (apply Kd.R_drew; exact HR5_.out) | (apply Kd.R_alloc; exact HR5_.out))
            case aB => exact (by repeat (first | (with_reducible first | exact HW5.out | apply below_alloc | apply pw_below_drewN | apply below_drew1) | exact HW5.out))
            case aS => exact (below_size (by repeat (first | (with_reducible first | exact HW5.out | apply below_alloc | apply pw_below_drewN | apply below_drew1) | exact HW5.out)))
            case aL => simp
            intro v1 w7 ho hb hg hat
            have hBn := blk_grown (g := w2.heap.size) (by first | exact HBo5.out | exact blk_drew HBo5.out | exact blk_alloc HBo5.out _) hg (fun he => HR5_.out.1 _ he.symm rfl)
            have hcB := cell_of_one hBn
            have hfB := free_of_one hBn
            obtain ⟨Az, m1, cz, hvz, hm1, hcz, hzz, hCz, hWe⟩ := cap_storeS hBn ho hb HGE.out
            subst hvz
            have HCz := Aside0.mk hCz
            have HWe := Aside0.mk hWe
            have HM1 := Aside0.mk hm1
            have HCZ := Aside0.mk hcz
            clear ho hb hg hat hBn hCz hWe hm1 hcz
            refine hK _ _ ?_
            (try clear hK K)
            refine wpAny_ready (rs := [6]) (by kernel_rfl) (by simp) ?_
            refine AllReady.cons rfl (fun K hK => ?_) ?_
            · go_simp
              refine hK _ _ ?_
              (try clear hK K)
              refine wpAny_done (by kernel_rfl) ?_ _
              have hm1s : m1 < 8796093022208 := by have := HM1.out; have := HSZ.out; omega
              go_wp2_with fail
              go_loopw [53] (fun v53 wr => ∃ k : Nat, k ≤ m1 ∧ v53 = .int .i64 k ∧ Aside0 (∀ j, j < k → isNone (([wordA 1] ++ List.map numW [thread] ++ [ot]).getD j ByteArray.empty) = false) ∧ Aside0 (Drawn0 (w7.setCell ⟨w2.heap.size, 0, none⟩ (Value.slice Az m1 cz)) wr)) (fun v53 _ => m1 - (intOf v53).toNat)
              case atStart => exact ⟨0, by omega, rfl, ⟨fun j hj => by omega⟩, ⟨Drawn0.refl _⟩⟩
              case round =>
                obtain ⟨k, hk, rfl, HN, HD⟩ := hrel
                have HWr : Aside0 (Below w0.heap.size w0 wr) := ⟨below_step HWe.out HD.out.below⟩
                by_cases hkl : k < m1
                · obtain ⟨ad, e1, hx⟩ := Kd.at_string HCz.out (k : Int) (by omega) (by have := HM1.out; omega)
                  subst e1
                  have hx' : wr.cell? (ad.add k) = some (.string (rdOf ByteArray.empty ([wordA 1] ++ List.map numW [thread] ++ [ot]) (k : Int))) := by
                    obtain ⟨⟨nd, rfl⟩⟩ := HD.out
                    simpa using hx
                  clear hx
                  obtain ⟨x, hxe⟩ : ∃ x, x = rdOf ByteArray.empty ([wordA 1] ++ List.map numW [thread] ++ [ot]) (k : Int) := ⟨_, rfl⟩
                  rw [← hxe] at hx'
                  have HX := Aside0.mk hxe
                  clear hxe
                  cases hq : isNone x with
                  | true =>
                    have hq1 : (x.toList == ([] : List UInt8)) = true := (isNone_beq x).trans hq
                    have HQ := Aside0.mk hq
                    clear hq
                    go_wp2_with fail
                    go_ret
                    have hr : r = ⟨#[]⟩ := actT_none HJ.out k (by have := HM1.out; omega) (by have := HQ.out; rw [HX.out] at this; simpa [rdOf] using this)
                    exact ⟨by rw [hr]; rfl, HWr.out⟩
                  | false =>
                    have hq1 : (x.toList == ([] : List UInt8)) = false := (isNone_beq x).trans hq
                    have HQ := Aside0.mk hq
                    clear hq
                    go_wp2_with fail
                    go_roundw
                    case rel =>
                      refine ⟨k + 1, by omega, by go_num, ⟨fun j hj => ?_⟩, HD⟩
                      by_cases hjk : j < k
                      · exact HN.out j hjk
                      · obtain rfl : j = k := by omega
                        have := HQ.out; rw [HX.out] at this; simpa [rdOf] using this
                    case measure => simp [intOf]; omega
                · have hzw : wr.cell? ⟨w2.heap.size, 0, none⟩ = some (.slice Az m1 cz) := by
                    obtain ⟨⟨nd, rfl⟩⟩ := HD.out
                    exact hzz
                  have HCw := Aside0.mk (Kd.C_below HCz.out HD.out.below)
                  have hJ := actT_some HJ.out (fun j hj => HN.out j (by have := HM1.out; omega))
                  have HJ2 := Aside0.mk hJ
                  clear hJ
                  go_wp2_with (go_at_call 36; have hjc : Calls Tryz.prog 36 #[.slice Az m1 cz, .string ⟨#[32]⟩] _ _ := (by rw [HM1.out]; exact strings_Join.calls Az cz ([wordA 1] ++ List.map numW [thread] ++ [ot]) ⟨#[32]⟩ r _ HCw.out (by rw [← HM1.out]; exact HCZ.out) HJ2.out); refine hjc.mono ?_; rintro e w9 ⟨rfl, hb9⟩; have HW9 := Aside0.mk (below_step HWr.out hb9); clear hb9)
                  go_ret
                  exact ⟨rfl, HW9.out⟩
            exact AllReady.nil
          exact AllReady.nil
        exact AllReady.nil
      exact AllReady.nil
    exact AllReady.nil
  refine AllReady.cons rfl (fun K hK => ?_) ?_
  · go_simp
    refine hK _ _ ?_
    (try clear hK K)
    refine wpAny_ready (rs := [0, 3]) (by kernel_rfl) (by simp) ?_
    refine AllReady.cons rfl (fun K hK => ?_) ?_
    · go_simp
      refine hK _ _ ?_
      (try clear hK K)
      refine wpAny_ready (rs := [3]) (by kernel_rfl) (by simp) ?_
      refine AllReady.cons rfl (fun K hK => ?_) ?_
      · go_wp2_with (go_at_call 11; refine (hist_Op.calls (310 + l8.length) okind opath oto ooff on A8 c8 l8 osnap ot _ (Kd.C_below HR8.out (by repeat (first | (with_reducible first | exact HW5.out | apply below_alloc | apply pw_below_drewN | apply below_drew1) | exact HW5.out))) HC8.out HO.out (Tabs.after HT.out (by repeat (first | (with_reducible first | exact HW5.out | apply below_alloc | apply pw_below_drewN | apply below_drew1) | exact HW5.out)))).mono ?_; rintro e w6 ⟨rfl, hb1⟩; have n0_ := Aside0.mk (Kd.R_below (by first | exact HR5_.out | (apply Kd.R_drew; exact HR5_.out) | (apply Kd.R_alloc; exact HR5_.out)) hb1); have n1_ := Aside0.mk (blk_below (g := w2.heap.size) (o := .cells #[ve] 38 (0, 0)) (by first | exact HBo5.out | exact blk_drew HBo5.out | exact blk_alloc HBo5.out _) hb1); have n2_ := Aside0.mk (below_step (by repeat (first | (with_reducible first | exact HW5.out | apply below_alloc | apply pw_below_drewN | apply below_drew1) | exact HW5.out)) hb1); clear HR5_ HBo5 HW5; have HR5_ := n0_; have HBo5 := n1_; have HW5 := n2_; have hc1 := cell_of_one HBo5.out; have hf1 := free_of_one HBo5.out; have hcA := fun o => cell_of_one (blk_alloc HBo5.out o); clear n0_ n1_ n2_; clear hb1)
        (try (refine hK _ _ ?_; clear hK K))
        (try clear hK K)
        refine wpAny_ready (rs := [4]) (by kernel_rfl) (by simp) ?_
        refine AllReady.cons rfl (fun K hK => ?_) ?_
        · go_simp
          refine hK _ _ ?_
          (try clear hK K)
          refine wpAny_ready (rs := [5]) (by kernel_rfl) (by simp) ?_
          refine AllReady.cons rfl (fun K hK => ?_) ?_
          · refine Kd.R_append_step Kd.string (w0 := w0) w0.heap.size (by rfl) (.tmp 31) (.tmp 35) 38 9 (.string ⟨#[]⟩) 16 rfl Tryz.underlying38 info9 rfl (by decide) (by omega) ve ([wordA 1] ++ List.map numW [thread]) ot [.string ot] (fun q => q ≠ w2.heap.size) (fun _ => False) rfl rfl ?aP (fun _ hk => hk.elim) ?aF ?aO ?aB ?aS ?aL ?_
            case aP => exact rfl
            case aF => exact (fun q hq => by have := blk_lt HBo5.out; first | omega | (simp only [World.alloc, Array.size_push] at hq; omega))
            case aO => exact (by first | exact HR5_.out | (apply Kd.R_drew; exact HR5_.out) | (apply Kd.R_alloc; exact HR5_.out))
            case aB => exact (by repeat (first | (with_reducible first | exact HW5.out | apply below_alloc | apply pw_below_drewN | apply below_drew1) | exact HW5.out))
            case aS => exact (below_size (by repeat (first | (with_reducible first | exact HW5.out | apply below_alloc | apply pw_below_drewN | apply below_drew1) | exact HW5.out)))
            case aL => simp
            intro v1 w7 ho hb hg hat
            have hBn := blk_grown (g := w2.heap.size) (by first | exact HBo5.out | exact blk_drew HBo5.out | exact blk_alloc HBo5.out _) hg (fun he => HR5_.out.1 _ he.symm rfl)
            have hcB := cell_of_one hBn
            have hfB := free_of_one hBn
            obtain ⟨Az, m1, cz, hvz, hm1, hcz, hzz, hCz, hWe⟩ := cap_storeS hBn ho hb HGE.out
            subst hvz
            have HCz := Aside0.mk hCz
            have HWe := Aside0.mk hWe
            have HM1 := Aside0.mk hm1
            have HCZ := Aside0.mk hcz
            clear ho hb hg hat hBn hCz hWe hm1 hcz
            refine hK _ _ ?_
            (try clear hK K)
            refine wpAny_ready (rs := [6]) (by kernel_rfl) (by simp) ?_
            refine AllReady.cons rfl (fun K hK => ?_) ?_
            · go_simp
              refine hK _ _ ?_
              (try clear hK K)
              refine wpAny_done (by kernel_rfl) ?_ _
              have hm1s : m1 < 8796093022208 := by have := HM1.out; have := HSZ.out; omega
              go_wp2_with fail
              go_loopw [53] (fun v53 wr => ∃ k : Nat, k ≤ m1 ∧ v53 = .int .i64 k ∧ Aside0 (∀ j, j < k → isNone (([wordA 1] ++ List.map numW [thread] ++ [ot]).getD j ByteArray.empty) = false) ∧ Aside0 (Drawn0 (w7.setCell ⟨w2.heap.size, 0, none⟩ (Value.slice Az m1 cz)) wr)) (fun v53 _ => m1 - (intOf v53).toNat)
              case atStart => exact ⟨0, by omega, rfl, ⟨fun j hj => by omega⟩, ⟨Drawn0.refl _⟩⟩
              case round =>
                obtain ⟨k, hk, rfl, HN, HD⟩ := hrel
                have HWr : Aside0 (Below w0.heap.size w0 wr) := ⟨below_step HWe.out HD.out.below⟩
                by_cases hkl : k < m1
                · obtain ⟨ad, e1, hx⟩ := Kd.at_string HCz.out (k : Int) (by omega) (by have := HM1.out; omega)
                  subst e1
                  have hx' : wr.cell? (ad.add k) = some (.string (rdOf ByteArray.empty ([wordA 1] ++ List.map numW [thread] ++ [ot]) (k : Int))) := by
                    obtain ⟨⟨nd, rfl⟩⟩ := HD.out
                    simpa using hx
                  clear hx
                  obtain ⟨x, hxe⟩ : ∃ x, x = rdOf ByteArray.empty ([wordA 1] ++ List.map numW [thread] ++ [ot]) (k : Int) := ⟨_, rfl⟩
                  rw [← hxe] at hx'
                  have HX := Aside0.mk hxe
                  clear hxe
                  cases hq : isNone x with
                  | true =>
                    have hq1 : (x.toList == ([] : List UInt8)) = true := (isNone_beq x).trans hq
                    have HQ := Aside0.mk hq
                    clear hq
                    go_wp2_with fail
                    go_ret
                    have hr : r = ⟨#[]⟩ := actT_none HJ.out k (by have := HM1.out; omega) (by have := HQ.out; rw [HX.out] at this; simpa [rdOf] using this)
                    exact ⟨by rw [hr]; rfl, HWr.out⟩
                  | false =>
                    have hq1 : (x.toList == ([] : List UInt8)) = false := (isNone_beq x).trans hq
                    have HQ := Aside0.mk hq
                    clear hq
                    go_wp2_with fail
                    go_roundw
                    case rel =>
                      refine ⟨k + 1, by omega, by go_num, ⟨fun j hj => ?_⟩, HD⟩
                      by_cases hjk : j < k
                      · exact HN.out j hjk
                      · obtain rfl : j = k := by omega
                        have := HQ.out; rw [HX.out] at this; simpa [rdOf] using this
                    case measure => simp [intOf]; omega
                · have hzw : wr.cell? ⟨w2.heap.size, 0, none⟩ = some (.slice Az m1 cz) := by
                    obtain ⟨⟨nd, rfl⟩⟩ := HD.out
                    exact hzz
                  have HCw := Aside0.mk (Kd.C_below HCz.out HD.out.below)
                  have hJ := actT_some HJ.out (fun j hj => HN.out j (by have := HM1.out; omega))
                  have HJ2 := Aside0.mk hJ
                  clear hJ
                  go_wp2_with (go_at_call 36; have hjc : Calls Tryz.prog 36 #[.slice Az m1 cz, .string ⟨#[32]⟩] _ _ := (by rw [HM1.out]; exact strings_Join.calls Az cz ([wordA 1] ++ List.map numW [thread] ++ [ot]) ⟨#[32]⟩ r _ HCw.out (by rw [← HM1.out]; exact HCZ.out) HJ2.out); refine hjc.mono ?_; rintro e w9 ⟨rfl, hb9⟩; have HW9 := Aside0.mk (below_step HWr.out hb9); clear hb9)
                  go_ret
                  exact ⟨rfl, HW9.out⟩
            exact AllReady.nil
          exact AllReady.nil
        exact AllReady.nil
      exact AllReady.nil
    refine AllReady.cons rfl (fun K hK => ?_) ?_
    · go_wp2_with (go_at_call 11; refine (hist_Op.calls (310 + l8.length) okind opath oto ooff on A8 c8 l8 osnap ot _ (Kd.C_below HR8.out (by repeat (first | (with_reducible first | exact HW5.out | apply below_alloc | apply pw_below_drewN | apply below_drew1) | exact HW5.out))) HC8.out HO.out (Tabs.after HT.out (by repeat (first | (with_reducible first | exact HW5.out | apply below_alloc | apply pw_below_drewN | apply below_drew1) | exact HW5.out)))).mono ?_; rintro e w6 ⟨rfl, hb1⟩; have n0_ := Aside0.mk (Kd.R_below (by first | exact HR5_.out | (apply Kd.R_drew; exact HR5_.out) | (apply Kd.R_alloc; exact HR5_.out)) hb1); have n1_ := Aside0.mk (blk_below (g := w2.heap.size) (o := .cells #[ve] 38 (0, 0)) (by first | exact HBo5.out | exact blk_drew HBo5.out | exact blk_alloc HBo5.out _) hb1); have n2_ := Aside0.mk (below_step (by repeat (first | (with_reducible first | exact HW5.out | apply below_alloc | apply pw_below_drewN | apply below_drew1) | exact HW5.out)) hb1); clear HR5_ HBo5 HW5; have HR5_ := n0_; have HBo5 := n1_; have HW5 := n2_; have hc1 := cell_of_one HBo5.out; have hf1 := free_of_one HBo5.out; have hcA := fun o => cell_of_one (blk_alloc HBo5.out o); clear n0_ n1_ n2_; clear hb1)
      (try (refine hK _ _ ?_; clear hK K))
      (try clear hK K)
      refine wpAny_ready (rs := [0, 4]) (by kernel_rfl) (by simp) ?_
      refine AllReady.cons rfl (fun K hK => ?_) ?_
      · go_simp
        refine hK _ _ ?_
        (try clear hK K)
        refine wpAny_ready (rs := [4]) (by kernel_rfl) (by simp) ?_
        refine AllReady.cons rfl (fun K hK => ?_) ?_
        · go_simp
          refine hK _ _ ?_
          (try clear hK K)
          refine wpAny_ready (rs := [5]) (by kernel_rfl) (by simp) ?_
          refine AllReady.cons rfl (fun K hK => ?_) ?_
          · refine Kd.R_append_step Kd.string (w0 := w0) w0.heap.size (by rfl) (.tmp 31) (.tmp 35) 38 9 (.string ⟨#[]⟩) 16 rfl Tryz.underlying38 info9 rfl (by decide) (by omega) ve ([wordA 1] ++ List.map numW [thread]) ot [.string ot] (fun q => q ≠ w2.heap.size) (fun _ => False) rfl rfl ?aP (fun _ hk => hk.elim) ?aF ?aO ?aB ?aS ?aL ?_
            case aP => exact rfl
            case aF => exact (fun q hq => by have := blk_lt HBo5.out; first | omega | (simp only [World.alloc, Array.size_push] at hq; omega))
            case aO => exact (by first | exact HR5_.out | (apply Kd.R_drew; exact HR5_.out) | (apply Kd.R_alloc; exact HR5_.out))
            case aB => exact (by repeat (first | (with_reducible first | exact HW5.out | apply below_alloc | apply pw_below_drewN | apply below_drew1) | exact HW5.out))
            case aS => exact (below_size (by repeat (first | (with_reducible first | exact HW5.out | apply below_alloc | apply pw_below_drewN | apply below_drew1) | exact HW5.out)))
            case aL => simp
            intro v1 w7 ho hb hg hat
            have hBn := blk_grown (g := w2.heap.size) (by first | exact HBo5.out | exact blk_drew HBo5.out | exact blk_alloc HBo5.out _) hg (fun he => HR5_.out.1 _ he.symm rfl)
            have hcB := cell_of_one hBn
            have hfB := free_of_one hBn
            obtain ⟨Az, m1, cz, hvz, hm1, hcz, hzz, hCz, hWe⟩ := cap_storeS hBn ho hb HGE.out
            subst hvz
            have HCz := Aside0.mk hCz
            have HWe := Aside0.mk hWe
            have HM1 := Aside0.mk hm1
            have HCZ := Aside0.mk hcz
            clear ho hb hg hat hBn hCz hWe hm1 hcz
            refine hK _ _ ?_
            (try clear hK K)
            refine wpAny_ready (rs := [6]) (by kernel_rfl) (by simp) ?_
            refine AllReady.cons rfl (fun K hK => ?_) ?_
            · go_simp
              refine hK _ _ ?_
              (try clear hK K)
              refine wpAny_done (by kernel_rfl) ?_ _
              have hm1s : m1 < 8796093022208 := by have := HM1.out; have := HSZ.out; omega
              go_wp2_with fail
              go_loopw [53] (fun v53 wr => ∃ k : Nat, k ≤ m1 ∧ v53 = .int .i64 k ∧ Aside0 (∀ j, j < k → isNone (([wordA 1] ++ List.map numW [thread] ++ [ot]).getD j ByteArray.empty) = false) ∧ Aside0 (Drawn0 (w7.setCell ⟨w2.heap.size, 0, none⟩ (Value.slice Az m1 cz)) wr)) (fun v53 _ => m1 - (intOf v53).toNat)
              case atStart => exact ⟨0, by omega, rfl, ⟨fun j hj => by omega⟩, ⟨Drawn0.refl _⟩⟩
              case round =>
                obtain ⟨k, hk, rfl, HN, HD⟩ := hrel
                have HWr : Aside0 (Below w0.heap.size w0 wr) := ⟨below_step HWe.out HD.out.below⟩
                by_cases hkl : k < m1
                · obtain ⟨ad, e1, hx⟩ := Kd.at_string HCz.out (k : Int) (by omega) (by have := HM1.out; omega)
                  subst e1
                  have hx' : wr.cell? (ad.add k) = some (.string (rdOf ByteArray.empty ([wordA 1] ++ List.map numW [thread] ++ [ot]) (k : Int))) := by
                    obtain ⟨⟨nd, rfl⟩⟩ := HD.out
                    simpa using hx
                  clear hx
                  obtain ⟨x, hxe⟩ : ∃ x, x = rdOf ByteArray.empty ([wordA 1] ++ List.map numW [thread] ++ [ot]) (k : Int) := ⟨_, rfl⟩
                  rw [← hxe] at hx'
                  have HX := Aside0.mk hxe
                  clear hxe
                  cases hq : isNone x with
                  | true =>
                    have hq1 : (x.toList == ([] : List UInt8)) = true := (isNone_beq x).trans hq
                    have HQ := Aside0.mk hq
                    clear hq
                    go_wp2_with fail
                    go_ret
                    have hr : r = ⟨#[]⟩ := actT_none HJ.out k (by have := HM1.out; omega) (by have := HQ.out; rw [HX.out] at this; simpa [rdOf] using this)
                    exact ⟨by rw [hr]; rfl, HWr.out⟩
                  | false =>
                    have hq1 : (x.toList == ([] : List UInt8)) = false := (isNone_beq x).trans hq
                    have HQ := Aside0.mk hq
                    clear hq
                    go_wp2_with fail
                    go_roundw
                    case rel =>
                      refine ⟨k + 1, by omega, by go_num, ⟨fun j hj => ?_⟩, HD⟩
                      by_cases hjk : j < k
                      · exact HN.out j hjk
                      · obtain rfl : j = k := by omega
                        have := HQ.out; rw [HX.out] at this; simpa [rdOf] using this
                    case measure => simp [intOf]; omega
                · have hzw : wr.cell? ⟨w2.heap.size, 0, none⟩ = some (.slice Az m1 cz) := by
                    obtain ⟨⟨nd, rfl⟩⟩ := HD.out
                    exact hzz
                  have HCw := Aside0.mk (Kd.C_below HCz.out HD.out.below)
                  have hJ := actT_some HJ.out (fun j hj => HN.out j (by have := HM1.out; omega))
                  have HJ2 := Aside0.mk hJ
                  clear hJ
                  go_wp2_with (go_at_call 36; have hjc : Calls Tryz.prog 36 #[.slice Az m1 cz, .string ⟨#[32]⟩] _ _ := (by rw [HM1.out]; exact strings_Join.calls Az cz ([wordA 1] ++ List.map numW [thread] ++ [ot]) ⟨#[32]⟩ r _ HCw.out (by rw [← HM1.out]; exact HCZ.out) HJ2.out); refine hjc.mono ?_; rintro e w9 ⟨rfl, hb9⟩; have HW9 := Aside0.mk (below_step HWr.out hb9); clear hb9)
                  go_ret
                  exact ⟨rfl, HW9.out⟩
            exact AllReady.nil
          exact AllReady.nil
        exact AllReady.nil
      refine AllReady.cons rfl (fun K hK => ?_) ?_
      · go_simp
        refine hK _ _ ?_
        (try clear hK K)
        refine wpAny_ready (rs := [0]) (by kernel_rfl) (by simp) ?_
        refine AllReady.cons rfl (fun K hK => ?_) ?_
        · go_simp
          refine hK _ _ ?_
          (try clear hK K)
          refine wpAny_ready (rs := [5]) (by kernel_rfl) (by simp) ?_
          refine AllReady.cons rfl (fun K hK => ?_) ?_
          · refine Kd.R_append_step Kd.string (w0 := w0) w0.heap.size (by rfl) (.tmp 31) (.tmp 35) 38 9 (.string ⟨#[]⟩) 16 rfl Tryz.underlying38 info9 rfl (by decide) (by omega) ve ([wordA 1] ++ List.map numW [thread]) ot [.string ot] (fun q => q ≠ w2.heap.size) (fun _ => False) rfl rfl ?aP (fun _ hk => hk.elim) ?aF ?aO ?aB ?aS ?aL ?_
            case aP => exact rfl
            case aF => exact (fun q hq => by have := blk_lt HBo5.out; first | omega | (simp only [World.alloc, Array.size_push] at hq; omega))
            case aO => exact (by first | exact HR5_.out | (apply Kd.R_drew; exact HR5_.out) | (apply Kd.R_alloc; exact HR5_.out))
            case aB => exact (by repeat (first | (with_reducible first | exact HW5.out | apply below_alloc | apply pw_below_drewN | apply below_drew1) | exact HW5.out))
            case aS => exact (below_size (by repeat (first | (with_reducible first | exact HW5.out | apply below_alloc | apply pw_below_drewN | apply below_drew1) | exact HW5.out)))
            case aL => simp
            intro v1 w7 ho hb hg hat
            have hBn := blk_grown (g := w2.heap.size) (by first | exact HBo5.out | exact blk_drew HBo5.out | exact blk_alloc HBo5.out _) hg (fun he => HR5_.out.1 _ he.symm rfl)
            have hcB := cell_of_one hBn
            have hfB := free_of_one hBn
            obtain ⟨Az, m1, cz, hvz, hm1, hcz, hzz, hCz, hWe⟩ := cap_storeS hBn ho hb HGE.out
            subst hvz
            have HCz := Aside0.mk hCz
            have HWe := Aside0.mk hWe
            have HM1 := Aside0.mk hm1
            have HCZ := Aside0.mk hcz
            clear ho hb hg hat hBn hCz hWe hm1 hcz
            refine hK _ _ ?_
            (try clear hK K)
            refine wpAny_ready (rs := [6]) (by kernel_rfl) (by simp) ?_
            refine AllReady.cons rfl (fun K hK => ?_) ?_
            · go_simp
              refine hK _ _ ?_
              (try clear hK K)
              refine wpAny_done (by kernel_rfl) ?_ _
              have hm1s : m1 < 8796093022208 := by have := HM1.out; have := HSZ.out; omega
              go_wp2_with fail
              go_loopw [53] (fun v53 wr => ∃ k : Nat, k ≤ m1 ∧ v53 = .int .i64 k ∧ Aside0 (∀ j, j < k → isNone (([wordA 1] ++ List.map numW [thread] ++ [ot]).getD j ByteArray.empty) = false) ∧ Aside0 (Drawn0 (w7.setCell ⟨w2.heap.size, 0, none⟩ (Value.slice Az m1 cz)) wr)) (fun v53 _ => m1 - (intOf v53).toNat)
              case atStart => exact ⟨0, by omega, rfl, ⟨fun j hj => by omega⟩, ⟨Drawn0.refl _⟩⟩
              case round =>
                obtain ⟨k, hk, rfl, HN, HD⟩ := hrel
                have HWr : Aside0 (Below w0.heap.size w0 wr) := ⟨below_step HWe.out HD.out.below⟩
                by_cases hkl : k < m1
                · obtain ⟨ad, e1, hx⟩ := Kd.at_string HCz.out (k : Int) (by omega) (by have := HM1.out; omega)
                  subst e1
                  have hx' : wr.cell? (ad.add k) = some (.string (rdOf ByteArray.empty ([wordA 1] ++ List.map numW [thread] ++ [ot]) (k : Int))) := by
                    obtain ⟨⟨nd, rfl⟩⟩ := HD.out
                    simpa using hx
                  clear hx
                  obtain ⟨x, hxe⟩ : ∃ x, x = rdOf ByteArray.empty ([wordA 1] ++ List.map numW [thread] ++ [ot]) (k : Int) := ⟨_, rfl⟩
                  rw [← hxe] at hx'
                  have HX := Aside0.mk hxe
                  clear hxe
                  cases hq : isNone x with
                  | true =>
                    have hq1 : (x.toList == ([] : List UInt8)) = true := (isNone_beq x).trans hq
                    have HQ := Aside0.mk hq
                    clear hq
                    go_wp2_with fail
                    go_ret
                    have hr : r = ⟨#[]⟩ := actT_none HJ.out k (by have := HM1.out; omega) (by have := HQ.out; rw [HX.out] at this; simpa [rdOf] using this)
                    exact ⟨by rw [hr]; rfl, HWr.out⟩
                  | false =>
                    have hq1 : (x.toList == ([] : List UInt8)) = false := (isNone_beq x).trans hq
                    have HQ := Aside0.mk hq
                    clear hq
                    go_wp2_with fail
                    go_roundw
                    case rel =>
                      refine ⟨k + 1, by omega, by go_num, ⟨fun j hj => ?_⟩, HD⟩
                      by_cases hjk : j < k
                      · exact HN.out j hjk
                      · obtain rfl : j = k := by omega
                        have := HQ.out; rw [HX.out] at this; simpa [rdOf] using this
                    case measure => simp [intOf]; omega
                · have hzw : wr.cell? ⟨w2.heap.size, 0, none⟩ = some (.slice Az m1 cz) := by
                    obtain ⟨⟨nd, rfl⟩⟩ := HD.out
                    exact hzz
                  have HCw := Aside0.mk (Kd.C_below HCz.out HD.out.below)
                  have hJ := actT_some HJ.out (fun j hj => HN.out j (by have := HM1.out; omega))
                  have HJ2 := Aside0.mk hJ
                  clear hJ
                  go_wp2_with (go_at_call 36; have hjc : Calls Tryz.prog 36 #[.slice Az m1 cz, .string ⟨#[32]⟩] _ _ := (by rw [HM1.out]; exact strings_Join.calls Az cz ([wordA 1] ++ List.map numW [thread] ++ [ot]) ⟨#[32]⟩ r _ HCw.out (by rw [← HM1.out]; exact HCZ.out) HJ2.out); refine hjc.mono ?_; rintro e w9 ⟨rfl, hb9⟩; have HW9 := Aside0.mk (below_step HWr.out hb9); clear hb9)
                  go_ret
                  exact ⟨rfl, HW9.out⟩
            exact AllReady.nil
          exact AllReady.nil
        exact AllReady.nil
      exact AllReady.nil
    exact AllReady.nil
  exact AllReady.nil

def script_Text.f (kind thread n okind : Int) (opath oto : ByteArray) (ooff on : Int) (data : List Int) (osnap : Int) (picks : List Int) : Option ByteArray :=
  if kind = 1 then (hist_Op.f (310 + data.length) okind opath oto ooff on data osnap).bind fun ot => actT ([wordA 1] ++ List.map numW [thread] ++ [ot])
  else if kind = 2 then actT ([wordA 2] ++ List.map numW [thread])
  else if kind = 4 then actT ([wordA 4] ++ List.map numW [n])
  else if kind = 6 then actT ([wordA 6] ++ List.map numW [n])
  else if kind = 5 then (if 100 < picks.length then some ⟨#[]⟩ else actT ([wordA 5] ++ List.map numW picks))
  else actT [wordA kind]
theorem script_Text.calls (kind thread n okind : Int) (opath oto : ByteArray) (ooff on : Int) (A8 : Option Addr) (c8 : Nat) (l8 : List Int) (osnap : Int) (A10 : Option Addr) (c10 : Nat) (l10 : List Int) (r : ByteArray) (w : World)
    (hr8 : Kd.C (Kd.int .u8) w A8 l8.length l8) (hc8 : l8.length ≤ c8) (hr10 : Kd.C (Kd.int .i64) w A10 l10.length l10) (hc10 : l10.length ≤ c10)
    (h : script_Text.f kind thread n okind opath oto ooff on l8 osnap l10 = some r) (hT : Tabs w) :
    Calls Tryz.prog 22 #[.agg #[.int .i64 kind, .int .i64 thread, .int .i64 n, .int .i64 okind, .string opath, .string oto, .int .i64 ooff, .int .i64 on, .slice A8 l8.length c8, .int .i64 osnap, .slice A10 l10.length c10]] w fun e w' => e = .returned (.string r) ∧ Below w.heap.size w w' := by
  unfold script_Text.f at h
  by_cases k1 : kind = 1
  · rw [if_pos k1] at h
    subst k1
    obtain ⟨ot, ho, hj⟩ := Option.bind_eq_some_iff.1 h
    exact stext_start 0 thread n okind opath oto ooff on A8 c8 l8 osnap A10 c10 l10 r w hT hr8 hc8 hr10 ot ho hj
  rw [if_neg k1] at h
  by_cases k2 : kind = 2
  · rw [if_pos k2] at h
    subst k2
    exact stext_step 0 thread n okind opath oto ooff on A8 c8 l8 osnap A10 c10 l10 r w hT hr8 hc8 hr10 h
  rw [if_neg k2] at h
  by_cases k4 : kind = 4
  · rw [if_pos k4] at h
    subst k4
    exact stext_cut 0 thread n okind opath oto ooff on A8 c8 l8 osnap A10 c10 l10 r w hT hr8 hc8 hr10 h
  rw [if_neg k4] at h
  by_cases k6 : kind = 6
  · rw [if_pos k6] at h
    subst k6
    exact stext_round 0 thread n okind opath oto ooff on A8 c8 l8 osnap A10 c10 l10 r w hT hr8 hc8 hr10 h
  rw [if_neg k6] at h
  by_cases k5 : kind = 5
  · rw [if_pos k5] at h
    subst k5
    by_cases hm : 100 < l10.length
    · rw [if_pos hm] at h
      cases h
      exact stext_many 0 thread n okind opath oto ooff on A8 c8 l8 osnap A10 c10 l10 ⟨#[]⟩ w hT hr8 hc8 hr10 hm
    · rw [if_neg hm] at h
      by_cases hz : l10.length = 0
      · exact stext_nopicks 0 thread n okind opath oto ooff on A8 c8 l8 osnap A10 c10 l10 r w hT hr8 hc8 hr10 hz h
      · exact stext_picks 0 thread n okind opath oto ooff on A8 c8 l8 osnap A10 c10 l10 r w hT hr8 hc8 hr10 (by omega) (by omega) h
  rw [if_neg k5] at h
  exact stext_plain kind thread n okind opath oto ooff on A8 c8 l8 osnap A10 c10 l10 r w hT hr8 hc8 hr10 ⟨k1, k2, k4, k6, k5⟩ h
end Go.Proofs.YtcbmbjapcpbnnaaGreatDoor.G
