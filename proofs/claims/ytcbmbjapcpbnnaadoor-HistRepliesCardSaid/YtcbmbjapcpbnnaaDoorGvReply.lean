/- hist.Reply by its contract: the closure that appends numerals to a captured list, by its own. -/
import Derived.Test.YtcbmbjapcpbnnaaDoorG0
import Derived.Test.YtcbmbjapcpbnnaaDoorG3
import Derived.Test.YtcbmbjapcpbnnaaDoorGvStr
import Derived.OneCell
import Derived.Lib.ItoaLen
namespace Go.Proofs.YtcbmbjapcpbnnaaDoor.G
open Go.RowKit Go.Proofs.YtcbmbjapcpbnnaaDoorW.PrintWords Go.Proofs.YtcbmbjapcpbnnaaDoorW.PrintLast
set_option linter.unusedVariables false
set_option linter.unusedSimpArgs false

theorem cell_move {w w1 : World} {b o : Nat} (h : w1.heap[b]? = w.heap[b]?) : w1.cell? ⟨b, o, none⟩ = w.cell? ⟨b, o, none⟩ := by
  simp [World.cell?, h]
theorem cell_move' {w w1 : World} {a : Addr} (h : w1.heap[a.block]? = w.heap[a.block]?) : w1.cell? a = w.cell? a := by
  unfold World.cell?; rw [h]
theorem take_next' {l : List Int} {k : Nat} (h : k < l.length) : l.take (k + 1) = l.take k ++ [l.getD k 0] := by
  rw [List.take_add_one, List.getElem?_eq_getElem h, List.getD_eq_getElem?_getD, List.getElem?_eq_getElem h]; rfl
/-- The numerals' texts. -/
def itoaB (n : Int) : ByteArray := ofL (Lib.itoa n)
theorem take_next (xs : List ByteArray) (l : List Int) (k : Nat) (n : Int) (h : k < l.length) (hn : n = l.getD k 0) : xs ++ (l.take k).map itoaB ++ [itoaB n] = xs ++ (l.take (k + 1)).map itoaB := by
  rw [take_next' h, List.map_append, List.append_assoc, hn]; rfl
theorem itoa_f {n : Int} (h : -9223372036854775808 ≤ n ∧ n ≤ 9223372036854775807) : strconv_Itoa.f n = some (itoaB n) := by
  unfold strconv_Itoa.f; rw [if_pos h]; rfl

set_option maxRecDepth 100000 in
set_option maxHeartbeats 1000000 in
/-- The closure: what it has appended, and where. -/
theorem nums_calls (w0 : World) (hT : Tabs w0) (ad : Addr) (A : Option Addr) (c : Nat) (l : List Int) (Bo : Nat) (v : Value) (xs : List ByteArray) (w : World)
    (hl : ∀ j, j < l.length → -9223372036854775808 ≤ l.getD j 0 ∧ l.getD j 0 ≤ 9223372036854775807) (hA : l ≠ [] → A = some ad)
    (hx : ∀ j, j < l.length → w.cell? (ad.add j) = some (.int .i64 (l.getD j 0)))
    (hlt : ad.block < w.heap.size) (hn1 : ad.block ≠ Bo) (hn2 : some ad.block ≠ v.ownBlock)
    (hB : w.heap[Bo]? = some (.cells #[v] 34 (0, 0))) (hR : Kd.R Kd.string 9 w w0.heap.size (fun k => k ≠ Bo) v xs) (hW : Below w0.heap.size w0 w) (hBo : w0.heap.size ≤ Bo)
    (hsz : xs.length + l.length < 8796093022208) :
    Calls Tryd.prog 22 #[.slice A l.length c, .pointer (some ⟨Bo, 0, none⟩)] w fun e w' => e = .returned (.tuple #[]) ∧ ∃ v' : Value, w'.heap[Bo]? = some (.cells #[v'] 34 (0, 0)) ∧ Kd.R Kd.string 9 w' w0.heap.size (fun k => k ≠ Bo) v' (xs ++ l.map itoaB) ∧ Below w0.heap.size w0 w' := by
  have HT := Aside0.mk hT
  have HL := Aside0.mk hl
  have HX := Aside0.mk hx
  have HA := Aside0.mk hA
  have HW := Aside0.mk hW
  have HB := Aside0.mk hB
  have HR := Aside0.mk hR
  have HLT := Aside0.mk hlt
  have HN1 := Aside0.mk hn1
  have HN2 := Aside0.mk hn2
  have HBO := Aside0.mk hBo
  clear hT hl hx hA hW hB hR hlt hn1 hn2 hBo
  go_enter Tryd.func22, Tryd.ntmps22
  go_wp2_with fail
  go_loopw [7] (fun v7 wr => ∃ (k : Nat) (vr : Value), k ≤ l.length ∧ v7 = .int .i64 k ∧ Aside0 (wr.heap[Bo]? = some (.cells #[vr] 34 (0, 0))) ∧ Aside0 (Kd.R Kd.string 9 wr w0.heap.size (fun q => q ≠ Bo) vr (xs ++ (l.take k).map itoaB)) ∧ Aside0 (Below w0.heap.size w0 wr) ∧ Aside0 (wr.heap[ad.block]? = w.heap[ad.block]?) ∧ Aside0 (some ad.block ≠ vr.ownBlock)) (fun v7 _ => l.length - (intOf v7).toNat)
  case atStart => exact ⟨0, v, by omega, rfl, HB, ⟨by simpa using HR.out⟩, HW, ⟨rfl⟩, HN2⟩
  case round =>
    obtain ⟨k, vr, hk, rfl, HBr, HRr, HWr, HMr, HNr⟩ := hrel
    have HLr : Aside0 (ad.block < wr.heap.size) := ⟨blk_lt (HMr.out.trans (Array.getElem?_eq_getElem HLT.out))⟩
    by_cases hkl : k < l.length
    · have hcell : wr.cell? (ad.add k) = some (.int .i64 (l.getD k 0)) := by
        have e : (ad.add k).block = ad.block := by unfold Addr.add; split <;> rfl
        rw [← HX.out k hkl]
        exact cell_move' (by rw [e]; exact HMr.out)
      have hAA : A = some ad := HA.out (by intro he; rw [he] at hkl; simp at hkl)
      subst hAA
      have hb := HL.out k hkl
      obtain ⟨n, hn⟩ : ∃ n, n = l.getD k 0 := ⟨_, rfl⟩
      rw [← hn] at hcell hb
      have HN := Aside0.mk hn
      have HI := Aside0.mk (itoa_f hb)
      have hc0 := cell_of_one HBr.out
      have hf0 := free_of_one HBr.out
      have HSZ : Aside0 (xs.length + l.length < 8796093022208) := ⟨hsz⟩
      clear hn hb
      go_wp2_with fail
      refine wp_region_any (by kernel_rfl) ?_
      (try (change wpAny _ _ _ _ _ _ _ (World.drew _)))
      refine wpAny_take (i := 1) (v := ?_) rfl (by kernel_rfl) (by kernel_rfl) (by kernel_rfl) (fun _ _ _ h => h) (Or.inl ⟨by rfl, ?_⟩) ?_
      rotate_left
      · intro w; go_simp
        try (with_reducible rfl)
      refine wpAny_ready (rs := [0, 2]) (by kernel_rfl) (by simp) ?_
      refine AllReady.cons rfl (fun K hK => ?_) ?_
      · go_simp
        refine hK _ _ ?_
        (try clear hK K)
        refine wpAny_ready (rs := [2]) (by kernel_rfl) (by simp) ?_
        refine AllReady.cons rfl (fun K hK => ?_) ?_
        · go_wp2_with (go_at_call 21; refine (strconv_Itoa.calls n (itoaB n) _ HI.out (Tabs.after HT.out (by repeat (first | (with_reducible first | exact HWr.out | apply below_alloc | apply pw_below_drewN | apply below_drew1) | exact HWr.out)))).mono ?_; rintro e w1 ⟨rfl, hb1⟩; have n0_ := Aside0.mk (Kd.R_below (by (with_reducible repeat (first | apply Kd.R_alloc | apply Kd.R_drewN | apply Kd.R_drew)); exact HRr.out) hb1); have n1_ := Aside0.mk (blk_below (g := Bo) (o := .cells #[vr] 34 (0, 0)) (by (with_reducible repeat (first | refine blk_drewN ?_ _ | refine blk_drew ?_ | refine blk_alloc ?_ _)); exact HBr.out) hb1); have n2_ := Aside0.mk (below_step (by repeat (first | (with_reducible first | exact HWr.out | apply below_alloc | apply pw_below_drewN | apply below_drew1) | exact HWr.out)) hb1); have n3_ := Aside0.mk (hb1.block ad.block HLr.out); have n4_ := Aside0.mk (hb1.size); clear HRr HBr HWr; have HRr := n0_; have HBr := n1_; have HWr := n2_; have HM1 := n3_; have HS1 := n4_; have hc1 := cell_of_one HBr.out; have hf1 := free_of_one HBr.out; have hcA := fun o => cell_of_one (blk_alloc HBr.out o); clear n0_ n1_ n2_ n3_ n4_; clear hb1)
          (try (refine hK _ _ ?_; clear hK K))
          (try clear hK K)
          refine wpAny_ready (rs := [3]) (by kernel_rfl) (by simp) ?_
          refine AllReady.cons rfl (fun K hK => ?_) ?_
          · go_simp
            refine hK _ _ ?_
            (try clear hK K)
            refine wpAny_ready (rs := [4]) (by kernel_rfl) (by simp) ?_
            refine AllReady.cons rfl (fun K hK => ?_) ?_
            · refine Kd.R_append_step Kd.string (w0 := w0) w0.heap.size (by rfl) (.tmp 11) (.tmp 14) 34 9 (.string ⟨#[]⟩) 16 rfl Tryd.underlying34 info9 rfl (by decide) (by omega) vr (xs ++ (l.take k).map itoaB) (itoaB n) [.string (itoaB n)] (fun q => q ≠ Bo) (fun _ => False) rfl rfl ?aP (fun _ hk => hk.elim) ?aF ?aO ?aB ?aS ?aL ?_
              case aP => exact rfl
              case aF => exact (fun q hq => by have := blk_lt HBr.out; first | omega | (simp only [World.alloc, Array.size_push] at hq; omega))
              case aO => exact (by (with_reducible repeat (first | apply Kd.R_alloc | apply Kd.R_drewN | apply Kd.R_drew)); exact HRr.out)
              case aB => exact (by repeat (first | (with_reducible first | exact HWr.out | apply below_alloc | apply pw_below_drewN | apply below_drew1) | exact HWr.out))
              case aS => exact (below_size (by repeat (first | (with_reducible first | exact HWr.out | apply below_alloc | apply pw_below_drewN | apply below_drew1) | exact HWr.out)))
              case aL => simp only [List.length_append, List.length_map, List.length_take]; have := HSZ.out; omega
              intro v1 w2 ho hb hg hat
              obtain ⟨A1, c1, hv1, _, _⟩ := Kd.R_reads ho
              obtain ⟨m1, hm1⟩ : ∃ m1, m1 = (xs ++ (l.take k).map itoaB ++ [itoaB n]).length := ⟨_, rfl⟩
              rw [← hm1] at hv1
              clear hm1
              subst hv1
              rw [take_next xs l k n hkl HN.out] at ho
              have HRn := Aside0.mk ho
              have HWn := Aside0.mk hb
              have hBn := blk_grown (g := Bo) (by (with_reducible repeat (first | refine blk_drewN ?_ _ | refine blk_drew ?_ | refine blk_alloc ?_ _)); exact HBr.out) hg (fun he => HRr.out.1 Bo he.symm rfl)
              have hcB := cell_of_one hBn
              have hfB := free_of_one hBn
              have HBn := Aside0.mk hBn
              have HG := Aside0.mk hg
              have HAT := Aside0.mk hat
              clear hBn ho hb hg hat
              refine hK _ _ ?_
              (try clear hK K)
              refine wpAny_ready (rs := [5]) (by kernel_rfl) (by simp) ?_
              refine AllReady.cons rfl (fun K hK => ?_) ?_
              · go_simp
                refine hK _ _ ?_
                (try clear hK K)
                refine wpAny_done (by kernel_rfl) ?_ _
                go_wp2_with fail
                go_roundw
                case rel =>
                  refine ⟨k + 1, .slice A1 m1 c1, by omega, by go_num, ⟨one_setCell HBn.out⟩, ⟨Kd.R_far HRn.out (p := ⟨Bo, 0, none⟩) (fun q hq => hq) _⟩, ⟨below_set HWn.out HBO.out⟩, ⟨?_⟩, ⟨?_⟩⟩
                  · rw [Below.heap_setCell _ _ _ _ HN1.out, HG.out.block ad.block (by have := HLr.out; have h2 := HS1.out; exact Nat.lt_of_lt_of_le this h2) HNr.out, HM1.out]; exact HMr.out
                  · rcases HAT.out with h | ⟨b, h, hb⟩
                    · rw [h]; exact HNr.out
                    · rw [h]; intro he; injection he with he; have h1 : ad.block < wr.heap.size := HLr.out; have h2 : wr.heap.size ≤ w1.heap.size := HS1.out; omega
                case measure => simp [intOf]; omega
              exact AllReady.nil
            exact AllReady.nil
          exact AllReady.nil
        exact AllReady.nil
      refine AllReady.cons rfl (fun K hK => ?_) ?_
      · go_wp2_with (go_at_call 21; refine (strconv_Itoa.calls n (itoaB n) _ HI.out (Tabs.after HT.out (by repeat (first | (with_reducible first | exact HWr.out | apply below_alloc | apply pw_below_drewN | apply below_drew1) | exact HWr.out)))).mono ?_; rintro e w1 ⟨rfl, hb1⟩; have n0_ := Aside0.mk (Kd.R_below (by (with_reducible repeat (first | apply Kd.R_alloc | apply Kd.R_drewN | apply Kd.R_drew)); exact HRr.out) hb1); have n1_ := Aside0.mk (blk_below (g := Bo) (o := .cells #[vr] 34 (0, 0)) (by (with_reducible repeat (first | refine blk_drewN ?_ _ | refine blk_drew ?_ | refine blk_alloc ?_ _)); exact HBr.out) hb1); have n2_ := Aside0.mk (below_step (by repeat (first | (with_reducible first | exact HWr.out | apply below_alloc | apply pw_below_drewN | apply below_drew1) | exact HWr.out)) hb1); have n3_ := Aside0.mk (hb1.block ad.block HLr.out); have n4_ := Aside0.mk (hb1.size); clear HRr HBr HWr; have HRr := n0_; have HBr := n1_; have HWr := n2_; have HM1 := n3_; have HS1 := n4_; have hc1 := cell_of_one HBr.out; have hf1 := free_of_one HBr.out; have hcA := fun o => cell_of_one (blk_alloc HBr.out o); clear n0_ n1_ n2_ n3_ n4_; clear hb1)
        (try (refine hK _ _ ?_; clear hK K))
        (try clear hK K)
        refine wpAny_ready (rs := [0, 3]) (by kernel_rfl) (by simp) ?_
        refine AllReady.cons rfl (fun K hK => ?_) ?_
        · go_simp
          refine hK _ _ ?_
          (try clear hK K)
          refine wpAny_ready (rs := [3]) (by kernel_rfl) (by simp) ?_
          refine AllReady.cons rfl (fun K hK => ?_) ?_
          · go_simp
            refine hK _ _ ?_
            (try clear hK K)
            refine wpAny_ready (rs := [4]) (by kernel_rfl) (by simp) ?_
            refine AllReady.cons rfl (fun K hK => ?_) ?_
            · refine Kd.R_append_step Kd.string (w0 := w0) w0.heap.size (by rfl) (.tmp 11) (.tmp 14) 34 9 (.string ⟨#[]⟩) 16 rfl Tryd.underlying34 info9 rfl (by decide) (by omega) vr (xs ++ (l.take k).map itoaB) (itoaB n) [.string (itoaB n)] (fun q => q ≠ Bo) (fun _ => False) rfl rfl ?aP (fun _ hk => hk.elim) ?aF ?aO ?aB ?aS ?aL ?_
              case aP => exact rfl
              case aF => exact (fun q hq => by have := blk_lt HBr.out; first | omega | (simp only [World.alloc, Array.size_push] at hq; omega))
              case aO => exact (by (with_reducible repeat (first | apply Kd.R_alloc | apply Kd.R_drewN | apply Kd.R_drew)); exact HRr.out)
              case aB => exact (by repeat (first | (with_reducible first | exact HWr.out | apply below_alloc | apply pw_below_drewN | apply below_drew1) | exact HWr.out))
              case aS => exact (below_size (by repeat (first | (with_reducible first | exact HWr.out | apply below_alloc | apply pw_below_drewN | apply below_drew1) | exact HWr.out)))
              case aL => simp only [List.length_append, List.length_map, List.length_take]; have := HSZ.out; omega
              intro v1 w2 ho hb hg hat
              obtain ⟨A1, c1, hv1, _, _⟩ := Kd.R_reads ho
              obtain ⟨m1, hm1⟩ : ∃ m1, m1 = (xs ++ (l.take k).map itoaB ++ [itoaB n]).length := ⟨_, rfl⟩
              rw [← hm1] at hv1
              clear hm1
              subst hv1
              rw [take_next xs l k n hkl HN.out] at ho
              have HRn := Aside0.mk ho
              have HWn := Aside0.mk hb
              have hBn := blk_grown (g := Bo) (by (with_reducible repeat (first | refine blk_drewN ?_ _ | refine blk_drew ?_ | refine blk_alloc ?_ _)); exact HBr.out) hg (fun he => HRr.out.1 Bo he.symm rfl)
              have hcB := cell_of_one hBn
              have hfB := free_of_one hBn
              have HBn := Aside0.mk hBn
              have HG := Aside0.mk hg
              have HAT := Aside0.mk hat
              clear hBn ho hb hg hat
              refine hK _ _ ?_
              (try clear hK K)
              refine wpAny_ready (rs := [5]) (by kernel_rfl) (by simp) ?_
              refine AllReady.cons rfl (fun K hK => ?_) ?_
              · go_simp
                refine hK _ _ ?_
                (try clear hK K)
                refine wpAny_done (by kernel_rfl) ?_ _
                go_wp2_with fail
                go_roundw
                case rel =>
                  refine ⟨k + 1, .slice A1 m1 c1, by omega, by go_num, ⟨one_setCell HBn.out⟩, ⟨Kd.R_far HRn.out (p := ⟨Bo, 0, none⟩) (fun q hq => hq) _⟩, ⟨below_set HWn.out HBO.out⟩, ⟨?_⟩, ⟨?_⟩⟩
                  · rw [Below.heap_setCell _ _ _ _ HN1.out, HG.out.block ad.block (by have := HLr.out; have h2 := HS1.out; exact Nat.lt_of_lt_of_le this h2) HNr.out, HM1.out]; exact HMr.out
                  · rcases HAT.out with h | ⟨b, h, hb⟩
                    · rw [h]; exact HNr.out
                    · rw [h]; intro he; injection he with he; have h1 : ad.block < wr.heap.size := HLr.out; have h2 : wr.heap.size ≤ w1.heap.size := HS1.out; omega
                case measure => simp [intOf]; omega
              exact AllReady.nil
            exact AllReady.nil
          exact AllReady.nil
        refine AllReady.cons rfl (fun K hK => ?_) ?_
        · go_simp
          refine hK _ _ ?_
          (try clear hK K)
          refine wpAny_ready (rs := [0]) (by kernel_rfl) (by simp) ?_
          refine AllReady.cons rfl (fun K hK => ?_) ?_
          · go_simp
            refine hK _ _ ?_
            (try clear hK K)
            refine wpAny_ready (rs := [4]) (by kernel_rfl) (by simp) ?_
            refine AllReady.cons rfl (fun K hK => ?_) ?_
            · refine Kd.R_append_step Kd.string (w0 := w0) w0.heap.size (by rfl) (.tmp 11) (.tmp 14) 34 9 (.string ⟨#[]⟩) 16 rfl Tryd.underlying34 info9 rfl (by decide) (by omega) vr (xs ++ (l.take k).map itoaB) (itoaB n) [.string (itoaB n)] (fun q => q ≠ Bo) (fun _ => False) rfl rfl ?aP (fun _ hk => hk.elim) ?aF ?aO ?aB ?aS ?aL ?_
              case aP => exact rfl
              case aF => exact (fun q hq => by have := blk_lt HBr.out; first | omega | (simp only [World.alloc, Array.size_push] at hq; omega))
              case aO => exact (by (with_reducible repeat (first | apply Kd.R_alloc | apply Kd.R_drewN | apply Kd.R_drew)); exact HRr.out)
              case aB => exact (by repeat (first | (with_reducible first | exact HWr.out | apply below_alloc | apply pw_below_drewN | apply below_drew1) | exact HWr.out))
              case aS => exact (below_size (by repeat (first | (with_reducible first | exact HWr.out | apply below_alloc | apply pw_below_drewN | apply below_drew1) | exact HWr.out)))
              case aL => simp only [List.length_append, List.length_map, List.length_take]; have := HSZ.out; omega
              intro v1 w2 ho hb hg hat
              obtain ⟨A1, c1, hv1, _, _⟩ := Kd.R_reads ho
              obtain ⟨m1, hm1⟩ : ∃ m1, m1 = (xs ++ (l.take k).map itoaB ++ [itoaB n]).length := ⟨_, rfl⟩
              rw [← hm1] at hv1
              clear hm1
              subst hv1
              rw [take_next xs l k n hkl HN.out] at ho
              have HRn := Aside0.mk ho
              have HWn := Aside0.mk hb
              have hBn := blk_grown (g := Bo) (by (with_reducible repeat (first | refine blk_drewN ?_ _ | refine blk_drew ?_ | refine blk_alloc ?_ _)); exact HBr.out) hg (fun he => HRr.out.1 Bo he.symm rfl)
              have hcB := cell_of_one hBn
              have hfB := free_of_one hBn
              have HBn := Aside0.mk hBn
              have HG := Aside0.mk hg
              have HAT := Aside0.mk hat
              clear hBn ho hb hg hat
              refine hK _ _ ?_
              (try clear hK K)
              refine wpAny_ready (rs := [5]) (by kernel_rfl) (by simp) ?_
              refine AllReady.cons rfl (fun K hK => ?_) ?_
              · go_simp
                refine hK _ _ ?_
                (try clear hK K)
                refine wpAny_done (by kernel_rfl) ?_ _
                go_wp2_with fail
                go_roundw
                case rel =>
                  refine ⟨k + 1, .slice A1 m1 c1, by omega, by go_num, ⟨one_setCell HBn.out⟩, ⟨Kd.R_far HRn.out (p := ⟨Bo, 0, none⟩) (fun q hq => hq) _⟩, ⟨below_set HWn.out HBO.out⟩, ⟨?_⟩, ⟨?_⟩⟩
                  · rw [Below.heap_setCell _ _ _ _ HN1.out, HG.out.block ad.block (by have := HLr.out; have h2 := HS1.out; exact Nat.lt_of_lt_of_le this h2) HNr.out, HM1.out]; exact HMr.out
                  · rcases HAT.out with h | ⟨b, h, hb⟩
                    · rw [h]; exact HNr.out
                    · rw [h]; intro he; injection he with he; have h1 : ad.block < wr.heap.size := HLr.out; have h2 : wr.heap.size ≤ w1.heap.size := HS1.out; omega
                case measure => simp [intOf]; omega
              exact AllReady.nil
            exact AllReady.nil
          exact AllReady.nil
        exact AllReady.nil
      exact AllReady.nil
    · go_wp2_with fail
      go_end0
      have e : k = l.length := by omega
      subst e
      exact ⟨rfl, vr, HBr.out, by simpa using HRr.out, HWr.out⟩
/-- "ok". -/
def okB : ByteArray := ⟨#[111, 107]⟩
theorem Kd.R_fresh {α : Type} {d : Kd α} {e : Nat} {w : World} {base : Nat} {ok : Nat → Prop} {v : Value} {xs : List α} (h : d.R e w base ok v xs) : some w.heap.size ≠ v.ownBlock := fun he => by
  have := ((Kd.R_bound h).1 _ he.symm).2.2.1
  omega
theorem Kd.R_reads_C {e : Nat} {w : World} {base : Nat} {ok : Nat → Prop} {A : Option Addr} {n c : Nat} {xs : List ByteArray} (h : Kd.string.R e w base ok (.slice A n c) xs) : Kd.string.C w A xs.length xs := by
  obtain ⟨A1, c1, h1, _, hC⟩ := Kd.R_reads h
  injection h1 with h1
  subst h1
  exact hC
theorem cap_store {w0 w : World} {Bo : Nat} {u v1 : Value} {xs : List ByteArray} (hBn : w.heap[Bo]? = some (.cells #[u] 34 (0, 0))) (ho : Kd.R Kd.string 9 w w0.heap.size (fun q => q ≠ Bo) v1 xs) (hb : Below w0.heap.size w0 w) (hge : w0.heap.size ≤ Bo) :
    ∃ Az m1 cz, v1 = .slice Az m1 cz ∧ m1 = xs.length ∧ m1 ≤ cz ∧ (w.setCell ⟨Bo, 0, none⟩ v1).cell? ⟨Bo, 0, none⟩ = some v1 ∧ Kd.string.C (w.setCell ⟨Bo, 0, none⟩ v1) Az xs.length xs ∧ Below w0.heap.size w0 (w.setCell ⟨Bo, 0, none⟩ v1) := by
  have hR := Kd.R_far (p := ⟨Bo, 0, none⟩) ho (fun q hq => hq) v1
  obtain ⟨Az, cz, h1, h2, h3⟩ := Kd.R_reads hR
  exact ⟨Az, _, cz, h1, rfl, h2, cell_of_one (one_setCell hBn), h3, below_set hb hge⟩
theorem itoaB_size {n : Int} (h : -9223372036854775808 ≤ n ∧ n ≤ 9223372036854775807) : (itoaB n).size ≤ 21 := by
  unfold itoaB; rw [ofL_size]; exact Lib.itoa_length_le n h.1 h.2
theorem ints_at {w0 : World} {A : Option Addr} {l : List Int} (h : Kd.C (Kd.int .i64) w0 A l.length l) (hn : 0 < l.length) :
    ∃ ad : Addr, A = some ad ∧ ∀ W, Below w0.heap.size w0 W → ∀ j, j < l.length → W.cell? (ad.add j) = some (.int .i64 (l.getD j 0)) := by
  obtain ⟨ad, e, _⟩ := Kd.at_int h 0 (by omega) (by omega)
  refine ⟨ad, e, fun W hW j hj => ?_⟩
  obtain ⟨ad', e', hx⟩ := Kd.at_int (Kd.C_below h hW) (j : Int) (by omega) (by omega)
  rw [e] at e'; cases e'
  simpa [rd] using hx
theorem all_rng {l : List Int} {P : Int → Prop} (h : ∀ x, x ∈ l → P x) : ∀ j, j < l.length → P (l.getD j 0) := fun j hj => by
  rw [List.getD_eq_getElem?_getD, List.getElem?_eq_getElem hj]; exact h _ (List.getElem_mem hj)
theorem lit_cells (W : World) (q : Nat) (hq : q = W.heap.size) (l : List Int) : ∀ j, j < l.length → (W.alloc (.cells (l.map (Value.int .i64)).toArray 3)).cell? ((⟨q, 0, none⟩ : Addr).add j) = some (.int .i64 (l.getD j 0)) := by
  intro j hj
  subst hq
  have e : (⟨W.heap.size, 0, none⟩ : Addr).add j = ⟨W.heap.size, j, none⟩ := by unfold Addr.add; split <;> simp_all
  rw [e]
  have h := heap_alloc_new W (.cells (l.map (Value.int .i64)).toArray 3)
  simp only [World.cell?, h]
  simp [List.getD_eq_getElem?_getD, List.getElem?_eq_getElem hj]
set_option maxRecDepth 100000 in
set_option maxHeartbeats 2000000 in
theorem reply_create (kind ino knd sz lk n : Int) (A5 : Option Addr) (c5 : Nat) (l5 : List Int) (A6 : Option Addr) (c6 : Nat) (l6 : List ByteArray) (A7 : Option Addr) (c7 : Nat) (l7 : List Int) (r : ByteArray) (w0 : World) (hT : Tabs w0)
    (hr5 : Kd.C (Kd.int .u8) w0 A5 l5.length l5) (hc5 : l5.length ≤ c5) (hr6 : Kd.C Kd.string w0 A6 l6.length l6) (hr7 : Kd.C (Kd.int .i64) w0 A7 l7.length l7)
    (hi : ∀ x, x ∈ [ino] → -9223372036854775808 ≤ x ∧ x ≤ 9223372036854775807) (hj : strings_Join.f (okB :: List.map itoaB [ino]) ⟨#[32]⟩ = some r) :
    Calls Tryd.prog 9 #[.int .i64 1, .agg #[.int .i64 ino, .int .i64 knd, .int .i64 sz, .int .i64 lk, .int .i64 n, .slice A5 l5.length c5, .slice A6 l6.length c6, .slice A7 l7.length c7], .int .i64 0] w0 fun e w' => e = .returned (.string r) ∧ Below w0.heap.size w0 w' := by
  have HT := Aside0.mk hT
  have HJ := Aside0.mk hj
  have HR5 := Aside0.mk hr5
  have HC5 := Aside0.mk hc5
  have HR6 := Aside0.mk hr6
  have HR7 := Aside0.mk hr7
  have HB := Aside0.mk (Below.refl w0.heap.size w0)
  clear hT hj hr5 hc5 hr6 hr7
  go_enter Tryd.func9, Tryd.ntmps9
  go_wp2_with (first | ((with_reducible refine gate_dst (N := 4) rfl ?_); refine box_event ?hg (N := 4) ?hd (cs := #[.int .i64 ino, .int .i64 knd, .int .i64 sz, .int .i64 lk, .int .i64 n, .slice A5 l5.length c5, .slice A6 l6.length c6, .slice A7 l7.length c7]) (t := 37) ?hr ?_; (case hd => rfl); (case hg => rfl); (case hr => first | (go_simp; done) | (go_simp; rfl)); intro gb hg w1 hbox hb; have n0_ := Aside0.mk (below_step (by repeat (first | (with_reducible first | exact HB.out | apply below_alloc | apply pw_below_drewN | apply below_drew1) | exact HB.out)) hb); have BK := Aside0.mk hbox; have HG1 := Aside0.mk hg; clear HB; have HB := n0_; clear n0_; clear hb hbox hg) | ((with_reducible refine gate_dst (N := 14) rfl ?_); refine Kd.R_lit Kd.string _ 9 ?hg (N := 14) ?hd (xs := [okB]) (inner := [.string okB]) (ok := fun _ => True) (okp := fun _ => True) ?hr ?hp (fun _ hk => hk) trivial (Below.refl _ _) (Nat.le_refl _) (by simp) ?_; (case hd => rfl); (case hg => rfl); (case hr => first | (go_simp; done) | (go_simp; rfl)); (case hp => exact (Reps.one (show Kd.M Kd.string _ _ _ okB [.string okB] from rfl) (Reps.none _ _))); intro v w2 ho hb hg_ hnew_; clear hg_; obtain ⟨A2, c2, hv_, hcc_, _⟩ := Kd.R_reads ho; have HCC := Aside0.mk hcc_; clear hcc_; have HLG : Aside0 (gb < w2.heap.size) := ⟨blk_lt (blk_below BK.out hb)⟩; have hv : v = .slice A2 1 c2 := hv_; subst hv; have HR2 := Aside0.mk (Kd.R_lower ho (below_size (by repeat (first | (with_reducible first | exact HB.out | apply below_alloc | apply pw_below_drewN | apply below_drew1) | exact HB.out)))); have n1_ := Aside0.mk (blk_below BK.out hb); have n0_ := Aside0.mk (below_step (by repeat (first | (with_reducible first | exact HB.out | apply below_alloc | apply pw_below_drewN | apply below_drew1) | exact HB.out)) hb); clear HB BK; have HB := n0_; have BK := n1_; clear n0_ n1_ ho hb hnew_ hv_; have hBo_ := blk_new w2 (.cells #[Value.slice A2 1 c2] 34 (0, 0)); have HBo := Aside0.mk hBo_; have hcS := cell_of_one hBo_; have hfS := free_of_one hBo_; have HR3 : Aside0 (Kd.R Kd.string 9 (w2.alloc (.cells #[Value.slice A2 1 c2] 34)) w0.heap.size (fun q => q ≠ w2.heap.size) (.slice A2 1 c2) [okB]) := ⟨Kd.R_alloc (Kd.R_mono (Kd.R_bound HR2.out) (fun q hq => Nat.ne_of_lt hq.2.2.1)) _⟩; have HGE : Aside0 (w0.heap.size ≤ w2.heap.size) := ⟨below_size HB.out⟩; have BK3 := Aside0.mk (blk_alloc BK.out (.cells #[Value.slice A2 1 c2] 34 (0, 0))); have HWs : Aside0 (Below w0.heap.size w0 (w2.alloc (.cells #[Value.slice A2 1 c2] 34))) := ⟨below_alloc HB.out _⟩; have hz0 := blk_cell BK3.out 0; have hz1 := blk_cell BK3.out 1; have hz2 := blk_cell BK3.out 2; have hz3 := blk_cell BK3.out 3; have hz4 := blk_cell BK3.out 4; have hz5 := blk_cell BK3.out 5; have hz6 := blk_cell BK3.out 6; have hz7 := blk_cell BK3.out 7; clear hBo_ HB BK HR2) | (go_at_call 22; refine (nums_calls w0 HT.out ⟨w2.heap.size + 1, 0, none⟩ _ _ [ino] w2.heap.size _ [okB] _ (all_rng hi) (fun _ => rfl) (lit_cells _ _ (by simp) [ino]) (by simp) (by simp) (by have := Kd.R_fresh HR3.out; simpa using this) (blk_alloc HBo.out _) (Kd.R_alloc HR3.out _) (below_alloc HWs.out _) HGE.out (by simp)).mono ?_; rintro e w5 ⟨rfl, ve, hBe, hRe, hWe⟩; obtain ⟨Az, cz, hvz, hcz, hCz⟩ := Kd.R_reads hRe; obtain ⟨m1, hm1⟩ : ∃ m1, m1 = ([okB] ++ List.map itoaB [ino]).length := ⟨_, rfl⟩; rw [← hm1] at hvz hcz; subst hvz; have hzz := cell_of_one hBe; have HCz := Aside0.mk hCz; have HWe := Aside0.mk hWe; have HM1 := Aside0.mk hm1; have HCZ := Aside0.mk hcz; clear hBe hRe hWe hCz hm1 hcz) | (go_at_call 16; have hjc : Calls Tryd.prog 16 #[.slice Az m1 cz, .string ⟨#[32]⟩] _ _ := (by rw [HM1.out]; exact strings_Join.calls Az cz ([okB] ++ List.map itoaB [ino]) ⟨#[32]⟩ r _ HCz.out (by rw [← HM1.out]; exact HCZ.out) HJ.out); refine hjc.mono ?_; rintro e w9 ⟨rfl, hb9⟩; have HW9 := Aside0.mk (below_step HWe.out hb9); clear hb9))
  go_ret
  exact ⟨rfl, HW9.out⟩

set_option maxRecDepth 100000 in
set_option maxHeartbeats 2000000 in
theorem reply_mkdir (kind ino knd sz lk n : Int) (A5 : Option Addr) (c5 : Nat) (l5 : List Int) (A6 : Option Addr) (c6 : Nat) (l6 : List ByteArray) (A7 : Option Addr) (c7 : Nat) (l7 : List Int) (r : ByteArray) (w0 : World) (hT : Tabs w0)
    (hr5 : Kd.C (Kd.int .u8) w0 A5 l5.length l5) (hc5 : l5.length ≤ c5) (hr6 : Kd.C Kd.string w0 A6 l6.length l6) (hr7 : Kd.C (Kd.int .i64) w0 A7 l7.length l7)
    (hi : ∀ x, x ∈ [ino] → -9223372036854775808 ≤ x ∧ x ≤ 9223372036854775807) (hj : strings_Join.f (okB :: List.map itoaB [ino]) ⟨#[32]⟩ = some r) :
    Calls Tryd.prog 9 #[.int .i64 2, .agg #[.int .i64 ino, .int .i64 knd, .int .i64 sz, .int .i64 lk, .int .i64 n, .slice A5 l5.length c5, .slice A6 l6.length c6, .slice A7 l7.length c7], .int .i64 0] w0 fun e w' => e = .returned (.string r) ∧ Below w0.heap.size w0 w' := by
  have HT := Aside0.mk hT
  have HJ := Aside0.mk hj
  have HR5 := Aside0.mk hr5
  have HC5 := Aside0.mk hc5
  have HR6 := Aside0.mk hr6
  have HR7 := Aside0.mk hr7
  have HB := Aside0.mk (Below.refl w0.heap.size w0)
  clear hT hj hr5 hc5 hr6 hr7
  go_enter Tryd.func9, Tryd.ntmps9
  go_wp2_with (first | ((with_reducible refine gate_dst (N := 4) rfl ?_); refine box_event ?hg (N := 4) ?hd (cs := #[.int .i64 ino, .int .i64 knd, .int .i64 sz, .int .i64 lk, .int .i64 n, .slice A5 l5.length c5, .slice A6 l6.length c6, .slice A7 l7.length c7]) (t := 37) ?hr ?_; (case hd => rfl); (case hg => rfl); (case hr => first | (go_simp; done) | (go_simp; rfl)); intro gb hg w1 hbox hb; have n0_ := Aside0.mk (below_step (by repeat (first | (with_reducible first | exact HB.out | apply below_alloc | apply pw_below_drewN | apply below_drew1) | exact HB.out)) hb); have BK := Aside0.mk hbox; have HG1 := Aside0.mk hg; clear HB; have HB := n0_; clear n0_; clear hb hbox hg) | ((with_reducible refine gate_dst (N := 14) rfl ?_); refine Kd.R_lit Kd.string _ 9 ?hg (N := 14) ?hd (xs := [okB]) (inner := [.string okB]) (ok := fun _ => True) (okp := fun _ => True) ?hr ?hp (fun _ hk => hk) trivial (Below.refl _ _) (Nat.le_refl _) (by simp) ?_; (case hd => rfl); (case hg => rfl); (case hr => first | (go_simp; done) | (go_simp; rfl)); (case hp => exact (Reps.one (show Kd.M Kd.string _ _ _ okB [.string okB] from rfl) (Reps.none _ _))); intro v w2 ho hb hg_ hnew_; clear hg_; obtain ⟨A2, c2, hv_, hcc_, _⟩ := Kd.R_reads ho; have HCC := Aside0.mk hcc_; clear hcc_; have HLG : Aside0 (gb < w2.heap.size) := ⟨blk_lt (blk_below BK.out hb)⟩; have hv : v = .slice A2 1 c2 := hv_; subst hv; have HR2 := Aside0.mk (Kd.R_lower ho (below_size (by repeat (first | (with_reducible first | exact HB.out | apply below_alloc | apply pw_below_drewN | apply below_drew1) | exact HB.out)))); have n1_ := Aside0.mk (blk_below BK.out hb); have n0_ := Aside0.mk (below_step (by repeat (first | (with_reducible first | exact HB.out | apply below_alloc | apply pw_below_drewN | apply below_drew1) | exact HB.out)) hb); clear HB BK; have HB := n0_; have BK := n1_; clear n0_ n1_ ho hb hnew_ hv_; have hBo_ := blk_new w2 (.cells #[Value.slice A2 1 c2] 34 (0, 0)); have HBo := Aside0.mk hBo_; have hcS := cell_of_one hBo_; have hfS := free_of_one hBo_; have HR3 : Aside0 (Kd.R Kd.string 9 (w2.alloc (.cells #[Value.slice A2 1 c2] 34)) w0.heap.size (fun q => q ≠ w2.heap.size) (.slice A2 1 c2) [okB]) := ⟨Kd.R_alloc (Kd.R_mono (Kd.R_bound HR2.out) (fun q hq => Nat.ne_of_lt hq.2.2.1)) _⟩; have HGE : Aside0 (w0.heap.size ≤ w2.heap.size) := ⟨below_size HB.out⟩; have BK3 := Aside0.mk (blk_alloc BK.out (.cells #[Value.slice A2 1 c2] 34 (0, 0))); have HWs : Aside0 (Below w0.heap.size w0 (w2.alloc (.cells #[Value.slice A2 1 c2] 34))) := ⟨below_alloc HB.out _⟩; have hz0 := blk_cell BK3.out 0; have hz1 := blk_cell BK3.out 1; have hz2 := blk_cell BK3.out 2; have hz3 := blk_cell BK3.out 3; have hz4 := blk_cell BK3.out 4; have hz5 := blk_cell BK3.out 5; have hz6 := blk_cell BK3.out 6; have hz7 := blk_cell BK3.out 7; clear hBo_ HB BK HR2) | (go_at_call 22; refine (nums_calls w0 HT.out ⟨w2.heap.size + 1, 0, none⟩ _ _ [ino] w2.heap.size _ [okB] _ (all_rng hi) (fun _ => rfl) (lit_cells _ _ (by simp) [ino]) (by simp) (by simp) (by have := Kd.R_fresh HR3.out; simpa using this) (blk_alloc HBo.out _) (Kd.R_alloc HR3.out _) (below_alloc HWs.out _) HGE.out (by simp)).mono ?_; rintro e w5 ⟨rfl, ve, hBe, hRe, hWe⟩; obtain ⟨Az, cz, hvz, hcz, hCz⟩ := Kd.R_reads hRe; obtain ⟨m1, hm1⟩ : ∃ m1, m1 = ([okB] ++ List.map itoaB [ino]).length := ⟨_, rfl⟩; rw [← hm1] at hvz hcz; subst hvz; have hzz := cell_of_one hBe; have HCz := Aside0.mk hCz; have HWe := Aside0.mk hWe; have HM1 := Aside0.mk hm1; have HCZ := Aside0.mk hcz; clear hBe hRe hWe hCz hm1 hcz) | (go_at_call 16; have hjc : Calls Tryd.prog 16 #[.slice Az m1 cz, .string ⟨#[32]⟩] _ _ := (by rw [HM1.out]; exact strings_Join.calls Az cz ([okB] ++ List.map itoaB [ino]) ⟨#[32]⟩ r _ HCz.out (by rw [← HM1.out]; exact HCZ.out) HJ.out); refine hjc.mono ?_; rintro e w9 ⟨rfl, hb9⟩; have HW9 := Aside0.mk (below_step HWe.out hb9); clear hb9))
  go_ret
  exact ⟨rfl, HW9.out⟩

set_option maxRecDepth 100000 in
set_option maxHeartbeats 2000000 in
theorem reply_write (kind ino knd sz lk n : Int) (A5 : Option Addr) (c5 : Nat) (l5 : List Int) (A6 : Option Addr) (c6 : Nat) (l6 : List ByteArray) (A7 : Option Addr) (c7 : Nat) (l7 : List Int) (r : ByteArray) (w0 : World) (hT : Tabs w0)
    (hr5 : Kd.C (Kd.int .u8) w0 A5 l5.length l5) (hc5 : l5.length ≤ c5) (hr6 : Kd.C Kd.string w0 A6 l6.length l6) (hr7 : Kd.C (Kd.int .i64) w0 A7 l7.length l7)
    (hi : ∀ x, x ∈ [n] → -9223372036854775808 ≤ x ∧ x ≤ 9223372036854775807) (hj : strings_Join.f (okB :: List.map itoaB [n]) ⟨#[32]⟩ = some r) :
    Calls Tryd.prog 9 #[.int .i64 8, .agg #[.int .i64 ino, .int .i64 knd, .int .i64 sz, .int .i64 lk, .int .i64 n, .slice A5 l5.length c5, .slice A6 l6.length c6, .slice A7 l7.length c7], .int .i64 0] w0 fun e w' => e = .returned (.string r) ∧ Below w0.heap.size w0 w' := by
  have HT := Aside0.mk hT
  have HJ := Aside0.mk hj
  have HR5 := Aside0.mk hr5
  have HC5 := Aside0.mk hc5
  have HR6 := Aside0.mk hr6
  have HR7 := Aside0.mk hr7
  have HB := Aside0.mk (Below.refl w0.heap.size w0)
  clear hT hj hr5 hc5 hr6 hr7
  go_enter Tryd.func9, Tryd.ntmps9
  go_wp2_with (first | ((with_reducible refine gate_dst (N := 4) rfl ?_); refine box_event ?hg (N := 4) ?hd (cs := #[.int .i64 ino, .int .i64 knd, .int .i64 sz, .int .i64 lk, .int .i64 n, .slice A5 l5.length c5, .slice A6 l6.length c6, .slice A7 l7.length c7]) (t := 37) ?hr ?_; (case hd => rfl); (case hg => rfl); (case hr => first | (go_simp; done) | (go_simp; rfl)); intro gb hg w1 hbox hb; have n0_ := Aside0.mk (below_step (by repeat (first | (with_reducible first | exact HB.out | apply below_alloc | apply pw_below_drewN | apply below_drew1) | exact HB.out)) hb); have BK := Aside0.mk hbox; have HG1 := Aside0.mk hg; clear HB; have HB := n0_; clear n0_; clear hb hbox hg) | ((with_reducible refine gate_dst (N := 14) rfl ?_); refine Kd.R_lit Kd.string _ 9 ?hg (N := 14) ?hd (xs := [okB]) (inner := [.string okB]) (ok := fun _ => True) (okp := fun _ => True) ?hr ?hp (fun _ hk => hk) trivial (Below.refl _ _) (Nat.le_refl _) (by simp) ?_; (case hd => rfl); (case hg => rfl); (case hr => first | (go_simp; done) | (go_simp; rfl)); (case hp => exact (Reps.one (show Kd.M Kd.string _ _ _ okB [.string okB] from rfl) (Reps.none _ _))); intro v w2 ho hb hg_ hnew_; clear hg_; obtain ⟨A2, c2, hv_, hcc_, _⟩ := Kd.R_reads ho; have HCC := Aside0.mk hcc_; clear hcc_; have HLG : Aside0 (gb < w2.heap.size) := ⟨blk_lt (blk_below BK.out hb)⟩; have hv : v = .slice A2 1 c2 := hv_; subst hv; have HR2 := Aside0.mk (Kd.R_lower ho (below_size (by repeat (first | (with_reducible first | exact HB.out | apply below_alloc | apply pw_below_drewN | apply below_drew1) | exact HB.out)))); have n1_ := Aside0.mk (blk_below BK.out hb); have n0_ := Aside0.mk (below_step (by repeat (first | (with_reducible first | exact HB.out | apply below_alloc | apply pw_below_drewN | apply below_drew1) | exact HB.out)) hb); clear HB BK; have HB := n0_; have BK := n1_; clear n0_ n1_ ho hb hnew_ hv_; have hBo_ := blk_new w2 (.cells #[Value.slice A2 1 c2] 34 (0, 0)); have HBo := Aside0.mk hBo_; have hcS := cell_of_one hBo_; have hfS := free_of_one hBo_; have HR3 : Aside0 (Kd.R Kd.string 9 (w2.alloc (.cells #[Value.slice A2 1 c2] 34)) w0.heap.size (fun q => q ≠ w2.heap.size) (.slice A2 1 c2) [okB]) := ⟨Kd.R_alloc (Kd.R_mono (Kd.R_bound HR2.out) (fun q hq => Nat.ne_of_lt hq.2.2.1)) _⟩; have HGE : Aside0 (w0.heap.size ≤ w2.heap.size) := ⟨below_size HB.out⟩; have BK3 := Aside0.mk (blk_alloc BK.out (.cells #[Value.slice A2 1 c2] 34 (0, 0))); have HWs : Aside0 (Below w0.heap.size w0 (w2.alloc (.cells #[Value.slice A2 1 c2] 34))) := ⟨below_alloc HB.out _⟩; have hz0 := blk_cell BK3.out 0; have hz1 := blk_cell BK3.out 1; have hz2 := blk_cell BK3.out 2; have hz3 := blk_cell BK3.out 3; have hz4 := blk_cell BK3.out 4; have hz5 := blk_cell BK3.out 5; have hz6 := blk_cell BK3.out 6; have hz7 := blk_cell BK3.out 7; clear hBo_ HB BK HR2) | (go_at_call 22; refine (nums_calls w0 HT.out ⟨w2.heap.size + 1, 0, none⟩ _ _ [n] w2.heap.size _ [okB] _ (all_rng hi) (fun _ => rfl) (lit_cells _ _ (by simp) [n]) (by simp) (by simp) (by have := Kd.R_fresh HR3.out; simpa using this) (blk_alloc HBo.out _) (Kd.R_alloc HR3.out _) (below_alloc HWs.out _) HGE.out (by simp)).mono ?_; rintro e w5 ⟨rfl, ve, hBe, hRe, hWe⟩; obtain ⟨Az, cz, hvz, hcz, hCz⟩ := Kd.R_reads hRe; obtain ⟨m1, hm1⟩ : ∃ m1, m1 = ([okB] ++ List.map itoaB [n]).length := ⟨_, rfl⟩; rw [← hm1] at hvz hcz; subst hvz; have hzz := cell_of_one hBe; have HCz := Aside0.mk hCz; have HWe := Aside0.mk hWe; have HM1 := Aside0.mk hm1; have HCZ := Aside0.mk hcz; clear hBe hRe hWe hCz hm1 hcz) | (go_at_call 16; have hjc : Calls Tryd.prog 16 #[.slice Az m1 cz, .string ⟨#[32]⟩] _ _ := (by rw [HM1.out]; exact strings_Join.calls Az cz ([okB] ++ List.map itoaB [n]) ⟨#[32]⟩ r _ HCz.out (by rw [← HM1.out]; exact HCZ.out) HJ.out); refine hjc.mono ?_; rintro e w9 ⟨rfl, hb9⟩; have HW9 := Aside0.mk (below_step HWe.out hb9); clear hb9))
  go_ret
  exact ⟨rfl, HW9.out⟩

set_option maxRecDepth 100000 in
set_option maxHeartbeats 2000000 in
theorem reply_snap (kind ino knd sz lk n : Int) (A5 : Option Addr) (c5 : Nat) (l5 : List Int) (A6 : Option Addr) (c6 : Nat) (l6 : List ByteArray) (A7 : Option Addr) (c7 : Nat) (l7 : List Int) (r : ByteArray) (w0 : World) (hT : Tabs w0)
    (hr5 : Kd.C (Kd.int .u8) w0 A5 l5.length l5) (hc5 : l5.length ≤ c5) (hr6 : Kd.C Kd.string w0 A6 l6.length l6) (hr7 : Kd.C (Kd.int .i64) w0 A7 l7.length l7)
    (hi : ∀ x, x ∈ [n] → -9223372036854775808 ≤ x ∧ x ≤ 9223372036854775807) (hj : strings_Join.f (okB :: List.map itoaB [n]) ⟨#[32]⟩ = some r) :
    Calls Tryd.prog 9 #[.int .i64 12, .agg #[.int .i64 ino, .int .i64 knd, .int .i64 sz, .int .i64 lk, .int .i64 n, .slice A5 l5.length c5, .slice A6 l6.length c6, .slice A7 l7.length c7], .int .i64 0] w0 fun e w' => e = .returned (.string r) ∧ Below w0.heap.size w0 w' := by
  have HT := Aside0.mk hT
  have HJ := Aside0.mk hj
  have HR5 := Aside0.mk hr5
  have HC5 := Aside0.mk hc5
  have HR6 := Aside0.mk hr6
  have HR7 := Aside0.mk hr7
  have HB := Aside0.mk (Below.refl w0.heap.size w0)
  clear hT hj hr5 hc5 hr6 hr7
  go_enter Tryd.func9, Tryd.ntmps9
  go_wp2_with (first | ((with_reducible refine gate_dst (N := 4) rfl ?_); refine box_event ?hg (N := 4) ?hd (cs := #[.int .i64 ino, .int .i64 knd, .int .i64 sz, .int .i64 lk, .int .i64 n, .slice A5 l5.length c5, .slice A6 l6.length c6, .slice A7 l7.length c7]) (t := 37) ?hr ?_; (case hd => rfl); (case hg => rfl); (case hr => first | (go_simp; done) | (go_simp; rfl)); intro gb hg w1 hbox hb; have n0_ := Aside0.mk (below_step (by repeat (first | (with_reducible first | exact HB.out | apply below_alloc | apply pw_below_drewN | apply below_drew1) | exact HB.out)) hb); have BK := Aside0.mk hbox; have HG1 := Aside0.mk hg; clear HB; have HB := n0_; clear n0_; clear hb hbox hg) | ((with_reducible refine gate_dst (N := 14) rfl ?_); refine Kd.R_lit Kd.string _ 9 ?hg (N := 14) ?hd (xs := [okB]) (inner := [.string okB]) (ok := fun _ => True) (okp := fun _ => True) ?hr ?hp (fun _ hk => hk) trivial (Below.refl _ _) (Nat.le_refl _) (by simp) ?_; (case hd => rfl); (case hg => rfl); (case hr => first | (go_simp; done) | (go_simp; rfl)); (case hp => exact (Reps.one (show Kd.M Kd.string _ _ _ okB [.string okB] from rfl) (Reps.none _ _))); intro v w2 ho hb hg_ hnew_; clear hg_; obtain ⟨A2, c2, hv_, hcc_, _⟩ := Kd.R_reads ho; have HCC := Aside0.mk hcc_; clear hcc_; have HLG : Aside0 (gb < w2.heap.size) := ⟨blk_lt (blk_below BK.out hb)⟩; have hv : v = .slice A2 1 c2 := hv_; subst hv; have HR2 := Aside0.mk (Kd.R_lower ho (below_size (by repeat (first | (with_reducible first | exact HB.out | apply below_alloc | apply pw_below_drewN | apply below_drew1) | exact HB.out)))); have n1_ := Aside0.mk (blk_below BK.out hb); have n0_ := Aside0.mk (below_step (by repeat (first | (with_reducible first | exact HB.out | apply below_alloc | apply pw_below_drewN | apply below_drew1) | exact HB.out)) hb); clear HB BK; have HB := n0_; have BK := n1_; clear n0_ n1_ ho hb hnew_ hv_; have hBo_ := blk_new w2 (.cells #[Value.slice A2 1 c2] 34 (0, 0)); have HBo := Aside0.mk hBo_; have hcS := cell_of_one hBo_; have hfS := free_of_one hBo_; have HR3 : Aside0 (Kd.R Kd.string 9 (w2.alloc (.cells #[Value.slice A2 1 c2] 34)) w0.heap.size (fun q => q ≠ w2.heap.size) (.slice A2 1 c2) [okB]) := ⟨Kd.R_alloc (Kd.R_mono (Kd.R_bound HR2.out) (fun q hq => Nat.ne_of_lt hq.2.2.1)) _⟩; have HGE : Aside0 (w0.heap.size ≤ w2.heap.size) := ⟨below_size HB.out⟩; have BK3 := Aside0.mk (blk_alloc BK.out (.cells #[Value.slice A2 1 c2] 34 (0, 0))); have HWs : Aside0 (Below w0.heap.size w0 (w2.alloc (.cells #[Value.slice A2 1 c2] 34))) := ⟨below_alloc HB.out _⟩; have hz0 := blk_cell BK3.out 0; have hz1 := blk_cell BK3.out 1; have hz2 := blk_cell BK3.out 2; have hz3 := blk_cell BK3.out 3; have hz4 := blk_cell BK3.out 4; have hz5 := blk_cell BK3.out 5; have hz6 := blk_cell BK3.out 6; have hz7 := blk_cell BK3.out 7; clear hBo_ HB BK HR2) | (go_at_call 22; refine (nums_calls w0 HT.out ⟨w2.heap.size + 1, 0, none⟩ _ _ [n] w2.heap.size _ [okB] _ (all_rng hi) (fun _ => rfl) (lit_cells _ _ (by simp) [n]) (by simp) (by simp) (by have := Kd.R_fresh HR3.out; simpa using this) (blk_alloc HBo.out _) (Kd.R_alloc HR3.out _) (below_alloc HWs.out _) HGE.out (by simp)).mono ?_; rintro e w5 ⟨rfl, ve, hBe, hRe, hWe⟩; obtain ⟨Az, cz, hvz, hcz, hCz⟩ := Kd.R_reads hRe; obtain ⟨m1, hm1⟩ : ∃ m1, m1 = ([okB] ++ List.map itoaB [n]).length := ⟨_, rfl⟩; rw [← hm1] at hvz hcz; subst hvz; have hzz := cell_of_one hBe; have HCz := Aside0.mk hCz; have HWe := Aside0.mk hWe; have HM1 := Aside0.mk hm1; have HCZ := Aside0.mk hcz; clear hBe hRe hWe hCz hm1 hcz) | (go_at_call 16; have hjc : Calls Tryd.prog 16 #[.slice Az m1 cz, .string ⟨#[32]⟩] _ _ := (by rw [HM1.out]; exact strings_Join.calls Az cz ([okB] ++ List.map itoaB [n]) ⟨#[32]⟩ r _ HCz.out (by rw [← HM1.out]; exact HCZ.out) HJ.out); refine hjc.mono ?_; rintro e w9 ⟨rfl, hb9⟩; have HW9 := Aside0.mk (below_step HWe.out hb9); clear hb9))
  go_ret
  exact ⟨rfl, HW9.out⟩

set_option maxRecDepth 100000 in
set_option maxHeartbeats 2000000 in
theorem reply_stat (kind ino knd sz lk n : Int) (A5 : Option Addr) (c5 : Nat) (l5 : List Int) (A6 : Option Addr) (c6 : Nat) (l6 : List ByteArray) (A7 : Option Addr) (c7 : Nat) (l7 : List Int) (r : ByteArray) (w0 : World) (hT : Tabs w0)
    (hr5 : Kd.C (Kd.int .u8) w0 A5 l5.length l5) (hc5 : l5.length ≤ c5) (hr6 : Kd.C Kd.string w0 A6 l6.length l6) (hr7 : Kd.C (Kd.int .i64) w0 A7 l7.length l7)
    (hi : ∀ x, x ∈ [ino, knd, sz, lk] → -9223372036854775808 ≤ x ∧ x ≤ 9223372036854775807) (hj : strings_Join.f (okB :: List.map itoaB [ino, knd, sz, lk]) ⟨#[32]⟩ = some r) :
    Calls Tryd.prog 9 #[.int .i64 10, .agg #[.int .i64 ino, .int .i64 knd, .int .i64 sz, .int .i64 lk, .int .i64 n, .slice A5 l5.length c5, .slice A6 l6.length c6, .slice A7 l7.length c7], .int .i64 0] w0 fun e w' => e = .returned (.string r) ∧ Below w0.heap.size w0 w' := by
  have HT := Aside0.mk hT
  have HJ := Aside0.mk hj
  have HR5 := Aside0.mk hr5
  have HC5 := Aside0.mk hc5
  have HR6 := Aside0.mk hr6
  have HR7 := Aside0.mk hr7
  have HB := Aside0.mk (Below.refl w0.heap.size w0)
  clear hT hj hr5 hc5 hr6 hr7
  go_enter Tryd.func9, Tryd.ntmps9
  go_wp2_with (first | ((with_reducible refine gate_dst (N := 4) rfl ?_); refine box_event ?hg (N := 4) ?hd (cs := #[.int .i64 ino, .int .i64 knd, .int .i64 sz, .int .i64 lk, .int .i64 n, .slice A5 l5.length c5, .slice A6 l6.length c6, .slice A7 l7.length c7]) (t := 37) ?hr ?_; (case hd => rfl); (case hg => rfl); (case hr => first | (go_simp; done) | (go_simp; rfl)); intro gb hg w1 hbox hb; have n0_ := Aside0.mk (below_step (by repeat (first | (with_reducible first | exact HB.out | apply below_alloc | apply pw_below_drewN | apply below_drew1) | exact HB.out)) hb); have BK := Aside0.mk hbox; have HG1 := Aside0.mk hg; clear HB; have HB := n0_; clear n0_; clear hb hbox hg) | ((with_reducible refine gate_dst (N := 14) rfl ?_); refine Kd.R_lit Kd.string _ 9 ?hg (N := 14) ?hd (xs := [okB]) (inner := [.string okB]) (ok := fun _ => True) (okp := fun _ => True) ?hr ?hp (fun _ hk => hk) trivial (Below.refl _ _) (Nat.le_refl _) (by simp) ?_; (case hd => rfl); (case hg => rfl); (case hr => first | (go_simp; done) | (go_simp; rfl)); (case hp => exact (Reps.one (show Kd.M Kd.string _ _ _ okB [.string okB] from rfl) (Reps.none _ _))); intro v w2 ho hb hg_ hnew_; clear hg_; obtain ⟨A2, c2, hv_, hcc_, _⟩ := Kd.R_reads ho; have HCC := Aside0.mk hcc_; clear hcc_; have HLG : Aside0 (gb < w2.heap.size) := ⟨blk_lt (blk_below BK.out hb)⟩; have hv : v = .slice A2 1 c2 := hv_; subst hv; have HR2 := Aside0.mk (Kd.R_lower ho (below_size (by repeat (first | (with_reducible first | exact HB.out | apply below_alloc | apply pw_below_drewN | apply below_drew1) | exact HB.out)))); have n1_ := Aside0.mk (blk_below BK.out hb); have n0_ := Aside0.mk (below_step (by repeat (first | (with_reducible first | exact HB.out | apply below_alloc | apply pw_below_drewN | apply below_drew1) | exact HB.out)) hb); clear HB BK; have HB := n0_; have BK := n1_; clear n0_ n1_ ho hb hnew_ hv_; have hBo_ := blk_new w2 (.cells #[Value.slice A2 1 c2] 34 (0, 0)); have HBo := Aside0.mk hBo_; have hcS := cell_of_one hBo_; have hfS := free_of_one hBo_; have HR3 : Aside0 (Kd.R Kd.string 9 (w2.alloc (.cells #[Value.slice A2 1 c2] 34)) w0.heap.size (fun q => q ≠ w2.heap.size) (.slice A2 1 c2) [okB]) := ⟨Kd.R_alloc (Kd.R_mono (Kd.R_bound HR2.out) (fun q hq => Nat.ne_of_lt hq.2.2.1)) _⟩; have HGE : Aside0 (w0.heap.size ≤ w2.heap.size) := ⟨below_size HB.out⟩; have BK3 := Aside0.mk (blk_alloc BK.out (.cells #[Value.slice A2 1 c2] 34 (0, 0))); have HWs : Aside0 (Below w0.heap.size w0 (w2.alloc (.cells #[Value.slice A2 1 c2] 34))) := ⟨below_alloc HB.out _⟩; have hz0 := blk_cell BK3.out 0; have hz1 := blk_cell BK3.out 1; have hz2 := blk_cell BK3.out 2; have hz3 := blk_cell BK3.out 3; have hz4 := blk_cell BK3.out 4; have hz5 := blk_cell BK3.out 5; have hz6 := blk_cell BK3.out 6; have hz7 := blk_cell BK3.out 7; clear hBo_ HB BK HR2) | (go_at_call 22; refine (nums_calls w0 HT.out ⟨w2.heap.size + 1, 0, none⟩ _ _ [ino, knd, sz, lk] w2.heap.size _ [okB] _ (all_rng hi) (fun _ => rfl) (lit_cells _ _ (by simp) [ino, knd, sz, lk]) (by simp) (by simp) (by have := Kd.R_fresh HR3.out; simpa using this) (blk_alloc HBo.out _) (Kd.R_alloc HR3.out _) (below_alloc HWs.out _) HGE.out (by simp)).mono ?_; rintro e w5 ⟨rfl, ve, hBe, hRe, hWe⟩; obtain ⟨Az, cz, hvz, hcz, hCz⟩ := Kd.R_reads hRe; obtain ⟨m1, hm1⟩ : ∃ m1, m1 = ([okB] ++ List.map itoaB [ino, knd, sz, lk]).length := ⟨_, rfl⟩; rw [← hm1] at hvz hcz; subst hvz; have hzz := cell_of_one hBe; have HCz := Aside0.mk hCz; have HWe := Aside0.mk hWe; have HM1 := Aside0.mk hm1; have HCZ := Aside0.mk hcz; clear hBe hRe hWe hCz hm1 hcz) | (go_at_call 16; have hjc : Calls Tryd.prog 16 #[.slice Az m1 cz, .string ⟨#[32]⟩] _ _ := (by rw [HM1.out]; exact strings_Join.calls Az cz ([okB] ++ List.map itoaB [ino, knd, sz, lk]) ⟨#[32]⟩ r _ HCz.out (by rw [← HM1.out]; exact HCZ.out) HJ.out); refine hjc.mono ?_; rintro e w9 ⟨rfl, hb9⟩; have HW9 := Aside0.mk (below_step HWe.out hb9); clear hb9))
  go_ret
  exact ⟨rfl, HW9.out⟩

set_option maxRecDepth 100000 in
set_option maxHeartbeats 2000000 in
theorem reply_plain (kind ino knd sz lk n : Int) (A5 : Option Addr) (c5 : Nat) (l5 : List Int) (A6 : Option Addr) (c6 : Nat) (l6 : List ByteArray) (A7 : Option Addr) (c7 : Nat) (l7 : List Int) (r : ByteArray) (w0 : World) (hT : Tabs w0)
    (hr5 : Kd.C (Kd.int .u8) w0 A5 l5.length l5) (hc5 : l5.length ≤ c5) (hr6 : Kd.C Kd.string w0 A6 l6.length l6) (hr7 : Kd.C (Kd.int .i64) w0 A7 l7.length l7)
    (hk : kind ≠ 1 ∧ kind ≠ 2 ∧ kind ≠ 7 ∧ kind ≠ 8 ∧ kind ≠ 12 ∧ kind ≠ 10 ∧ kind ≠ 11 ∧ kind ≠ 14) (hj : strings_Join.f (okB :: []) ⟨#[32]⟩ = some r) :
    Calls Tryd.prog 9 #[.int .i64 kind, .agg #[.int .i64 ino, .int .i64 knd, .int .i64 sz, .int .i64 lk, .int .i64 n, .slice A5 l5.length c5, .slice A6 l6.length c6, .slice A7 l7.length c7], .int .i64 0] w0 fun e w' => e = .returned (.string r) ∧ Below w0.heap.size w0 w' := by
  have HT := Aside0.mk hT
  have HJ := Aside0.mk hj
  have HR5 := Aside0.mk hr5
  have HC5 := Aside0.mk hc5
  have HR6 := Aside0.mk hr6
  have HR7 := Aside0.mk hr7
  have HB := Aside0.mk (Below.refl w0.heap.size w0)
  clear hT hj hr5 hc5 hr6 hr7
  obtain ⟨k1, k2, k7, k8, k12, k10, k11, k14⟩ := hk
  have e1 : (kind == 1) = false := by simpa using k1
  have e2 : (kind == 2) = false := by simpa using k2
  have e7 : (kind == 7) = false := by simpa using k7
  have e8 : (kind == 8) = false := by simpa using k8
  have e12 : (kind == 12) = false := by simpa using k12
  have e10 : (kind == 10) = false := by simpa using k10
  have e11 : (kind == 11) = false := by simpa using k11
  have e14 : (kind == 14) = false := by simpa using k14
  clear k1 k2 k7 k8 k12 k10 k11 k14
  go_enter Tryd.func9, Tryd.ntmps9
  go_wp2_with (first | ((with_reducible refine gate_dst (N := 4) rfl ?_); refine box_event ?hg (N := 4) ?hd (cs := #[.int .i64 ino, .int .i64 knd, .int .i64 sz, .int .i64 lk, .int .i64 n, .slice A5 l5.length c5, .slice A6 l6.length c6, .slice A7 l7.length c7]) (t := 37) ?hr ?_; (case hd => rfl); (case hg => rfl); (case hr => first | (go_simp; done) | (go_simp; rfl)); intro gb hg w1 hbox hb; have n0_ := Aside0.mk (below_step (by repeat (first | (with_reducible first | exact HB.out | apply below_alloc | apply pw_below_drewN | apply below_drew1) | exact HB.out)) hb); have BK := Aside0.mk hbox; have HG1 := Aside0.mk hg; clear HB; have HB := n0_; clear n0_; clear hb hbox hg) | ((with_reducible refine gate_dst (N := 14) rfl ?_); refine Kd.R_lit Kd.string _ 9 ?hg (N := 14) ?hd (xs := [okB]) (inner := [.string okB]) (ok := fun _ => True) (okp := fun _ => True) ?hr ?hp (fun _ hk => hk) trivial (Below.refl _ _) (Nat.le_refl _) (by simp) ?_; (case hd => rfl); (case hg => rfl); (case hr => first | (go_simp; done) | (go_simp; rfl)); (case hp => exact (Reps.one (show Kd.M Kd.string _ _ _ okB [.string okB] from rfl) (Reps.none _ _))); intro v w2 ho hb hg_ hnew_; clear hg_; obtain ⟨A2, c2, hv_, hcc_, _⟩ := Kd.R_reads ho; have HCC := Aside0.mk hcc_; clear hcc_; have HLG : Aside0 (gb < w2.heap.size) := ⟨blk_lt (blk_below BK.out hb)⟩; have hv : v = .slice A2 1 c2 := hv_; subst hv; have HR2 := Aside0.mk (Kd.R_lower ho (below_size (by repeat (first | (with_reducible first | exact HB.out | apply below_alloc | apply pw_below_drewN | apply below_drew1) | exact HB.out)))); have n1_ := Aside0.mk (blk_below BK.out hb); have n0_ := Aside0.mk (below_step (by repeat (first | (with_reducible first | exact HB.out | apply below_alloc | apply pw_below_drewN | apply below_drew1) | exact HB.out)) hb); clear HB BK; have HB := n0_; have BK := n1_; clear n0_ n1_ ho hb hnew_ hv_; have hBo_ := blk_new w2 (.cells #[Value.slice A2 1 c2] 34 (0, 0)); have HBo := Aside0.mk hBo_; have hcS := cell_of_one hBo_; have hfS := free_of_one hBo_; have HR3 : Aside0 (Kd.R Kd.string 9 (w2.alloc (.cells #[Value.slice A2 1 c2] 34)) w0.heap.size (fun q => q ≠ w2.heap.size) (.slice A2 1 c2) [okB]) := ⟨Kd.R_alloc (Kd.R_mono (Kd.R_bound HR2.out) (fun q hq => Nat.ne_of_lt hq.2.2.1)) _⟩; have HGE : Aside0 (w0.heap.size ≤ w2.heap.size) := ⟨below_size HB.out⟩; have BK3 := Aside0.mk (blk_alloc BK.out (.cells #[Value.slice A2 1 c2] 34 (0, 0))); have HWs : Aside0 (Below w0.heap.size w0 (w2.alloc (.cells #[Value.slice A2 1 c2] 34))) := ⟨below_alloc HB.out _⟩; have hz0 := blk_cell BK3.out 0; have hz1 := blk_cell BK3.out 1; have hz2 := blk_cell BK3.out 2; have hz3 := blk_cell BK3.out 3; have hz4 := blk_cell BK3.out 4; have hz5 := blk_cell BK3.out 5; have hz6 := blk_cell BK3.out 6; have hz7 := blk_cell BK3.out 7; clear hBo_ HB BK HR2) | (go_at_call 16; go_loud (refine (strings_Join.calls A2 c2 [okB] ⟨#[32]⟩ r _ (Kd.R_reads_C HR3.out) HCC.out HJ.out).mono ?_); rintro e w9 ⟨rfl, hb9⟩; have HW9 := Aside0.mk (below_step HWs.out hb9); clear hb9))
  go_ret
  exact ⟨rfl, HW9.out⟩

set_option maxRecDepth 100000 in
set_option maxHeartbeats 2000000 in
theorem reply_snaps_some (kind ino knd sz lk n : Int) (A5 : Option Addr) (c5 : Nat) (l5 : List Int) (A6 : Option Addr) (c6 : Nat) (l6 : List ByteArray) (A7 : Option Addr) (c7 : Nat) (l7 : List Int) (r : ByteArray) (w0 : World) (hT : Tabs w0)
    (hr5 : Kd.C (Kd.int .u8) w0 A5 l5.length l5) (hc5 : l5.length ≤ c5) (hr6 : Kd.C Kd.string w0 A6 l6.length l6) (hr7 : Kd.C (Kd.int .i64) w0 A7 l7.length l7)
    (hne : 0 < l7.length) (hi : ∀ x, x ∈ l7 → -9223372036854775808 ≤ x ∧ x ≤ 9223372036854775807) (hl : l7.length < 8796093022200) (hj : strings_Join.f (okB :: List.map itoaB l7) ⟨#[32]⟩ = some r) :
    Calls Tryd.prog 9 #[.int .i64 14, .agg #[.int .i64 ino, .int .i64 knd, .int .i64 sz, .int .i64 lk, .int .i64 n, .slice A5 l5.length c5, .slice A6 l6.length c6, .slice A7 l7.length c7], .int .i64 0] w0 fun e w' => e = .returned (.string r) ∧ Below w0.heap.size w0 w' := by
  have HT := Aside0.mk hT
  have HJ := Aside0.mk hj
  have HR5 := Aside0.mk hr5
  have HC5 := Aside0.mk hc5
  have HR6 := Aside0.mk hr6
  have HR7 := Aside0.mk hr7
  have HB := Aside0.mk (Below.refl w0.heap.size w0)
  clear hT hj hr5 hc5 hr6 hr7
  obtain ⟨ad, hA, hx⟩ := ints_at HR7.out hne
  have hlt : ad.block < w0.heap.size := by
    have := hx w0 (Below.refl _ _) 0 hne
    have h2 := World.block_lt_of_cell? _ _ this
    have e : (ad.add 0).block = ad.block := by unfold Addr.add; split <;> rfl
    rw [e] at h2; exact h2
  have HX7 := Aside0.mk hx
  have HLT := Aside0.mk hlt
  have HA7 : Aside0 (A7 = some ad) := ⟨hA⟩
  clear hx hlt hA hne
  have HL7 := Aside0.mk hl
  clear hl
  go_enter Tryd.func9, Tryd.ntmps9
  go_wp2_with (first | ((with_reducible refine gate_dst (N := 4) rfl ?_); refine box_event ?hg (N := 4) ?hd (cs := #[.int .i64 ino, .int .i64 knd, .int .i64 sz, .int .i64 lk, .int .i64 n, .slice A5 l5.length c5, .slice A6 l6.length c6, .slice A7 l7.length c7]) (t := 37) ?hr ?_; (case hd => rfl); (case hg => rfl); (case hr => first | (go_simp; done) | (go_simp; rfl)); intro gb hg w1 hbox hb; have n0_ := Aside0.mk (below_step (by repeat (first | (with_reducible first | exact HB.out | apply below_alloc | apply pw_below_drewN | apply below_drew1) | exact HB.out)) hb); have BK := Aside0.mk hbox; have HG1 := Aside0.mk hg; clear HB; have HB := n0_; clear n0_; clear hb hbox hg) | ((with_reducible refine gate_dst (N := 14) rfl ?_); refine Kd.R_lit Kd.string _ 9 ?hg (N := 14) ?hd (xs := [okB]) (inner := [.string okB]) (ok := fun _ => True) (okp := fun _ => True) ?hr ?hp (fun _ hk => hk) trivial (Below.refl _ _) (Nat.le_refl _) (by simp) ?_; (case hd => rfl); (case hg => rfl); (case hr => first | (go_simp; done) | (go_simp; rfl)); (case hp => exact (Reps.one (show Kd.M Kd.string _ _ _ okB [.string okB] from rfl) (Reps.none _ _))); intro v w2 ho hb hg_ hnew_; clear hg_; obtain ⟨A2, c2, hv_, hcc_, _⟩ := Kd.R_reads ho; have HCC := Aside0.mk hcc_; clear hcc_; have HLG : Aside0 (gb < w2.heap.size) := ⟨blk_lt (blk_below BK.out hb)⟩; have hv : v = .slice A2 1 c2 := hv_; subst hv; have HR2 := Aside0.mk (Kd.R_lower ho (below_size (by repeat (first | (with_reducible first | exact HB.out | apply below_alloc | apply pw_below_drewN | apply below_drew1) | exact HB.out)))); have n1_ := Aside0.mk (blk_below BK.out hb); have n0_ := Aside0.mk (below_step (by repeat (first | (with_reducible first | exact HB.out | apply below_alloc | apply pw_below_drewN | apply below_drew1) | exact HB.out)) hb); clear HB BK; have HB := n0_; have BK := n1_; clear n0_ n1_ ho hb hnew_ hv_; have hBo_ := blk_new w2 (.cells #[Value.slice A2 1 c2] 34 (0, 0)); have HBo := Aside0.mk hBo_; have hcS := cell_of_one hBo_; have hfS := free_of_one hBo_; have HR3 : Aside0 (Kd.R Kd.string 9 (w2.alloc (.cells #[Value.slice A2 1 c2] 34)) w0.heap.size (fun q => q ≠ w2.heap.size) (.slice A2 1 c2) [okB]) := ⟨Kd.R_alloc (Kd.R_mono (Kd.R_bound HR2.out) (fun q hq => Nat.ne_of_lt hq.2.2.1)) _⟩; have HGE : Aside0 (w0.heap.size ≤ w2.heap.size) := ⟨below_size HB.out⟩; have BK3 := Aside0.mk (blk_alloc BK.out (.cells #[Value.slice A2 1 c2] 34 (0, 0))); have HWs : Aside0 (Below w0.heap.size w0 (w2.alloc (.cells #[Value.slice A2 1 c2] 34))) := ⟨below_alloc HB.out _⟩; have hz0 := blk_cell BK3.out 0; have hz1 := blk_cell BK3.out 1; have hz2 := blk_cell BK3.out 2; have hz3 := blk_cell BK3.out 3; have hz4 := blk_cell BK3.out 4; have hz5 := blk_cell BK3.out 5; have hz6 := blk_cell BK3.out 6; have hz7 := blk_cell BK3.out 7; clear hBo_ HB BK HR2) | (go_at_call 22; go_loud (refine (nums_calls w0 HT.out ad _ _ l7 w2.heap.size _ [okB] _ (all_rng hi) (fun _ => HA7.out) (HX7.out _ HWs.out) (Nat.lt_of_lt_of_le HLT.out HWs.out.size) (by have h1 := HLT.out; have h2 := HGE.out; show _ ≠ _; intro he; rw [he] at h1; omega) (fun he => by have h1 := ((Kd.R_bound HR3.out).1 _ he.symm).2.1; have h2 := HLT.out; omega) HBo.out HR3.out HWs.out HGE.out (by have := HL7.out; simp; omega)).mono ?_); rintro e w5 ⟨rfl, ve, hBe, hRe, hWe⟩; obtain ⟨Az, cz, hvz, hcz, hCz⟩ := Kd.R_reads hRe; obtain ⟨m1, hm1⟩ : ∃ m1, m1 = ([okB] ++ List.map itoaB l7).length := ⟨_, rfl⟩; rw [← hm1] at hvz hcz; subst hvz; have hzz := cell_of_one hBe; have HCz := Aside0.mk hCz; have HWe := Aside0.mk hWe; have HM1 := Aside0.mk hm1; have HCZ := Aside0.mk hcz; clear hBe hRe hWe hCz hm1 hcz) | (go_at_call 16; have hjc : Calls Tryd.prog 16 #[.slice Az m1 cz, .string ⟨#[32]⟩] _ _ := (by rw [HM1.out]; exact strings_Join.calls Az cz ([okB] ++ List.map itoaB l7) ⟨#[32]⟩ r _ HCz.out (by rw [← HM1.out]; exact HCZ.out) HJ.out); refine hjc.mono ?_; rintro e w9 ⟨rfl, hb9⟩; have HW9 := Aside0.mk (below_step HWe.out hb9); clear hb9))
  go_ret
  exact ⟨rfl, HW9.out⟩

set_option maxRecDepth 100000 in
set_option maxHeartbeats 2000000 in
theorem reply_snaps_none (kind ino knd sz lk n : Int) (A5 : Option Addr) (c5 : Nat) (l5 : List Int) (A6 : Option Addr) (c6 : Nat) (l6 : List ByteArray) (A7 : Option Addr) (c7 : Nat) (l7 : List Int) (r : ByteArray) (w0 : World) (hT : Tabs w0)
    (hr5 : Kd.C (Kd.int .u8) w0 A5 l5.length l5) (hc5 : l5.length ≤ c5) (hr6 : Kd.C Kd.string w0 A6 l6.length l6) (hr7 : Kd.C (Kd.int .i64) w0 A7 l7.length l7)
    (hz : l7.length = 0) (hi : ∀ x, x ∈ l7 → -9223372036854775808 ≤ x ∧ x ≤ 9223372036854775807) (hl : l7.length < 8796093022200) (hj : strings_Join.f (okB :: List.map itoaB l7) ⟨#[32]⟩ = some r) :
    Calls Tryd.prog 9 #[.int .i64 14, .agg #[.int .i64 ino, .int .i64 knd, .int .i64 sz, .int .i64 lk, .int .i64 n, .slice A5 l5.length c5, .slice A6 l6.length c6, .slice A7 l7.length c7], .int .i64 0] w0 fun e w' => e = .returned (.string r) ∧ Below w0.heap.size w0 w' := by
  have HT := Aside0.mk hT
  have HJ := Aside0.mk hj
  have HR5 := Aside0.mk hr5
  have HC5 := Aside0.mk hc5
  have HR6 := Aside0.mk hr6
  have HR7 := Aside0.mk hr7
  have HB := Aside0.mk (Below.refl w0.heap.size w0)
  clear hT hj hr5 hc5 hr6 hr7
  have HZ := Aside0.mk hz
  clear hz
  have HL7 := Aside0.mk hl
  clear hl
  go_enter Tryd.func9, Tryd.ntmps9
  go_wp2_with (first | ((with_reducible refine gate_dst (N := 4) rfl ?_); refine box_event ?hg (N := 4) ?hd (cs := #[.int .i64 ino, .int .i64 knd, .int .i64 sz, .int .i64 lk, .int .i64 n, .slice A5 l5.length c5, .slice A6 l6.length c6, .slice A7 l7.length c7]) (t := 37) ?hr ?_; (case hd => rfl); (case hg => rfl); (case hr => first | (go_simp; done) | (go_simp; rfl)); intro gb hg w1 hbox hb; have n0_ := Aside0.mk (below_step (by repeat (first | (with_reducible first | exact HB.out | apply below_alloc | apply pw_below_drewN | apply below_drew1) | exact HB.out)) hb); have BK := Aside0.mk hbox; have HG1 := Aside0.mk hg; clear HB; have HB := n0_; clear n0_; clear hb hbox hg) | ((with_reducible refine gate_dst (N := 14) rfl ?_); refine Kd.R_lit Kd.string _ 9 ?hg (N := 14) ?hd (xs := [okB]) (inner := [.string okB]) (ok := fun _ => True) (okp := fun _ => True) ?hr ?hp (fun _ hk => hk) trivial (Below.refl _ _) (Nat.le_refl _) (by simp) ?_; (case hd => rfl); (case hg => rfl); (case hr => first | (go_simp; done) | (go_simp; rfl)); (case hp => exact (Reps.one (show Kd.M Kd.string _ _ _ okB [.string okB] from rfl) (Reps.none _ _))); intro v w2 ho hb hg_ hnew_; clear hg_; obtain ⟨A2, c2, hv_, hcc_, _⟩ := Kd.R_reads ho; have HCC := Aside0.mk hcc_; clear hcc_; have HLG : Aside0 (gb < w2.heap.size) := ⟨blk_lt (blk_below BK.out hb)⟩; have hv : v = .slice A2 1 c2 := hv_; subst hv; have HR2 := Aside0.mk (Kd.R_lower ho (below_size (by repeat (first | (with_reducible first | exact HB.out | apply below_alloc | apply pw_below_drewN | apply below_drew1) | exact HB.out)))); have n1_ := Aside0.mk (blk_below BK.out hb); have n0_ := Aside0.mk (below_step (by repeat (first | (with_reducible first | exact HB.out | apply below_alloc | apply pw_below_drewN | apply below_drew1) | exact HB.out)) hb); clear HB BK; have HB := n0_; have BK := n1_; clear n0_ n1_ ho hb hnew_ hv_; have hBo_ := blk_new w2 (.cells #[Value.slice A2 1 c2] 34 (0, 0)); have HBo := Aside0.mk hBo_; have hcS := cell_of_one hBo_; have hfS := free_of_one hBo_; have HR3 : Aside0 (Kd.R Kd.string 9 (w2.alloc (.cells #[Value.slice A2 1 c2] 34)) w0.heap.size (fun q => q ≠ w2.heap.size) (.slice A2 1 c2) [okB]) := ⟨Kd.R_alloc (Kd.R_mono (Kd.R_bound HR2.out) (fun q hq => Nat.ne_of_lt hq.2.2.1)) _⟩; have HGE : Aside0 (w0.heap.size ≤ w2.heap.size) := ⟨below_size HB.out⟩; have BK3 := Aside0.mk (blk_alloc BK.out (.cells #[Value.slice A2 1 c2] 34 (0, 0))); have HWs : Aside0 (Below w0.heap.size w0 (w2.alloc (.cells #[Value.slice A2 1 c2] 34))) := ⟨below_alloc HB.out _⟩; have hz0 := blk_cell BK3.out 0; have hz1 := blk_cell BK3.out 1; have hz2 := blk_cell BK3.out 2; have hz3 := blk_cell BK3.out 3; have hz4 := blk_cell BK3.out 4; have hz5 := blk_cell BK3.out 5; have hz6 := blk_cell BK3.out 6; have hz7 := blk_cell BK3.out 7; clear hBo_ HB BK HR2) | (go_at_call 22; go_loud (refine (nums_calls w0 HT.out ⟨gb, 0, none⟩ _ _ l7 w2.heap.size _ [okB] _ (all_rng hi) (fun h => absurd (List.eq_nil_of_length_eq_zero HZ.out) h) (fun j hj => absurd hj (by have := HZ.out; omega)) (blk_lt BK3.out) (by have h1 := HG1.out; have h2 := HGE.out; have h3 := HLG.out; show gb ≠ _; omega) (fun he => by have h1 := ((Kd.R_bound HR3.out).1 _ he.symm); have := h1.2.2.2; obtain ⟨q, hq, cells, hc⟩ := this; have h4 := BK3.out; rw [hc] at h4; injection h4 with h4; injection h4 with _ h4; rw [h4] at hq; revert hq; decide) HBo.out HR3.out HWs.out HGE.out (by have := HL7.out; simp; omega)).mono ?_); rintro e w5 ⟨rfl, ve, hBe, hRe, hWe⟩; obtain ⟨Az, cz, hvz, hcz, hCz⟩ := Kd.R_reads hRe; obtain ⟨m1, hm1⟩ : ∃ m1, m1 = ([okB] ++ List.map itoaB l7).length := ⟨_, rfl⟩; rw [← hm1] at hvz hcz; subst hvz; have hzz := cell_of_one hBe; have HCz := Aside0.mk hCz; have HWe := Aside0.mk hWe; have HM1 := Aside0.mk hm1; have HCZ := Aside0.mk hcz; clear hBe hRe hWe hCz hm1 hcz) | (go_at_call 16; have hjc : Calls Tryd.prog 16 #[.slice Az m1 cz, .string ⟨#[32]⟩] _ _ := (by rw [HM1.out]; exact strings_Join.calls Az cz ([okB] ++ List.map itoaB l7) ⟨#[32]⟩ r _ HCz.out (by rw [← HM1.out]; exact HCZ.out) HJ.out); refine hjc.mono ?_; rintro e w9 ⟨rfl, hb9⟩; have HW9 := Aside0.mk (below_step HWe.out hb9); clear hb9))
  go_ret
  exact ⟨rfl, HW9.out⟩

set_option maxRecDepth 100000 in
set_option maxHeartbeats 2000000 in
theorem reply_names (kind ino knd sz lk n : Int) (A5 : Option Addr) (c5 : Nat) (l5 : List Int) (A6 : Option Addr) (c6 : Nat) (l6 : List ByteArray) (A7 : Option Addr) (c7 : Nat) (l7 : List Int) (r : ByteArray) (w0 : World) (hT : Tabs w0)
    (hr5 : Kd.C (Kd.int .u8) w0 A5 l5.length l5) (hc5 : l5.length ≤ c5) (hr6 : Kd.C Kd.string w0 A6 l6.length l6) (hr7 : Kd.C (Kd.int .i64) w0 A7 l7.length l7)
    (hl : l6.length < 8796093022200) (hj : strings_Join.f (okB :: l6) ⟨#[32]⟩ = some r) :
    Calls Tryd.prog 9 #[.int .i64 11, .agg #[.int .i64 ino, .int .i64 knd, .int .i64 sz, .int .i64 lk, .int .i64 n, .slice A5 l5.length c5, .slice A6 l6.length c6, .slice A7 l7.length c7], .int .i64 0] w0 fun e w' => e = .returned (.string r) ∧ Below w0.heap.size w0 w' := by
  have HT := Aside0.mk hT
  have HJ := Aside0.mk hj
  have HR5 := Aside0.mk hr5
  have HC5 := Aside0.mk hc5
  have HR6 := Aside0.mk hr6
  have HR7 := Aside0.mk hr7
  have HB := Aside0.mk (Below.refl w0.heap.size w0)
  clear hT hj hr5 hc5 hr6 hr7
  have HL6 := Aside0.mk hl
  clear hl
  go_enter Tryd.func9, Tryd.ntmps9
  go_wp2_with (first | ((with_reducible refine gate_dst (N := 4) rfl ?_); refine box_event ?hg (N := 4) ?hd (cs := #[.int .i64 ino, .int .i64 knd, .int .i64 sz, .int .i64 lk, .int .i64 n, .slice A5 l5.length c5, .slice A6 l6.length c6, .slice A7 l7.length c7]) (t := 37) ?hr ?_; (case hd => rfl); (case hg => rfl); (case hr => first | (go_simp; done) | (go_simp; rfl)); intro gb hg w1 hbox hb; have n0_ := Aside0.mk (below_step (by repeat (first | (with_reducible first | exact HB.out | apply below_alloc | apply pw_below_drewN | apply below_drew1) | exact HB.out)) hb); have BK := Aside0.mk hbox; have HG1 := Aside0.mk hg; clear HB; have HB := n0_; clear n0_; clear hb hbox hg) | ((with_reducible refine gate_dst (N := 14) rfl ?_); refine Kd.R_lit Kd.string _ 9 ?hg (N := 14) ?hd (xs := [okB]) (inner := [.string okB]) (ok := fun _ => True) (okp := fun _ => True) ?hr ?hp (fun _ hk => hk) trivial (Below.refl _ _) (Nat.le_refl _) (by simp) ?_; (case hd => rfl); (case hg => rfl); (case hr => first | (go_simp; done) | (go_simp; rfl)); (case hp => exact (Reps.one (show Kd.M Kd.string _ _ _ okB [.string okB] from rfl) (Reps.none _ _))); intro v w2 ho hb hg_ hnew_; clear hg_; obtain ⟨A2, c2, hv_, hcc_, _⟩ := Kd.R_reads ho; have HCC := Aside0.mk hcc_; clear hcc_; have HLG : Aside0 (gb < w2.heap.size) := ⟨blk_lt (blk_below BK.out hb)⟩; have hv : v = .slice A2 1 c2 := hv_; subst hv; have HR2 := Aside0.mk (Kd.R_lower ho (below_size (by repeat (first | (with_reducible first | exact HB.out | apply below_alloc | apply pw_below_drewN | apply below_drew1) | exact HB.out)))); have n1_ := Aside0.mk (blk_below BK.out hb); have n0_ := Aside0.mk (below_step (by repeat (first | (with_reducible first | exact HB.out | apply below_alloc | apply pw_below_drewN | apply below_drew1) | exact HB.out)) hb); clear HB BK; have HB := n0_; have BK := n1_; clear n0_ n1_ ho hb hnew_ hv_; have hBo_ := blk_new w2 (.cells #[Value.slice A2 1 c2] 34 (0, 0)); have HBo := Aside0.mk hBo_; have hcS := cell_of_one hBo_; have hfS := free_of_one hBo_; have HR3 : Aside0 (Kd.R Kd.string 9 (w2.alloc (.cells #[Value.slice A2 1 c2] 34)) w0.heap.size (fun q => q ≠ w2.heap.size) (.slice A2 1 c2) [okB]) := ⟨Kd.R_alloc (Kd.R_mono (Kd.R_bound HR2.out) (fun q hq => Nat.ne_of_lt hq.2.2.1)) _⟩; have HGE : Aside0 (w0.heap.size ≤ w2.heap.size) := ⟨below_size HB.out⟩; have BK3 := Aside0.mk (blk_alloc BK.out (.cells #[Value.slice A2 1 c2] 34 (0, 0))); have HWs : Aside0 (Below w0.heap.size w0 (w2.alloc (.cells #[Value.slice A2 1 c2] 34))) := ⟨below_alloc HB.out _⟩; have hz0 := blk_cell BK3.out 0; have hz1 := blk_cell BK3.out 1; have hz2 := blk_cell BK3.out 2; have hz3 := blk_cell BK3.out 3; have hz4 := blk_cell BK3.out 4; have hz5 := blk_cell BK3.out 5; have hz6 := blk_cell BK3.out 6; have hz7 := blk_cell BK3.out 7; clear hBo_ HB BK HR2) | ((with_reducible refine gate_builtin (b := .append) (xs := #[.tmp 56, .tmp 58]) rfl ?_); at_builtin; refine Kd.R_append_row Value.string ByteArray.empty (h1 := fun _ => rfl) (w0 := w0) w0.heap.size rfl (.tmp 56) (.tmp 58) 34 9 (.string ⟨#[]⟩) 16 rfl Tryd.underlying34 info9 rfl (by omega) (.slice A2 1 c2) [okB] l6 A6 l6.length c6 (fun q => q ≠ w2.heap.size) rfl rfl ?aF ?aO ?aR ?aB ?aS ?aL ?_; (case aF => exact (fun q hq => by have := blk_lt HBo.out; omega)); (case aO => exact HR3.out); (case aR => exact Kd.C_below HR6.out HWs.out); (case aB => exact HWs.out); (case aS => exact below_size HWs.out); (case aL => have := HL6.out; simp only [List.length_singleton]; omega); intro v1 w4 ho hb hg hat; have hBn := blk_grown HBo.out hg (fun he => HR3.out.1 _ he.symm rfl); have hcB := cell_of_one hBn; have hfB := free_of_one hBn; obtain ⟨Az, m1, cz, hvz, hm1, hcz, hzz, hCz, hWe⟩ := cap_store hBn ho hb HGE.out; subst hvz; have HCz := Aside0.mk hCz; have HWe := Aside0.mk hWe; have HM1 := Aside0.mk hm1; have HCZ := Aside0.mk hcz; clear ho hb hg hat hBn hCz hWe hm1 hcz) | (go_at_call 16; have hjc : Calls Tryd.prog 16 #[.slice Az m1 cz, .string ⟨#[32]⟩] _ _ := (by rw [HM1.out]; exact strings_Join.calls Az cz ([okB] ++ l6) ⟨#[32]⟩ r _ HCz.out (by rw [← HM1.out]; exact HCZ.out) HJ.out); refine hjc.mono ?_; rintro e w9 ⟨rfl, hb9⟩; have HW9 := Aside0.mk (below_step HWe.out hb9); clear hb9))
  go_ret
  exact ⟨rfl, HW9.out⟩

set_option maxRecDepth 100000 in
set_option maxHeartbeats 2000000 in
theorem reply_read (kind ino knd sz lk n : Int) (A5 : Option Addr) (c5 : Nat) (l5 : List Int) (A6 : Option Addr) (c6 : Nat) (l6 : List ByteArray) (A7 : Option Addr) (c7 : Nat) (l7 : List Int) (r : ByteArray) (w0 : World) (hT : Tabs w0)
    (hr5 : Kd.C (Kd.int .u8) w0 A5 l5.length l5) (hc5 : l5.length ≤ c5) (hr6 : Kd.C Kd.string w0 A6 l6.length l6) (hr7 : Kd.C (Kd.int .i64) w0 A7 l7.length l7)
    (hx : ByteArray) (hh : dump_Hex.f (l5.length + 3) l5 = some hx) (hj : strings_Join.f (okB :: [hx]) ⟨#[32]⟩ = some r) :
    Calls Tryd.prog 9 #[.int .i64 7, .agg #[.int .i64 ino, .int .i64 knd, .int .i64 sz, .int .i64 lk, .int .i64 n, .slice A5 l5.length c5, .slice A6 l6.length c6, .slice A7 l7.length c7], .int .i64 0] w0 fun e w' => e = .returned (.string r) ∧ Below w0.heap.size w0 w' := by
  have HT := Aside0.mk hT
  have HJ := Aside0.mk hj
  have HR5 := Aside0.mk hr5
  have HC5 := Aside0.mk hc5
  have HR6 := Aside0.mk hr6
  have HR7 := Aside0.mk hr7
  have HB := Aside0.mk (Below.refl w0.heap.size w0)
  clear hT hj hr5 hc5 hr6 hr7
  have HH := Aside0.mk hh
  clear hh
  go_enter Tryd.func9, Tryd.ntmps9
  go_wp2_with (first | ((with_reducible refine gate_dst (N := 4) rfl ?_); refine box_event ?hg (N := 4) ?hd (cs := #[.int .i64 ino, .int .i64 knd, .int .i64 sz, .int .i64 lk, .int .i64 n, .slice A5 l5.length c5, .slice A6 l6.length c6, .slice A7 l7.length c7]) (t := 37) ?hr ?_; (case hd => rfl); (case hg => rfl); (case hr => first | (go_simp; done) | (go_simp; rfl)); intro gb hg w1 hbox hb; have n0_ := Aside0.mk (below_step (by repeat (first | (with_reducible first | exact HB.out | apply below_alloc | apply pw_below_drewN | apply below_drew1) | exact HB.out)) hb); have BK := Aside0.mk hbox; have HG1 := Aside0.mk hg; clear HB; have HB := n0_; clear n0_; clear hb hbox hg) | ((with_reducible refine gate_dst (N := 14) rfl ?_); refine Kd.R_lit Kd.string _ 9 ?hg (N := 14) ?hd (xs := [okB]) (inner := [.string okB]) (ok := fun _ => True) (okp := fun _ => True) ?hr ?hp (fun _ hk => hk) trivial (Below.refl _ _) (Nat.le_refl _) (by simp) ?_; (case hd => rfl); (case hg => rfl); (case hr => first | (go_simp; done) | (go_simp; rfl)); (case hp => exact (Reps.one (show Kd.M Kd.string _ _ _ okB [.string okB] from rfl) (Reps.none _ _))); intro v w2 ho hb hg_ hnew_; clear hg_; obtain ⟨A2, c2, hv_, hcc_, _⟩ := Kd.R_reads ho; have HCC := Aside0.mk hcc_; clear hcc_; have HLG : Aside0 (gb < w2.heap.size) := ⟨blk_lt (blk_below BK.out hb)⟩; have hv : v = .slice A2 1 c2 := hv_; subst hv; have HR2 := Aside0.mk (Kd.R_lower ho (below_size (by repeat (first | (with_reducible first | exact HB.out | apply below_alloc | apply pw_below_drewN | apply below_drew1) | exact HB.out)))); have n1_ := Aside0.mk (blk_below BK.out hb); have n0_ := Aside0.mk (below_step (by repeat (first | (with_reducible first | exact HB.out | apply below_alloc | apply pw_below_drewN | apply below_drew1) | exact HB.out)) hb); clear HB BK; have HB := n0_; have BK := n1_; clear n0_ n1_ ho hb hnew_ hv_; have hBo_ := blk_new w2 (.cells #[Value.slice A2 1 c2] 34 (0, 0)); have HBo := Aside0.mk hBo_; have hcS := cell_of_one hBo_; have hfS := free_of_one hBo_; have HR3 : Aside0 (Kd.R Kd.string 9 (w2.alloc (.cells #[Value.slice A2 1 c2] 34)) w0.heap.size (fun q => q ≠ w2.heap.size) (.slice A2 1 c2) [okB]) := ⟨Kd.R_alloc (Kd.R_mono (Kd.R_bound HR2.out) (fun q hq => Nat.ne_of_lt hq.2.2.1)) _⟩; have HGE : Aside0 (w0.heap.size ≤ w2.heap.size) := ⟨below_size HB.out⟩; have BK3 := Aside0.mk (blk_alloc BK.out (.cells #[Value.slice A2 1 c2] 34 (0, 0))); have HWs : Aside0 (Below w0.heap.size w0 (w2.alloc (.cells #[Value.slice A2 1 c2] 34))) := ⟨below_alloc HB.out _⟩; have hz0 := blk_cell BK3.out 0; have hz1 := blk_cell BK3.out 1; have hz2 := blk_cell BK3.out 2; have hz3 := blk_cell BK3.out 3; have hz4 := blk_cell BK3.out 4; have hz5 := blk_cell BK3.out 5; have hz6 := blk_cell BK3.out 6; have hz7 := blk_cell BK3.out 7; clear hBo_ HB BK HR2))
  refine wp_region_any (by kernel_rfl) ?_
  (try (change wpAny _ _ _ _ _ _ _ (World.drew _)))
  refine wpAny_take (i := 1) (v := ?_) rfl (by kernel_rfl) (by kernel_rfl) (by kernel_rfl) (fun _ _ _ h => h) (Or.inl ⟨by rfl, ?_⟩) ?_
  rotate_left
  · intro w; go_simp
    try (with_reducible rfl)
  refine wpAny_ready (rs := [0, 2]) (by kernel_rfl) (by simp) ?_
  refine AllReady.cons rfl (fun K hK => ?_) ?_
  · go_simp
    refine hK _ _ ?_
    (try clear hK K)
    refine wpAny_ready (rs := [2]) (by kernel_rfl) (by simp) ?_
    refine AllReady.cons rfl (fun K hK => ?_) ?_
    · go_simp
      refine hK _ _ ?_
      (try clear hK K)
      refine wpAny_ready (rs := [3]) (by kernel_rfl) (by simp) ?_
      refine AllReady.cons rfl (fun K hK => ?_) ?_
      · go_wp2_with (go_at_call 15; go_loud (refine (dump_Hex.calls (l5.length + 3) A5 c5 l5 hx _ (Kd.C_below HR5.out (by repeat (first | (with_reducible first | exact HWs.out | apply below_alloc | apply pw_below_drewN | apply below_drew1) | exact HWs.out))) HC5.out HH.out).mono ?_); rintro e w5 ⟨rfl, hb1⟩; have n0_ := Aside0.mk (Kd.R_below (by first | exact HR3.out | (apply Kd.R_drew; exact HR3.out) | (apply Kd.R_alloc; exact HR3.out)) hb1); have n1_ := Aside0.mk (blk_below (g := w2.heap.size) (o := .cells #[Value.slice A2 1 c2] 34 (0, 0)) (by first | exact HBo.out | exact blk_drew HBo.out | exact blk_alloc HBo.out _) hb1); have n2_ := Aside0.mk (below_step (by repeat (first | (with_reducible first | exact HWs.out | apply below_alloc | apply pw_below_drewN | apply below_drew1) | exact HWs.out)) hb1); clear HR3 HBo HWs; have HR3 := n0_; have HBo := n1_; have HWs := n2_; have hc1 := cell_of_one HBo.out; have hf1 := free_of_one HBo.out; have hcA := fun o => cell_of_one (blk_alloc HBo.out o); clear n0_ n1_ n2_; clear hb1)
        (try (refine hK _ _ ?_; clear hK K))
        (try clear hK K)
        refine wpAny_ready (rs := [4]) (by kernel_rfl) (by simp) ?_
        refine AllReady.cons rfl (fun K hK => ?_) ?_
        · go_simp
          refine hK _ _ ?_
          (try clear hK K)
          refine wpAny_ready (rs := [5]) (by kernel_rfl) (by simp) ?_
          refine AllReady.cons rfl (fun K hK => ?_) ?_
          · refine Kd.R_append_step Kd.string (w0 := w0) w0.heap.size (by rfl) (.tmp 27) (.tmp 31) 34 9 (.string ⟨#[]⟩) 16 rfl Tryd.underlying34 info9 rfl (by decide) (by omega) (.slice A2 1 c2) [okB] hx [.string hx] (fun q => q ≠ w2.heap.size) (fun _ => False) rfl rfl ?aP (fun _ hk => hk.elim) ?aF ?aO ?aB ?aS ?aL ?_
            case aP => exact rfl
            case aF => exact (fun q hq => by have := blk_lt HBo.out; first | omega | (simp only [World.alloc, Array.size_push] at hq; omega))
            case aO => exact (by first | exact HR3.out | (apply Kd.R_drew; exact HR3.out) | (apply Kd.R_alloc; exact HR3.out))
            case aB => exact (by repeat (first | (with_reducible first | exact HWs.out | apply below_alloc | apply pw_below_drewN | apply below_drew1) | exact HWs.out))
            case aS => exact (below_size (by repeat (first | (with_reducible first | exact HWs.out | apply below_alloc | apply pw_below_drewN | apply below_drew1) | exact HWs.out)))
            case aL => simp
            intro v1 w6 ho hb hg hat
            have hBn := blk_grown (g := w2.heap.size) (by first | exact HBo.out | exact blk_drew HBo.out | exact blk_alloc HBo.out _) hg (fun he => HR3.out.1 _ he.symm rfl)
            have hcB := cell_of_one hBn
            have hfB := free_of_one hBn
            obtain ⟨Az, m1, cz, hvz, hm1, hcz, hzz, hCz, hWe⟩ := cap_store hBn ho hb HGE.out
            subst hvz
            have HCz := Aside0.mk hCz
            have HWe := Aside0.mk hWe
            have HM1 := Aside0.mk hm1
            have HCZ := Aside0.mk hcz
            clear ho hb hg hat hBn hCz hWe hm1 hcz
            refine hK _ _ ?_
            (try clear hK K)
            refine wpAny_ready (rs := [6]) (by kernel_rfl) (by simp) ?_
            refine AllReady.cons rfl (fun K hK => ?_) ?_
            · go_simp
              refine hK _ _ ?_
              (try clear hK K)
              refine wpAny_done (by kernel_rfl) ?_ _
              go_wp2_with ((go_at_call 16; have hjc : Calls Tryd.prog 16 #[.slice Az m1 cz, .string ⟨#[32]⟩] _ _ := (by rw [HM1.out]; exact strings_Join.calls Az cz ([okB] ++ [hx]) ⟨#[32]⟩ r _ HCz.out (by rw [← HM1.out]; exact HCZ.out) HJ.out); refine hjc.mono ?_; rintro e w9 ⟨rfl, hb9⟩; have HW9 := Aside0.mk (below_step HWe.out hb9); clear hb9))
              go_ret
              exact ⟨rfl, HW9.out⟩
            exact AllReady.nil
          exact AllReady.nil
        exact AllReady.nil
      exact AllReady.nil
    exact AllReady.nil
  refine AllReady.cons rfl (fun K hK => ?_) ?_
  · go_simp
    refine hK _ _ ?_
    (try clear hK K)
    refine wpAny_ready (rs := [0, 3]) (by kernel_rfl) (by simp) ?_
    refine AllReady.cons rfl (fun K hK => ?_) ?_
    · go_simp
      refine hK _ _ ?_
      (try clear hK K)
      refine wpAny_ready (rs := [3]) (by kernel_rfl) (by simp) ?_
      refine AllReady.cons rfl (fun K hK => ?_) ?_
      · go_wp2_with (go_at_call 15; go_loud (refine (dump_Hex.calls (l5.length + 3) A5 c5 l5 hx _ (Kd.C_below HR5.out (by repeat (first | (with_reducible first | exact HWs.out | apply below_alloc | apply pw_below_drewN | apply below_drew1) | exact HWs.out))) HC5.out HH.out).mono ?_); rintro e w5 ⟨rfl, hb1⟩; have n0_ := Aside0.mk (Kd.R_below (by first | exact HR3.out | (apply Kd.R_drew; exact HR3.out) | (apply Kd.R_alloc; exact HR3.out)) hb1); have n1_ := Aside0.mk (blk_below (g := w2.heap.size) (o := .cells #[Value.slice A2 1 c2] 34 (0, 0)) (by first | exact HBo.out | exact blk_drew HBo.out | exact blk_alloc HBo.out _) hb1); have n2_ := Aside0.mk (below_step (by repeat (first | (with_reducible first | exact HWs.out | apply below_alloc | apply pw_below_drewN | apply below_drew1) | exact HWs.out)) hb1); clear HR3 HBo HWs; have HR3 := n0_; have HBo := n1_; have HWs := n2_; have hc1 := cell_of_one HBo.out; have hf1 := free_of_one HBo.out; have hcA := fun o => cell_of_one (blk_alloc HBo.out o); clear n0_ n1_ n2_; clear hb1)
        (try (refine hK _ _ ?_; clear hK K))
        (try clear hK K)
        refine wpAny_ready (rs := [4]) (by kernel_rfl) (by simp) ?_
        refine AllReady.cons rfl (fun K hK => ?_) ?_
        · go_simp
          refine hK _ _ ?_
          (try clear hK K)
          refine wpAny_ready (rs := [5]) (by kernel_rfl) (by simp) ?_
          refine AllReady.cons rfl (fun K hK => ?_) ?_
          · refine Kd.R_append_step Kd.string (w0 := w0) w0.heap.size (by rfl) (.tmp 27) (.tmp 31) 34 9 (.string ⟨#[]⟩) 16 rfl Tryd.underlying34 info9 rfl (by decide) (by omega) (.slice A2 1 c2) [okB] hx [.string hx] (fun q => q ≠ w2.heap.size) (fun _ => False) rfl rfl ?aP (fun _ hk => hk.elim) ?aF ?aO ?aB ?aS ?aL ?_
            case aP => exact rfl
            case aF => exact (fun q hq => by have := blk_lt HBo.out; first | omega | (simp only [World.alloc, Array.size_push] at hq; omega))
            case aO => exact (by first | exact HR3.out | (apply Kd.R_drew; exact HR3.out) | (apply Kd.R_alloc; exact HR3.out))
            case aB => exact (by repeat (first | (with_reducible first | exact HWs.out | apply below_alloc | apply pw_below_drewN | apply below_drew1) | exact HWs.out))
            case aS => exact (below_size (by repeat (first | (with_reducible first | exact HWs.out | apply below_alloc | apply pw_below_drewN | apply below_drew1) | exact HWs.out)))
            case aL => simp
            intro v1 w6 ho hb hg hat
            have hBn := blk_grown (g := w2.heap.size) (by first | exact HBo.out | exact blk_drew HBo.out | exact blk_alloc HBo.out _) hg (fun he => HR3.out.1 _ he.symm rfl)
            have hcB := cell_of_one hBn
            have hfB := free_of_one hBn
            obtain ⟨Az, m1, cz, hvz, hm1, hcz, hzz, hCz, hWe⟩ := cap_store hBn ho hb HGE.out
            subst hvz
            have HCz := Aside0.mk hCz
            have HWe := Aside0.mk hWe
            have HM1 := Aside0.mk hm1
            have HCZ := Aside0.mk hcz
            clear ho hb hg hat hBn hCz hWe hm1 hcz
            refine hK _ _ ?_
            (try clear hK K)
            refine wpAny_ready (rs := [6]) (by kernel_rfl) (by simp) ?_
            refine AllReady.cons rfl (fun K hK => ?_) ?_
            · go_simp
              refine hK _ _ ?_
              (try clear hK K)
              refine wpAny_done (by kernel_rfl) ?_ _
              go_wp2_with ((go_at_call 16; have hjc : Calls Tryd.prog 16 #[.slice Az m1 cz, .string ⟨#[32]⟩] _ _ := (by rw [HM1.out]; exact strings_Join.calls Az cz ([okB] ++ [hx]) ⟨#[32]⟩ r _ HCz.out (by rw [← HM1.out]; exact HCZ.out) HJ.out); refine hjc.mono ?_; rintro e w9 ⟨rfl, hb9⟩; have HW9 := Aside0.mk (below_step HWe.out hb9); clear hb9))
              go_ret
              exact ⟨rfl, HW9.out⟩
            exact AllReady.nil
          exact AllReady.nil
        exact AllReady.nil
      exact AllReady.nil
    refine AllReady.cons rfl (fun K hK => ?_) ?_
    · go_wp2_with (go_at_call 15; go_loud (refine (dump_Hex.calls (l5.length + 3) A5 c5 l5 hx _ (Kd.C_below HR5.out (by repeat (first | (with_reducible first | exact HWs.out | apply below_alloc | apply pw_below_drewN | apply below_drew1) | exact HWs.out))) HC5.out HH.out).mono ?_); rintro e w5 ⟨rfl, hb1⟩; have n0_ := Aside0.mk (Kd.R_below (by first | exact HR3.out | (apply Kd.R_drew; exact HR3.out) | (apply Kd.R_alloc; exact HR3.out)) hb1); have n1_ := Aside0.mk (blk_below (g := w2.heap.size) (o := .cells #[Value.slice A2 1 c2] 34 (0, 0)) (by first | exact HBo.out | exact blk_drew HBo.out | exact blk_alloc HBo.out _) hb1); have n2_ := Aside0.mk (below_step (by repeat (first | (with_reducible first | exact HWs.out | apply below_alloc | apply pw_below_drewN | apply below_drew1) | exact HWs.out)) hb1); clear HR3 HBo HWs; have HR3 := n0_; have HBo := n1_; have HWs := n2_; have hc1 := cell_of_one HBo.out; have hf1 := free_of_one HBo.out; have hcA := fun o => cell_of_one (blk_alloc HBo.out o); clear n0_ n1_ n2_; clear hb1)
      (try (refine hK _ _ ?_; clear hK K))
      (try clear hK K)
      refine wpAny_ready (rs := [0, 4]) (by kernel_rfl) (by simp) ?_
      refine AllReady.cons rfl (fun K hK => ?_) ?_
      · go_simp
        refine hK _ _ ?_
        (try clear hK K)
        refine wpAny_ready (rs := [4]) (by kernel_rfl) (by simp) ?_
        refine AllReady.cons rfl (fun K hK => ?_) ?_
        · go_simp
          refine hK _ _ ?_
          (try clear hK K)
          refine wpAny_ready (rs := [5]) (by kernel_rfl) (by simp) ?_
          refine AllReady.cons rfl (fun K hK => ?_) ?_
          · refine Kd.R_append_step Kd.string (w0 := w0) w0.heap.size (by rfl) (.tmp 27) (.tmp 31) 34 9 (.string ⟨#[]⟩) 16 rfl Tryd.underlying34 info9 rfl (by decide) (by omega) (.slice A2 1 c2) [okB] hx [.string hx] (fun q => q ≠ w2.heap.size) (fun _ => False) rfl rfl ?aP (fun _ hk => hk.elim) ?aF ?aO ?aB ?aS ?aL ?_
            case aP => exact rfl
            case aF => exact (fun q hq => by have := blk_lt HBo.out; first | omega | (simp only [World.alloc, Array.size_push] at hq; omega))
            case aO => exact (by first | exact HR3.out | (apply Kd.R_drew; exact HR3.out) | (apply Kd.R_alloc; exact HR3.out))
            case aB => exact (by repeat (first | (with_reducible first | exact HWs.out | apply below_alloc | apply pw_below_drewN | apply below_drew1) | exact HWs.out))
            case aS => exact (below_size (by repeat (first | (with_reducible first | exact HWs.out | apply below_alloc | apply pw_below_drewN | apply below_drew1) | exact HWs.out)))
            case aL => simp
            intro v1 w6 ho hb hg hat
            have hBn := blk_grown (g := w2.heap.size) (by first | exact HBo.out | exact blk_drew HBo.out | exact blk_alloc HBo.out _) hg (fun he => HR3.out.1 _ he.symm rfl)
            have hcB := cell_of_one hBn
            have hfB := free_of_one hBn
            obtain ⟨Az, m1, cz, hvz, hm1, hcz, hzz, hCz, hWe⟩ := cap_store hBn ho hb HGE.out
            subst hvz
            have HCz := Aside0.mk hCz
            have HWe := Aside0.mk hWe
            have HM1 := Aside0.mk hm1
            have HCZ := Aside0.mk hcz
            clear ho hb hg hat hBn hCz hWe hm1 hcz
            refine hK _ _ ?_
            (try clear hK K)
            refine wpAny_ready (rs := [6]) (by kernel_rfl) (by simp) ?_
            refine AllReady.cons rfl (fun K hK => ?_) ?_
            · go_simp
              refine hK _ _ ?_
              (try clear hK K)
              refine wpAny_done (by kernel_rfl) ?_ _
              go_wp2_with ((go_at_call 16; have hjc : Calls Tryd.prog 16 #[.slice Az m1 cz, .string ⟨#[32]⟩] _ _ := (by rw [HM1.out]; exact strings_Join.calls Az cz ([okB] ++ [hx]) ⟨#[32]⟩ r _ HCz.out (by rw [← HM1.out]; exact HCZ.out) HJ.out); refine hjc.mono ?_; rintro e w9 ⟨rfl, hb9⟩; have HW9 := Aside0.mk (below_step HWe.out hb9); clear hb9))
              go_ret
              exact ⟨rfl, HW9.out⟩
            exact AllReady.nil
          exact AllReady.nil
        exact AllReady.nil
      refine AllReady.cons rfl (fun K hK => ?_) ?_
      · go_simp
        refine hK _ _ ?_
        (try clear hK K)
        refine wpAny_ready (rs := [0]) (by kernel_rfl) (by simp) ?_
        refine AllReady.cons rfl (fun K hK => ?_) ?_
        · go_simp
          refine hK _ _ ?_
          (try clear hK K)
          refine wpAny_ready (rs := [5]) (by kernel_rfl) (by simp) ?_
          refine AllReady.cons rfl (fun K hK => ?_) ?_
          · refine Kd.R_append_step Kd.string (w0 := w0) w0.heap.size (by rfl) (.tmp 27) (.tmp 31) 34 9 (.string ⟨#[]⟩) 16 rfl Tryd.underlying34 info9 rfl (by decide) (by omega) (.slice A2 1 c2) [okB] hx [.string hx] (fun q => q ≠ w2.heap.size) (fun _ => False) rfl rfl ?aP (fun _ hk => hk.elim) ?aF ?aO ?aB ?aS ?aL ?_
            case aP => exact rfl
            case aF => exact (fun q hq => by have := blk_lt HBo.out; first | omega | (simp only [World.alloc, Array.size_push] at hq; omega))
            case aO => exact (by first | exact HR3.out | (apply Kd.R_drew; exact HR3.out) | (apply Kd.R_alloc; exact HR3.out))
            case aB => exact (by repeat (first | (with_reducible first | exact HWs.out | apply below_alloc | apply pw_below_drewN | apply below_drew1) | exact HWs.out))
            case aS => exact (below_size (by repeat (first | (with_reducible first | exact HWs.out | apply below_alloc | apply pw_below_drewN | apply below_drew1) | exact HWs.out)))
            case aL => simp
            intro v1 w6 ho hb hg hat
            have hBn := blk_grown (g := w2.heap.size) (by first | exact HBo.out | exact blk_drew HBo.out | exact blk_alloc HBo.out _) hg (fun he => HR3.out.1 _ he.symm rfl)
            have hcB := cell_of_one hBn
            have hfB := free_of_one hBn
            obtain ⟨Az, m1, cz, hvz, hm1, hcz, hzz, hCz, hWe⟩ := cap_store hBn ho hb HGE.out
            subst hvz
            have HCz := Aside0.mk hCz
            have HWe := Aside0.mk hWe
            have HM1 := Aside0.mk hm1
            have HCZ := Aside0.mk hcz
            clear ho hb hg hat hBn hCz hWe hm1 hcz
            refine hK _ _ ?_
            (try clear hK K)
            refine wpAny_ready (rs := [6]) (by kernel_rfl) (by simp) ?_
            refine AllReady.cons rfl (fun K hK => ?_) ?_
            · go_simp
              refine hK _ _ ?_
              (try clear hK K)
              refine wpAny_done (by kernel_rfl) ?_ _
              go_wp2_with ((go_at_call 16; have hjc : Calls Tryd.prog 16 #[.slice Az m1 cz, .string ⟨#[32]⟩] _ _ := (by rw [HM1.out]; exact strings_Join.calls Az cz ([okB] ++ [hx]) ⟨#[32]⟩ r _ HCz.out (by rw [← HM1.out]; exact HCZ.out) HJ.out); refine hjc.mono ?_; rintro e w9 ⟨rfl, hb9⟩; have HW9 := Aside0.mk (below_step HWe.out hb9); clear hb9))
              go_ret
              exact ⟨rfl, HW9.out⟩
            exact AllReady.nil
          exact AllReady.nil
        exact AllReady.nil
      exact AllReady.nil
    exact AllReady.nil
  exact AllReady.nil

set_option maxRecDepth 100000 in
set_option maxHeartbeats 2000000 in
theorem reply_err (kind ino knd sz lk n : Int) (A5 : Option Addr) (c5 : Nat) (l5 : List Int) (A6 : Option Addr) (c6 : Nat) (l6 : List ByteArray) (A7 : Option Addr) (c7 : Nat) (l7 : List Int) (w0 : World) (hT : Tabs w0)
    (hr5 : Kd.C (Kd.int .u8) w0 A5 l5.length l5) (hc5 : l5.length ≤ c5) (hr6 : Kd.C Kd.string w0 A6 l6.length l6) (hr7 : Kd.C (Kd.int .i64) w0 A7 l7.length l7)
    (code : Int) (hc : (code == 0) = false) (hi : -9223372036854775808 ≤ code ∧ code ≤ 9223372036854775807)  :
    Calls Tryd.prog 9 #[.int .i64 kind, .agg #[.int .i64 ino, .int .i64 knd, .int .i64 sz, .int .i64 lk, .int .i64 n, .slice A5 l5.length c5, .slice A6 l6.length c6, .slice A7 l7.length c7], .int .i64 code] w0 fun e w' => e = .returned (.string (⟨#[101, 114, 114, 111, 114, 32]⟩ ++ itoaB code)) ∧ Below w0.heap.size w0 w' := by
  have HT := Aside0.mk hT
  have HR5 := Aside0.mk hr5
  have HC5 := Aside0.mk hc5
  have HR6 := Aside0.mk hr6
  have HR7 := Aside0.mk hr7
  have HB := Aside0.mk (Below.refl w0.heap.size w0)
  clear hT hr5 hc5 hr6 hr7
  have HI := Aside0.mk (itoa_f hi)
  have hsz := itoaB_size hi
  clear hi
  go_enter Tryd.func9, Tryd.ntmps9
  go_wp2_with (first | ((with_reducible refine gate_dst (N := 4) rfl ?_); refine box_event ?hg (N := 4) ?hd (cs := #[.int .i64 ino, .int .i64 knd, .int .i64 sz, .int .i64 lk, .int .i64 n, .slice A5 l5.length c5, .slice A6 l6.length c6, .slice A7 l7.length c7]) (t := 37) ?hr ?_; (case hd => rfl); (case hg => rfl); (case hr => first | (go_simp; done) | (go_simp; rfl)); intro gb hg w1 hbox hb; have n0_ := Aside0.mk (below_step (by repeat (first | (with_reducible first | exact HB.out | apply below_alloc | apply pw_below_drewN | apply below_drew1) | exact HB.out)) hb); have BK := Aside0.mk hbox; have HG1 := Aside0.mk hg; clear HB; have HB := n0_; clear n0_; clear hb hbox hg) | ((with_reducible refine gate_dst (N := 14) rfl ?_); refine Kd.R_lit Kd.string _ 9 ?hg (N := 14) ?hd (xs := [okB]) (inner := [.string okB]) (ok := fun _ => True) (okp := fun _ => True) ?hr ?hp (fun _ hk => hk) trivial (Below.refl _ _) (Nat.le_refl _) (by simp) ?_; (case hd => rfl); (case hg => rfl); (case hr => first | (go_simp; done) | (go_simp; rfl)); (case hp => exact (Reps.one (show Kd.M Kd.string _ _ _ okB [.string okB] from rfl) (Reps.none _ _))); intro v w2 ho hb hg_ hnew_; clear hg_; obtain ⟨A2, c2, hv_, hcc_, _⟩ := Kd.R_reads ho; have HCC := Aside0.mk hcc_; clear hcc_; have HLG : Aside0 (gb < w2.heap.size) := ⟨blk_lt (blk_below BK.out hb)⟩; have hv : v = .slice A2 1 c2 := hv_; subst hv; have HR2 := Aside0.mk (Kd.R_lower ho (below_size (by repeat (first | (with_reducible first | exact HB.out | apply below_alloc | apply pw_below_drewN | apply below_drew1) | exact HB.out)))); have n1_ := Aside0.mk (blk_below BK.out hb); have n0_ := Aside0.mk (below_step (by repeat (first | (with_reducible first | exact HB.out | apply below_alloc | apply pw_below_drewN | apply below_drew1) | exact HB.out)) hb); clear HB BK; have HB := n0_; have BK := n1_; clear n0_ n1_ ho hb hnew_ hv_; have hBo_ := blk_new w2 (.cells #[Value.slice A2 1 c2] 34 (0, 0)); have HBo := Aside0.mk hBo_; have hcS := cell_of_one hBo_; have hfS := free_of_one hBo_; have HR3 : Aside0 (Kd.R Kd.string 9 (w2.alloc (.cells #[Value.slice A2 1 c2] 34)) w0.heap.size (fun q => q ≠ w2.heap.size) (.slice A2 1 c2) [okB]) := ⟨Kd.R_alloc (Kd.R_mono (Kd.R_bound HR2.out) (fun q hq => Nat.ne_of_lt hq.2.2.1)) _⟩; have HGE : Aside0 (w0.heap.size ≤ w2.heap.size) := ⟨below_size HB.out⟩; have BK3 := Aside0.mk (blk_alloc BK.out (.cells #[Value.slice A2 1 c2] 34 (0, 0))); have HWs : Aside0 (Below w0.heap.size w0 (w2.alloc (.cells #[Value.slice A2 1 c2] 34))) := ⟨below_alloc HB.out _⟩; have hz0 := blk_cell BK3.out 0; have hz1 := blk_cell BK3.out 1; have hz2 := blk_cell BK3.out 2; have hz3 := blk_cell BK3.out 3; have hz4 := blk_cell BK3.out 4; have hz5 := blk_cell BK3.out 5; have hz6 := blk_cell BK3.out 6; have hz7 := blk_cell BK3.out 7; clear hBo_ HB BK HR2) | (go_at_call 21; refine (strconv_Itoa.calls code (itoaB code) _ HI.out (Tabs.after HT.out (by repeat (first | (with_reducible first | exact HB.out | apply below_alloc | apply pw_below_drewN | apply below_drew1) | exact HB.out)))).mono ?_; rintro e w9 ⟨rfl, hb9⟩; have HW9 := Aside0.mk (below_step (by repeat (first | (with_reducible first | exact HB.out | apply below_alloc | apply pw_below_drewN | apply below_drew1) | exact HB.out)) hb9); clear hb9))
  go_ret
  exact ⟨rfl, HW9.out⟩

def okJ (ws : List ByteArray) : Option ByteArray := strings_Join.f (okB :: ws) ⟨#[32]⟩
def hist_Reply.f (kind ino knd sz lk n : Int) (data : List Int) (names : List ByteArray) (snaps : List Int) (code : Int) : Option ByteArray :=
  if (∀ x, x ∈ [ino, knd, sz, lk, n, code] → -9223372036854775808 ≤ x ∧ x ≤ 9223372036854775807) ∧ (∀ x, x ∈ snaps → -9223372036854775808 ≤ x ∧ x ≤ 9223372036854775807) ∧ names.length < 8796093022200 ∧ snaps.length < 8796093022200 then
    if code = 0 then
      if kind = 1 ∨ kind = 2 then okJ [itoaB ino]
      else if kind = 7 then (dump_Hex.f (data.length + 3) data).bind fun h => okJ [h]
      else if kind = 8 ∨ kind = 12 then okJ [itoaB n]
      else if kind = 10 then okJ [itoaB ino, itoaB knd, itoaB sz, itoaB lk]
      else if kind = 11 then okJ names
      else if kind = 14 then okJ (snaps.map itoaB)
      else okJ []
    else some (⟨#[101, 114, 114, 111, 114, 32]⟩ ++ itoaB code)
  else none
theorem hist_Reply.calls (kind ino knd sz lk n : Int) (A5 : Option Addr) (c5 : Nat) (l5 : List Int) (A6 : Option Addr) (c6 : Nat) (l6 : List ByteArray) (A7 : Option Addr) (c7 : Nat) (l7 : List Int) (code : Int) (r : ByteArray) (w : World)
    (hr5 : Kd.C (Kd.int .u8) w A5 l5.length l5) (hc5 : l5.length ≤ c5) (hr6 : Kd.C Kd.string w A6 l6.length l6) (hc6 : l6.length ≤ c6) (hr7 : Kd.C (Kd.int .i64) w A7 l7.length l7) (hc7 : l7.length ≤ c7)
    (h : hist_Reply.f kind ino knd sz lk n l5 l6 l7 code = some r) (hT : Tabs w) :
    Calls Tryd.prog 9 #[.int .i64 kind, .agg #[.int .i64 ino, .int .i64 knd, .int .i64 sz, .int .i64 lk, .int .i64 n, .slice A5 l5.length c5, .slice A6 l6.length c6, .slice A7 l7.length c7], .int .i64 code] w fun e w' => e = .returned (.string r) ∧ Below w.heap.size w w' := by
  unfold hist_Reply.f at h
  split at h
  · rename_i hg
    obtain ⟨g1, g2, g3, g4⟩ := hg
    have i1 := g1 ino (by simp)
    have i5 := g1 n (by simp)
    have i6 := g1 code (by simp)
    by_cases hc : code = 0
    · rw [if_pos hc] at h
      subst hc
      by_cases k1 : kind = 1 ∨ kind = 2
      · rw [if_pos k1] at h
        rcases k1 with k1 | k1
        · subst k1; exact reply_create 0 ino knd sz lk n A5 c5 l5 A6 c6 l6 A7 c7 l7 r w hT hr5 hc5 hr6 hr7 (by simpa using i1) h
        · subst k1; exact reply_mkdir 0 ino knd sz lk n A5 c5 l5 A6 c6 l6 A7 c7 l7 r w hT hr5 hc5 hr6 hr7 (by simpa using i1) h
      · rw [if_neg k1] at h
        by_cases k7 : kind = 7
        · rw [if_pos k7] at h
          subst k7
          obtain ⟨hx, hh, hj⟩ := Option.bind_eq_some_iff.1 h
          exact reply_read 0 ino knd sz lk n A5 c5 l5 A6 c6 l6 A7 c7 l7 r w hT hr5 hc5 hr6 hr7 hx hh hj
        · rw [if_neg k7] at h
          by_cases k8 : kind = 8 ∨ kind = 12
          · rw [if_pos k8] at h
            rcases k8 with k8 | k8
            · subst k8; exact reply_write 0 ino knd sz lk n A5 c5 l5 A6 c6 l6 A7 c7 l7 r w hT hr5 hc5 hr6 hr7 (by simpa using i5) h
            · subst k8; exact reply_snap 0 ino knd sz lk n A5 c5 l5 A6 c6 l6 A7 c7 l7 r w hT hr5 hc5 hr6 hr7 (by simpa using i5) h
          · rw [if_neg k8] at h
            by_cases k10 : kind = 10
            · rw [if_pos k10] at h
              subst k10
              exact reply_stat 0 ino knd sz lk n A5 c5 l5 A6 c6 l6 A7 c7 l7 r w hT hr5 hc5 hr6 hr7 (fun x hx => g1 x (by simp at hx ⊢; omega)) h
            · rw [if_neg k10] at h
              by_cases k11 : kind = 11
              · rw [if_pos k11] at h
                subst k11
                exact reply_names 0 ino knd sz lk n A5 c5 l5 A6 c6 l6 A7 c7 l7 r w hT hr5 hc5 hr6 hr7 g3 h
              · rw [if_neg k11] at h
                by_cases k14 : kind = 14
                · rw [if_pos k14] at h
                  subst k14
                  by_cases hz : l7.length = 0
                  · exact reply_snaps_none 0 ino knd sz lk n A5 c5 l5 A6 c6 l6 A7 c7 l7 r w hT hr5 hc5 hr6 hr7 hz g2 g4 h
                  · exact reply_snaps_some 0 ino knd sz lk n A5 c5 l5 A6 c6 l6 A7 c7 l7 r w hT hr5 hc5 hr6 hr7 (by omega) g2 g4 h
                · rw [if_neg k14] at h
                  exact reply_plain kind ino knd sz lk n A5 c5 l5 A6 c6 l6 A7 c7 l7 r w hT hr5 hc5 hr6 hr7 ⟨fun e => k1 (Or.inl e), fun e => k1 (Or.inr e), k7, fun e => k8 (Or.inl e), fun e => k8 (Or.inr e), k10, k11, k14⟩ h
    · rw [if_neg hc] at h
      cases h
      exact reply_err kind ino knd sz lk n A5 c5 l5 A6 c6 l6 A7 c7 l7 w hT hr5 hc5 hr6 hr7 code (by simpa using hc) i6
  · cases h
end Go.Proofs.YtcbmbjapcpbnnaaDoor.G
