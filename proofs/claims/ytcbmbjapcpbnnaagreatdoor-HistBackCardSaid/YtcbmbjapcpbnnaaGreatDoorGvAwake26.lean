/- dolmenlaw26.awake by hand: it tells true. -/
import Derived.Test.YtcbmbjapcpbnnaaGreatDoorG0
import Derived.Test.YtcbmbjapcpbnnaaGreatDoorG4
import Derived.Test.YtcbmbjapcpbnnaaGreatDoorG6
import Derived.Test.YtcbmbjapcpbnnaaGreatDoorPuHist6b
import Derived.Test.YtcbmbjapcpbnnaaGreatDoorGvCode
namespace Go.Proofs.YtcbmbjapcpbnnaaGreatDoor.G
open Go Go.RowKit Go.Proofs.YtcbmbjapcpbnnaaGreatDoorW.PrintWords Go.Proofs.YtcbmbjapcpbnnaaGreatDoorW.PrintLast
set_option linter.unusedVariables false
set_option linter.unusedSimpArgs false
theorem alloc_at (w : World) (o : Obj) : (w.alloc o).heap[w.heap.size]? = some o := by
  show (w.heap.push o)[w.heap.size]? = some o
  simp
theorem alloc_lt (w : World) (o : Obj) : w.heap.size < (w.alloc o).heap.size := by
  show w.heap.size < (w.heap.push o).size
  simp
theorem op_snap (k : Nat) (hk : 400 ≤ k) : hist_Op.f k 12 (⟨#[]⟩ : ByteArray) (⟨#[]⟩ : ByteArray) 0 0 [] 0 = some (⟨#[115, 110, 97, 112]⟩ : ByteArray) := by
  have hop := op_f 12 (⟨#[]⟩ : ByteArray) (⟨#[]⟩ : ByteArray) 0 0 [] 0 (by decide) (by decide) (by simp) (by decide) k (by simp; omega)
  have e : opW 12 (⟨#[]⟩ : ByteArray) (⟨#[]⟩ : ByteArray) 0 0 [] 0 = (⟨#[115, 110, 97, 112]⟩ : ByteArray) := by
    have ew : wordsW 12 (⟨#[]⟩ : ByteArray) (⟨#[]⟩ : ByteArray) 0 0 [] 0 = [(⟨#[115, 110, 97, 112]⟩ : ByteArray)] := by
      unfold wordsW headW argsW snapW; rfl
    unfold opW
    rw [ew, if_neg (by rintro (h | h); exact absurd h.1 (by decide); exact absurd h (by decide +kernel))]
    decide +kernel
  rw [hop, e]
def dolmenlaw26_awake.f : Option Bool := some true
set_option maxRecDepth 100000 in
set_option maxHeartbeats 4000000 in
theorem dolmenlaw26_awake.calls (r : Bool) (w : World) (h : dolmenlaw26_awake.f = some r) (hT : Tabs w) :
    Calls Tryz.prog 10 #[] w fun e w' => e = .returned (.bool r) ∧ Below w.heap.size w w' := by
  cases h
  have HT := Aside0.mk hT
  clear hT
  have HB := Aside0.mk (Below.refl w.heap.size w)
  have HC1 := Aside0.mk (hist_ParseOp.calls 2000100 _ _ _ _ _ _ _ _ _ w (parse_hi 2000100 (Nat.le_refl _)) HT.out)
  have HC2 := Aside0.mk (fun W hW => hist_ParseOp.calls 2000100 _ _ _ _ _ _ _ _ _ W (parse_less 2000100 (Nat.le_refl _)) hW)
  simp only [errW_none, errW_some] at HC1 HC2
  have hu24 := Tryz.underlying24
  have hu29 := Tryz.underlying29
  have hu38 := Tryz.underlying42
  go_enter Tryz.func10, Tryz.ntmps10
  go_wp2_with fail
  refine HC1.out.mono ?_
  rintro e w1 ⟨v1, rfl, HR1, HB1⟩
  obtain ⟨A1, c1, rfl, hc1, hC1⟩ := Kd.R_reads HR1
  have HBa := Aside0.mk (HB1.alloc (Nat.le_of_lt_succ (Nat.lt_succ_of_le HB1.size)) (.cells #[.int .i64 8, .string (⟨#[47, 97]⟩ : ByteArray), .string noneW, .int .i64 0, .int .i64 0, .slice A1 2 c1, .int .i64 0] 24 (0, 0)))
  have HRa := Aside0.mk (Kd.R_alloc HR1 (.cells #[.int .i64 8, .string (⟨#[47, 97]⟩ : ByteArray), .string noneW, .int .i64 0, .int .i64 0, .slice A1 2 c1, .int .i64 0] 24 (0, 0)))
  have HS1 := Aside0.mk HB1.size
  clear HB1 HR1 hC1 HC1
  go_wp2_with fail
  refine (HC2.out _ (HT.out.after HBa.out)).mono ?_
  rintro e w2 ⟨v2, rfl, HR2, HB2⟩
  obtain ⟨A2, c2, rfl, hc2, hC2⟩ := Kd.R_reads HR2
  have hblk : w2.heap[w1.heap.size]? = some (.cells #[.int .i64 8, .string (⟨#[47, 97]⟩ : ByteArray), .string noneW, .int .i64 0, .int .i64 0, .slice A1 2 c1, .int .i64 0] 24 (0, 0)) := by
    rw [HB2.block _ (alloc_lt w1 _), alloc_at]
  have hblk2 : (w2.alloc (.cells #[.int .i64 0, .string (⟨#[]⟩ : ByteArray), .string (⟨#[]⟩ : ByteArray), .int .i64 0, .int .i64 0, .slice A2 0 c2, .int .i64 0] 24 (0, 0))).heap[w1.heap.size]? = some (.cells #[.int .i64 8, .string (⟨#[47, 97]⟩ : ByteArray), .string noneW, .int .i64 0, .int .i64 0, .slice A1 2 c1, .int .i64 0] 24 (0, 0)) := by
    rw [Below.heap_alloc _ _ _ (by have := HB2.size; have := alloc_lt w1 (.cells #[.int .i64 8, .string (⟨#[47, 97]⟩ : ByteArray), .string noneW, .int .i64 0, .int .i64 0, .slice A1 2 c1, .int .i64 0] 24 (0, 0)); omega)]
    exact hblk
  have HRb := Aside0.mk (Kd.R_alloc (Kd.R_below HRa.out HB2) (.cells #[.int .i64 0, .string (⟨#[]⟩ : ByteArray), .string (⟨#[]⟩ : ByteArray), .int .i64 0, .int .i64 0, .slice A2 0 c2, .int .i64 0] 24 (0, 0)))
  have HBb := Aside0.mk (below_alloc (below_step HBa.out HB2) (.cells #[.int .i64 0, .string (⟨#[]⟩ : ByteArray), .string (⟨#[]⟩ : ByteArray), .int .i64 0, .int .i64 0, .slice A2 0 c2, .int .i64 0] 24 (0, 0)))
  have hcell0 : (w2.alloc (.cells #[.int .i64 0, .string (⟨#[]⟩ : ByteArray), .string (⟨#[]⟩ : ByteArray), .int .i64 0, .int .i64 0, .slice A2 0 c2, .int .i64 0] 24 (0, 0))).cell? ⟨w1.heap.size, 0, none⟩ = some (.int .i64 8) := (blk_cell hblk2 0).trans rfl
  have hcell5 : (w2.alloc (.cells #[.int .i64 0, .string (⟨#[]⟩ : ByteArray), .string (⟨#[]⟩ : ByteArray), .int .i64 0, .int .i64 0, .slice A2 0 c2, .int .i64 0] 24 (0, 0))).cell? ⟨w1.heap.size, 5, none⟩ = some (.slice A1 2 c1) := (blk_cell hblk2 5).trans rfl
  have hcv : (convert 22 9 (.slice A1 2 c1)).run Tryz.prog (w2.alloc (.cells #[.int .i64 0, .string (⟨#[]⟩ : ByteArray), .string (⟨#[]⟩ : ByteArray), .int .i64 0, .int .i64 0, .slice A2 0 c2, .int .i64 0] 24 (0, 0))) = .ok (.string (⟨#[104, 105]⟩ : ByteArray)) (w2.alloc (.cells #[.int .i64 0, .string (⟨#[]⟩ : ByteArray), .string (⟨#[]⟩ : ByteArray), .int .i64 0, .int .i64 0, .slice A2 0 c2, .int .i64 0] 24 (0, 0))) := own_string (P := Tryz.prog) Tryz.underlying22 Tryz.underlying5 Tryz.underlying9 (Kd.own_of_R HRb.out)
  clear hblk hblk2 HC2 HRa HBa HR2 HB2 hC2
  have HT3 := Aside0.mk (HT.out.after HBb.out)
  have HCd := Aside0.mk (fun W => dolmenalike_Code.calls (some 14) 14 W rfl)
  simp only [errW_some] at HCd
  have HOp := Aside0.mk (fun W (hW : Tabs W) => hist_Op.calls 2000100 12 (⟨#[]⟩ : ByteArray) (⟨#[]⟩ : ByteArray) 0 0 none 0 [] 0 _ W ⟨rfl, by simp, fun h => absurd h (Nat.lt_irrefl _)⟩ (Nat.le_refl _) (op_snap 2000100 (by decide)) hW)
  clear HRb HT HB HS1
  go_wp2_with fail
  refine (HCd.out _).mono ?_
  rintro e w4 ⟨rfl, HD2⟩
  have HB4 := Aside0.mk (below_step HBb.out HD2.below)
  have HT4 := Aside0.mk (HT3.out.after HD2.below)
  clear HD2 HT3 HBb hcell0 hcell5 hcv
  go_wp2_with fail
  refine (HOp.out _ HT4.out).mono ?_
  rintro e w5 ⟨rfl, HB5⟩
  go_wp2_with fail
  go_ret
  exact ⟨rfl, below_step HB4.out HB5⟩
end Go.Proofs.YtcbmbjapcpbnnaaGreatDoor.G
