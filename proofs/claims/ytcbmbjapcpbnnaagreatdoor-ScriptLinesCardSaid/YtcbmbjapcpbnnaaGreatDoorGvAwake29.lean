/- dolmenlaw29.awake by hand: it tells true. -/
import Derived.Test.YtcbmbjapcpbnnaaGreatDoorG0
import Derived.Test.YtcbmbjapcpbnnaaGreatDoorG18
import Derived.Test.YtcbmbjapcpbnnaaGreatDoorG19
import Derived.Test.YtcbmbjapcpbnnaaGreatDoorPuScript3
import Derived.Test.YtcbmbjapcpbnnaaGreatDoorGvCode
import Derived.Test.YtcbmbjapcpbnnaaGreatDoorGvCut
namespace Go.Proofs.YtcbmbjapcpbnnaaGreatDoor.G
open Go Go.RowKit Go.Proofs.YtcbmbjapcpbnnaaGreatDoorW.PrintWords Go.Proofs.YtcbmbjapcpbnnaaGreatDoorW.PrintLast
set_option linter.unusedVariables false
set_option linter.unusedSimpArgs false
theorem alloc_at9 (w : World) (o : Obj) : (w.alloc o).heap[w.heap.size]? = some o := by
  show (w.heap.push o)[w.heap.size]? = some o
  simp
theorem alloc_lt9 (w : World) (o : Obj) : w.heap.size < (w.alloc o).heap.size := by
  show w.heap.size < (w.heap.push o).size
  simp
theorem line_create : opW 1 (⟨#[47, 97]⟩ : ByteArray) noneW 0 0 [] 0 = (⟨#[99, 114, 101, 97, 116, 101, 32, 47, 97]⟩ : ByteArray) := by
  have e : wordsW 1 (⟨#[47, 97]⟩ : ByteArray) noneW 0 0 [] 0 = [(⟨#[99, 114, 101, 97, 116, 101]⟩ : ByteArray), ⟨#[47, 97]⟩] := by
    have h1 : pathR (⟨#[47, 97]⟩ : ByteArray) = ⟨#[47, 97]⟩ := by decide +kernel
    have h3 : wordR 1 = ⟨#[99, 114, 101, 97, 116, 101]⟩ := by decide +kernel
    unfold wordsW headW argsW snapW
    rw [h1, h3]; rfl
  unfold opW
  rw [e, if_neg (by rintro (h | h); exact h.2.1 rfl; exact absurd h (by decide +kernel))]
  exact (by decide +kernel : ofL (Lib.join (datas [(⟨#[99, 114, 101, 97, 116, 101]⟩ : ByteArray), ⟨#[47, 97]⟩]) [32]) = (⟨#[99, 114, 101, 97, 116, 101, 32, 47, 97]⟩ : ByteArray))
theorem line_start : actX 1 0 0 (opW 1 (⟨#[47, 97]⟩ : ByteArray) noneW 0 0 [] 0) [] = (⟨#[115, 116, 97, 114, 116, 32, 48, 32, 99, 114, 101, 97, 116, 101, 32, 47, 97]⟩ : ByteArray) := by
  have e : actW 1 0 0 (opW 1 (⟨#[47, 97]⟩ : ByteArray) noneW 0 0 [] 0) [] = [(⟨#[115, 116, 97, 114, 116]⟩ : ByteArray), ⟨#[48]⟩, ⟨#[99, 114, 101, 97, 116, 101, 32, 47, 97]⟩] := by
    unfold actW
    rw [line_create, word_start, if_pos rfl, num_zero]; rfl
  unfold actX
  rw [e, if_neg (by decide), if_neg (by decide +kernel)]
  exact (by decide +kernel : ofL (Lib.join (datas [(⟨#[115, 116, 97, 114, 116]⟩ : ByteArray), ⟨#[48]⟩, ⟨#[99, 114, 101, 97, 116, 101, 32, 47, 97]⟩]) [32]) = (⟨#[115, 116, 97, 114, 116, 32, 48, 32, 99, 114, 101, 97, 116, 101, 32, 47, 97]⟩ : ByteArray))
theorem parse_start (k : Nat) (hk : 2000200 ≤ k) : script_Parse.f k (⟨#[115, 116, 97, 114, 116, 32, 48, 32, 99, 114, 101, 97, 116, 101, 32, 47, 97]⟩ : ByteArray) = some (1, 0, 0, 1, (⟨#[47, 97]⟩ : ByteArray), noneW, 0, 0, [], 0, [], none) := by
  have h := parse_act 1 0 0 1 (⟨#[47, 97]⟩ : ByteArray) noneW 0 0 [] 0 [] (by decide) (by decide) (by simp) (by decide) (by rw [line_start]; decide) k hk
  rw [line_start] at h
  rw [h]; rfl
theorem split_ab : script_Split.f (⟨#[97, 10, 98]⟩ : ByteArray) = some ([(⟨#[97]⟩ : ByteArray), ⟨#[98]⟩], none) := by
  have h1 : strings_TrimSuffix.f (⟨#[97, 10, 98]⟩ : ByteArray) (⟨#[10]⟩ : ByteArray) = some (⟨#[97, 10, 98]⟩ : ByteArray) := by
    unfold strings_TrimSuffix.f; rw [if_pos (by decide)]; exact congrArg some (by decide +kernel)
  have h2 : strings_Split.f (⟨#[97, 10, 98]⟩ : ByteArray) (⟨#[10]⟩ : ByteArray) = some [(⟨#[97]⟩ : ByteArray), ⟨#[98]⟩] := by
    unfold strings_Split.f; rw [if_pos (by decide)]; exact congrArg some (by decide +kernel)
  unfold script_Split.f
  rw [if_neg (by decide), if_neg (by rw [toL]; decide), h1]
  simp only [Option.bind_some]
  rw [h2]
  simp only [Option.bind_some]
  rw [if_neg (by decide)]
def dolmenlaw29_awake.f : Option Bool := some true
set_option maxRecDepth 100000 in
set_option maxHeartbeats 4000000 in
theorem dolmenlaw29_awake.calls (r : Bool) (w : World) (h : dolmenlaw29_awake.f = some r) (hT : Tabs w) :
    Calls Tryz.prog 21 #[] w fun e w' => e = .returned (.bool r) ∧ Below w.heap.size w w' := by
  cases h
  have HT := Aside0.mk hT
  clear hT
  have HC1 := Aside0.mk (script_Parse.calls 2000200 _ _ _ _ _ _ _ _ _ _ _ _ _ w (parse_start 2000200 (Nat.le_refl _)) HT.out)
  have HC2 := Aside0.mk (fun W hW => script_Parse.calls 2000200 _ _ _ _ _ _ _ _ _ _ _ _ _ W (parse_step 2000200 (Nat.le_refl _)) hW)
  have HC3 := Aside0.mk (fun W => script_Split.calls _ _ _ W split_ab)
  have HCd := Aside0.mk (fun W => dolmenalike_Code.calls (some 14) 14 W rfl)
  simp only [errW_none, errW_some] at HC1 HC2 HC3 HCd
  have hu52 := Tryz.underlying52
  have hu24 := Tryz.underlying24
  have hu29 := Tryz.underlying29
  have hu42 := Tryz.underlying42
  go_enter Tryz.func21, Tryz.ntmps21
  go_wp2_with fail
  refine HC1.out.mono ?_
  rintro e w1 ⟨v1, v2, rfl, HR1, HR2, HB1⟩
  obtain ⟨A1, c1, rfl, hc1, _⟩ := Kd.R_reads HR1
  obtain ⟨A2, c2, rfl, hc2, _⟩ := Kd.R_reads HR2
  obtain ⟨O1, hO1⟩ : ∃ O1 : Obj, O1 = .cells #[.int .i64 1, .int .i64 0, .int .i64 0, .int .i64 1, .string (⟨#[47, 97]⟩ : ByteArray), .string noneW, .int .i64 0, .int .i64 0, .slice A1 0 c1, .int .i64 0, .slice A2 0 c2] 52 (0, 0) := ⟨_, rfl⟩
  have HBa := Aside0.mk (HB1.alloc (Nat.le_of_lt_succ (Nat.lt_succ_of_le HB1.size)) O1)
  clear HB1 HR1 HR2 HC1
  go_wp2_with fail
  subst hO1
  refine (HC2.out _ (HT.out.after HBa.out)).mono ?_
  rintro e w2 ⟨v3, v4, rfl, HR3, HR4, HB2⟩
  obtain ⟨A3, c3, rfl, hc3, _⟩ := Kd.R_reads HR3
  obtain ⟨A4, c4, rfl, hc4, _⟩ := Kd.R_reads HR4
  have hblk : w2.heap[w1.heap.size]? = some (.cells #[.int .i64 1, .int .i64 0, .int .i64 0, .int .i64 1, .string (⟨#[47, 97]⟩ : ByteArray), .string noneW, .int .i64 0, .int .i64 0, .slice A1 0 c1, .int .i64 0, .slice A2 0 c2] 52 (0, 0)) := by
    rw [HB2.block _ (alloc_lt9 w1 _), alloc_at9]
  have hlt : w1.heap.size < w2.heap.size := Nat.lt_of_lt_of_le (alloc_lt9 w1 _) HB2.size
  have hblk2 : (w2.alloc (.cells #[.int .i64 0, .int .i64 0, .int .i64 0, .int .i64 0, .string (⟨#[]⟩ : ByteArray), .string (⟨#[]⟩ : ByteArray), .int .i64 0, .int .i64 0, .slice A3 0 c3, .int .i64 0, .slice A4 0 c4] 52 (0, 0))).heap[w1.heap.size]? = some (.cells #[.int .i64 1, .int .i64 0, .int .i64 0, .int .i64 1, .string (⟨#[47, 97]⟩ : ByteArray), .string noneW, .int .i64 0, .int .i64 0, .slice A1 0 c1, .int .i64 0, .slice A2 0 c2] 52 (0, 0)) := by
    rw [Below.heap_alloc _ _ _ hlt]; exact hblk
  have HBb := Aside0.mk (below_alloc (below_step HBa.out HB2) (.cells #[.int .i64 0, .int .i64 0, .int .i64 0, .int .i64 0, .string (⟨#[]⟩ : ByteArray), .string (⟨#[]⟩ : ByteArray), .int .i64 0, .int .i64 0, .slice A3 0 c3, .int .i64 0, .slice A4 0 c4] 52 (0, 0)))
  have HK2 := Aside0.mk hblk2
  have HL2 := Aside0.mk (Nat.lt_trans hlt (alloc_lt9 w2 (.cells #[.int .i64 0, .int .i64 0, .int .i64 0, .int .i64 0, .string (⟨#[]⟩ : ByteArray), .string (⟨#[]⟩ : ByteArray), .int .i64 0, .int .i64 0, .slice A3 0 c3, .int .i64 0, .slice A4 0 c4] 52 (0, 0))))
  clear HR3 HR4 HB2 HC2 HBa hblk hblk2 hlt
  go_wp2_with fail
  refine (HC3.out _).mono ?_
  rintro e w3 ⟨v5, rfl, HR5, HB3⟩
  obtain ⟨A5, c5, hv5, hc5, _⟩ := Kd.R_reads HR5
  have hv6 : v5 = .slice A5 2 c5 := hv5
  subst hv6
  have hblk3 : w3.heap[w1.heap.size]? = some (.cells #[.int .i64 1, .int .i64 0, .int .i64 0, .int .i64 1, .string (⟨#[47, 97]⟩ : ByteArray), .string noneW, .int .i64 0, .int .i64 0, .slice A1 0 c1, .int .i64 0, .slice A2 0 c2] 52 (0, 0)) := (HB3.block _ HL2.out).trans HK2.out
  have hcell0 : w3.cell? ⟨w1.heap.size, 0, none⟩ = some (.int .i64 1) := (blk_cell hblk3 0).trans rfl
  have hcell4 : w3.cell? ⟨w1.heap.size, 4, none⟩ = some (.string (⟨#[47, 97]⟩ : ByteArray)) := (blk_cell hblk3 4).trans rfl
  have HBc := Aside0.mk (below_step HBb.out HB3)
  clear HB3 HR5 hv5 HK2 HL2 HBb HC3 hblk3
  go_wp2_with fail
  refine (HCd.out _).mono ?_
  rintro e w4 ⟨rfl, HD⟩
  have HBd := Aside0.mk (below_step HBc.out HD.below)
  clear HD
  go_wp2_with fail
  go_ret
  exact ⟨rfl, HBd.out⟩
end Go.Proofs.YtcbmbjapcpbnnaaGreatDoor.G
