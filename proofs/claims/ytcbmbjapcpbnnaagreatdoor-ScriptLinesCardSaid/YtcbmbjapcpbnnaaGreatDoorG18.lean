-- WRITTEN BY a program of this session (wip/gprint.py) out of the translation
import Derived.Test.YtcbmbjapcpbnnaaGreatDoorTabs
import Derived.Test.YtcbmbjapcpbnnaaGreatDoorG0
import Derived.Test.YtcbmbjapcpbnnaaGreatDoorG6
import Derived.Test.YtcbmbjapcpbnnaaGreatDoorG17
import Derived.Test.YtcbmbjapcpbnnaaGreatDoorGvCut
import Derived.Test.YtcbmbjapcpbnnaaGreatDoorGvScript
import Derived.Test.YtcbmbjapcpbnnaaGreatDoorGvStr
namespace Go.Proofs.YtcbmbjapcpbnnaaGreatDoor.G
open Go.RowKit Go.Proofs.YtcbmbjapcpbnnaaGreatDoorW.PrintWords Go.Proofs.YtcbmbjapcpbnnaaGreatDoorW.PrintLast Go.Proofs.YtcbmbjapcpbnnaaGreatDoorW.PrintMore
attribute [local go_sem] max2_int min2_int max_two min_two max_three min_three max_four min_four   -- for this text's walks alone
set_option linter.unusedVariables false
set_option linter.unusedSimpArgs false

/-! ### script_Parse: function 25 -/
mutual
def script_Parse.l0 : Nat → ByteArray → ByteArray → ByteArray → Bool → Int → Int → Int → Int → Int → ByteArray → ByteArray → Int → Int → Int → Option (Int × Int × Int × Int × ByteArray × ByteArray × Int × Int × List Int × Int × List Int × Option Int)
 | 0, _, _, _, _, _, _, _, _, _, _, _, _, _, _ => none
 | k + 1, x0, x4, x5, x6, x8, x375000, x375001, x375002, x375003, x375004, x375005, x375006, x375007, x375009 => if x8 ≤ 6 then ((script_word.f x8).bind fun t375 => (if t375.toList = x4.toList then (script_Parse.l0 k x0 x4 x5 x6 (wrap64 (x8 + 1)) x8 x375001 x375002 x375003 x375004 x375005 x375006 x375007 x375009) else (script_Parse.l0 k x0 x4 x5 x6 (wrap64 (x8 + 1)) x375000 x375001 x375002 x375003 x375004 x375005 x375006 x375007 x375009))) else (if x375000 = 1 then ((strings_Cut.f x5 (⟨#[32]⟩ : ByteArray)).bind fun bt376 => ((hist_Num.f bt376.1).bind fun t379 => ((hist_ParseOp.f k bt376.2.1).bind fun bt380 => (if x0.toList = ([] : List UInt8) then (some (0, 0, 0, 0, (⟨#[]⟩ : ByteArray), (⟨#[]⟩ : ByteArray), 0, 0, ([] : List Int), 0, ([] : List Int), some 14)) else ((script_Text.f x375000 t379 x375002 bt380.1 bt380.2.1 bt380.2.2.1 bt380.2.2.2.1 bt380.2.2.2.2.1 bt380.2.2.2.2.2.1 bt380.2.2.2.2.2.2.1 ([] : List Int)).bind fun t390 => (if t390.toList = x0.toList then (some (x375000, t379, x375002, bt380.1, bt380.2.1, bt380.2.2.1, bt380.2.2.2.1, bt380.2.2.2.2.1, bt380.2.2.2.2.2.1, bt380.2.2.2.2.2.2.1, ([] : List Int), none)) else (some (0, 0, 0, 0, (⟨#[]⟩ : ByteArray), (⟨#[]⟩ : ByteArray), 0, 0, ([] : List Int), 0, ([] : List Int), some 14)))))))) else (if x375000 = 2 then ((hist_Num.f x5).bind fun t391 => (if x0.toList = ([] : List UInt8) then (some (0, 0, 0, 0, (⟨#[]⟩ : ByteArray), (⟨#[]⟩ : ByteArray), 0, 0, ([] : List Int), 0, ([] : List Int), some 14)) else ((script_Text.f x375000 t391 x375002 x375003 x375004 x375005 x375006 x375007 ([] : List Int) x375009 ([] : List Int)).bind fun t392 => (if t392.toList = x0.toList then (some (x375000, t391, x375002, x375003, x375004, x375005, x375006, x375007, ([] : List Int), x375009, ([] : List Int), none)) else (some (0, 0, 0, 0, (⟨#[]⟩ : ByteArray), (⟨#[]⟩ : ByteArray), 0, 0, ([] : List Int), 0, ([] : List Int), some 14)))))) else (if x375000 = 4 then (script_Parse.j1 k x0 x5 x6 x375000 (x375000 == 4) x375000 x375001 x375002 x375003 x375004 x375005 x375006 x375007 x375009) else (script_Parse.j1 k x0 x5 x6 x375000 (x375000 == 6) x375000 x375001 x375002 x375003 x375004 x375005 x375006 x375007 x375009))))
def script_Parse.j1 : Nat → ByteArray → ByteArray → Bool → Int → Bool → Int → Int → Int → Int → ByteArray → ByteArray → Int → Int → Int → Option (Int × Int × Int × Int × ByteArray × ByteArray × Int × Int × List Int × Int × List Int × Option Int)
 | 0, _, _, _, _, _, _, _, _, _, _, _, _, _, _ => none
 | k + 1, x0, x5, x6, x32, x55, x375000, x375001, x375002, x375003, x375004, x375005, x375006, x375007, x375009 => if x55 = true then ((hist_Num.f x5).bind fun t393 => (if x0.toList = ([] : List UInt8) then (some (0, 0, 0, 0, (⟨#[]⟩ : ByteArray), (⟨#[]⟩ : ByteArray), 0, 0, ([] : List Int), 0, ([] : List Int), some 14)) else ((script_Text.f x375000 x375001 t393 x375003 x375004 x375005 x375006 x375007 ([] : List Int) x375009 ([] : List Int)).bind fun t394 => (if t394.toList = x0.toList then (some (x375000, x375001, t393, x375003, x375004, x375005, x375006, x375007, ([] : List Int), x375009, ([] : List Int), none)) else (some (0, 0, 0, 0, (⟨#[]⟩ : ByteArray), (⟨#[]⟩ : ByteArray), 0, 0, ([] : List Int), 0, ([] : List Int), some 14)))))) else (if x32 = 5 then (if x6 = true then ((strings_Split.f x5 (⟨#[32]⟩ : ByteArray)).bind fun t396 => (script_Parse.l1 k x0 t396 (t396.length : Int) 0 x375000 x375001 x375002 x375003 x375004 x375005 x375006 x375007 x375009 ([] : List Int))) else (if x0.toList = ([] : List UInt8) then (some (0, 0, 0, 0, (⟨#[]⟩ : ByteArray), (⟨#[]⟩ : ByteArray), 0, 0, ([] : List Int), 0, ([] : List Int), some 14)) else ((script_Text.f x375000 x375001 x375002 x375003 x375004 x375005 x375006 x375007 ([] : List Int) x375009 ([] : List Int)).bind fun t395 => (if t395.toList = x0.toList then (some (x375000, x375001, x375002, x375003, x375004, x375005, x375006, x375007, ([] : List Int), x375009, ([] : List Int), none)) else (some (0, 0, 0, 0, (⟨#[]⟩ : ByteArray), (⟨#[]⟩ : ByteArray), 0, 0, ([] : List Int), 0, ([] : List Int), some 14)))))) else (if x0.toList = ([] : List UInt8) then (some (0, 0, 0, 0, (⟨#[]⟩ : ByteArray), (⟨#[]⟩ : ByteArray), 0, 0, ([] : List Int), 0, ([] : List Int), some 14)) else ((script_Text.f x375000 x375001 x375002 x375003 x375004 x375005 x375006 x375007 ([] : List Int) x375009 ([] : List Int)).bind fun t405 => (if t405.toList = x0.toList then (some (x375000, x375001, x375002, x375003, x375004, x375005, x375006, x375007, ([] : List Int), x375009, ([] : List Int), none)) else (some (0, 0, 0, 0, (⟨#[]⟩ : ByteArray), (⟨#[]⟩ : ByteArray), 0, 0, ([] : List Int), 0, ([] : List Int), some 14))))))
def script_Parse.l1 : Nat → ByteArray → List ByteArray → Int → Int → Int → Int → Int → Int → ByteArray → ByteArray → Int → Int → Int → List Int → Option (Int × Int × Int × Int × ByteArray × ByteArray × Int × Int × List Int × Int × List Int × Option Int)
 | 0, _, _, _, _, _, _, _, _, _, _, _, _, _, _ => none
 | k + 1, x0, x66, x67, x68, x375000, x375001, x375002, x375003, x375004, x375005, x375006, x375007, x375009, x375010 => if x68 < x67 then (if 0 ≤ x68 then (if x68 < (x66.length : Int) then ((hist_Num.f (rdOf ByteArray.empty x66 x68)).bind fun t400 => (if x375010.length < 17592186044416 then (script_Parse.l1 k x0 x66 x67 (wrap64 (x68 + 1)) x375000 x375001 x375002 x375003 x375004 x375005 x375006 x375007 x375009 (x375010 ++ [t400])) else (none))) else (none)) else (none)) else (if x0.toList = ([] : List UInt8) then (some (0, 0, 0, 0, (⟨#[]⟩ : ByteArray), (⟨#[]⟩ : ByteArray), 0, 0, ([] : List Int), 0, ([] : List Int), some 14)) else ((script_Text.f x375000 x375001 x375002 x375003 x375004 x375005 x375006 x375007 ([] : List Int) x375009 x375010).bind fun t404 => (if t404.toList = x0.toList then (some (x375000, x375001, x375002, x375003, x375004, x375005, x375006, x375007, ([] : List Int), x375009, x375010, none)) else (some (0, 0, 0, 0, (⟨#[]⟩ : ByteArray), (⟨#[]⟩ : ByteArray), 0, 0, ([] : List Int), 0, ([] : List Int), some 14)))))
end
def script_Parse.f (k : Nat) (a0 : ByteArray) : Option (Int × Int × Int × Int × ByteArray × ByteArray × Int × Int × List Int × Int × List Int × Option Int) := (strings_Cut.f a0 (⟨#[32]⟩ : ByteArray)).bind fun bt371 => (script_Parse.l0 k a0 bt371.1 bt371.2.1 bt371.2.2 1 0 0 0 0 (⟨#[]⟩ : ByteArray) (⟨#[]⟩ : ByteArray) 0 0 0)
theorem script_Parse.mono_l : ∀ k, (∀ y0 y1 y2 y3 y4 y5 y6 y7 y8 y9 y10 y11 y12 y13, LeO (script_Parse.l0 k y0 y1 y2 y3 y4 y5 y6 y7 y8 y9 y10 y11 y12 y13) (script_Parse.l0 (k + 1) y0 y1 y2 y3 y4 y5 y6 y7 y8 y9 y10 y11 y12 y13)) ∧ (∀ y0 y1 y2 y3 y4 y5 y6 y7 y8 y9 y10 y11 y12 y13, LeO (script_Parse.j1 k y0 y1 y2 y3 y4 y5 y6 y7 y8 y9 y10 y11 y12 y13) (script_Parse.j1 (k + 1) y0 y1 y2 y3 y4 y5 y6 y7 y8 y9 y10 y11 y12 y13)) ∧ (∀ y0 y1 y2 y3 y4 y5 y6 y7 y8 y9 y10 y11 y12 y13, LeO (script_Parse.l1 k y0 y1 y2 y3 y4 y5 y6 y7 y8 y9 y10 y11 y12 y13) (script_Parse.l1 (k + 1) y0 y1 y2 y3 y4 y5 y6 y7 y8 y9 y10 y11 y12 y13))
 | 0 => ⟨fun _ _ _ _ _ _ _ _ _ _ _ _ _ _ r h => by simp [script_Parse.l0] at h, fun _ _ _ _ _ _ _ _ _ _ _ _ _ _ r h => by simp [script_Parse.j1] at h, fun _ _ _ _ _ _ _ _ _ _ _ _ _ _ r h => by simp [script_Parse.l1] at h⟩
 | k + 1 => by
  obtain ⟨ih0, ih1, ih2⟩ := script_Parse.mono_l k
  refine ⟨?_, ?_, ?_⟩
  ·intro y0 y1 y2 y3 y4 y5 y6 y7 y8 y9 y10 y11 y12 y13
   unfold script_Parse.l0
   repeat' first
   | (with_reducible exact ih0 _ _ _ _ _ _ _ _ _ _ _ _ _ _)
   | (with_reducible exact ih1 _ _ _ _ _ _ _ _ _ _ _ _ _ _)
   | (with_reducible exact ih2 _ _ _ _ _ _ _ _ _ _ _ _ _ _)
   | (with_reducible exact hist_ParseOp.mono _ _)
   | (with_reducible exact LeO.refl _)
   | (with_reducible exact LeO.none _)
   | (with_reducible refine LeO.ite ?_ ?_)
   | (with_reducible refine LeO.bind ?_ (fun _ => ?_))
   | exact ih0 _ _ _ _ _ _ _ _ _ _ _ _ _ _
   | exact ih1 _ _ _ _ _ _ _ _ _ _ _ _ _ _
   | exact ih2 _ _ _ _ _ _ _ _ _ _ _ _ _ _
   | exact hist_ParseOp.mono _ _
   | exact LeO.none _
   | refine LeO.ite ?_ ?_
   | refine LeO.bind ?_ (fun _ => ?_)
  ·intro y0 y1 y2 y3 y4 y5 y6 y7 y8 y9 y10 y11 y12 y13
   unfold script_Parse.j1
   repeat' first
   | (with_reducible exact ih0 _ _ _ _ _ _ _ _ _ _ _ _ _ _)
   | (with_reducible exact ih1 _ _ _ _ _ _ _ _ _ _ _ _ _ _)
   | (with_reducible exact ih2 _ _ _ _ _ _ _ _ _ _ _ _ _ _)
   | (with_reducible exact hist_ParseOp.mono _ _)
   | (with_reducible exact LeO.refl _)
   | (with_reducible exact LeO.none _)
   | (with_reducible refine LeO.ite ?_ ?_)
   | (with_reducible refine LeO.bind ?_ (fun _ => ?_))
   | exact ih0 _ _ _ _ _ _ _ _ _ _ _ _ _ _
   | exact ih1 _ _ _ _ _ _ _ _ _ _ _ _ _ _
   | exact ih2 _ _ _ _ _ _ _ _ _ _ _ _ _ _
   | exact hist_ParseOp.mono _ _
   | exact LeO.none _
   | refine LeO.ite ?_ ?_
   | refine LeO.bind ?_ (fun _ => ?_)
  ·intro y0 y1 y2 y3 y4 y5 y6 y7 y8 y9 y10 y11 y12 y13
   unfold script_Parse.l1
   repeat' first
   | (with_reducible exact ih0 _ _ _ _ _ _ _ _ _ _ _ _ _ _)
   | (with_reducible exact ih1 _ _ _ _ _ _ _ _ _ _ _ _ _ _)
   | (with_reducible exact ih2 _ _ _ _ _ _ _ _ _ _ _ _ _ _)
   | (with_reducible exact hist_ParseOp.mono _ _)
   | (with_reducible exact LeO.refl _)
   | (with_reducible exact LeO.none _)
   | (with_reducible refine LeO.ite ?_ ?_)
   | (with_reducible refine LeO.bind ?_ (fun _ => ?_))
   | exact ih0 _ _ _ _ _ _ _ _ _ _ _ _ _ _
   | exact ih1 _ _ _ _ _ _ _ _ _ _ _ _ _ _
   | exact ih2 _ _ _ _ _ _ _ _ _ _ _ _ _ _
   | exact hist_ParseOp.mono _ _
   | exact LeO.none _
   | refine LeO.ite ?_ ?_
   | refine LeO.bind ?_ (fun _ => ?_)
theorem script_Parse.mono : ∀ a0 k, LeO (script_Parse.f k a0) (script_Parse.f (k + 1) a0) := by
 intro a0 k
 obtain ⟨ih0, ih1, ih2⟩ := script_Parse.mono_l k
 unfold script_Parse.f
 repeat' first
   | (with_reducible exact ih0 _ _ _ _ _ _ _ _ _ _ _ _ _ _)
   | (with_reducible exact ih1 _ _ _ _ _ _ _ _ _ _ _ _ _ _)
   | (with_reducible exact ih2 _ _ _ _ _ _ _ _ _ _ _ _ _ _)
   | (with_reducible exact hist_ParseOp.mono _ _)
   | (with_reducible exact LeO.refl _)
   | (with_reducible exact LeO.none _)
   | (with_reducible refine LeO.ite ?_ ?_)
   | (with_reducible refine LeO.bind ?_ (fun _ => ?_))
   | exact ih0 _ _ _ _ _ _ _ _ _ _ _ _ _ _
   | exact ih1 _ _ _ _ _ _ _ _ _ _ _ _ _ _
   | exact ih2 _ _ _ _ _ _ _ _ _ _ _ _ _ _
   | exact hist_ParseOp.mono _ _
   | exact LeO.none _
   | refine LeO.ite ?_ ?_
   | refine LeO.bind ?_ (fun _ => ?_)
def script_Parse.T23 : Bool × List (List Nat × List Nat) := (true, [([], []), ([0], [0]), ([], []), ([2], [2]), ([3], [3]), ([1, 4, 3], [1, 4]), ([0, 1, 2, 3, 4, 5], []), ([6, 5, 5, 0, 1, 2, 3, 4, 5], [5, 6])])
def script_Parse.B23 : List Nat := [0, 1, 0, 4, 12, 31, 63, 127]
theorem script_Parse.tab23 : rtab .any (opsOf Tryz.f25 23) = script_Parse.T23 := by kernel_rfl
theorem script_Parse.bits23 : waitsOk script_Parse.T23.2 script_Parse.B23 = true := by kernel_rfl
set_option maxHeartbeats 8000000 in
set_option maxRecDepth 100000 in
theorem script_Parse.calls (k : Nat) (a0 : ByteArray) (r1 : Int) (r2 : Int) (r3 : Int) (r4 : Int) (r5 : ByteArray) (r6 : ByteArray) (r7 : Int) (r8 : Int) (r9 : List Int) (r10 : Int) (r11 : List Int) (r12 : Option Int) (w : World) (h : script_Parse.f k a0 = some (r1, r2, r3, r4, r5, r6, r7, r8, r9, r10, r11, r12)) (hT : Tabs w) :
  Calls Tryz.prog 25 #[.string a0] w fun e w' => ∃ v8_ v10_ : Value, e = .returned (.tuple #[.agg #[.int .i64 r1, .int .i64 r2, .int .i64 r3, .int .i64 r4, .string r5, .string r6, .int .i64 r7, .int .i64 r8, v8_, .int .i64 r10, v10_], errW r12]) ∧ Kd.R (Kd.int .u8) 5 w' w.heap.size (fun _ => True) v8_ r9 ∧ Kd.R (Kd.int .i64) 3 w' w.heap.size (fun _ => True) v10_ r11 ∧ Below w.heap.size w w' := by
 have HT := Aside0.mk hT
 clear hT
 have hu52 := Tryz.underlying52
 have hu24 := Tryz.underlying24
 have hu29 := Tryz.underlying29
 have hu42 := Tryz.underlying42
 have HB := Aside0.mk (Below.refl w.heap.size w)
 have H : ((strings_Cut.f a0 (⟨#[32]⟩ : ByteArray)).bind fun bt371 => (script_Parse.l0 k a0 bt371.1 bt371.2.1 bt371.2.2 1 0 0 0 0 (⟨#[]⟩ : ByteArray) (⟨#[]⟩ : ByteArray) 0 0 0)) = some (r1, r2, r3, r4, r5, r6, r7, r8, r9, r10, r11, r12) := h
 clear h
 replace H := Option.bind_eq_some_iff.mp H
 obtain ⟨⟨t371, t372, t373⟩, A20, H⟩ := H
 try dsimp only at H
 have A2 := Aside0.mk A20
 clear A20
 have H' := Aside0.mk H
 clear H
 go_enter Tryz.func25, Tryz.ntmps25
 go_wp2_with (first | ((with_reducible refine gate_dst (N := 2) rfl ?_); refine box_event ?hg (N := 2) ?hd (cs := #[.int .i64 0, .int .i64 0, .int .i64 0, .int .i64 0, .string ⟨#[]⟩, .string ⟨#[]⟩, .int .i64 0, .int .i64 0, .slice none 0 0, .int .i64 0, .slice none 0 0]) (t := 52) ?hr ?_; (case hd => rfl); (case hg => rfl); (case hr => first | (go_simp; done) | (go_simp; rfl)); intro gb370 hg w3 hbox hb; have n0_ := Aside0.mk (below_step (by repeat (first | (with_reducible first | exact HB.out | apply s1 | apply s2 | apply s3) | exact HB.out)) hb); have n1_ := Aside0.mk (hbox); have n2_ := Aside0.mk ((by rw [hg]; exact (below_size (by repeat (first | (with_reducible first | exact HB.out | apply s1 | apply s2 | apply s3) | exact HB.out))) : w.heap.size ≤ gb370)); have n3_ := Aside0.mk ((by rw [hg]; exact (below_size (by repeat (first | (with_reducible first | exact HB.out | apply s1 | apply s2 | apply s3) | exact HB.out))) : w.heap.size ≤ gb370)); clear HB; have HB := n0_; have BK370 := n1_; have GW370 := n2_; have GE370 := n3_; clear n0_ n1_ n2_ n3_; clear hb hbox hg) | ((with_reducible refine gate_callee (f := 53) rfl ?_); refine goesL_ (some 16) rfl rfl Tryz.func53 (by kernel_rfl) rfl #[.string a0, .string (⟨#[32]⟩ : ByteArray)] rfl (by (try simp only [List.map_toArray, List.map_cons, List.map_nil]); first | done | rfl | (simp only [List.length_drop, List.length_take]; rfl)) ?_; (with_reducible refine (strings_Cut.calls a0 (⟨#[32]⟩ : ByteArray) t371 t372 t373 _ A2.out).mono ?_); rintro e w' ⟨rfl, ⟨nd, rfl⟩⟩; refine ⟨_, rfl, ?_⟩; (try (rw [drewN_self w3]; generalize hq_ : World.drewN w3 _ = w3; have n0_ : Aside0 (w3.heap[gb370]? = some (.cells #[.int .i64 0, .int .i64 0, .int .i64 0, .int .i64 0, .string ⟨#[]⟩, .string ⟨#[]⟩, .int .i64 0, .int .i64 0, .slice none 0 0, .int .i64 0, .slice none 0 0] 52 (0, 0))) := ⟨by rw [← hq_]; exact (by (with_reducible repeat first | apply q1 | apply q2 | apply q3); exact BK370.out)⟩; have n1_ : Aside0 (Below w.heap.size w w3) := ⟨by rw [← hq_]; exact (by repeat (first | (with_reducible first | exact HB.out | apply s1 | apply s2 | apply s3 | refine s4 ?_ GE370.out) | exact HB.out))⟩; clear BK370 HB hq_; have BK370 := n0_; have HB := n1_; clear n0_ n1_))) | ((with_reducible refine gate_dst (N := 7) rfl ?_); refine box_event ?hg (N := 7) ?hd (cs := #[.int .i64 0, .int .i64 0, .int .i64 0, .int .i64 0, .string ⟨#[]⟩, .string ⟨#[]⟩, .int .i64 0, .int .i64 0, .slice none 0 0, .int .i64 0, .slice none 0 0]) (t := 52) ?hr ?_; (case hd => rfl); (case hg => rfl); (case hr => first | (go_simp; done) | (go_simp; rfl)); intro gb374 hg w4 hbox hb; have n0_ := Aside0.mk (blk_below (g := gb370) (o := .cells #[.int .i64 0, .int .i64 0, .int .i64 0, .int .i64 0, .string ⟨#[]⟩, .string ⟨#[]⟩, .int .i64 0, .int .i64 0, .slice none 0 0, .int .i64 0, .slice none 0 0] 52 (0, 0)) (by (with_reducible repeat first | apply q1 | apply q2 | apply q3); exact BK370.out) hb); have n1_ := Aside0.mk (below_step (by repeat (first | (with_reducible first | exact HB.out | apply s1 | apply s2 | apply s3 | refine s4 ?_ GE370.out) | exact HB.out)) hb); have n2_ := Aside0.mk (hbox); have n3_ := Aside0.mk ((by rw [hg]; exact (below_size (by repeat (first | (with_reducible first | exact HB.out | apply s1 | apply s2 | apply s3 | refine s4 ?_ GE370.out) | exact HB.out))) : w.heap.size ≤ gb374)); have n4_ := Aside0.mk ((by rw [hg]; exact (below_size (by repeat (first | (with_reducible first | exact HB.out | apply s1 | apply s2 | apply s3 | refine s4 ?_ GE370.out) | exact HB.out))) : w.heap.size ≤ gb374)); have n5_ := Aside0.mk ((by rw [hg]; exact Nat.ne_of_lt (blk_lt (g := gb370) (o := .cells #[.int .i64 0, .int .i64 0, .int .i64 0, .int .i64 0, .string ⟨#[]⟩, .string ⟨#[]⟩, .int .i64 0, .int .i64 0, .slice none 0 0, .int .i64 0, .slice none 0 0] 52 (0, 0)) (by (with_reducible repeat first | apply q1 | apply q2 | apply q3); exact BK370.out)) : gb370 ≠ gb374)); have n6_ := Aside0.mk ((by rw [hg]; exact Nat.ne_of_gt (blk_lt (g := gb370) (o := .cells #[.int .i64 0, .int .i64 0, .int .i64 0, .int .i64 0, .string ⟨#[]⟩, .string ⟨#[]⟩, .int .i64 0, .int .i64 0, .slice none 0 0, .int .i64 0, .slice none 0 0] 52 (0, 0)) (by (with_reducible repeat first | apply q1 | apply q2 | apply q3); exact BK370.out)) : gb374 ≠ gb370)); clear BK370; clear HB; have BK370 := n0_; have HB := n1_; have BK374 := n2_; have GW374 := n3_; have GE374 := n4_; have NB370_374 := n5_; have NB374_370 := n6_; clear n0_ n1_ n2_ n3_ n4_ n5_ n6_; clear hb hbox hg; have hnb5 := NB374_370.out; have hnc5 := NB370_374.out; have hcz6_0 : w4.cell? ⟨gb374, 0, none⟩ = some (.int .i64 0) := (blk_cell BK374.out 0).trans rfl; have hcz6_1 : w4.cell? ⟨gb374, 1, none⟩ = some (.int .i64 0) := (blk_cell BK374.out 1).trans rfl; have hcz6_2 : w4.cell? ⟨gb374, 2, none⟩ = some (.int .i64 0) := (blk_cell BK374.out 2).trans rfl; have hcz6_3 : w4.cell? ⟨gb374, 3, none⟩ = some (.int .i64 0) := (blk_cell BK374.out 3).trans rfl; have hcz6_4 : w4.cell? ⟨gb374, 4, none⟩ = some (.string ⟨#[]⟩) := (blk_cell BK374.out 4).trans rfl; have hcz6_5 : w4.cell? ⟨gb374, 5, none⟩ = some (.string ⟨#[]⟩) := (blk_cell BK374.out 5).trans rfl; have hcz6_6 : w4.cell? ⟨gb374, 6, none⟩ = some (.int .i64 0) := (blk_cell BK374.out 6).trans rfl; have hcz6_7 : w4.cell? ⟨gb374, 7, none⟩ = some (.int .i64 0) := (blk_cell BK374.out 7).trans rfl; have hcz6_8 : w4.cell? ⟨gb374, 8, none⟩ = some (.slice none 0 0) := (blk_cell BK374.out 8).trans rfl; have hcz6_9 : w4.cell? ⟨gb374, 9, none⟩ = some (.int .i64 0) := (blk_cell BK374.out 9).trans rfl; have hcz6_10 : w4.cell? ⟨gb374, 10, none⟩ = some (.slice none 0 0) := (blk_cell BK374.out 10).trans rfl; have hfz6_0 := blk_frozen BK374.out 0; have hfz6_1 := blk_frozen BK374.out 1; have hfz6_2 := blk_frozen BK374.out 2; have hfz6_3 := blk_frozen BK374.out 3; have hfz6_4 := blk_frozen BK374.out 4; have hfz6_5 := blk_frozen BK374.out 5; have hfz6_6 := blk_frozen BK374.out 6; have hfz6_7 := blk_frozen BK374.out 7; have hfz6_8 := blk_frozen BK374.out 8; have hfz6_9 := blk_frozen BK374.out 9; have hfz6_10 := blk_frozen BK374.out 10))
 go_loopg [8] k (fun kq v8 w' => ∃ (x8_1 : Int) (x375000_1 : Int), v8 = .int .i64 x8_1 ∧ Aside0 (script_Parse.l0 kq a0 t371 t372 t373 x8_1 x375000_1 0 0 0 (⟨#[]⟩ : ByteArray) (⟨#[]⟩ : ByteArray) 0 0 0 = some (r1, r2, r3, r4, r5, r6, r7, r8, r9, r10, r11, r12)) ∧ Aside0 (kq ≤ k) ∧ Aside0 (w'.heap[gb370]? = some (.cells #[.int .i64 0, .int .i64 0, .int .i64 0, .int .i64 0, .string ⟨#[]⟩, .string ⟨#[]⟩, .int .i64 0, .int .i64 0, (.slice none 0 0), .int .i64 0, (.slice none 0 0)] 52 (0, 0))) ∧ Aside0 (w'.heap[gb374]? = some (.cells #[.int .i64 x375000_1, .int .i64 0, .int .i64 0, .int .i64 0, .string ⟨#[]⟩, .string ⟨#[]⟩, .int .i64 0, .int .i64 0, (.slice none 0 0), .int .i64 0, (.slice none 0 0)] 52 (0, 0))) ∧ Aside0 (Below w.heap.size w w'))
 case atStart => exact ⟨(1), (0), (by first | rfl | (simp; done) | (simp [*]; done)), H', ⟨Nat.le_refl _⟩, ⟨by (with_reducible repeat first | apply q1 | apply q2 | apply q3); refine blk_far ?_ NB370_374.out _; (with_reducible repeat first | apply q1 | apply q2 | apply q3); refine blk_far ?_ NB370_374.out _; (with_reducible repeat first | apply q1 | apply q2 | apply q3); refine blk_far ?_ NB370_374.out _; (with_reducible repeat first | apply q1 | apply q2 | apply q3); refine blk_far ?_ NB370_374.out _; (with_reducible repeat first | apply q1 | apply q2 | apply q3); refine blk_far ?_ NB370_374.out _; (with_reducible repeat first | apply q1 | apply q2 | apply q3); refine blk_far ?_ NB370_374.out _; (with_reducible repeat first | apply q1 | apply q2 | apply q3); refine blk_far ?_ NB370_374.out _; (with_reducible repeat first | apply q1 | apply q2 | apply q3); refine blk_far ?_ NB370_374.out _; (with_reducible repeat first | apply q1 | apply q2 | apply q3); refine blk_far ?_ NB370_374.out _; (with_reducible repeat first | apply q1 | apply q2 | apply q3); refine blk_far ?_ NB370_374.out _; (with_reducible repeat first | apply q1 | apply q2 | apply q3); refine blk_far ?_ NB370_374.out _; (with_reducible repeat first | apply q1 | apply q2 | apply q3); exact BK370.out⟩, ⟨by (with_reducible repeat first | apply q1 | apply q2 | apply q3); refine blk_put (cs := #[.int .i64 0, .int .i64 0, .int .i64 0, .int .i64 0, .string ⟨#[]⟩, .string ⟨#[]⟩, .int .i64 0, .int .i64 0, .slice none 0 0, .int .i64 0, .slice none 0 0]) ?_ 10 _ rfl; (with_reducible repeat first | apply q1 | apply q2 | apply q3); refine blk_put (cs := #[.int .i64 0, .int .i64 0, .int .i64 0, .int .i64 0, .string ⟨#[]⟩, .string ⟨#[]⟩, .int .i64 0, .int .i64 0, .slice none 0 0, .int .i64 0, .slice none 0 0]) ?_ 9 _ rfl; (with_reducible repeat first | apply q1 | apply q2 | apply q3); refine blk_put (cs := #[.int .i64 0, .int .i64 0, .int .i64 0, .int .i64 0, .string ⟨#[]⟩, .string ⟨#[]⟩, .int .i64 0, .int .i64 0, .slice none 0 0, .int .i64 0, .slice none 0 0]) ?_ 8 _ rfl; (with_reducible repeat first | apply q1 | apply q2 | apply q3); refine blk_put (cs := #[.int .i64 0, .int .i64 0, .int .i64 0, .int .i64 0, .string ⟨#[]⟩, .string ⟨#[]⟩, .int .i64 0, .int .i64 0, .slice none 0 0, .int .i64 0, .slice none 0 0]) ?_ 7 _ rfl; (with_reducible repeat first | apply q1 | apply q2 | apply q3); refine blk_put (cs := #[.int .i64 0, .int .i64 0, .int .i64 0, .int .i64 0, .string ⟨#[]⟩, .string ⟨#[]⟩, .int .i64 0, .int .i64 0, .slice none 0 0, .int .i64 0, .slice none 0 0]) ?_ 6 _ rfl; (with_reducible repeat first | apply q1 | apply q2 | apply q3); refine blk_put (cs := #[.int .i64 0, .int .i64 0, .int .i64 0, .int .i64 0, .string ⟨#[]⟩, .string ⟨#[]⟩, .int .i64 0, .int .i64 0, .slice none 0 0, .int .i64 0, .slice none 0 0]) ?_ 5 _ rfl; (with_reducible repeat first | apply q1 | apply q2 | apply q3); refine blk_put (cs := #[.int .i64 0, .int .i64 0, .int .i64 0, .int .i64 0, .string ⟨#[]⟩, .string ⟨#[]⟩, .int .i64 0, .int .i64 0, .slice none 0 0, .int .i64 0, .slice none 0 0]) ?_ 4 _ rfl; (with_reducible repeat first | apply q1 | apply q2 | apply q3); refine blk_put (cs := #[.int .i64 0, .int .i64 0, .int .i64 0, .int .i64 0, .string ⟨#[]⟩, .string ⟨#[]⟩, .int .i64 0, .int .i64 0, .slice none 0 0, .int .i64 0, .slice none 0 0]) ?_ 3 _ rfl; (with_reducible repeat first | apply q1 | apply q2 | apply q3); refine blk_put (cs := #[.int .i64 0, .int .i64 0, .int .i64 0, .int .i64 0, .string ⟨#[]⟩, .string ⟨#[]⟩, .int .i64 0, .int .i64 0, .slice none 0 0, .int .i64 0, .slice none 0 0]) ?_ 2 _ rfl; (with_reducible repeat first | apply q1 | apply q2 | apply q3); refine blk_put (cs := #[.int .i64 0, .int .i64 0, .int .i64 0, .int .i64 0, .string ⟨#[]⟩, .string ⟨#[]⟩, .int .i64 0, .int .i64 0, .slice none 0 0, .int .i64 0, .slice none 0 0]) ?_ 1 _ rfl; (with_reducible repeat first | apply q1 | apply q2 | apply q3); refine blk_put (cs := #[.int .i64 0, .int .i64 0, .int .i64 0, .int .i64 0, .string ⟨#[]⟩, .string ⟨#[]⟩, .int .i64 0, .int .i64 0, .slice none 0 0, .int .i64 0, .slice none 0 0]) ?_ 0 _ rfl; (with_reducible repeat first | apply q1 | apply q2 | apply q3); exact BK374.out⟩, ⟨by repeat (first | (with_reducible first | exact HB.out | apply s1 | apply s2 | apply s3 | refine s4 ?_ GE370.out | refine s4 ?_ GE374.out) | exact HB.out)⟩⟩
 case round =>
  clear H'
  try clear c2
  try clear p2
  try clear c5
  try clear hcz6_0
  try clear hcz6_1
  try clear hcz6_10
  try clear hcz6_2
  try clear hcz6_3
  try clear hcz6_4
  try clear hcz6_5
  try clear hcz6_6
  try clear hcz6_7
  try clear hcz6_8
  try clear hcz6_9
  try clear hfz6_0
  try clear hfz6_1
  try clear hfz6_10
  try clear hfz6_2
  try clear hfz6_3
  try clear hfz6_4
  try clear hfz6_5
  try clear hfz6_6
  try clear hfz6_7
  try clear hfz6_8
  try clear hfz6_9
  obtain ⟨x8_1, x375000_1, rfl, HA, HK1, BK370, BK374, HB⟩ := hrel
  cases gk with
  | zero => exact absurd HA.out (by simp [script_Parse.l0])
  | succ k1 =>
   have H := HA.out
   clear HA
   simp only [script_Parse.l0] at H
   by_cases c7 : x8_1 ≤ 6
   ·rw [if_pos c7] at H
    have c7b0 : decide (x8_1 ≤ 6) = true := decide_eq_true c7
    clear c7
    replace H := Option.bind_eq_some_iff.mp H
    obtain ⟨t375, A80, H⟩ := H
    try dsimp only at H
    have A8 := Aside0.mk A80
    clear A80
    by_cases c9 : t375.toList = t371.toList
    ·rw [if_pos c9] at H
     have c9b0 : (t375.toList == t371.toList) = true := beq_iff_eq.mpr c9
     have c9b1 : (t375.toList != t371.toList) = false := bne_eq_false_iff_eq.mpr c9
     clear c9
     have H' := Aside0.mk H
     clear H
     go_wp2_with (first | ((with_reducible refine gate_callee (f := 50) rfl ?_); refine goesL_ (some 26) rfl rfl Tryz.func50 (by kernel_rfl) rfl #[.int .i64 x8_1] rfl (by (try simp only [List.map_toArray, List.map_cons, List.map_nil]); first | done | rfl | (simp only [List.length_drop, List.length_take]; rfl)) ?_; (with_reducible refine (script_word.calls x8_1 t375 _ A8.out).mono ?_); rintro e w10 ⟨rfl, hb⟩; refine ⟨_, rfl, ?_⟩; have n0_ := Aside0.mk (blk_below (g := gb370) (o := .cells #[.int .i64 0, .int .i64 0, .int .i64 0, .int .i64 0, .string ⟨#[]⟩, .string ⟨#[]⟩, .int .i64 0, .int .i64 0, .slice none 0 0, .int .i64 0, .slice none 0 0] 52 (0, 0)) (by (with_reducible repeat first | apply q1 | apply q2 | apply q3); exact BK370.out) hb); have n1_ := Aside0.mk (blk_below (g := gb374) (o := .cells #[.int .i64 x375000_1, .int .i64 0, .int .i64 0, .int .i64 0, .string ⟨#[]⟩, .string ⟨#[]⟩, .int .i64 0, .int .i64 0, .slice none 0 0, .int .i64 0, .slice none 0 0] 52 (0, 0)) (by (with_reducible repeat first | apply q1 | apply q2 | apply q3); exact BK374.out) hb); have n2_ := Aside0.mk (below_step (by repeat (first | (with_reducible first | exact HB.out | apply s1 | apply s2 | apply s3 | refine s4 ?_ GE370.out | refine s4 ?_ GE374.out) | exact HB.out)) hb); clear BK370; clear BK374; clear HB; have BK370 := n0_; have BK374 := n1_; have HB := n2_; clear n0_ n1_ n2_; (try clear hb); (try clear hb2); (try clear hk); (try clear hi); have hnb11 := NB374_370.out; have hnc11 := NB370_374.out; have hcz12_0 : w10.cell? ⟨gb374, 0, none⟩ = some (.int .i64 x375000_1) := (blk_cell BK374.out 0).trans rfl; have hcz12_1 : w10.cell? ⟨gb374, 1, none⟩ = some (.int .i64 0) := (blk_cell BK374.out 1).trans rfl; have hcz12_2 : w10.cell? ⟨gb374, 2, none⟩ = some (.int .i64 0) := (blk_cell BK374.out 2).trans rfl; have hcz12_3 : w10.cell? ⟨gb374, 3, none⟩ = some (.int .i64 0) := (blk_cell BK374.out 3).trans rfl; have hcz12_4 : w10.cell? ⟨gb374, 4, none⟩ = some (.string ⟨#[]⟩) := (blk_cell BK374.out 4).trans rfl; have hcz12_5 : w10.cell? ⟨gb374, 5, none⟩ = some (.string ⟨#[]⟩) := (blk_cell BK374.out 5).trans rfl; have hcz12_6 : w10.cell? ⟨gb374, 6, none⟩ = some (.int .i64 0) := (blk_cell BK374.out 6).trans rfl; have hcz12_7 : w10.cell? ⟨gb374, 7, none⟩ = some (.int .i64 0) := (blk_cell BK374.out 7).trans rfl; have hcz12_8 : w10.cell? ⟨gb374, 8, none⟩ = some (.slice none 0 0) := (blk_cell BK374.out 8).trans rfl; have hcz12_9 : w10.cell? ⟨gb374, 9, none⟩ = some (.int .i64 0) := (blk_cell BK374.out 9).trans rfl; have hcz12_10 : w10.cell? ⟨gb374, 10, none⟩ = some (.slice none 0 0) := (blk_cell BK374.out 10).trans rfl; have hfz12_0 := blk_frozen BK374.out 0; have hfz12_1 := blk_frozen BK374.out 1; have hfz12_2 := blk_frozen BK374.out 2; have hfz12_3 := blk_frozen BK374.out 3; have hfz12_4 := blk_frozen BK374.out 4; have hfz12_5 := blk_frozen BK374.out 5; have hfz12_6 := blk_frozen BK374.out 6; have hfz12_7 := blk_frozen BK374.out 7; have hfz12_8 := blk_frozen BK374.out 8; have hfz12_9 := blk_frozen BK374.out 9; have hfz12_10 := blk_frozen BK374.out 10))
     go_roundg k1
     case measure => have := HK1.out; omega
     case rel => exact ⟨(wrap64 (x8_1 + 1)), (x8_1), (by first | rfl | (simp; done) | (simp [*]; done)), H', ⟨by have := HK1.out; omega⟩, ⟨by (with_reducible repeat first | apply q1 | apply q2 | apply q3); refine blk_far ?_ NB370_374.out _; (with_reducible repeat first | apply q1 | apply q2 | apply q3); exact BK370.out⟩, ⟨by (with_reducible repeat first | apply q1 | apply q2 | apply q3); refine blk_put (cs := #[.int .i64 x375000_1, .int .i64 0, .int .i64 0, .int .i64 0, .string ⟨#[]⟩, .string ⟨#[]⟩, .int .i64 0, .int .i64 0, .slice none 0 0, .int .i64 0, .slice none 0 0]) ?_ 0 _ rfl; (with_reducible repeat first | apply q1 | apply q2 | apply q3); exact BK374.out⟩, ⟨by repeat (first | (with_reducible first | exact HB.out | apply s1 | apply s2 | apply s3 | refine s4 ?_ GE370.out | refine s4 ?_ GE374.out) | exact HB.out)⟩⟩
    ·rw [if_neg c9] at H
     have c9b0 : (t375.toList == t371.toList) = false := beq_eq_false_iff_ne.mpr c9
     have c9b1 : (t375.toList != t371.toList) = true := bne_iff_ne.mpr c9
     have H' := Aside0.mk H
     clear H
     go_wp2_with (first | ((with_reducible refine gate_callee (f := 50) rfl ?_); refine goesL_ (some 26) rfl rfl Tryz.func50 (by kernel_rfl) rfl #[.int .i64 x8_1] rfl (by (try simp only [List.map_toArray, List.map_cons, List.map_nil]); first | done | rfl | (simp only [List.length_drop, List.length_take]; rfl)) ?_; (with_reducible refine (script_word.calls x8_1 t375 _ A8.out).mono ?_); rintro e w13 ⟨rfl, hb⟩; refine ⟨_, rfl, ?_⟩; have n0_ := Aside0.mk (blk_below (g := gb370) (o := .cells #[.int .i64 0, .int .i64 0, .int .i64 0, .int .i64 0, .string ⟨#[]⟩, .string ⟨#[]⟩, .int .i64 0, .int .i64 0, .slice none 0 0, .int .i64 0, .slice none 0 0] 52 (0, 0)) (by (with_reducible repeat first | apply q1 | apply q2 | apply q3); exact BK370.out) hb); have n1_ := Aside0.mk (blk_below (g := gb374) (o := .cells #[.int .i64 x375000_1, .int .i64 0, .int .i64 0, .int .i64 0, .string ⟨#[]⟩, .string ⟨#[]⟩, .int .i64 0, .int .i64 0, .slice none 0 0, .int .i64 0, .slice none 0 0] 52 (0, 0)) (by (with_reducible repeat first | apply q1 | apply q2 | apply q3); exact BK374.out) hb); have n2_ := Aside0.mk (below_step (by repeat (first | (with_reducible first | exact HB.out | apply s1 | apply s2 | apply s3 | refine s4 ?_ GE370.out | refine s4 ?_ GE374.out) | exact HB.out)) hb); clear BK370; clear BK374; clear HB; have BK370 := n0_; have BK374 := n1_; have HB := n2_; clear n0_ n1_ n2_; (try clear hb); (try clear hb2); (try clear hk); (try clear hi)))
     go_roundg k1
     case measure => have := HK1.out; omega
     case rel => exact ⟨(wrap64 (x8_1 + 1)), (x375000_1), (by first | rfl | (simp; done) | (simp [*]; done)), H', ⟨by have := HK1.out; omega⟩, ⟨by (with_reducible repeat first | apply q1 | apply q2 | apply q3); exact BK370.out⟩, ⟨by (with_reducible repeat first | apply q1 | apply q2 | apply q3); exact BK374.out⟩, ⟨by repeat (first | (with_reducible first | exact HB.out | apply s1 | apply s2 | apply s3 | refine s4 ?_ GE370.out | refine s4 ?_ GE374.out) | exact HB.out)⟩⟩
   ·rw [if_neg c7] at H
    have c7b0 : decide (x8_1 ≤ 6) = false := decide_eq_false c7
    clear c7
    by_cases c14 : x375000_1 = 1
    ·rw [if_pos c14] at H
     have c14b0 : (x375000_1 == 1) = true := beq_iff_eq.mpr c14
     have c14b1 : (x375000_1 != 1) = false := bne_eq_false_iff_eq.mpr c14
     clear c14
     replace H := Option.bind_eq_some_iff.mp H
     obtain ⟨⟨t376, t377, t378⟩, A150, H⟩ := H
     try dsimp only at H
     have A15 := Aside0.mk A150
     clear A150
     replace H := Option.bind_eq_some_iff.mp H
     obtain ⟨t379, A160, H⟩ := H
     try dsimp only at H
     have A16 := Aside0.mk A160
     clear A160
     replace H := Option.bind_eq_some_iff.mp H
     obtain ⟨⟨t380, t381, t382, t383, t384, t385, t388, t389⟩, A170, H⟩ := H
     try dsimp only at H
     have A17 := Aside0.mk A170
     clear A170
     by_cases c18 : a0.toList = ([] : List UInt8)
     ·rw [if_pos c18] at H
      have c18b0 : (a0.toList == ([] : List UInt8)) = true := beq_iff_eq.mpr c18
      have c18b1 : (a0.toList != ([] : List UInt8)) = false := bne_eq_false_iff_eq.mpr c18
      clear c18
      simp only [Option.some.injEq, Prod.mk.injEq] at H
      obtain ⟨rfl, rfl, rfl, rfl, rfl, rfl, rfl, rfl, rfl, rfl, rfl, rfl⟩ := H
      have hnb19 := NB374_370.out
      have hnc19 := NB370_374.out
      have hcz20_0 : wr.cell? ⟨gb374, 0, none⟩ = some (.int .i64 x375000_1) := (blk_cell BK374.out 0).trans rfl
      have hcz20_1 : wr.cell? ⟨gb374, 1, none⟩ = some (.int .i64 0) := (blk_cell BK374.out 1).trans rfl
      have hcz20_2 : wr.cell? ⟨gb374, 2, none⟩ = some (.int .i64 0) := (blk_cell BK374.out 2).trans rfl
      have hcz20_3 : wr.cell? ⟨gb374, 3, none⟩ = some (.int .i64 0) := (blk_cell BK374.out 3).trans rfl
      have hcz20_4 : wr.cell? ⟨gb374, 4, none⟩ = some (.string ⟨#[]⟩) := (blk_cell BK374.out 4).trans rfl
      have hcz20_5 : wr.cell? ⟨gb374, 5, none⟩ = some (.string ⟨#[]⟩) := (blk_cell BK374.out 5).trans rfl
      have hcz20_6 : wr.cell? ⟨gb374, 6, none⟩ = some (.int .i64 0) := (blk_cell BK374.out 6).trans rfl
      have hcz20_7 : wr.cell? ⟨gb374, 7, none⟩ = some (.int .i64 0) := (blk_cell BK374.out 7).trans rfl
      have hcz20_8 : wr.cell? ⟨gb374, 8, none⟩ = some (.slice none 0 0) := (blk_cell BK374.out 8).trans rfl
      have hcz20_9 : wr.cell? ⟨gb374, 9, none⟩ = some (.int .i64 0) := (blk_cell BK374.out 9).trans rfl
      have hcz20_10 : wr.cell? ⟨gb374, 10, none⟩ = some (.slice none 0 0) := (blk_cell BK374.out 10).trans rfl
      have hfz20_0 := blk_frozen BK374.out 0
      have hfz20_1 := blk_frozen BK374.out 1
      have hfz20_2 := blk_frozen BK374.out 2
      have hfz20_3 := blk_frozen BK374.out 3
      have hfz20_4 := blk_frozen BK374.out 4
      have hfz20_5 := blk_frozen BK374.out 5
      have hfz20_6 := blk_frozen BK374.out 6
      have hfz20_7 := blk_frozen BK374.out 7
      have hfz20_8 := blk_frozen BK374.out 8
      have hfz20_9 := blk_frozen BK374.out 9
      have hfz20_10 := blk_frozen BK374.out 10
      go_wp2_with (first | ((with_reducible refine gate_callee (f := 53) rfl ?_); refine goesL_ (some 37) rfl rfl Tryz.func53 (by kernel_rfl) rfl #[.string t372, .string (⟨#[32]⟩ : ByteArray)] rfl (by (try simp only [List.map_toArray, List.map_cons, List.map_nil]); first | done | rfl | (simp only [List.length_drop, List.length_take]; rfl)) ?_; (with_reducible refine (strings_Cut.calls t372 (⟨#[32]⟩ : ByteArray) t376 t377 t378 _ A15.out).mono ?_); rintro e w' ⟨rfl, ⟨nd, rfl⟩⟩; refine ⟨_, rfl, ?_⟩; (try (rw [drewN_self wr]; generalize hq_ : World.drewN wr _ = wr; have n0_ : Aside0 (wr.heap[gb370]? = some (.cells #[.int .i64 0, .int .i64 0, .int .i64 0, .int .i64 0, .string ⟨#[]⟩, .string ⟨#[]⟩, .int .i64 0, .int .i64 0, .slice none 0 0, .int .i64 0, .slice none 0 0] 52 (0, 0))) := ⟨by rw [← hq_]; exact (by (with_reducible repeat first | apply q1 | apply q2 | apply q3); exact BK370.out)⟩; have n1_ : Aside0 (wr.heap[gb374]? = some (.cells #[.int .i64 x375000_1, .int .i64 0, .int .i64 0, .int .i64 0, .string ⟨#[]⟩, .string ⟨#[]⟩, .int .i64 0, .int .i64 0, .slice none 0 0, .int .i64 0, .slice none 0 0] 52 (0, 0))) := ⟨by rw [← hq_]; exact (by (with_reducible repeat first | apply q1 | apply q2 | apply q3); exact BK374.out)⟩; have n2_ : Aside0 (Below w.heap.size w wr) := ⟨by rw [← hq_]; exact (by repeat (first | (with_reducible first | exact HB.out | apply s1 | apply s2 | apply s3 | refine s4 ?_ GE370.out | refine s4 ?_ GE374.out) | exact HB.out))⟩; clear BK370 BK374 HB hq_; have BK370 := n0_; have BK374 := n1_; have HB := n2_; clear n0_ n1_ n2_))) | ((with_reducible refine gate_callee (f := 44) rfl ?_); refine goesL_ (some 42) rfl rfl Tryz.func44 (by kernel_rfl) rfl #[.string t376] rfl (by (try simp only [List.map_toArray, List.map_cons, List.map_nil]); first | done | rfl | (simp only [List.length_drop, List.length_take]; rfl)) ?_; (with_reducible refine (hist_Num.calls t376 t379 _ A16.out ?hT_).mono ?_); (case hT_ => exact Tabs.after HT.out (by repeat (first | (with_reducible first | exact HB.out | apply s1 | apply s2 | apply s3 | refine s4 ?_ GE370.out | refine s4 ?_ GE374.out) | exact HB.out))); rintro e w21 ⟨rfl, hb⟩; refine ⟨_, rfl, ?_⟩; have n0_ := Aside0.mk (blk_below (g := gb370) (o := .cells #[.int .i64 0, .int .i64 0, .int .i64 0, .int .i64 0, .string ⟨#[]⟩, .string ⟨#[]⟩, .int .i64 0, .int .i64 0, .slice none 0 0, .int .i64 0, .slice none 0 0] 52 (0, 0)) (by (with_reducible repeat first | apply q1 | apply q2 | apply q3); exact BK370.out) hb); have n1_ := Aside0.mk (blk_below (g := gb374) (o := .cells #[.int .i64 x375000_1, .int .i64 0, .int .i64 0, .int .i64 0, .string ⟨#[]⟩, .string ⟨#[]⟩, .int .i64 0, .int .i64 0, .slice none 0 0, .int .i64 0, .slice none 0 0] 52 (0, 0)) (by (with_reducible repeat first | apply q1 | apply q2 | apply q3); exact BK374.out) hb); have n2_ := Aside0.mk (below_step (by repeat (first | (with_reducible first | exact HB.out | apply s1 | apply s2 | apply s3 | refine s4 ?_ GE370.out | refine s4 ?_ GE374.out) | exact HB.out)) hb); clear BK370; clear BK374; clear HB; have BK370 := n0_; have BK374 := n1_; have HB := n2_; clear n0_ n1_ n2_; (try clear hb); (try clear hb2); (try clear hk); (try clear hi); have hcz22_0 : w21.cell? ⟨gb374, 0, none⟩ = some (.int .i64 x375000_1) := (blk_cell BK374.out 0).trans rfl; have hcz22_1 : w21.cell? ⟨gb374, 1, none⟩ = some (.int .i64 0) := (blk_cell BK374.out 1).trans rfl; have hcz22_2 : w21.cell? ⟨gb374, 2, none⟩ = some (.int .i64 0) := (blk_cell BK374.out 2).trans rfl; have hcz22_3 : w21.cell? ⟨gb374, 3, none⟩ = some (.int .i64 0) := (blk_cell BK374.out 3).trans rfl; have hcz22_4 : w21.cell? ⟨gb374, 4, none⟩ = some (.string ⟨#[]⟩) := (blk_cell BK374.out 4).trans rfl; have hcz22_5 : w21.cell? ⟨gb374, 5, none⟩ = some (.string ⟨#[]⟩) := (blk_cell BK374.out 5).trans rfl; have hcz22_6 : w21.cell? ⟨gb374, 6, none⟩ = some (.int .i64 0) := (blk_cell BK374.out 6).trans rfl; have hcz22_7 : w21.cell? ⟨gb374, 7, none⟩ = some (.int .i64 0) := (blk_cell BK374.out 7).trans rfl; have hcz22_8 : w21.cell? ⟨gb374, 8, none⟩ = some (.slice none 0 0) := (blk_cell BK374.out 8).trans rfl; have hcz22_9 : w21.cell? ⟨gb374, 9, none⟩ = some (.int .i64 0) := (blk_cell BK374.out 9).trans rfl; have hcz22_10 : w21.cell? ⟨gb374, 10, none⟩ = some (.slice none 0 0) := (blk_cell BK374.out 10).trans rfl; have hfz22_0 := blk_frozen BK374.out 0; have hfz22_1 := blk_frozen BK374.out 1; have hfz22_2 := blk_frozen BK374.out 2; have hfz22_3 := blk_frozen BK374.out 3; have hfz22_4 := blk_frozen BK374.out 4; have hfz22_5 := blk_frozen BK374.out 5; have hfz22_6 := blk_frozen BK374.out 6; have hfz22_7 := blk_frozen BK374.out 7; have hfz22_8 := blk_frozen BK374.out 8; have hfz22_9 := blk_frozen BK374.out 9; have hfz22_10 := blk_frozen BK374.out 10) | ((with_reducible refine gate_callee (f := 13) rfl ?_); refine goesL_ (some 46) rfl rfl Tryz.func13 (by kernel_rfl) rfl #[.string t377] rfl (by (try simp only [List.map_toArray, List.map_cons, List.map_nil]); first | done | rfl | (simp only [List.length_drop, List.length_take]; rfl)) ?_; (with_reducible refine (hist_ParseOp.calls k1 t377 t380 t381 t382 t383 t384 t385 t388 t389 _ A17.out ?hT_).mono ?_); (case hT_ => exact Tabs.after HT.out (by repeat (first | (with_reducible first | exact HB.out | apply s1 | apply s2 | apply s3 | refine s4 ?_ GE370.out | refine s4 ?_ GE374.out) | exact HB.out))); rintro e w23 ⟨v386, rfl, ho0, hb⟩; refine ⟨_, rfl, ?_⟩; have n0_ := Aside0.mk (Kd.R_lower ho0 (below_size (by repeat (first | (with_reducible first | exact HB.out | apply s1 | apply s2 | apply s3 | refine s4 ?_ GE370.out | refine s4 ?_ GE374.out) | exact HB.out)))); have n1_ := Aside0.mk (blk_below (g := gb370) (o := .cells #[.int .i64 0, .int .i64 0, .int .i64 0, .int .i64 0, .string ⟨#[]⟩, .string ⟨#[]⟩, .int .i64 0, .int .i64 0, .slice none 0 0, .int .i64 0, .slice none 0 0] 52 (0, 0)) (by (with_reducible repeat first | apply q1 | apply q2 | apply q3); refine blk_far ?_ NB370_374.out _; (with_reducible repeat first | apply q1 | apply q2 | apply q3); exact BK370.out) hb); have n2_ := Aside0.mk (blk_below (g := gb374) (o := .cells #[.int .i64 x375000_1, .int .i64 t379, .int .i64 0, .int .i64 0, .string ⟨#[]⟩, .string ⟨#[]⟩, .int .i64 0, .int .i64 0, .slice none 0 0, .int .i64 0, .slice none 0 0] 52 (0, 0)) (by (with_reducible repeat first | apply q1 | apply q2 | apply q3); refine blk_put (cs := #[.int .i64 x375000_1, .int .i64 0, .int .i64 0, .int .i64 0, .string ⟨#[]⟩, .string ⟨#[]⟩, .int .i64 0, .int .i64 0, .slice none 0 0, .int .i64 0, .slice none 0 0]) ?_ 1 _ rfl; (with_reducible repeat first | apply q1 | apply q2 | apply q3); exact BK374.out) hb); have n3_ := Aside0.mk (below_step (by repeat (first | (with_reducible first | exact HB.out | apply s1 | apply s2 | apply s3 | refine s4 ?_ GE370.out | refine s4 ?_ GE374.out) | exact HB.out)) hb); clear BK370; clear BK374; clear HB; have HO387 := n0_; have BK370 := n1_; have BK374 := n2_; have HB := n3_; clear n0_ n1_ n2_ n3_; (try clear hb); (try clear hb2); (try clear hk); (try clear hi); (try clear ho0); (try simp only [errW_none, errW_some]); have hcz24_0 : w23.cell? ⟨gb374, 0, none⟩ = some (.int .i64 x375000_1) := (blk_cell BK374.out 0).trans rfl; have hcz24_1 : w23.cell? ⟨gb374, 1, none⟩ = some (.int .i64 t379) := (blk_cell BK374.out 1).trans rfl; have hcz24_2 : w23.cell? ⟨gb374, 2, none⟩ = some (.int .i64 0) := (blk_cell BK374.out 2).trans rfl; have hcz24_3 : w23.cell? ⟨gb374, 3, none⟩ = some (.int .i64 0) := (blk_cell BK374.out 3).trans rfl; have hcz24_4 : w23.cell? ⟨gb374, 4, none⟩ = some (.string ⟨#[]⟩) := (blk_cell BK374.out 4).trans rfl; have hcz24_5 : w23.cell? ⟨gb374, 5, none⟩ = some (.string ⟨#[]⟩) := (blk_cell BK374.out 5).trans rfl; have hcz24_6 : w23.cell? ⟨gb374, 6, none⟩ = some (.int .i64 0) := (blk_cell BK374.out 6).trans rfl; have hcz24_7 : w23.cell? ⟨gb374, 7, none⟩ = some (.int .i64 0) := (blk_cell BK374.out 7).trans rfl; have hcz24_8 : w23.cell? ⟨gb374, 8, none⟩ = some (.slice none 0 0) := (blk_cell BK374.out 8).trans rfl; have hcz24_9 : w23.cell? ⟨gb374, 9, none⟩ = some (.int .i64 0) := (blk_cell BK374.out 9).trans rfl; have hcz24_10 : w23.cell? ⟨gb374, 10, none⟩ = some (.slice none 0 0) := (blk_cell BK374.out 10).trans rfl; have hfz24_0 := blk_frozen BK374.out 0; have hfz24_1 := blk_frozen BK374.out 1; have hfz24_2 := blk_frozen BK374.out 2; have hfz24_3 := blk_frozen BK374.out 3; have hfz24_4 := blk_frozen BK374.out 4; have hfz24_5 := blk_frozen BK374.out 5; have hfz24_6 := blk_frozen BK374.out 6; have hfz24_7 := blk_frozen BK374.out 7; have hfz24_8 := blk_frozen BK374.out 8; have hfz24_9 := blk_frozen BK374.out 9; have hfz24_10 := blk_frozen BK374.out 10; obtain ⟨Ao25, co25, eo25⟩ := Kd.R_slice HO387.out; subst eo25; have hcz26_0 : w23.cell? ⟨gb370, 0, none⟩ = some (.int .i64 0) := (blk_cell BK370.out 0).trans rfl; have hcz26_1 : w23.cell? ⟨gb370, 1, none⟩ = some (.int .i64 0) := (blk_cell BK370.out 1).trans rfl; have hcz26_2 : w23.cell? ⟨gb370, 2, none⟩ = some (.int .i64 0) := (blk_cell BK370.out 2).trans rfl; have hcz26_3 : w23.cell? ⟨gb370, 3, none⟩ = some (.int .i64 0) := (blk_cell BK370.out 3).trans rfl; have hcz26_4 : w23.cell? ⟨gb370, 4, none⟩ = some (.string ⟨#[]⟩) := (blk_cell BK370.out 4).trans rfl; have hcz26_5 : w23.cell? ⟨gb370, 5, none⟩ = some (.string ⟨#[]⟩) := (blk_cell BK370.out 5).trans rfl; have hcz26_6 : w23.cell? ⟨gb370, 6, none⟩ = some (.int .i64 0) := (blk_cell BK370.out 6).trans rfl; have hcz26_7 : w23.cell? ⟨gb370, 7, none⟩ = some (.int .i64 0) := (blk_cell BK370.out 7).trans rfl; have hcz26_8 : w23.cell? ⟨gb370, 8, none⟩ = some (.slice none 0 0) := (blk_cell BK370.out 8).trans rfl; have hcz26_9 : w23.cell? ⟨gb370, 9, none⟩ = some (.int .i64 0) := (blk_cell BK370.out 9).trans rfl; have hcz26_10 : w23.cell? ⟨gb370, 10, none⟩ = some (.slice none 0 0) := (blk_cell BK370.out 10).trans rfl; have hfz26_0 := blk_frozen BK370.out 0; have hfz26_1 := blk_frozen BK370.out 1; have hfz26_2 := blk_frozen BK370.out 2; have hfz26_3 := blk_frozen BK370.out 3; have hfz26_4 := blk_frozen BK370.out 4; have hfz26_5 := blk_frozen BK370.out 5; have hfz26_6 := blk_frozen BK370.out 6; have hfz26_7 := blk_frozen BK370.out 7; have hfz26_8 := blk_frozen BK370.out 8; have hfz26_9 := blk_frozen BK370.out 9; have hfz26_10 := blk_frozen BK370.out 10))
      refine bodyPost_ret (results_ct rfl _ _ gb370 52 #[.int .i64 0, .int .i64 0, .int .i64 0, .int .i64 0, .string ⟨#[]⟩, .string ⟨#[]⟩, .int .i64 0, .int .i64 0, .slice none 0 0, .int .i64 0, .slice none 0 0] (0, 0) _ rfl (by (with_reducible repeat first | apply q1 | apply q2 | apply q3); refine q5 ?_ 10 _ rfl; refine q5 ?_ 9 _ rfl; refine q5 ?_ 8 _ rfl; refine q5 ?_ 7 _ rfl; refine q5 ?_ 6 _ rfl; refine q5 ?_ 5 _ rfl; refine q5 ?_ 4 _ rfl; refine q5 ?_ 3 _ rfl; refine q5 ?_ 2 _ rfl; refine q5 ?_ 1 _ rfl; refine q5 ?_ 0 _ rfl; (with_reducible repeat first | apply q1 | apply q2 | apply q3); refine blk_far ?_ NB370_374.out _; (with_reducible repeat first | apply q1 | apply q2 | apply q3); refine blk_far ?_ NB370_374.out _; (with_reducible repeat first | apply q1 | apply q2 | apply q3); refine blk_far ?_ NB370_374.out _; (with_reducible repeat first | apply q1 | apply q2 | apply q3); refine blk_far ?_ NB370_374.out _; (with_reducible repeat first | apply q1 | apply q2 | apply q3); refine blk_far ?_ NB370_374.out _; (with_reducible repeat first | apply q1 | apply q2 | apply q3); refine blk_far ?_ NB370_374.out _; (with_reducible repeat first | apply q1 | apply q2 | apply q3); refine blk_far ?_ NB370_374.out _; (with_reducible repeat first | apply q1 | apply q2 | apply q3); exact BK370.out) Tryz.underlying52 rfl (by kernel_rfl)) rfl ?_
      exact ⟨_, _, by first | rfl | (simp [errW_none, errW_some] <;> rfl) | (simp [*, errW_none, errW_some] <;> rfl), by exact Kd.R_nil _ _ _ _ _, by exact Kd.R_nil _ _ _ _ _, by repeat (first | (with_reducible first | exact HB.out | apply s1 | apply s2 | apply s3 | refine s4 ?_ GE370.out | refine s4 ?_ GE374.out) | exact HB.out)⟩
     ·rw [if_neg c18] at H
      have c18b0 : (a0.toList == ([] : List UInt8)) = false := beq_eq_false_iff_ne.mpr c18
      have c18b1 : (a0.toList != ([] : List UInt8)) = true := bne_iff_ne.mpr c18
      replace H := Option.bind_eq_some_iff.mp H
      obtain ⟨t390, A270, H⟩ := H
      try dsimp only at H
      have A27 := Aside0.mk A270
      clear A270
      by_cases c28 : t390.toList = a0.toList
      ·rw [if_pos c28] at H
       have c28b0 : (t390.toList == a0.toList) = true := beq_iff_eq.mpr c28
       have c28b1 : (t390.toList != a0.toList) = false := bne_eq_false_iff_eq.mpr c28
       clear c28
       simp only [Option.some.injEq, Prod.mk.injEq] at H
       obtain ⟨rfl, rfl, rfl, rfl, rfl, rfl, rfl, rfl, rfl, rfl, rfl, rfl⟩ := H
       have hnb29 := NB374_370.out
       have hnc29 := NB370_374.out
       have hcz30_0 : wr.cell? ⟨gb374, 0, none⟩ = some (.int .i64 x375000_1) := (blk_cell BK374.out 0).trans rfl
       have hcz30_1 : wr.cell? ⟨gb374, 1, none⟩ = some (.int .i64 0) := (blk_cell BK374.out 1).trans rfl
       have hcz30_2 : wr.cell? ⟨gb374, 2, none⟩ = some (.int .i64 0) := (blk_cell BK374.out 2).trans rfl
       have hcz30_3 : wr.cell? ⟨gb374, 3, none⟩ = some (.int .i64 0) := (blk_cell BK374.out 3).trans rfl
       have hcz30_4 : wr.cell? ⟨gb374, 4, none⟩ = some (.string ⟨#[]⟩) := (blk_cell BK374.out 4).trans rfl
       have hcz30_5 : wr.cell? ⟨gb374, 5, none⟩ = some (.string ⟨#[]⟩) := (blk_cell BK374.out 5).trans rfl
       have hcz30_6 : wr.cell? ⟨gb374, 6, none⟩ = some (.int .i64 0) := (blk_cell BK374.out 6).trans rfl
       have hcz30_7 : wr.cell? ⟨gb374, 7, none⟩ = some (.int .i64 0) := (blk_cell BK374.out 7).trans rfl
       have hcz30_8 : wr.cell? ⟨gb374, 8, none⟩ = some (.slice none 0 0) := (blk_cell BK374.out 8).trans rfl
       have hcz30_9 : wr.cell? ⟨gb374, 9, none⟩ = some (.int .i64 0) := (blk_cell BK374.out 9).trans rfl
       have hcz30_10 : wr.cell? ⟨gb374, 10, none⟩ = some (.slice none 0 0) := (blk_cell BK374.out 10).trans rfl
       have hfz30_0 := blk_frozen BK374.out 0
       have hfz30_1 := blk_frozen BK374.out 1
       have hfz30_2 := blk_frozen BK374.out 2
       have hfz30_3 := blk_frozen BK374.out 3
       have hfz30_4 := blk_frozen BK374.out 4
       have hfz30_5 := blk_frozen BK374.out 5
       have hfz30_6 := blk_frozen BK374.out 6
       have hfz30_7 := blk_frozen BK374.out 7
       have hfz30_8 := blk_frozen BK374.out 8
       have hfz30_9 := blk_frozen BK374.out 9
       have hfz30_10 := blk_frozen BK374.out 10
       go_wp2_with (first | ((with_reducible refine gate_callee (f := 53) rfl ?_); refine goesL_ (some 37) rfl rfl Tryz.func53 (by kernel_rfl) rfl #[.string t372, .string (⟨#[32]⟩ : ByteArray)] rfl (by (try simp only [List.map_toArray, List.map_cons, List.map_nil]); first | done | rfl | (simp only [List.length_drop, List.length_take]; rfl)) ?_; (with_reducible refine (strings_Cut.calls t372 (⟨#[32]⟩ : ByteArray) t376 t377 t378 _ A15.out).mono ?_); rintro e w' ⟨rfl, ⟨nd, rfl⟩⟩; refine ⟨_, rfl, ?_⟩; (try (rw [drewN_self wr]; generalize hq_ : World.drewN wr _ = wr; have n0_ : Aside0 (wr.heap[gb370]? = some (.cells #[.int .i64 0, .int .i64 0, .int .i64 0, .int .i64 0, .string ⟨#[]⟩, .string ⟨#[]⟩, .int .i64 0, .int .i64 0, .slice none 0 0, .int .i64 0, .slice none 0 0] 52 (0, 0))) := ⟨by rw [← hq_]; exact (by (with_reducible repeat first | apply q1 | apply q2 | apply q3); exact BK370.out)⟩; have n1_ : Aside0 (wr.heap[gb374]? = some (.cells #[.int .i64 x375000_1, .int .i64 0, .int .i64 0, .int .i64 0, .string ⟨#[]⟩, .string ⟨#[]⟩, .int .i64 0, .int .i64 0, .slice none 0 0, .int .i64 0, .slice none 0 0] 52 (0, 0))) := ⟨by rw [← hq_]; exact (by (with_reducible repeat first | apply q1 | apply q2 | apply q3); exact BK374.out)⟩; have n2_ : Aside0 (Below w.heap.size w wr) := ⟨by rw [← hq_]; exact (by repeat (first | (with_reducible first | exact HB.out | apply s1 | apply s2 | apply s3 | refine s4 ?_ GE370.out | refine s4 ?_ GE374.out) | exact HB.out))⟩; clear BK370 BK374 HB hq_; have BK370 := n0_; have BK374 := n1_; have HB := n2_; clear n0_ n1_ n2_))) | ((with_reducible refine gate_callee (f := 44) rfl ?_); refine goesL_ (some 42) rfl rfl Tryz.func44 (by kernel_rfl) rfl #[.string t376] rfl (by (try simp only [List.map_toArray, List.map_cons, List.map_nil]); first | done | rfl | (simp only [List.length_drop, List.length_take]; rfl)) ?_; (with_reducible refine (hist_Num.calls t376 t379 _ A16.out ?hT_).mono ?_); (case hT_ => exact Tabs.after HT.out (by repeat (first | (with_reducible first | exact HB.out | apply s1 | apply s2 | apply s3 | refine s4 ?_ GE370.out | refine s4 ?_ GE374.out) | exact HB.out))); rintro e w31 ⟨rfl, hb⟩; refine ⟨_, rfl, ?_⟩; have n0_ := Aside0.mk (blk_below (g := gb370) (o := .cells #[.int .i64 0, .int .i64 0, .int .i64 0, .int .i64 0, .string ⟨#[]⟩, .string ⟨#[]⟩, .int .i64 0, .int .i64 0, .slice none 0 0, .int .i64 0, .slice none 0 0] 52 (0, 0)) (by (with_reducible repeat first | apply q1 | apply q2 | apply q3); exact BK370.out) hb); have n1_ := Aside0.mk (blk_below (g := gb374) (o := .cells #[.int .i64 x375000_1, .int .i64 0, .int .i64 0, .int .i64 0, .string ⟨#[]⟩, .string ⟨#[]⟩, .int .i64 0, .int .i64 0, .slice none 0 0, .int .i64 0, .slice none 0 0] 52 (0, 0)) (by (with_reducible repeat first | apply q1 | apply q2 | apply q3); exact BK374.out) hb); have n2_ := Aside0.mk (below_step (by repeat (first | (with_reducible first | exact HB.out | apply s1 | apply s2 | apply s3 | refine s4 ?_ GE370.out | refine s4 ?_ GE374.out) | exact HB.out)) hb); clear BK370; clear BK374; clear HB; have BK370 := n0_; have BK374 := n1_; have HB := n2_; clear n0_ n1_ n2_; (try clear hb); (try clear hb2); (try clear hk); (try clear hi); have hcz32_0 : w31.cell? ⟨gb374, 0, none⟩ = some (.int .i64 x375000_1) := (blk_cell BK374.out 0).trans rfl; have hcz32_1 : w31.cell? ⟨gb374, 1, none⟩ = some (.int .i64 0) := (blk_cell BK374.out 1).trans rfl; have hcz32_2 : w31.cell? ⟨gb374, 2, none⟩ = some (.int .i64 0) := (blk_cell BK374.out 2).trans rfl; have hcz32_3 : w31.cell? ⟨gb374, 3, none⟩ = some (.int .i64 0) := (blk_cell BK374.out 3).trans rfl; have hcz32_4 : w31.cell? ⟨gb374, 4, none⟩ = some (.string ⟨#[]⟩) := (blk_cell BK374.out 4).trans rfl; have hcz32_5 : w31.cell? ⟨gb374, 5, none⟩ = some (.string ⟨#[]⟩) := (blk_cell BK374.out 5).trans rfl; have hcz32_6 : w31.cell? ⟨gb374, 6, none⟩ = some (.int .i64 0) := (blk_cell BK374.out 6).trans rfl; have hcz32_7 : w31.cell? ⟨gb374, 7, none⟩ = some (.int .i64 0) := (blk_cell BK374.out 7).trans rfl; have hcz32_8 : w31.cell? ⟨gb374, 8, none⟩ = some (.slice none 0 0) := (blk_cell BK374.out 8).trans rfl; have hcz32_9 : w31.cell? ⟨gb374, 9, none⟩ = some (.int .i64 0) := (blk_cell BK374.out 9).trans rfl; have hcz32_10 : w31.cell? ⟨gb374, 10, none⟩ = some (.slice none 0 0) := (blk_cell BK374.out 10).trans rfl; have hfz32_0 := blk_frozen BK374.out 0; have hfz32_1 := blk_frozen BK374.out 1; have hfz32_2 := blk_frozen BK374.out 2; have hfz32_3 := blk_frozen BK374.out 3; have hfz32_4 := blk_frozen BK374.out 4; have hfz32_5 := blk_frozen BK374.out 5; have hfz32_6 := blk_frozen BK374.out 6; have hfz32_7 := blk_frozen BK374.out 7; have hfz32_8 := blk_frozen BK374.out 8; have hfz32_9 := blk_frozen BK374.out 9; have hfz32_10 := blk_frozen BK374.out 10) | ((with_reducible refine gate_callee (f := 13) rfl ?_); refine goesL_ (some 46) rfl rfl Tryz.func13 (by kernel_rfl) rfl #[.string t377] rfl (by (try simp only [List.map_toArray, List.map_cons, List.map_nil]); first | done | rfl | (simp only [List.length_drop, List.length_take]; rfl)) ?_; (with_reducible refine (hist_ParseOp.calls k1 t377 t380 t381 t382 t383 t384 t385 t388 t389 _ A17.out ?hT_).mono ?_); (case hT_ => exact Tabs.after HT.out (by repeat (first | (with_reducible first | exact HB.out | apply s1 | apply s2 | apply s3 | refine s4 ?_ GE370.out | refine s4 ?_ GE374.out) | exact HB.out))); rintro e w33 ⟨v386, rfl, ho0, hb⟩; refine ⟨_, rfl, ?_⟩; have n0_ := Aside0.mk (Kd.R_lower ho0 (below_size (by repeat (first | (with_reducible first | exact HB.out | apply s1 | apply s2 | apply s3 | refine s4 ?_ GE370.out | refine s4 ?_ GE374.out) | exact HB.out)))); have n1_ := Aside0.mk (blk_below (g := gb370) (o := .cells #[.int .i64 0, .int .i64 0, .int .i64 0, .int .i64 0, .string ⟨#[]⟩, .string ⟨#[]⟩, .int .i64 0, .int .i64 0, .slice none 0 0, .int .i64 0, .slice none 0 0] 52 (0, 0)) (by (with_reducible repeat first | apply q1 | apply q2 | apply q3); refine blk_far ?_ NB370_374.out _; (with_reducible repeat first | apply q1 | apply q2 | apply q3); exact BK370.out) hb); have n2_ := Aside0.mk (blk_below (g := gb374) (o := .cells #[.int .i64 x375000_1, .int .i64 t379, .int .i64 0, .int .i64 0, .string ⟨#[]⟩, .string ⟨#[]⟩, .int .i64 0, .int .i64 0, .slice none 0 0, .int .i64 0, .slice none 0 0] 52 (0, 0)) (by (with_reducible repeat first | apply q1 | apply q2 | apply q3); refine blk_put (cs := #[.int .i64 x375000_1, .int .i64 0, .int .i64 0, .int .i64 0, .string ⟨#[]⟩, .string ⟨#[]⟩, .int .i64 0, .int .i64 0, .slice none 0 0, .int .i64 0, .slice none 0 0]) ?_ 1 _ rfl; (with_reducible repeat first | apply q1 | apply q2 | apply q3); exact BK374.out) hb); have n3_ := Aside0.mk (below_step (by repeat (first | (with_reducible first | exact HB.out | apply s1 | apply s2 | apply s3 | refine s4 ?_ GE370.out | refine s4 ?_ GE374.out) | exact HB.out)) hb); clear BK370; clear BK374; clear HB; have HO387 := n0_; have BK370 := n1_; have BK374 := n2_; have HB := n3_; clear n0_ n1_ n2_ n3_; (try clear hb); (try clear hb2); (try clear hk); (try clear hi); (try clear ho0); (try simp only [errW_none, errW_some]); have hcz34_0 : w33.cell? ⟨gb374, 0, none⟩ = some (.int .i64 x375000_1) := (blk_cell BK374.out 0).trans rfl; have hcz34_1 : w33.cell? ⟨gb374, 1, none⟩ = some (.int .i64 t379) := (blk_cell BK374.out 1).trans rfl; have hcz34_2 : w33.cell? ⟨gb374, 2, none⟩ = some (.int .i64 0) := (blk_cell BK374.out 2).trans rfl; have hcz34_3 : w33.cell? ⟨gb374, 3, none⟩ = some (.int .i64 0) := (blk_cell BK374.out 3).trans rfl; have hcz34_4 : w33.cell? ⟨gb374, 4, none⟩ = some (.string ⟨#[]⟩) := (blk_cell BK374.out 4).trans rfl; have hcz34_5 : w33.cell? ⟨gb374, 5, none⟩ = some (.string ⟨#[]⟩) := (blk_cell BK374.out 5).trans rfl; have hcz34_6 : w33.cell? ⟨gb374, 6, none⟩ = some (.int .i64 0) := (blk_cell BK374.out 6).trans rfl; have hcz34_7 : w33.cell? ⟨gb374, 7, none⟩ = some (.int .i64 0) := (blk_cell BK374.out 7).trans rfl; have hcz34_8 : w33.cell? ⟨gb374, 8, none⟩ = some (.slice none 0 0) := (blk_cell BK374.out 8).trans rfl; have hcz34_9 : w33.cell? ⟨gb374, 9, none⟩ = some (.int .i64 0) := (blk_cell BK374.out 9).trans rfl; have hcz34_10 : w33.cell? ⟨gb374, 10, none⟩ = some (.slice none 0 0) := (blk_cell BK374.out 10).trans rfl; have hfz34_0 := blk_frozen BK374.out 0; have hfz34_1 := blk_frozen BK374.out 1; have hfz34_2 := blk_frozen BK374.out 2; have hfz34_3 := blk_frozen BK374.out 3; have hfz34_4 := blk_frozen BK374.out 4; have hfz34_5 := blk_frozen BK374.out 5; have hfz34_6 := blk_frozen BK374.out 6; have hfz34_7 := blk_frozen BK374.out 7; have hfz34_8 := blk_frozen BK374.out 8; have hfz34_9 := blk_frozen BK374.out 9; have hfz34_10 := blk_frozen BK374.out 10; obtain ⟨Ao35, co35, eo35⟩ := Kd.R_slice HO387.out; subst eo35) | (go_at_call 22; (refine (script_Text.calls x375000_1 t379 0 t380 t381 t382 t383 t384 _ _ t385 t388 _ _ ([] : List Int) t390 _ ?side1 ?side2 ?side3 ?side4 A27.out ?hT_).mono ?_); (case hT_ => exact Tabs.after HT.out (by repeat (first | (with_reducible first | exact HB.out | apply s1 | apply s2 | apply s3 | refine s4 ?_ GE370.out | refine s4 ?_ GE374.out) | exact HB.out))); (case side1 => refine (Kd.R_reads' (e := 5) (base := w.heap.size) (ok := fun k_ => True) (n := t385.length) (c := co35) ?_).2.2; exact (by (with_reducible repeat first | apply r1 | apply r2 | apply r3); exact (Kd.R_mono (Kd.R_far (p := ⟨gb374, 9, none⟩) (Kd.R_far (p := ⟨gb374, 8, none⟩) (Kd.R_far (p := ⟨gb374, 7, none⟩) (Kd.R_far (p := ⟨gb374, 6, none⟩) (Kd.R_far (p := ⟨gb374, 5, none⟩) (Kd.R_far (p := ⟨gb374, 4, none⟩) (Kd.R_far (p := ⟨gb374, 3, none⟩) (Kd.R_types HO387.out BK374.out (by decide)) (fun _ hk => hk.2) (.int .i64 t380)) (fun _ hk => hk.2) (.string t381)) (fun _ hk => hk.2) (.string t382)) (fun _ hk => hk.2) (.int .i64 t383)) (fun _ hk => hk.2) (.int .i64 t384)) (fun _ hk => hk.2) (.slice Ao35 t385.length co35)) (fun _ hk => hk.2) (.int .i64 t388)) (fun _ h_ => h_.1)))); (case side2 => exact (Kd.R_reads' HO387.out).2.1); (case side3 => exact Kd.C_nil _ _); (case side4 => exact Nat.le_refl _); rintro e w36 ⟨rfl, hb⟩; have n0_ := Aside0.mk (Kd.R_below (by (with_reducible repeat first | apply r1 | apply r2 | apply r3); exact (Kd.R_mono (Kd.R_far (p := ⟨gb374, 9, none⟩) (Kd.R_far (p := ⟨gb374, 8, none⟩) (Kd.R_far (p := ⟨gb374, 7, none⟩) (Kd.R_far (p := ⟨gb374, 6, none⟩) (Kd.R_far (p := ⟨gb374, 5, none⟩) (Kd.R_far (p := ⟨gb374, 4, none⟩) (Kd.R_far (p := ⟨gb374, 3, none⟩) (Kd.R_types HO387.out BK374.out (by decide)) (fun _ hk => hk.2) (.int .i64 t380)) (fun _ hk => hk.2) (.string t381)) (fun _ hk => hk.2) (.string t382)) (fun _ hk => hk.2) (.int .i64 t383)) (fun _ hk => hk.2) (.int .i64 t384)) (fun _ hk => hk.2) (.slice Ao35 t385.length co35)) (fun _ hk => hk.2) (.int .i64 t388)) (fun _ h_ => h_.1))) hb); have n1_ := Aside0.mk (blk_below (g := gb370) (o := .cells #[.int .i64 0, .int .i64 0, .int .i64 0, .int .i64 0, .string ⟨#[]⟩, .string ⟨#[]⟩, .int .i64 0, .int .i64 0, .slice none 0 0, .int .i64 0, .slice none 0 0] 52 (0, 0)) (by (with_reducible repeat first | apply q1 | apply q2 | apply q3); refine blk_far ?_ NB370_374.out _; (with_reducible repeat first | apply q1 | apply q2 | apply q3); refine blk_far ?_ NB370_374.out _; (with_reducible repeat first | apply q1 | apply q2 | apply q3); refine blk_far ?_ NB370_374.out _; (with_reducible repeat first | apply q1 | apply q2 | apply q3); refine blk_far ?_ NB370_374.out _; (with_reducible repeat first | apply q1 | apply q2 | apply q3); refine blk_far ?_ NB370_374.out _; (with_reducible repeat first | apply q1 | apply q2 | apply q3); refine blk_far ?_ NB370_374.out _; (with_reducible repeat first | apply q1 | apply q2 | apply q3); refine blk_far ?_ NB370_374.out _; (with_reducible repeat first | apply q1 | apply q2 | apply q3); exact BK370.out) hb); have n2_ := Aside0.mk (blk_below (g := gb374) (o := .cells #[.int .i64 x375000_1, .int .i64 t379, .int .i64 0, .int .i64 t380, .string t381, .string t382, .int .i64 t383, .int .i64 t384, .slice Ao35 t385.length co35, .int .i64 t388, .slice none 0 0] 52 (0, 0)) (by (with_reducible repeat first | apply q1 | apply q2 | apply q3); refine blk_put (cs := #[.int .i64 x375000_1, .int .i64 t379, .int .i64 0, .int .i64 t380, .string t381, .string t382, .int .i64 t383, .int .i64 t384, .slice Ao35 t385.length co35, .int .i64 0, .slice none 0 0]) ?_ 9 _ rfl; (with_reducible repeat first | apply q1 | apply q2 | apply q3); refine blk_put (cs := #[.int .i64 x375000_1, .int .i64 t379, .int .i64 0, .int .i64 t380, .string t381, .string t382, .int .i64 t383, .int .i64 t384, .slice none 0 0, .int .i64 0, .slice none 0 0]) ?_ 8 _ rfl; (with_reducible repeat first | apply q1 | apply q2 | apply q3); refine blk_put (cs := #[.int .i64 x375000_1, .int .i64 t379, .int .i64 0, .int .i64 t380, .string t381, .string t382, .int .i64 t383, .int .i64 0, .slice none 0 0, .int .i64 0, .slice none 0 0]) ?_ 7 _ rfl; (with_reducible repeat first | apply q1 | apply q2 | apply q3); refine blk_put (cs := #[.int .i64 x375000_1, .int .i64 t379, .int .i64 0, .int .i64 t380, .string t381, .string t382, .int .i64 0, .int .i64 0, .slice none 0 0, .int .i64 0, .slice none 0 0]) ?_ 6 _ rfl; (with_reducible repeat first | apply q1 | apply q2 | apply q3); refine blk_put (cs := #[.int .i64 x375000_1, .int .i64 t379, .int .i64 0, .int .i64 t380, .string t381, .string ⟨#[]⟩, .int .i64 0, .int .i64 0, .slice none 0 0, .int .i64 0, .slice none 0 0]) ?_ 5 _ rfl; (with_reducible repeat first | apply q1 | apply q2 | apply q3); refine blk_put (cs := #[.int .i64 x375000_1, .int .i64 t379, .int .i64 0, .int .i64 t380, .string ⟨#[]⟩, .string ⟨#[]⟩, .int .i64 0, .int .i64 0, .slice none 0 0, .int .i64 0, .slice none 0 0]) ?_ 4 _ rfl; (with_reducible repeat first | apply q1 | apply q2 | apply q3); refine blk_put (cs := #[.int .i64 x375000_1, .int .i64 t379, .int .i64 0, .int .i64 0, .string ⟨#[]⟩, .string ⟨#[]⟩, .int .i64 0, .int .i64 0, .slice none 0 0, .int .i64 0, .slice none 0 0]) ?_ 3 _ rfl; (with_reducible repeat first | apply q1 | apply q2 | apply q3); exact BK374.out) hb); have n3_ := Aside0.mk (below_step (by repeat (first | (with_reducible first | exact HB.out | apply s1 | apply s2 | apply s3 | refine s4 ?_ GE370.out | refine s4 ?_ GE374.out) | exact HB.out)) hb); clear HO387; clear BK370; clear BK374; clear HB; have HO387 := n0_; have BK370 := n1_; have BK374 := n2_; have HB := n3_; clear n0_ n1_ n2_ n3_; (try clear hb); (try clear hb2); (try clear hk); (try clear hi); have hcz37_0 : w36.cell? ⟨gb374, 0, none⟩ = some (.int .i64 x375000_1) := (blk_cell BK374.out 0).trans rfl; have hcz37_1 : w36.cell? ⟨gb374, 1, none⟩ = some (.int .i64 t379) := (blk_cell BK374.out 1).trans rfl; have hcz37_2 : w36.cell? ⟨gb374, 2, none⟩ = some (.int .i64 0) := (blk_cell BK374.out 2).trans rfl; have hcz37_3 : w36.cell? ⟨gb374, 3, none⟩ = some (.int .i64 t380) := (blk_cell BK374.out 3).trans rfl; have hcz37_4 : w36.cell? ⟨gb374, 4, none⟩ = some (.string t381) := (blk_cell BK374.out 4).trans rfl; have hcz37_5 : w36.cell? ⟨gb374, 5, none⟩ = some (.string t382) := (blk_cell BK374.out 5).trans rfl; have hcz37_6 : w36.cell? ⟨gb374, 6, none⟩ = some (.int .i64 t383) := (blk_cell BK374.out 6).trans rfl; have hcz37_7 : w36.cell? ⟨gb374, 7, none⟩ = some (.int .i64 t384) := (blk_cell BK374.out 7).trans rfl; have hcz37_8 : w36.cell? ⟨gb374, 8, none⟩ = some (.slice Ao35 t385.length co35) := (blk_cell BK374.out 8).trans rfl; have hcz37_9 : w36.cell? ⟨gb374, 9, none⟩ = some (.int .i64 t388) := (blk_cell BK374.out 9).trans rfl; have hcz37_10 : w36.cell? ⟨gb374, 10, none⟩ = some (.slice none 0 0) := (blk_cell BK374.out 10).trans rfl; have hfz37_0 := blk_frozen BK374.out 0; have hfz37_1 := blk_frozen BK374.out 1; have hfz37_2 := blk_frozen BK374.out 2; have hfz37_3 := blk_frozen BK374.out 3; have hfz37_4 := blk_frozen BK374.out 4; have hfz37_5 := blk_frozen BK374.out 5; have hfz37_6 := blk_frozen BK374.out 6; have hfz37_7 := blk_frozen BK374.out 7; have hfz37_8 := blk_frozen BK374.out 8; have hfz37_9 := blk_frozen BK374.out 9; have hfz37_10 := blk_frozen BK374.out 10; have hcz38_0 : w36.cell? ⟨gb370, 0, none⟩ = some (.int .i64 0) := (blk_cell BK370.out 0).trans rfl; have hcz38_1 : w36.cell? ⟨gb370, 1, none⟩ = some (.int .i64 0) := (blk_cell BK370.out 1).trans rfl; have hcz38_2 : w36.cell? ⟨gb370, 2, none⟩ = some (.int .i64 0) := (blk_cell BK370.out 2).trans rfl; have hcz38_3 : w36.cell? ⟨gb370, 3, none⟩ = some (.int .i64 0) := (blk_cell BK370.out 3).trans rfl; have hcz38_4 : w36.cell? ⟨gb370, 4, none⟩ = some (.string ⟨#[]⟩) := (blk_cell BK370.out 4).trans rfl; have hcz38_5 : w36.cell? ⟨gb370, 5, none⟩ = some (.string ⟨#[]⟩) := (blk_cell BK370.out 5).trans rfl; have hcz38_6 : w36.cell? ⟨gb370, 6, none⟩ = some (.int .i64 0) := (blk_cell BK370.out 6).trans rfl; have hcz38_7 : w36.cell? ⟨gb370, 7, none⟩ = some (.int .i64 0) := (blk_cell BK370.out 7).trans rfl; have hcz38_8 : w36.cell? ⟨gb370, 8, none⟩ = some (.slice none 0 0) := (blk_cell BK370.out 8).trans rfl; have hcz38_9 : w36.cell? ⟨gb370, 9, none⟩ = some (.int .i64 0) := (blk_cell BK370.out 9).trans rfl; have hcz38_10 : w36.cell? ⟨gb370, 10, none⟩ = some (.slice none 0 0) := (blk_cell BK370.out 10).trans rfl; have hfz38_0 := blk_frozen BK370.out 0; have hfz38_1 := blk_frozen BK370.out 1; have hfz38_2 := blk_frozen BK370.out 2; have hfz38_3 := blk_frozen BK370.out 3; have hfz38_4 := blk_frozen BK370.out 4; have hfz38_5 := blk_frozen BK370.out 5; have hfz38_6 := blk_frozen BK370.out 6; have hfz38_7 := blk_frozen BK370.out 7; have hfz38_8 := blk_frozen BK370.out 8; have hfz38_9 := blk_frozen BK370.out 9; have hfz38_10 := blk_frozen BK370.out 10))
       refine bodyPost_ret (results_ct rfl _ _ gb370 52 #[.int .i64 x375000_1, .int .i64 t379, .int .i64 0, .int .i64 t380, .string t381, .string t382, .int .i64 t383, .int .i64 t384, .slice Ao35 t385.length co35, .int .i64 t388, .slice none 0 0] (0, 0) _ rfl (by (with_reducible repeat first | apply q1 | apply q2 | apply q3); refine q5 ?_ 10 _ rfl; refine blk_put (cs := #[.int .i64 x375000_1, .int .i64 t379, .int .i64 0, .int .i64 t380, .string t381, .string t382, .int .i64 t383, .int .i64 t384, .slice Ao35 t385.length co35, .int .i64 0, .slice none 0 0]) ?_ 9 _ rfl; refine blk_put (cs := #[.int .i64 x375000_1, .int .i64 t379, .int .i64 0, .int .i64 t380, .string t381, .string t382, .int .i64 t383, .int .i64 t384, .slice none 0 0, .int .i64 0, .slice none 0 0]) ?_ 8 _ rfl; refine blk_put (cs := #[.int .i64 x375000_1, .int .i64 t379, .int .i64 0, .int .i64 t380, .string t381, .string t382, .int .i64 t383, .int .i64 0, .slice none 0 0, .int .i64 0, .slice none 0 0]) ?_ 7 _ rfl; refine blk_put (cs := #[.int .i64 x375000_1, .int .i64 t379, .int .i64 0, .int .i64 t380, .string t381, .string t382, .int .i64 0, .int .i64 0, .slice none 0 0, .int .i64 0, .slice none 0 0]) ?_ 6 _ rfl; refine blk_put (cs := #[.int .i64 x375000_1, .int .i64 t379, .int .i64 0, .int .i64 t380, .string t381, .string ⟨#[]⟩, .int .i64 0, .int .i64 0, .slice none 0 0, .int .i64 0, .slice none 0 0]) ?_ 5 _ rfl; refine blk_put (cs := #[.int .i64 x375000_1, .int .i64 t379, .int .i64 0, .int .i64 t380, .string ⟨#[]⟩, .string ⟨#[]⟩, .int .i64 0, .int .i64 0, .slice none 0 0, .int .i64 0, .slice none 0 0]) ?_ 4 _ rfl; refine blk_put (cs := #[.int .i64 x375000_1, .int .i64 t379, .int .i64 0, .int .i64 0, .string ⟨#[]⟩, .string ⟨#[]⟩, .int .i64 0, .int .i64 0, .slice none 0 0, .int .i64 0, .slice none 0 0]) ?_ 3 _ rfl; refine q5 ?_ 2 _ rfl; refine blk_put (cs := #[.int .i64 x375000_1, .int .i64 0, .int .i64 0, .int .i64 0, .string ⟨#[]⟩, .string ⟨#[]⟩, .int .i64 0, .int .i64 0, .slice none 0 0, .int .i64 0, .slice none 0 0]) ?_ 1 _ rfl; refine blk_put (cs := #[.int .i64 0, .int .i64 0, .int .i64 0, .int .i64 0, .string ⟨#[]⟩, .string ⟨#[]⟩, .int .i64 0, .int .i64 0, .slice none 0 0, .int .i64 0, .slice none 0 0]) ?_ 0 _ rfl; (with_reducible repeat first | apply q1 | apply q2 | apply q3); exact BK370.out) Tryz.underlying52 rfl (by kernel_rfl)) rfl ?_
       exact ⟨_, _, by first | rfl | (simp [errW_none, errW_some] <;> rfl) | (simp [*, errW_none, errW_some] <;> rfl), by (with_reducible repeat first | apply r1 | apply r2 | apply r3); exact Kd.R_mono (Kd.R_far (p := ⟨gb370, 10, none⟩) (Kd.R_far (p := ⟨gb370, 9, none⟩) (Kd.R_far (p := ⟨gb370, 8, none⟩) (Kd.R_far (p := ⟨gb370, 7, none⟩) (Kd.R_far (p := ⟨gb370, 6, none⟩) (Kd.R_far (p := ⟨gb370, 5, none⟩) (Kd.R_far (p := ⟨gb370, 4, none⟩) (Kd.R_far (p := ⟨gb370, 3, none⟩) (Kd.R_far (p := ⟨gb370, 2, none⟩) (Kd.R_far (p := ⟨gb370, 1, none⟩) (Kd.R_far (p := ⟨gb370, 0, none⟩) (Kd.R_types HO387.out BK370.out (by decide)) (fun _ hk => hk.2) (.int .i64 x375000_1)) (fun _ hk => hk.2) (.int .i64 t379)) (fun _ hk => hk.2) (.int .i64 0)) (fun _ hk => hk.2) (.int .i64 t380)) (fun _ hk => hk.2) (.string t381)) (fun _ hk => hk.2) (.string t382)) (fun _ hk => hk.2) (.int .i64 t383)) (fun _ hk => hk.2) (.int .i64 t384)) (fun _ hk => hk.2) (.slice Ao35 t385.length co35)) (fun _ hk => hk.2) (.int .i64 t388)) (fun _ hk => hk.2) (.slice none 0 0)) (fun _ hk => trivial), by exact Kd.R_nil _ _ _ _ _, by repeat (first | (with_reducible first | exact HB.out | apply s1 | apply s2 | apply s3 | refine s4 ?_ GE370.out | refine s4 ?_ GE374.out) | exact HB.out)⟩
      ·rw [if_neg c28] at H
       have c28b0 : (t390.toList == a0.toList) = false := beq_eq_false_iff_ne.mpr c28
       have c28b1 : (t390.toList != a0.toList) = true := bne_iff_ne.mpr c28
       simp only [Option.some.injEq, Prod.mk.injEq] at H
       obtain ⟨rfl, rfl, rfl, rfl, rfl, rfl, rfl, rfl, rfl, rfl, rfl, rfl⟩ := H
       have hnb39 := NB374_370.out
       have hnc39 := NB370_374.out
       have hcz40_0 : wr.cell? ⟨gb374, 0, none⟩ = some (.int .i64 x375000_1) := (blk_cell BK374.out 0).trans rfl
       have hcz40_1 : wr.cell? ⟨gb374, 1, none⟩ = some (.int .i64 0) := (blk_cell BK374.out 1).trans rfl
       have hcz40_2 : wr.cell? ⟨gb374, 2, none⟩ = some (.int .i64 0) := (blk_cell BK374.out 2).trans rfl
       have hcz40_3 : wr.cell? ⟨gb374, 3, none⟩ = some (.int .i64 0) := (blk_cell BK374.out 3).trans rfl
       have hcz40_4 : wr.cell? ⟨gb374, 4, none⟩ = some (.string ⟨#[]⟩) := (blk_cell BK374.out 4).trans rfl
       have hcz40_5 : wr.cell? ⟨gb374, 5, none⟩ = some (.string ⟨#[]⟩) := (blk_cell BK374.out 5).trans rfl
       have hcz40_6 : wr.cell? ⟨gb374, 6, none⟩ = some (.int .i64 0) := (blk_cell BK374.out 6).trans rfl
       have hcz40_7 : wr.cell? ⟨gb374, 7, none⟩ = some (.int .i64 0) := (blk_cell BK374.out 7).trans rfl
       have hcz40_8 : wr.cell? ⟨gb374, 8, none⟩ = some (.slice none 0 0) := (blk_cell BK374.out 8).trans rfl
       have hcz40_9 : wr.cell? ⟨gb374, 9, none⟩ = some (.int .i64 0) := (blk_cell BK374.out 9).trans rfl
       have hcz40_10 : wr.cell? ⟨gb374, 10, none⟩ = some (.slice none 0 0) := (blk_cell BK374.out 10).trans rfl
       have hfz40_0 := blk_frozen BK374.out 0
       have hfz40_1 := blk_frozen BK374.out 1
       have hfz40_2 := blk_frozen BK374.out 2
       have hfz40_3 := blk_frozen BK374.out 3
       have hfz40_4 := blk_frozen BK374.out 4
       have hfz40_5 := blk_frozen BK374.out 5
       have hfz40_6 := blk_frozen BK374.out 6
       have hfz40_7 := blk_frozen BK374.out 7
       have hfz40_8 := blk_frozen BK374.out 8
       have hfz40_9 := blk_frozen BK374.out 9
       have hfz40_10 := blk_frozen BK374.out 10
       go_wp2_with (first | ((with_reducible refine gate_callee (f := 53) rfl ?_); refine goesL_ (some 37) rfl rfl Tryz.func53 (by kernel_rfl) rfl #[.string t372, .string (⟨#[32]⟩ : ByteArray)] rfl (by (try simp only [List.map_toArray, List.map_cons, List.map_nil]); first | done | rfl | (simp only [List.length_drop, List.length_take]; rfl)) ?_; (with_reducible refine (strings_Cut.calls t372 (⟨#[32]⟩ : ByteArray) t376 t377 t378 _ A15.out).mono ?_); rintro e w' ⟨rfl, ⟨nd, rfl⟩⟩; refine ⟨_, rfl, ?_⟩; (try (rw [drewN_self wr]; generalize hq_ : World.drewN wr _ = wr; have n0_ : Aside0 (wr.heap[gb370]? = some (.cells #[.int .i64 0, .int .i64 0, .int .i64 0, .int .i64 0, .string ⟨#[]⟩, .string ⟨#[]⟩, .int .i64 0, .int .i64 0, .slice none 0 0, .int .i64 0, .slice none 0 0] 52 (0, 0))) := ⟨by rw [← hq_]; exact (by (with_reducible repeat first | apply q1 | apply q2 | apply q3); exact BK370.out)⟩; have n1_ : Aside0 (wr.heap[gb374]? = some (.cells #[.int .i64 x375000_1, .int .i64 0, .int .i64 0, .int .i64 0, .string ⟨#[]⟩, .string ⟨#[]⟩, .int .i64 0, .int .i64 0, .slice none 0 0, .int .i64 0, .slice none 0 0] 52 (0, 0))) := ⟨by rw [← hq_]; exact (by (with_reducible repeat first | apply q1 | apply q2 | apply q3); exact BK374.out)⟩; have n2_ : Aside0 (Below w.heap.size w wr) := ⟨by rw [← hq_]; exact (by repeat (first | (with_reducible first | exact HB.out | apply s1 | apply s2 | apply s3 | refine s4 ?_ GE370.out | refine s4 ?_ GE374.out) | exact HB.out))⟩; clear BK370 BK374 HB hq_; have BK370 := n0_; have BK374 := n1_; have HB := n2_; clear n0_ n1_ n2_))) | ((with_reducible refine gate_callee (f := 44) rfl ?_); refine goesL_ (some 42) rfl rfl Tryz.func44 (by kernel_rfl) rfl #[.string t376] rfl (by (try simp only [List.map_toArray, List.map_cons, List.map_nil]); first | done | rfl | (simp only [List.length_drop, List.length_take]; rfl)) ?_; (with_reducible refine (hist_Num.calls t376 t379 _ A16.out ?hT_).mono ?_); (case hT_ => exact Tabs.after HT.out (by repeat (first | (with_reducible first | exact HB.out | apply s1 | apply s2 | apply s3 | refine s4 ?_ GE370.out | refine s4 ?_ GE374.out) | exact HB.out))); rintro e w41 ⟨rfl, hb⟩; refine ⟨_, rfl, ?_⟩; have n0_ := Aside0.mk (blk_below (g := gb370) (o := .cells #[.int .i64 0, .int .i64 0, .int .i64 0, .int .i64 0, .string ⟨#[]⟩, .string ⟨#[]⟩, .int .i64 0, .int .i64 0, .slice none 0 0, .int .i64 0, .slice none 0 0] 52 (0, 0)) (by (with_reducible repeat first | apply q1 | apply q2 | apply q3); exact BK370.out) hb); have n1_ := Aside0.mk (blk_below (g := gb374) (o := .cells #[.int .i64 x375000_1, .int .i64 0, .int .i64 0, .int .i64 0, .string ⟨#[]⟩, .string ⟨#[]⟩, .int .i64 0, .int .i64 0, .slice none 0 0, .int .i64 0, .slice none 0 0] 52 (0, 0)) (by (with_reducible repeat first | apply q1 | apply q2 | apply q3); exact BK374.out) hb); have n2_ := Aside0.mk (below_step (by repeat (first | (with_reducible first | exact HB.out | apply s1 | apply s2 | apply s3 | refine s4 ?_ GE370.out | refine s4 ?_ GE374.out) | exact HB.out)) hb); clear BK370; clear BK374; clear HB; have BK370 := n0_; have BK374 := n1_; have HB := n2_; clear n0_ n1_ n2_; (try clear hb); (try clear hb2); (try clear hk); (try clear hi); have hcz42_0 : w41.cell? ⟨gb374, 0, none⟩ = some (.int .i64 x375000_1) := (blk_cell BK374.out 0).trans rfl; have hcz42_1 : w41.cell? ⟨gb374, 1, none⟩ = some (.int .i64 0) := (blk_cell BK374.out 1).trans rfl; have hcz42_2 : w41.cell? ⟨gb374, 2, none⟩ = some (.int .i64 0) := (blk_cell BK374.out 2).trans rfl; have hcz42_3 : w41.cell? ⟨gb374, 3, none⟩ = some (.int .i64 0) := (blk_cell BK374.out 3).trans rfl; have hcz42_4 : w41.cell? ⟨gb374, 4, none⟩ = some (.string ⟨#[]⟩) := (blk_cell BK374.out 4).trans rfl; have hcz42_5 : w41.cell? ⟨gb374, 5, none⟩ = some (.string ⟨#[]⟩) := (blk_cell BK374.out 5).trans rfl; have hcz42_6 : w41.cell? ⟨gb374, 6, none⟩ = some (.int .i64 0) := (blk_cell BK374.out 6).trans rfl; have hcz42_7 : w41.cell? ⟨gb374, 7, none⟩ = some (.int .i64 0) := (blk_cell BK374.out 7).trans rfl; have hcz42_8 : w41.cell? ⟨gb374, 8, none⟩ = some (.slice none 0 0) := (blk_cell BK374.out 8).trans rfl; have hcz42_9 : w41.cell? ⟨gb374, 9, none⟩ = some (.int .i64 0) := (blk_cell BK374.out 9).trans rfl; have hcz42_10 : w41.cell? ⟨gb374, 10, none⟩ = some (.slice none 0 0) := (blk_cell BK374.out 10).trans rfl; have hfz42_0 := blk_frozen BK374.out 0; have hfz42_1 := blk_frozen BK374.out 1; have hfz42_2 := blk_frozen BK374.out 2; have hfz42_3 := blk_frozen BK374.out 3; have hfz42_4 := blk_frozen BK374.out 4; have hfz42_5 := blk_frozen BK374.out 5; have hfz42_6 := blk_frozen BK374.out 6; have hfz42_7 := blk_frozen BK374.out 7; have hfz42_8 := blk_frozen BK374.out 8; have hfz42_9 := blk_frozen BK374.out 9; have hfz42_10 := blk_frozen BK374.out 10) | ((with_reducible refine gate_callee (f := 13) rfl ?_); refine goesL_ (some 46) rfl rfl Tryz.func13 (by kernel_rfl) rfl #[.string t377] rfl (by (try simp only [List.map_toArray, List.map_cons, List.map_nil]); first | done | rfl | (simp only [List.length_drop, List.length_take]; rfl)) ?_; (with_reducible refine (hist_ParseOp.calls k1 t377 t380 t381 t382 t383 t384 t385 t388 t389 _ A17.out ?hT_).mono ?_); (case hT_ => exact Tabs.after HT.out (by repeat (first | (with_reducible first | exact HB.out | apply s1 | apply s2 | apply s3 | refine s4 ?_ GE370.out | refine s4 ?_ GE374.out) | exact HB.out))); rintro e w43 ⟨v386, rfl, ho0, hb⟩; refine ⟨_, rfl, ?_⟩; have n0_ := Aside0.mk (Kd.R_lower ho0 (below_size (by repeat (first | (with_reducible first | exact HB.out | apply s1 | apply s2 | apply s3 | refine s4 ?_ GE370.out | refine s4 ?_ GE374.out) | exact HB.out)))); have n1_ := Aside0.mk (blk_below (g := gb370) (o := .cells #[.int .i64 0, .int .i64 0, .int .i64 0, .int .i64 0, .string ⟨#[]⟩, .string ⟨#[]⟩, .int .i64 0, .int .i64 0, .slice none 0 0, .int .i64 0, .slice none 0 0] 52 (0, 0)) (by (with_reducible repeat first | apply q1 | apply q2 | apply q3); refine blk_far ?_ NB370_374.out _; (with_reducible repeat first | apply q1 | apply q2 | apply q3); exact BK370.out) hb); have n2_ := Aside0.mk (blk_below (g := gb374) (o := .cells #[.int .i64 x375000_1, .int .i64 t379, .int .i64 0, .int .i64 0, .string ⟨#[]⟩, .string ⟨#[]⟩, .int .i64 0, .int .i64 0, .slice none 0 0, .int .i64 0, .slice none 0 0] 52 (0, 0)) (by (with_reducible repeat first | apply q1 | apply q2 | apply q3); refine blk_put (cs := #[.int .i64 x375000_1, .int .i64 0, .int .i64 0, .int .i64 0, .string ⟨#[]⟩, .string ⟨#[]⟩, .int .i64 0, .int .i64 0, .slice none 0 0, .int .i64 0, .slice none 0 0]) ?_ 1 _ rfl; (with_reducible repeat first | apply q1 | apply q2 | apply q3); exact BK374.out) hb); have n3_ := Aside0.mk (below_step (by repeat (first | (with_reducible first | exact HB.out | apply s1 | apply s2 | apply s3 | refine s4 ?_ GE370.out | refine s4 ?_ GE374.out) | exact HB.out)) hb); clear BK370; clear BK374; clear HB; have HO387 := n0_; have BK370 := n1_; have BK374 := n2_; have HB := n3_; clear n0_ n1_ n2_ n3_; (try clear hb); (try clear hb2); (try clear hk); (try clear hi); (try clear ho0); (try simp only [errW_none, errW_some]); have hcz44_0 : w43.cell? ⟨gb374, 0, none⟩ = some (.int .i64 x375000_1) := (blk_cell BK374.out 0).trans rfl; have hcz44_1 : w43.cell? ⟨gb374, 1, none⟩ = some (.int .i64 t379) := (blk_cell BK374.out 1).trans rfl; have hcz44_2 : w43.cell? ⟨gb374, 2, none⟩ = some (.int .i64 0) := (blk_cell BK374.out 2).trans rfl; have hcz44_3 : w43.cell? ⟨gb374, 3, none⟩ = some (.int .i64 0) := (blk_cell BK374.out 3).trans rfl; have hcz44_4 : w43.cell? ⟨gb374, 4, none⟩ = some (.string ⟨#[]⟩) := (blk_cell BK374.out 4).trans rfl; have hcz44_5 : w43.cell? ⟨gb374, 5, none⟩ = some (.string ⟨#[]⟩) := (blk_cell BK374.out 5).trans rfl; have hcz44_6 : w43.cell? ⟨gb374, 6, none⟩ = some (.int .i64 0) := (blk_cell BK374.out 6).trans rfl; have hcz44_7 : w43.cell? ⟨gb374, 7, none⟩ = some (.int .i64 0) := (blk_cell BK374.out 7).trans rfl; have hcz44_8 : w43.cell? ⟨gb374, 8, none⟩ = some (.slice none 0 0) := (blk_cell BK374.out 8).trans rfl; have hcz44_9 : w43.cell? ⟨gb374, 9, none⟩ = some (.int .i64 0) := (blk_cell BK374.out 9).trans rfl; have hcz44_10 : w43.cell? ⟨gb374, 10, none⟩ = some (.slice none 0 0) := (blk_cell BK374.out 10).trans rfl; have hfz44_0 := blk_frozen BK374.out 0; have hfz44_1 := blk_frozen BK374.out 1; have hfz44_2 := blk_frozen BK374.out 2; have hfz44_3 := blk_frozen BK374.out 3; have hfz44_4 := blk_frozen BK374.out 4; have hfz44_5 := blk_frozen BK374.out 5; have hfz44_6 := blk_frozen BK374.out 6; have hfz44_7 := blk_frozen BK374.out 7; have hfz44_8 := blk_frozen BK374.out 8; have hfz44_9 := blk_frozen BK374.out 9; have hfz44_10 := blk_frozen BK374.out 10; obtain ⟨Ao45, co45, eo45⟩ := Kd.R_slice HO387.out; subst eo45) | (go_at_call 22; (refine (script_Text.calls x375000_1 t379 0 t380 t381 t382 t383 t384 _ _ t385 t388 _ _ ([] : List Int) t390 _ ?side1 ?side2 ?side3 ?side4 A27.out ?hT_).mono ?_); (case hT_ => exact Tabs.after HT.out (by repeat (first | (with_reducible first | exact HB.out | apply s1 | apply s2 | apply s3 | refine s4 ?_ GE370.out | refine s4 ?_ GE374.out) | exact HB.out))); (case side1 => refine (Kd.R_reads' (e := 5) (base := w.heap.size) (ok := fun k_ => True) (n := t385.length) (c := co45) ?_).2.2; exact (by (with_reducible repeat first | apply r1 | apply r2 | apply r3); exact (Kd.R_mono (Kd.R_far (p := ⟨gb374, 9, none⟩) (Kd.R_far (p := ⟨gb374, 8, none⟩) (Kd.R_far (p := ⟨gb374, 7, none⟩) (Kd.R_far (p := ⟨gb374, 6, none⟩) (Kd.R_far (p := ⟨gb374, 5, none⟩) (Kd.R_far (p := ⟨gb374, 4, none⟩) (Kd.R_far (p := ⟨gb374, 3, none⟩) (Kd.R_types HO387.out BK374.out (by decide)) (fun _ hk => hk.2) (.int .i64 t380)) (fun _ hk => hk.2) (.string t381)) (fun _ hk => hk.2) (.string t382)) (fun _ hk => hk.2) (.int .i64 t383)) (fun _ hk => hk.2) (.int .i64 t384)) (fun _ hk => hk.2) (.slice Ao45 t385.length co45)) (fun _ hk => hk.2) (.int .i64 t388)) (fun _ h_ => h_.1)))); (case side2 => exact (Kd.R_reads' HO387.out).2.1); (case side3 => exact Kd.C_nil _ _); (case side4 => exact Nat.le_refl _); rintro e w46 ⟨rfl, hb⟩; have n0_ := Aside0.mk (Kd.R_below (by (with_reducible repeat first | apply r1 | apply r2 | apply r3); exact (Kd.R_mono (Kd.R_far (p := ⟨gb374, 9, none⟩) (Kd.R_far (p := ⟨gb374, 8, none⟩) (Kd.R_far (p := ⟨gb374, 7, none⟩) (Kd.R_far (p := ⟨gb374, 6, none⟩) (Kd.R_far (p := ⟨gb374, 5, none⟩) (Kd.R_far (p := ⟨gb374, 4, none⟩) (Kd.R_far (p := ⟨gb374, 3, none⟩) (Kd.R_types HO387.out BK374.out (by decide)) (fun _ hk => hk.2) (.int .i64 t380)) (fun _ hk => hk.2) (.string t381)) (fun _ hk => hk.2) (.string t382)) (fun _ hk => hk.2) (.int .i64 t383)) (fun _ hk => hk.2) (.int .i64 t384)) (fun _ hk => hk.2) (.slice Ao45 t385.length co45)) (fun _ hk => hk.2) (.int .i64 t388)) (fun _ h_ => h_.1))) hb); have n1_ := Aside0.mk (blk_below (g := gb370) (o := .cells #[.int .i64 0, .int .i64 0, .int .i64 0, .int .i64 0, .string ⟨#[]⟩, .string ⟨#[]⟩, .int .i64 0, .int .i64 0, .slice none 0 0, .int .i64 0, .slice none 0 0] 52 (0, 0)) (by (with_reducible repeat first | apply q1 | apply q2 | apply q3); refine blk_far ?_ NB370_374.out _; (with_reducible repeat first | apply q1 | apply q2 | apply q3); refine blk_far ?_ NB370_374.out _; (with_reducible repeat first | apply q1 | apply q2 | apply q3); refine blk_far ?_ NB370_374.out _; (with_reducible repeat first | apply q1 | apply q2 | apply q3); refine blk_far ?_ NB370_374.out _; (with_reducible repeat first | apply q1 | apply q2 | apply q3); refine blk_far ?_ NB370_374.out _; (with_reducible repeat first | apply q1 | apply q2 | apply q3); refine blk_far ?_ NB370_374.out _; (with_reducible repeat first | apply q1 | apply q2 | apply q3); refine blk_far ?_ NB370_374.out _; (with_reducible repeat first | apply q1 | apply q2 | apply q3); exact BK370.out) hb); have n2_ := Aside0.mk (blk_below (g := gb374) (o := .cells #[.int .i64 x375000_1, .int .i64 t379, .int .i64 0, .int .i64 t380, .string t381, .string t382, .int .i64 t383, .int .i64 t384, .slice Ao45 t385.length co45, .int .i64 t388, .slice none 0 0] 52 (0, 0)) (by (with_reducible repeat first | apply q1 | apply q2 | apply q3); refine blk_put (cs := #[.int .i64 x375000_1, .int .i64 t379, .int .i64 0, .int .i64 t380, .string t381, .string t382, .int .i64 t383, .int .i64 t384, .slice Ao45 t385.length co45, .int .i64 0, .slice none 0 0]) ?_ 9 _ rfl; (with_reducible repeat first | apply q1 | apply q2 | apply q3); refine blk_put (cs := #[.int .i64 x375000_1, .int .i64 t379, .int .i64 0, .int .i64 t380, .string t381, .string t382, .int .i64 t383, .int .i64 t384, .slice none 0 0, .int .i64 0, .slice none 0 0]) ?_ 8 _ rfl; (with_reducible repeat first | apply q1 | apply q2 | apply q3); refine blk_put (cs := #[.int .i64 x375000_1, .int .i64 t379, .int .i64 0, .int .i64 t380, .string t381, .string t382, .int .i64 t383, .int .i64 0, .slice none 0 0, .int .i64 0, .slice none 0 0]) ?_ 7 _ rfl; (with_reducible repeat first | apply q1 | apply q2 | apply q3); refine blk_put (cs := #[.int .i64 x375000_1, .int .i64 t379, .int .i64 0, .int .i64 t380, .string t381, .string t382, .int .i64 0, .int .i64 0, .slice none 0 0, .int .i64 0, .slice none 0 0]) ?_ 6 _ rfl; (with_reducible repeat first | apply q1 | apply q2 | apply q3); refine blk_put (cs := #[.int .i64 x375000_1, .int .i64 t379, .int .i64 0, .int .i64 t380, .string t381, .string ⟨#[]⟩, .int .i64 0, .int .i64 0, .slice none 0 0, .int .i64 0, .slice none 0 0]) ?_ 5 _ rfl; (with_reducible repeat first | apply q1 | apply q2 | apply q3); refine blk_put (cs := #[.int .i64 x375000_1, .int .i64 t379, .int .i64 0, .int .i64 t380, .string ⟨#[]⟩, .string ⟨#[]⟩, .int .i64 0, .int .i64 0, .slice none 0 0, .int .i64 0, .slice none 0 0]) ?_ 4 _ rfl; (with_reducible repeat first | apply q1 | apply q2 | apply q3); refine blk_put (cs := #[.int .i64 x375000_1, .int .i64 t379, .int .i64 0, .int .i64 0, .string ⟨#[]⟩, .string ⟨#[]⟩, .int .i64 0, .int .i64 0, .slice none 0 0, .int .i64 0, .slice none 0 0]) ?_ 3 _ rfl; (with_reducible repeat first | apply q1 | apply q2 | apply q3); exact BK374.out) hb); have n3_ := Aside0.mk (below_step (by repeat (first | (with_reducible first | exact HB.out | apply s1 | apply s2 | apply s3 | refine s4 ?_ GE370.out | refine s4 ?_ GE374.out) | exact HB.out)) hb); clear HO387; clear BK370; clear BK374; clear HB; have HO387 := n0_; have BK370 := n1_; have BK374 := n2_; have HB := n3_; clear n0_ n1_ n2_ n3_; (try clear hb); (try clear hb2); (try clear hk); (try clear hi); have hcz47_0 : w46.cell? ⟨gb370, 0, none⟩ = some (.int .i64 0) := (blk_cell BK370.out 0).trans rfl; have hcz47_1 : w46.cell? ⟨gb370, 1, none⟩ = some (.int .i64 0) := (blk_cell BK370.out 1).trans rfl; have hcz47_2 : w46.cell? ⟨gb370, 2, none⟩ = some (.int .i64 0) := (blk_cell BK370.out 2).trans rfl; have hcz47_3 : w46.cell? ⟨gb370, 3, none⟩ = some (.int .i64 0) := (blk_cell BK370.out 3).trans rfl; have hcz47_4 : w46.cell? ⟨gb370, 4, none⟩ = some (.string ⟨#[]⟩) := (blk_cell BK370.out 4).trans rfl; have hcz47_5 : w46.cell? ⟨gb370, 5, none⟩ = some (.string ⟨#[]⟩) := (blk_cell BK370.out 5).trans rfl; have hcz47_6 : w46.cell? ⟨gb370, 6, none⟩ = some (.int .i64 0) := (blk_cell BK370.out 6).trans rfl; have hcz47_7 : w46.cell? ⟨gb370, 7, none⟩ = some (.int .i64 0) := (blk_cell BK370.out 7).trans rfl; have hcz47_8 : w46.cell? ⟨gb370, 8, none⟩ = some (.slice none 0 0) := (blk_cell BK370.out 8).trans rfl; have hcz47_9 : w46.cell? ⟨gb370, 9, none⟩ = some (.int .i64 0) := (blk_cell BK370.out 9).trans rfl; have hcz47_10 : w46.cell? ⟨gb370, 10, none⟩ = some (.slice none 0 0) := (blk_cell BK370.out 10).trans rfl; have hfz47_0 := blk_frozen BK370.out 0; have hfz47_1 := blk_frozen BK370.out 1; have hfz47_2 := blk_frozen BK370.out 2; have hfz47_3 := blk_frozen BK370.out 3; have hfz47_4 := blk_frozen BK370.out 4; have hfz47_5 := blk_frozen BK370.out 5; have hfz47_6 := blk_frozen BK370.out 6; have hfz47_7 := blk_frozen BK370.out 7; have hfz47_8 := blk_frozen BK370.out 8; have hfz47_9 := blk_frozen BK370.out 9; have hfz47_10 := blk_frozen BK370.out 10))
       refine bodyPost_ret (results_ct rfl _ _ gb370 52 #[.int .i64 0, .int .i64 0, .int .i64 0, .int .i64 0, .string ⟨#[]⟩, .string ⟨#[]⟩, .int .i64 0, .int .i64 0, .slice none 0 0, .int .i64 0, .slice none 0 0] (0, 0) _ rfl (by (with_reducible repeat first | apply q1 | apply q2 | apply q3); refine q5 ?_ 10 _ rfl; refine q5 ?_ 9 _ rfl; refine q5 ?_ 8 _ rfl; refine q5 ?_ 7 _ rfl; refine q5 ?_ 6 _ rfl; refine q5 ?_ 5 _ rfl; refine q5 ?_ 4 _ rfl; refine q5 ?_ 3 _ rfl; refine q5 ?_ 2 _ rfl; refine q5 ?_ 1 _ rfl; refine q5 ?_ 0 _ rfl; (with_reducible repeat first | apply q1 | apply q2 | apply q3); exact BK370.out) Tryz.underlying52 rfl (by kernel_rfl)) rfl ?_
       exact ⟨_, _, by first | rfl | (simp [errW_none, errW_some] <;> rfl) | (simp [*, errW_none, errW_some] <;> rfl), by exact Kd.R_nil _ _ _ _ _, by exact Kd.R_nil _ _ _ _ _, by repeat (first | (with_reducible first | exact HB.out | apply s1 | apply s2 | apply s3 | refine s4 ?_ GE370.out | refine s4 ?_ GE374.out) | exact HB.out)⟩
    ·rw [if_neg c14] at H
     have c14b0 : (x375000_1 == 1) = false := beq_eq_false_iff_ne.mpr c14
     have c14b1 : (x375000_1 != 1) = true := bne_iff_ne.mpr c14
     by_cases c48 : x375000_1 = 2
     ·rw [if_pos c48] at H
      have c48b0 : (x375000_1 == 2) = true := beq_iff_eq.mpr c48
      have c48b1 : (x375000_1 != 2) = false := bne_eq_false_iff_eq.mpr c48
      clear c48
      replace H := Option.bind_eq_some_iff.mp H
      obtain ⟨t391, A490, H⟩ := H
      try dsimp only at H
      have A49 := Aside0.mk A490
      clear A490
      by_cases c50 : a0.toList = ([] : List UInt8)
      ·rw [if_pos c50] at H
       have c50b0 : (a0.toList == ([] : List UInt8)) = true := beq_iff_eq.mpr c50
       have c50b1 : (a0.toList != ([] : List UInt8)) = false := bne_eq_false_iff_eq.mpr c50
       clear c50
       simp only [Option.some.injEq, Prod.mk.injEq] at H
       obtain ⟨rfl, rfl, rfl, rfl, rfl, rfl, rfl, rfl, rfl, rfl, rfl, rfl⟩ := H
       have hnb51 := NB374_370.out
       have hnc51 := NB370_374.out
       have hcz52_0 : wr.cell? ⟨gb374, 0, none⟩ = some (.int .i64 x375000_1) := (blk_cell BK374.out 0).trans rfl
       have hcz52_1 : wr.cell? ⟨gb374, 1, none⟩ = some (.int .i64 0) := (blk_cell BK374.out 1).trans rfl
       have hcz52_2 : wr.cell? ⟨gb374, 2, none⟩ = some (.int .i64 0) := (blk_cell BK374.out 2).trans rfl
       have hcz52_3 : wr.cell? ⟨gb374, 3, none⟩ = some (.int .i64 0) := (blk_cell BK374.out 3).trans rfl
       have hcz52_4 : wr.cell? ⟨gb374, 4, none⟩ = some (.string ⟨#[]⟩) := (blk_cell BK374.out 4).trans rfl
       have hcz52_5 : wr.cell? ⟨gb374, 5, none⟩ = some (.string ⟨#[]⟩) := (blk_cell BK374.out 5).trans rfl
       have hcz52_6 : wr.cell? ⟨gb374, 6, none⟩ = some (.int .i64 0) := (blk_cell BK374.out 6).trans rfl
       have hcz52_7 : wr.cell? ⟨gb374, 7, none⟩ = some (.int .i64 0) := (blk_cell BK374.out 7).trans rfl
       have hcz52_8 : wr.cell? ⟨gb374, 8, none⟩ = some (.slice none 0 0) := (blk_cell BK374.out 8).trans rfl
       have hcz52_9 : wr.cell? ⟨gb374, 9, none⟩ = some (.int .i64 0) := (blk_cell BK374.out 9).trans rfl
       have hcz52_10 : wr.cell? ⟨gb374, 10, none⟩ = some (.slice none 0 0) := (blk_cell BK374.out 10).trans rfl
       have hfz52_0 := blk_frozen BK374.out 0
       have hfz52_1 := blk_frozen BK374.out 1
       have hfz52_2 := blk_frozen BK374.out 2
       have hfz52_3 := blk_frozen BK374.out 3
       have hfz52_4 := blk_frozen BK374.out 4
       have hfz52_5 := blk_frozen BK374.out 5
       have hfz52_6 := blk_frozen BK374.out 6
       have hfz52_7 := blk_frozen BK374.out 7
       have hfz52_8 := blk_frozen BK374.out 8
       have hfz52_9 := blk_frozen BK374.out 9
       have hfz52_10 := blk_frozen BK374.out 10
       go_wp2_with (first | ((with_reducible refine gate_callee (f := 44) rfl ?_); refine goesL_ (some 53) rfl rfl Tryz.func44 (by kernel_rfl) rfl #[.string t372] rfl (by (try simp only [List.map_toArray, List.map_cons, List.map_nil]); first | done | rfl | (simp only [List.length_drop, List.length_take]; rfl)) ?_; (with_reducible refine (hist_Num.calls t372 t391 _ A49.out ?hT_).mono ?_); (case hT_ => exact Tabs.after HT.out (by repeat (first | (with_reducible first | exact HB.out | apply s1 | apply s2 | apply s3 | refine s4 ?_ GE370.out | refine s4 ?_ GE374.out) | exact HB.out))); rintro e w53 ⟨rfl, hb⟩; refine ⟨_, rfl, ?_⟩; have n0_ := Aside0.mk (blk_below (g := gb370) (o := .cells #[.int .i64 0, .int .i64 0, .int .i64 0, .int .i64 0, .string ⟨#[]⟩, .string ⟨#[]⟩, .int .i64 0, .int .i64 0, .slice none 0 0, .int .i64 0, .slice none 0 0] 52 (0, 0)) (by (with_reducible repeat first | apply q1 | apply q2 | apply q3); exact BK370.out) hb); have n1_ := Aside0.mk (blk_below (g := gb374) (o := .cells #[.int .i64 x375000_1, .int .i64 0, .int .i64 0, .int .i64 0, .string ⟨#[]⟩, .string ⟨#[]⟩, .int .i64 0, .int .i64 0, .slice none 0 0, .int .i64 0, .slice none 0 0] 52 (0, 0)) (by (with_reducible repeat first | apply q1 | apply q2 | apply q3); exact BK374.out) hb); have n2_ := Aside0.mk (below_step (by repeat (first | (with_reducible first | exact HB.out | apply s1 | apply s2 | apply s3 | refine s4 ?_ GE370.out | refine s4 ?_ GE374.out) | exact HB.out)) hb); clear BK370; clear BK374; clear HB; have BK370 := n0_; have BK374 := n1_; have HB := n2_; clear n0_ n1_ n2_; (try clear hb); (try clear hb2); (try clear hk); (try clear hi); have hcz54_0 : w53.cell? ⟨gb374, 0, none⟩ = some (.int .i64 x375000_1) := (blk_cell BK374.out 0).trans rfl; have hcz54_1 : w53.cell? ⟨gb374, 1, none⟩ = some (.int .i64 0) := (blk_cell BK374.out 1).trans rfl; have hcz54_2 : w53.cell? ⟨gb374, 2, none⟩ = some (.int .i64 0) := (blk_cell BK374.out 2).trans rfl; have hcz54_3 : w53.cell? ⟨gb374, 3, none⟩ = some (.int .i64 0) := (blk_cell BK374.out 3).trans rfl; have hcz54_4 : w53.cell? ⟨gb374, 4, none⟩ = some (.string ⟨#[]⟩) := (blk_cell BK374.out 4).trans rfl; have hcz54_5 : w53.cell? ⟨gb374, 5, none⟩ = some (.string ⟨#[]⟩) := (blk_cell BK374.out 5).trans rfl; have hcz54_6 : w53.cell? ⟨gb374, 6, none⟩ = some (.int .i64 0) := (blk_cell BK374.out 6).trans rfl; have hcz54_7 : w53.cell? ⟨gb374, 7, none⟩ = some (.int .i64 0) := (blk_cell BK374.out 7).trans rfl; have hcz54_8 : w53.cell? ⟨gb374, 8, none⟩ = some (.slice none 0 0) := (blk_cell BK374.out 8).trans rfl; have hcz54_9 : w53.cell? ⟨gb374, 9, none⟩ = some (.int .i64 0) := (blk_cell BK374.out 9).trans rfl; have hcz54_10 : w53.cell? ⟨gb374, 10, none⟩ = some (.slice none 0 0) := (blk_cell BK374.out 10).trans rfl; have hfz54_0 := blk_frozen BK374.out 0; have hfz54_1 := blk_frozen BK374.out 1; have hfz54_2 := blk_frozen BK374.out 2; have hfz54_3 := blk_frozen BK374.out 3; have hfz54_4 := blk_frozen BK374.out 4; have hfz54_5 := blk_frozen BK374.out 5; have hfz54_6 := blk_frozen BK374.out 6; have hfz54_7 := blk_frozen BK374.out 7; have hfz54_8 := blk_frozen BK374.out 8; have hfz54_9 := blk_frozen BK374.out 9; have hfz54_10 := blk_frozen BK374.out 10; have hcz55_0 : w53.cell? ⟨gb370, 0, none⟩ = some (.int .i64 0) := (blk_cell BK370.out 0).trans rfl; have hcz55_1 : w53.cell? ⟨gb370, 1, none⟩ = some (.int .i64 0) := (blk_cell BK370.out 1).trans rfl; have hcz55_2 : w53.cell? ⟨gb370, 2, none⟩ = some (.int .i64 0) := (blk_cell BK370.out 2).trans rfl; have hcz55_3 : w53.cell? ⟨gb370, 3, none⟩ = some (.int .i64 0) := (blk_cell BK370.out 3).trans rfl; have hcz55_4 : w53.cell? ⟨gb370, 4, none⟩ = some (.string ⟨#[]⟩) := (blk_cell BK370.out 4).trans rfl; have hcz55_5 : w53.cell? ⟨gb370, 5, none⟩ = some (.string ⟨#[]⟩) := (blk_cell BK370.out 5).trans rfl; have hcz55_6 : w53.cell? ⟨gb370, 6, none⟩ = some (.int .i64 0) := (blk_cell BK370.out 6).trans rfl; have hcz55_7 : w53.cell? ⟨gb370, 7, none⟩ = some (.int .i64 0) := (blk_cell BK370.out 7).trans rfl; have hcz55_8 : w53.cell? ⟨gb370, 8, none⟩ = some (.slice none 0 0) := (blk_cell BK370.out 8).trans rfl; have hcz55_9 : w53.cell? ⟨gb370, 9, none⟩ = some (.int .i64 0) := (blk_cell BK370.out 9).trans rfl; have hcz55_10 : w53.cell? ⟨gb370, 10, none⟩ = some (.slice none 0 0) := (blk_cell BK370.out 10).trans rfl; have hfz55_0 := blk_frozen BK370.out 0; have hfz55_1 := blk_frozen BK370.out 1; have hfz55_2 := blk_frozen BK370.out 2; have hfz55_3 := blk_frozen BK370.out 3; have hfz55_4 := blk_frozen BK370.out 4; have hfz55_5 := blk_frozen BK370.out 5; have hfz55_6 := blk_frozen BK370.out 6; have hfz55_7 := blk_frozen BK370.out 7; have hfz55_8 := blk_frozen BK370.out 8; have hfz55_9 := blk_frozen BK370.out 9; have hfz55_10 := blk_frozen BK370.out 10))
       refine bodyPost_ret (results_ct rfl _ _ gb370 52 #[.int .i64 0, .int .i64 0, .int .i64 0, .int .i64 0, .string ⟨#[]⟩, .string ⟨#[]⟩, .int .i64 0, .int .i64 0, .slice none 0 0, .int .i64 0, .slice none 0 0] (0, 0) _ rfl (by (with_reducible repeat first | apply q1 | apply q2 | apply q3); refine q5 ?_ 10 _ rfl; refine q5 ?_ 9 _ rfl; refine q5 ?_ 8 _ rfl; refine q5 ?_ 7 _ rfl; refine q5 ?_ 6 _ rfl; refine q5 ?_ 5 _ rfl; refine q5 ?_ 4 _ rfl; refine q5 ?_ 3 _ rfl; refine q5 ?_ 2 _ rfl; refine q5 ?_ 1 _ rfl; refine q5 ?_ 0 _ rfl; (with_reducible repeat first | apply q1 | apply q2 | apply q3); refine blk_far ?_ NB370_374.out _; (with_reducible repeat first | apply q1 | apply q2 | apply q3); exact BK370.out) Tryz.underlying52 rfl (by kernel_rfl)) rfl ?_
       exact ⟨_, _, by first | rfl | (simp [errW_none, errW_some] <;> rfl) | (simp [*, errW_none, errW_some] <;> rfl), by exact Kd.R_nil _ _ _ _ _, by exact Kd.R_nil _ _ _ _ _, by repeat (first | (with_reducible first | exact HB.out | apply s1 | apply s2 | apply s3 | refine s4 ?_ GE370.out | refine s4 ?_ GE374.out) | exact HB.out)⟩
      ·rw [if_neg c50] at H
       have c50b0 : (a0.toList == ([] : List UInt8)) = false := beq_eq_false_iff_ne.mpr c50
       have c50b1 : (a0.toList != ([] : List UInt8)) = true := bne_iff_ne.mpr c50
       replace H := Option.bind_eq_some_iff.mp H
       obtain ⟨t392, A560, H⟩ := H
       try dsimp only at H
       have A56 := Aside0.mk A560
       clear A560
       by_cases c57 : t392.toList = a0.toList
       ·rw [if_pos c57] at H
        have c57b0 : (t392.toList == a0.toList) = true := beq_iff_eq.mpr c57
        have c57b1 : (t392.toList != a0.toList) = false := bne_eq_false_iff_eq.mpr c57
        clear c57
        simp only [Option.some.injEq, Prod.mk.injEq] at H
        obtain ⟨rfl, rfl, rfl, rfl, rfl, rfl, rfl, rfl, rfl, rfl, rfl, rfl⟩ := H
        have hnb58 := NB374_370.out
        have hnc58 := NB370_374.out
        have hcz59_0 : wr.cell? ⟨gb374, 0, none⟩ = some (.int .i64 x375000_1) := (blk_cell BK374.out 0).trans rfl
        have hcz59_1 : wr.cell? ⟨gb374, 1, none⟩ = some (.int .i64 0) := (blk_cell BK374.out 1).trans rfl
        have hcz59_2 : wr.cell? ⟨gb374, 2, none⟩ = some (.int .i64 0) := (blk_cell BK374.out 2).trans rfl
        have hcz59_3 : wr.cell? ⟨gb374, 3, none⟩ = some (.int .i64 0) := (blk_cell BK374.out 3).trans rfl
        have hcz59_4 : wr.cell? ⟨gb374, 4, none⟩ = some (.string ⟨#[]⟩) := (blk_cell BK374.out 4).trans rfl
        have hcz59_5 : wr.cell? ⟨gb374, 5, none⟩ = some (.string ⟨#[]⟩) := (blk_cell BK374.out 5).trans rfl
        have hcz59_6 : wr.cell? ⟨gb374, 6, none⟩ = some (.int .i64 0) := (blk_cell BK374.out 6).trans rfl
        have hcz59_7 : wr.cell? ⟨gb374, 7, none⟩ = some (.int .i64 0) := (blk_cell BK374.out 7).trans rfl
        have hcz59_8 : wr.cell? ⟨gb374, 8, none⟩ = some (.slice none 0 0) := (blk_cell BK374.out 8).trans rfl
        have hcz59_9 : wr.cell? ⟨gb374, 9, none⟩ = some (.int .i64 0) := (blk_cell BK374.out 9).trans rfl
        have hcz59_10 : wr.cell? ⟨gb374, 10, none⟩ = some (.slice none 0 0) := (blk_cell BK374.out 10).trans rfl
        have hfz59_0 := blk_frozen BK374.out 0
        have hfz59_1 := blk_frozen BK374.out 1
        have hfz59_2 := blk_frozen BK374.out 2
        have hfz59_3 := blk_frozen BK374.out 3
        have hfz59_4 := blk_frozen BK374.out 4
        have hfz59_5 := blk_frozen BK374.out 5
        have hfz59_6 := blk_frozen BK374.out 6
        have hfz59_7 := blk_frozen BK374.out 7
        have hfz59_8 := blk_frozen BK374.out 8
        have hfz59_9 := blk_frozen BK374.out 9
        have hfz59_10 := blk_frozen BK374.out 10
        go_wp2_with (first | ((with_reducible refine gate_callee (f := 44) rfl ?_); refine goesL_ (some 53) rfl rfl Tryz.func44 (by kernel_rfl) rfl #[.string t372] rfl (by (try simp only [List.map_toArray, List.map_cons, List.map_nil]); first | done | rfl | (simp only [List.length_drop, List.length_take]; rfl)) ?_; (with_reducible refine (hist_Num.calls t372 t391 _ A49.out ?hT_).mono ?_); (case hT_ => exact Tabs.after HT.out (by repeat (first | (with_reducible first | exact HB.out | apply s1 | apply s2 | apply s3 | refine s4 ?_ GE370.out | refine s4 ?_ GE374.out) | exact HB.out))); rintro e w60 ⟨rfl, hb⟩; refine ⟨_, rfl, ?_⟩; have n0_ := Aside0.mk (blk_below (g := gb370) (o := .cells #[.int .i64 0, .int .i64 0, .int .i64 0, .int .i64 0, .string ⟨#[]⟩, .string ⟨#[]⟩, .int .i64 0, .int .i64 0, .slice none 0 0, .int .i64 0, .slice none 0 0] 52 (0, 0)) (by (with_reducible repeat first | apply q1 | apply q2 | apply q3); exact BK370.out) hb); have n1_ := Aside0.mk (blk_below (g := gb374) (o := .cells #[.int .i64 x375000_1, .int .i64 0, .int .i64 0, .int .i64 0, .string ⟨#[]⟩, .string ⟨#[]⟩, .int .i64 0, .int .i64 0, .slice none 0 0, .int .i64 0, .slice none 0 0] 52 (0, 0)) (by (with_reducible repeat first | apply q1 | apply q2 | apply q3); exact BK374.out) hb); have n2_ := Aside0.mk (below_step (by repeat (first | (with_reducible first | exact HB.out | apply s1 | apply s2 | apply s3 | refine s4 ?_ GE370.out | refine s4 ?_ GE374.out) | exact HB.out)) hb); clear BK370; clear BK374; clear HB; have BK370 := n0_; have BK374 := n1_; have HB := n2_; clear n0_ n1_ n2_; (try clear hb); (try clear hb2); (try clear hk); (try clear hi); have hcz61_0 : w60.cell? ⟨gb374, 0, none⟩ = some (.int .i64 x375000_1) := (blk_cell BK374.out 0).trans rfl; have hcz61_1 : w60.cell? ⟨gb374, 1, none⟩ = some (.int .i64 0) := (blk_cell BK374.out 1).trans rfl; have hcz61_2 : w60.cell? ⟨gb374, 2, none⟩ = some (.int .i64 0) := (blk_cell BK374.out 2).trans rfl; have hcz61_3 : w60.cell? ⟨gb374, 3, none⟩ = some (.int .i64 0) := (blk_cell BK374.out 3).trans rfl; have hcz61_4 : w60.cell? ⟨gb374, 4, none⟩ = some (.string ⟨#[]⟩) := (blk_cell BK374.out 4).trans rfl; have hcz61_5 : w60.cell? ⟨gb374, 5, none⟩ = some (.string ⟨#[]⟩) := (blk_cell BK374.out 5).trans rfl; have hcz61_6 : w60.cell? ⟨gb374, 6, none⟩ = some (.int .i64 0) := (blk_cell BK374.out 6).trans rfl; have hcz61_7 : w60.cell? ⟨gb374, 7, none⟩ = some (.int .i64 0) := (blk_cell BK374.out 7).trans rfl; have hcz61_8 : w60.cell? ⟨gb374, 8, none⟩ = some (.slice none 0 0) := (blk_cell BK374.out 8).trans rfl; have hcz61_9 : w60.cell? ⟨gb374, 9, none⟩ = some (.int .i64 0) := (blk_cell BK374.out 9).trans rfl; have hcz61_10 : w60.cell? ⟨gb374, 10, none⟩ = some (.slice none 0 0) := (blk_cell BK374.out 10).trans rfl; have hfz61_0 := blk_frozen BK374.out 0; have hfz61_1 := blk_frozen BK374.out 1; have hfz61_2 := blk_frozen BK374.out 2; have hfz61_3 := blk_frozen BK374.out 3; have hfz61_4 := blk_frozen BK374.out 4; have hfz61_5 := blk_frozen BK374.out 5; have hfz61_6 := blk_frozen BK374.out 6; have hfz61_7 := blk_frozen BK374.out 7; have hfz61_8 := blk_frozen BK374.out 8; have hfz61_9 := blk_frozen BK374.out 9; have hfz61_10 := blk_frozen BK374.out 10) | (go_at_call 22; (refine (script_Text.calls x375000_1 t391 0 0 (⟨#[]⟩ : ByteArray) (⟨#[]⟩ : ByteArray) 0 0 _ _ ([] : List Int) 0 _ _ ([] : List Int) t392 _ ?side1 ?side2 ?side3 ?side4 A56.out ?hT_).mono ?_); (case hT_ => exact Tabs.after HT.out (by repeat (first | (with_reducible first | exact HB.out | apply s1 | apply s2 | apply s3 | refine s4 ?_ GE370.out | refine s4 ?_ GE374.out) | exact HB.out))); (case side1 => exact Kd.C_nil _ _); (case side2 => exact Nat.le_refl _); (case side3 => exact Kd.C_nil _ _); (case side4 => exact Nat.le_refl _); rintro e w62 ⟨rfl, hb⟩; have n0_ := Aside0.mk (blk_below (g := gb370) (o := .cells #[.int .i64 0, .int .i64 0, .int .i64 0, .int .i64 0, .string ⟨#[]⟩, .string ⟨#[]⟩, .int .i64 0, .int .i64 0, .slice none 0 0, .int .i64 0, .slice none 0 0] 52 (0, 0)) (by (with_reducible repeat first | apply q1 | apply q2 | apply q3); refine blk_far ?_ NB370_374.out _; (with_reducible repeat first | apply q1 | apply q2 | apply q3); exact BK370.out) hb); have n1_ := Aside0.mk (blk_below (g := gb374) (o := .cells #[.int .i64 x375000_1, .int .i64 t391, .int .i64 0, .int .i64 0, .string ⟨#[]⟩, .string ⟨#[]⟩, .int .i64 0, .int .i64 0, .slice none 0 0, .int .i64 0, .slice none 0 0] 52 (0, 0)) (by (with_reducible repeat first | apply q1 | apply q2 | apply q3); refine blk_put (cs := #[.int .i64 x375000_1, .int .i64 0, .int .i64 0, .int .i64 0, .string ⟨#[]⟩, .string ⟨#[]⟩, .int .i64 0, .int .i64 0, .slice none 0 0, .int .i64 0, .slice none 0 0]) ?_ 1 _ rfl; (with_reducible repeat first | apply q1 | apply q2 | apply q3); exact BK374.out) hb); have n2_ := Aside0.mk (below_step (by repeat (first | (with_reducible first | exact HB.out | apply s1 | apply s2 | apply s3 | refine s4 ?_ GE370.out | refine s4 ?_ GE374.out) | exact HB.out)) hb); clear BK370; clear BK374; clear HB; have BK370 := n0_; have BK374 := n1_; have HB := n2_; clear n0_ n1_ n2_; (try clear hb); (try clear hb2); (try clear hk); (try clear hi); have hcz63_0 : w62.cell? ⟨gb374, 0, none⟩ = some (.int .i64 x375000_1) := (blk_cell BK374.out 0).trans rfl; have hcz63_1 : w62.cell? ⟨gb374, 1, none⟩ = some (.int .i64 t391) := (blk_cell BK374.out 1).trans rfl; have hcz63_2 : w62.cell? ⟨gb374, 2, none⟩ = some (.int .i64 0) := (blk_cell BK374.out 2).trans rfl; have hcz63_3 : w62.cell? ⟨gb374, 3, none⟩ = some (.int .i64 0) := (blk_cell BK374.out 3).trans rfl; have hcz63_4 : w62.cell? ⟨gb374, 4, none⟩ = some (.string ⟨#[]⟩) := (blk_cell BK374.out 4).trans rfl; have hcz63_5 : w62.cell? ⟨gb374, 5, none⟩ = some (.string ⟨#[]⟩) := (blk_cell BK374.out 5).trans rfl; have hcz63_6 : w62.cell? ⟨gb374, 6, none⟩ = some (.int .i64 0) := (blk_cell BK374.out 6).trans rfl; have hcz63_7 : w62.cell? ⟨gb374, 7, none⟩ = some (.int .i64 0) := (blk_cell BK374.out 7).trans rfl; have hcz63_8 : w62.cell? ⟨gb374, 8, none⟩ = some (.slice none 0 0) := (blk_cell BK374.out 8).trans rfl; have hcz63_9 : w62.cell? ⟨gb374, 9, none⟩ = some (.int .i64 0) := (blk_cell BK374.out 9).trans rfl; have hcz63_10 : w62.cell? ⟨gb374, 10, none⟩ = some (.slice none 0 0) := (blk_cell BK374.out 10).trans rfl; have hfz63_0 := blk_frozen BK374.out 0; have hfz63_1 := blk_frozen BK374.out 1; have hfz63_2 := blk_frozen BK374.out 2; have hfz63_3 := blk_frozen BK374.out 3; have hfz63_4 := blk_frozen BK374.out 4; have hfz63_5 := blk_frozen BK374.out 5; have hfz63_6 := blk_frozen BK374.out 6; have hfz63_7 := blk_frozen BK374.out 7; have hfz63_8 := blk_frozen BK374.out 8; have hfz63_9 := blk_frozen BK374.out 9; have hfz63_10 := blk_frozen BK374.out 10; have hcz64_0 : w62.cell? ⟨gb370, 0, none⟩ = some (.int .i64 0) := (blk_cell BK370.out 0).trans rfl; have hcz64_1 : w62.cell? ⟨gb370, 1, none⟩ = some (.int .i64 0) := (blk_cell BK370.out 1).trans rfl; have hcz64_2 : w62.cell? ⟨gb370, 2, none⟩ = some (.int .i64 0) := (blk_cell BK370.out 2).trans rfl; have hcz64_3 : w62.cell? ⟨gb370, 3, none⟩ = some (.int .i64 0) := (blk_cell BK370.out 3).trans rfl; have hcz64_4 : w62.cell? ⟨gb370, 4, none⟩ = some (.string ⟨#[]⟩) := (blk_cell BK370.out 4).trans rfl; have hcz64_5 : w62.cell? ⟨gb370, 5, none⟩ = some (.string ⟨#[]⟩) := (blk_cell BK370.out 5).trans rfl; have hcz64_6 : w62.cell? ⟨gb370, 6, none⟩ = some (.int .i64 0) := (blk_cell BK370.out 6).trans rfl; have hcz64_7 : w62.cell? ⟨gb370, 7, none⟩ = some (.int .i64 0) := (blk_cell BK370.out 7).trans rfl; have hcz64_8 : w62.cell? ⟨gb370, 8, none⟩ = some (.slice none 0 0) := (blk_cell BK370.out 8).trans rfl; have hcz64_9 : w62.cell? ⟨gb370, 9, none⟩ = some (.int .i64 0) := (blk_cell BK370.out 9).trans rfl; have hcz64_10 : w62.cell? ⟨gb370, 10, none⟩ = some (.slice none 0 0) := (blk_cell BK370.out 10).trans rfl; have hfz64_0 := blk_frozen BK370.out 0; have hfz64_1 := blk_frozen BK370.out 1; have hfz64_2 := blk_frozen BK370.out 2; have hfz64_3 := blk_frozen BK370.out 3; have hfz64_4 := blk_frozen BK370.out 4; have hfz64_5 := blk_frozen BK370.out 5; have hfz64_6 := blk_frozen BK370.out 6; have hfz64_7 := blk_frozen BK370.out 7; have hfz64_8 := blk_frozen BK370.out 8; have hfz64_9 := blk_frozen BK370.out 9; have hfz64_10 := blk_frozen BK370.out 10))
        refine bodyPost_ret (results_ct rfl _ _ gb370 52 #[.int .i64 x375000_1, .int .i64 t391, .int .i64 0, .int .i64 0, .string ⟨#[]⟩, .string ⟨#[]⟩, .int .i64 0, .int .i64 0, .slice none 0 0, .int .i64 0, .slice none 0 0] (0, 0) _ rfl (by (with_reducible repeat first | apply q1 | apply q2 | apply q3); refine q5 ?_ 10 _ rfl; refine q5 ?_ 9 _ rfl; refine q5 ?_ 8 _ rfl; refine q5 ?_ 7 _ rfl; refine q5 ?_ 6 _ rfl; refine q5 ?_ 5 _ rfl; refine q5 ?_ 4 _ rfl; refine q5 ?_ 3 _ rfl; refine q5 ?_ 2 _ rfl; refine blk_put (cs := #[.int .i64 x375000_1, .int .i64 0, .int .i64 0, .int .i64 0, .string ⟨#[]⟩, .string ⟨#[]⟩, .int .i64 0, .int .i64 0, .slice none 0 0, .int .i64 0, .slice none 0 0]) ?_ 1 _ rfl; refine blk_put (cs := #[.int .i64 0, .int .i64 0, .int .i64 0, .int .i64 0, .string ⟨#[]⟩, .string ⟨#[]⟩, .int .i64 0, .int .i64 0, .slice none 0 0, .int .i64 0, .slice none 0 0]) ?_ 0 _ rfl; (with_reducible repeat first | apply q1 | apply q2 | apply q3); exact BK370.out) Tryz.underlying52 rfl (by kernel_rfl)) rfl ?_
        exact ⟨_, _, by first | rfl | (simp [errW_none, errW_some] <;> rfl) | (simp [*, errW_none, errW_some] <;> rfl), by exact Kd.R_nil _ _ _ _ _, by exact Kd.R_nil _ _ _ _ _, by repeat (first | (with_reducible first | exact HB.out | apply s1 | apply s2 | apply s3 | refine s4 ?_ GE370.out | refine s4 ?_ GE374.out) | exact HB.out)⟩
       ·rw [if_neg c57] at H
        have c57b0 : (t392.toList == a0.toList) = false := beq_eq_false_iff_ne.mpr c57
        have c57b1 : (t392.toList != a0.toList) = true := bne_iff_ne.mpr c57
        simp only [Option.some.injEq, Prod.mk.injEq] at H
        obtain ⟨rfl, rfl, rfl, rfl, rfl, rfl, rfl, rfl, rfl, rfl, rfl, rfl⟩ := H
        have hnb65 := NB374_370.out
        have hnc65 := NB370_374.out
        have hcz66_0 : wr.cell? ⟨gb374, 0, none⟩ = some (.int .i64 x375000_1) := (blk_cell BK374.out 0).trans rfl
        have hcz66_1 : wr.cell? ⟨gb374, 1, none⟩ = some (.int .i64 0) := (blk_cell BK374.out 1).trans rfl
        have hcz66_2 : wr.cell? ⟨gb374, 2, none⟩ = some (.int .i64 0) := (blk_cell BK374.out 2).trans rfl
        have hcz66_3 : wr.cell? ⟨gb374, 3, none⟩ = some (.int .i64 0) := (blk_cell BK374.out 3).trans rfl
        have hcz66_4 : wr.cell? ⟨gb374, 4, none⟩ = some (.string ⟨#[]⟩) := (blk_cell BK374.out 4).trans rfl
        have hcz66_5 : wr.cell? ⟨gb374, 5, none⟩ = some (.string ⟨#[]⟩) := (blk_cell BK374.out 5).trans rfl
        have hcz66_6 : wr.cell? ⟨gb374, 6, none⟩ = some (.int .i64 0) := (blk_cell BK374.out 6).trans rfl
        have hcz66_7 : wr.cell? ⟨gb374, 7, none⟩ = some (.int .i64 0) := (blk_cell BK374.out 7).trans rfl
        have hcz66_8 : wr.cell? ⟨gb374, 8, none⟩ = some (.slice none 0 0) := (blk_cell BK374.out 8).trans rfl
        have hcz66_9 : wr.cell? ⟨gb374, 9, none⟩ = some (.int .i64 0) := (blk_cell BK374.out 9).trans rfl
        have hcz66_10 : wr.cell? ⟨gb374, 10, none⟩ = some (.slice none 0 0) := (blk_cell BK374.out 10).trans rfl
        have hfz66_0 := blk_frozen BK374.out 0
        have hfz66_1 := blk_frozen BK374.out 1
        have hfz66_2 := blk_frozen BK374.out 2
        have hfz66_3 := blk_frozen BK374.out 3
        have hfz66_4 := blk_frozen BK374.out 4
        have hfz66_5 := blk_frozen BK374.out 5
        have hfz66_6 := blk_frozen BK374.out 6
        have hfz66_7 := blk_frozen BK374.out 7
        have hfz66_8 := blk_frozen BK374.out 8
        have hfz66_9 := blk_frozen BK374.out 9
        have hfz66_10 := blk_frozen BK374.out 10
        go_wp2_with (first | ((with_reducible refine gate_callee (f := 44) rfl ?_); refine goesL_ (some 53) rfl rfl Tryz.func44 (by kernel_rfl) rfl #[.string t372] rfl (by (try simp only [List.map_toArray, List.map_cons, List.map_nil]); first | done | rfl | (simp only [List.length_drop, List.length_take]; rfl)) ?_; (with_reducible refine (hist_Num.calls t372 t391 _ A49.out ?hT_).mono ?_); (case hT_ => exact Tabs.after HT.out (by repeat (first | (with_reducible first | exact HB.out | apply s1 | apply s2 | apply s3 | refine s4 ?_ GE370.out | refine s4 ?_ GE374.out) | exact HB.out))); rintro e w67 ⟨rfl, hb⟩; refine ⟨_, rfl, ?_⟩; have n0_ := Aside0.mk (blk_below (g := gb370) (o := .cells #[.int .i64 0, .int .i64 0, .int .i64 0, .int .i64 0, .string ⟨#[]⟩, .string ⟨#[]⟩, .int .i64 0, .int .i64 0, .slice none 0 0, .int .i64 0, .slice none 0 0] 52 (0, 0)) (by (with_reducible repeat first | apply q1 | apply q2 | apply q3); exact BK370.out) hb); have n1_ := Aside0.mk (blk_below (g := gb374) (o := .cells #[.int .i64 x375000_1, .int .i64 0, .int .i64 0, .int .i64 0, .string ⟨#[]⟩, .string ⟨#[]⟩, .int .i64 0, .int .i64 0, .slice none 0 0, .int .i64 0, .slice none 0 0] 52 (0, 0)) (by (with_reducible repeat first | apply q1 | apply q2 | apply q3); exact BK374.out) hb); have n2_ := Aside0.mk (below_step (by repeat (first | (with_reducible first | exact HB.out | apply s1 | apply s2 | apply s3 | refine s4 ?_ GE370.out | refine s4 ?_ GE374.out) | exact HB.out)) hb); clear BK370; clear BK374; clear HB; have BK370 := n0_; have BK374 := n1_; have HB := n2_; clear n0_ n1_ n2_; (try clear hb); (try clear hb2); (try clear hk); (try clear hi); have hcz68_0 : w67.cell? ⟨gb374, 0, none⟩ = some (.int .i64 x375000_1) := (blk_cell BK374.out 0).trans rfl; have hcz68_1 : w67.cell? ⟨gb374, 1, none⟩ = some (.int .i64 0) := (blk_cell BK374.out 1).trans rfl; have hcz68_2 : w67.cell? ⟨gb374, 2, none⟩ = some (.int .i64 0) := (blk_cell BK374.out 2).trans rfl; have hcz68_3 : w67.cell? ⟨gb374, 3, none⟩ = some (.int .i64 0) := (blk_cell BK374.out 3).trans rfl; have hcz68_4 : w67.cell? ⟨gb374, 4, none⟩ = some (.string ⟨#[]⟩) := (blk_cell BK374.out 4).trans rfl; have hcz68_5 : w67.cell? ⟨gb374, 5, none⟩ = some (.string ⟨#[]⟩) := (blk_cell BK374.out 5).trans rfl; have hcz68_6 : w67.cell? ⟨gb374, 6, none⟩ = some (.int .i64 0) := (blk_cell BK374.out 6).trans rfl; have hcz68_7 : w67.cell? ⟨gb374, 7, none⟩ = some (.int .i64 0) := (blk_cell BK374.out 7).trans rfl; have hcz68_8 : w67.cell? ⟨gb374, 8, none⟩ = some (.slice none 0 0) := (blk_cell BK374.out 8).trans rfl; have hcz68_9 : w67.cell? ⟨gb374, 9, none⟩ = some (.int .i64 0) := (blk_cell BK374.out 9).trans rfl; have hcz68_10 : w67.cell? ⟨gb374, 10, none⟩ = some (.slice none 0 0) := (blk_cell BK374.out 10).trans rfl; have hfz68_0 := blk_frozen BK374.out 0; have hfz68_1 := blk_frozen BK374.out 1; have hfz68_2 := blk_frozen BK374.out 2; have hfz68_3 := blk_frozen BK374.out 3; have hfz68_4 := blk_frozen BK374.out 4; have hfz68_5 := blk_frozen BK374.out 5; have hfz68_6 := blk_frozen BK374.out 6; have hfz68_7 := blk_frozen BK374.out 7; have hfz68_8 := blk_frozen BK374.out 8; have hfz68_9 := blk_frozen BK374.out 9; have hfz68_10 := blk_frozen BK374.out 10) | (go_at_call 22; (refine (script_Text.calls x375000_1 t391 0 0 (⟨#[]⟩ : ByteArray) (⟨#[]⟩ : ByteArray) 0 0 _ _ ([] : List Int) 0 _ _ ([] : List Int) t392 _ ?side1 ?side2 ?side3 ?side4 A56.out ?hT_).mono ?_); (case hT_ => exact Tabs.after HT.out (by repeat (first | (with_reducible first | exact HB.out | apply s1 | apply s2 | apply s3 | refine s4 ?_ GE370.out | refine s4 ?_ GE374.out) | exact HB.out))); (case side1 => exact Kd.C_nil _ _); (case side2 => exact Nat.le_refl _); (case side3 => exact Kd.C_nil _ _); (case side4 => exact Nat.le_refl _); rintro e w69 ⟨rfl, hb⟩; have n0_ := Aside0.mk (blk_below (g := gb370) (o := .cells #[.int .i64 0, .int .i64 0, .int .i64 0, .int .i64 0, .string ⟨#[]⟩, .string ⟨#[]⟩, .int .i64 0, .int .i64 0, .slice none 0 0, .int .i64 0, .slice none 0 0] 52 (0, 0)) (by (with_reducible repeat first | apply q1 | apply q2 | apply q3); refine blk_far ?_ NB370_374.out _; (with_reducible repeat first | apply q1 | apply q2 | apply q3); exact BK370.out) hb); have n1_ := Aside0.mk (blk_below (g := gb374) (o := .cells #[.int .i64 x375000_1, .int .i64 t391, .int .i64 0, .int .i64 0, .string ⟨#[]⟩, .string ⟨#[]⟩, .int .i64 0, .int .i64 0, .slice none 0 0, .int .i64 0, .slice none 0 0] 52 (0, 0)) (by (with_reducible repeat first | apply q1 | apply q2 | apply q3); refine blk_put (cs := #[.int .i64 x375000_1, .int .i64 0, .int .i64 0, .int .i64 0, .string ⟨#[]⟩, .string ⟨#[]⟩, .int .i64 0, .int .i64 0, .slice none 0 0, .int .i64 0, .slice none 0 0]) ?_ 1 _ rfl; (with_reducible repeat first | apply q1 | apply q2 | apply q3); exact BK374.out) hb); have n2_ := Aside0.mk (below_step (by repeat (first | (with_reducible first | exact HB.out | apply s1 | apply s2 | apply s3 | refine s4 ?_ GE370.out | refine s4 ?_ GE374.out) | exact HB.out)) hb); clear BK370; clear BK374; clear HB; have BK370 := n0_; have BK374 := n1_; have HB := n2_; clear n0_ n1_ n2_; (try clear hb); (try clear hb2); (try clear hk); (try clear hi); have hcz70_0 : w69.cell? ⟨gb370, 0, none⟩ = some (.int .i64 0) := (blk_cell BK370.out 0).trans rfl; have hcz70_1 : w69.cell? ⟨gb370, 1, none⟩ = some (.int .i64 0) := (blk_cell BK370.out 1).trans rfl; have hcz70_2 : w69.cell? ⟨gb370, 2, none⟩ = some (.int .i64 0) := (blk_cell BK370.out 2).trans rfl; have hcz70_3 : w69.cell? ⟨gb370, 3, none⟩ = some (.int .i64 0) := (blk_cell BK370.out 3).trans rfl; have hcz70_4 : w69.cell? ⟨gb370, 4, none⟩ = some (.string ⟨#[]⟩) := (blk_cell BK370.out 4).trans rfl; have hcz70_5 : w69.cell? ⟨gb370, 5, none⟩ = some (.string ⟨#[]⟩) := (blk_cell BK370.out 5).trans rfl; have hcz70_6 : w69.cell? ⟨gb370, 6, none⟩ = some (.int .i64 0) := (blk_cell BK370.out 6).trans rfl; have hcz70_7 : w69.cell? ⟨gb370, 7, none⟩ = some (.int .i64 0) := (blk_cell BK370.out 7).trans rfl; have hcz70_8 : w69.cell? ⟨gb370, 8, none⟩ = some (.slice none 0 0) := (blk_cell BK370.out 8).trans rfl; have hcz70_9 : w69.cell? ⟨gb370, 9, none⟩ = some (.int .i64 0) := (blk_cell BK370.out 9).trans rfl; have hcz70_10 : w69.cell? ⟨gb370, 10, none⟩ = some (.slice none 0 0) := (blk_cell BK370.out 10).trans rfl; have hfz70_0 := blk_frozen BK370.out 0; have hfz70_1 := blk_frozen BK370.out 1; have hfz70_2 := blk_frozen BK370.out 2; have hfz70_3 := blk_frozen BK370.out 3; have hfz70_4 := blk_frozen BK370.out 4; have hfz70_5 := blk_frozen BK370.out 5; have hfz70_6 := blk_frozen BK370.out 6; have hfz70_7 := blk_frozen BK370.out 7; have hfz70_8 := blk_frozen BK370.out 8; have hfz70_9 := blk_frozen BK370.out 9; have hfz70_10 := blk_frozen BK370.out 10))
        refine bodyPost_ret (results_ct rfl _ _ gb370 52 #[.int .i64 0, .int .i64 0, .int .i64 0, .int .i64 0, .string ⟨#[]⟩, .string ⟨#[]⟩, .int .i64 0, .int .i64 0, .slice none 0 0, .int .i64 0, .slice none 0 0] (0, 0) _ rfl (by (with_reducible repeat first | apply q1 | apply q2 | apply q3); refine q5 ?_ 10 _ rfl; refine q5 ?_ 9 _ rfl; refine q5 ?_ 8 _ rfl; refine q5 ?_ 7 _ rfl; refine q5 ?_ 6 _ rfl; refine q5 ?_ 5 _ rfl; refine q5 ?_ 4 _ rfl; refine q5 ?_ 3 _ rfl; refine q5 ?_ 2 _ rfl; refine q5 ?_ 1 _ rfl; refine q5 ?_ 0 _ rfl; (with_reducible repeat first | apply q1 | apply q2 | apply q3); exact BK370.out) Tryz.underlying52 rfl (by kernel_rfl)) rfl ?_
        exact ⟨_, _, by first | rfl | (simp [errW_none, errW_some] <;> rfl) | (simp [*, errW_none, errW_some] <;> rfl), by exact Kd.R_nil _ _ _ _ _, by exact Kd.R_nil _ _ _ _ _, by repeat (first | (with_reducible first | exact HB.out | apply s1 | apply s2 | apply s3 | refine s4 ?_ GE370.out | refine s4 ?_ GE374.out) | exact HB.out)⟩
     ·rw [if_neg c48] at H
      have c48b0 : (x375000_1 == 2) = false := beq_eq_false_iff_ne.mpr c48
      have c48b1 : (x375000_1 != 2) = true := bne_iff_ne.mpr c48
      have HC71 := Aside0.mk H
      clear H
      have hnb72 := NB374_370.out
      have hnc72 := NB370_374.out
      have hcz73_0 : wr.cell? ⟨gb374, 0, none⟩ = some (.int .i64 x375000_1) := (blk_cell BK374.out 0).trans rfl
      have hcz73_1 : wr.cell? ⟨gb374, 1, none⟩ = some (.int .i64 0) := (blk_cell BK374.out 1).trans rfl
      have hcz73_2 : wr.cell? ⟨gb374, 2, none⟩ = some (.int .i64 0) := (blk_cell BK374.out 2).trans rfl
      have hcz73_3 : wr.cell? ⟨gb374, 3, none⟩ = some (.int .i64 0) := (blk_cell BK374.out 3).trans rfl
      have hcz73_4 : wr.cell? ⟨gb374, 4, none⟩ = some (.string ⟨#[]⟩) := (blk_cell BK374.out 4).trans rfl
      have hcz73_5 : wr.cell? ⟨gb374, 5, none⟩ = some (.string ⟨#[]⟩) := (blk_cell BK374.out 5).trans rfl
      have hcz73_6 : wr.cell? ⟨gb374, 6, none⟩ = some (.int .i64 0) := (blk_cell BK374.out 6).trans rfl
      have hcz73_7 : wr.cell? ⟨gb374, 7, none⟩ = some (.int .i64 0) := (blk_cell BK374.out 7).trans rfl
      have hcz73_8 : wr.cell? ⟨gb374, 8, none⟩ = some (.slice none 0 0) := (blk_cell BK374.out 8).trans rfl
      have hcz73_9 : wr.cell? ⟨gb374, 9, none⟩ = some (.int .i64 0) := (blk_cell BK374.out 9).trans rfl
      have hcz73_10 : wr.cell? ⟨gb374, 10, none⟩ = some (.slice none 0 0) := (blk_cell BK374.out 10).trans rfl
      have hfz73_0 := blk_frozen BK374.out 0
      have hfz73_1 := blk_frozen BK374.out 1
      have hfz73_2 := blk_frozen BK374.out 2
      have hfz73_3 := blk_frozen BK374.out 3
      have hfz73_4 := blk_frozen BK374.out 4
      have hfz73_5 := blk_frozen BK374.out 5
      have hfz73_6 := blk_frozen BK374.out 6
      have hfz73_7 := blk_frozen BK374.out 7
      have hfz73_8 := blk_frozen BK374.out 8
      have hfz73_9 := blk_frozen BK374.out 9
      have hfz73_10 := blk_frozen BK374.out 10
      go_upto_if 55 with (fail)
      go_cut [55] (fun v55 wc => ∃ (kq : Nat) (x55_70 : Bool), v55 = .bool x55_70 ∧ Aside0 (script_Parse.j1 kq a0 t372 t373 x375000_1 x55_70 x375000_1 0 0 0 (⟨#[]⟩ : ByteArray) (⟨#[]⟩ : ByteArray) 0 0 0 = some (r1, r2, r3, r4, r5, r6, r7, r8, r9, r10, r11, r12)) ∧ Aside0 (kq ≤ k1) ∧ Aside0 (wc.heap[gb370]? = some (.cells #[.int .i64 0, .int .i64 0, .int .i64 0, .int .i64 0, .string ⟨#[]⟩, .string ⟨#[]⟩, .int .i64 0, .int .i64 0, (.slice none 0 0), .int .i64 0, (.slice none 0 0)] 52 (0, 0))) ∧ Aside0 (wc.heap[gb374]? = some (.cells #[.int .i64 x375000_1, .int .i64 0, .int .i64 0, .int .i64 0, .string ⟨#[]⟩, .string ⟨#[]⟩, .int .i64 0, .int .i64 0, (.slice none 0 0), .int .i64 0, (.slice none 0 0)] 52 (0, 0))) ∧ Aside0 (Below w.heap.size w wc))
      case first =>
       have H := HC71.out
       clear HC71
       by_cases c74 : x375000_1 = 4
       ·rw [if_pos c74] at H
        have c74b0 : (x375000_1 == 4) = true := beq_iff_eq.mpr c74
        have c74b1 : (x375000_1 != 4) = false := bne_eq_false_iff_eq.mpr c74
        clear c74
        (first | rw [c74b0] | (simp only [i64_w, i32_w]; rw [c74b0]) | skip)
        have H' := Aside0.mk H
        clear H
        go_wp2
        go_meet
        case rel => exact ⟨_, ((x375000_1 == 4)), (by first | rfl | (simp; done) | (simp [*]; done)), H', ⟨by have := HK1.out; first | omega | exact Nat.le_refl _⟩, ⟨by (with_reducible repeat first | apply q1 | apply q2 | apply q3); exact BK370.out⟩, ⟨by (with_reducible repeat first | apply q1 | apply q2 | apply q3); exact BK374.out⟩, ⟨by repeat (first | (with_reducible first | exact HB.out | apply s1 | apply s2 | apply s3 | refine s4 ?_ GE370.out | refine s4 ?_ GE374.out) | exact HB.out)⟩⟩
       ·rw [if_neg c74] at H
        have c74b0 : (x375000_1 == 4) = false := beq_eq_false_iff_ne.mpr c74
        have c74b1 : (x375000_1 != 4) = true := bne_iff_ne.mpr c74
        (first | rw [c74b0] | (simp only [i64_w, i32_w]; rw [c74b0]) | skip)
        have H' := Aside0.mk H
        clear H
        go_wp2
        go_meet
        case rel => exact ⟨_, ((x375000_1 == 6)), (by first | rfl | (simp; done) | (simp [*]; done)), H', ⟨by have := HK1.out; first | omega | exact Nat.le_refl _⟩, ⟨by (with_reducible repeat first | apply q1 | apply q2 | apply q3); exact BK370.out⟩, ⟨by (with_reducible repeat first | apply q1 | apply q2 | apply q3); exact BK374.out⟩, ⟨by repeat (first | (with_reducible first | exact HB.out | apply s1 | apply s2 | apply s3 | refine s4 ?_ GE370.out | refine s4 ?_ GE374.out) | exact HB.out)⟩⟩
      case rest =>
       clear HC71
       try clear c1
       try clear c2
       try clear p2
       try clear c3
       try clear c4
       try clear c5
       try clear c6
       try clear p6
       try clear c7
       try clear c7b0
       try clear c9
       try clear c9b0
       try clear c9b1
       try clear c11
       try clear c13
       try clear c14
       try clear c14b0
       try clear c14b1
       try clear c18
       try clear c18b0
       try clear c18b1
       try clear c19
       try clear c25
       try clear c28
       try clear c28b0
       try clear c28b1
       try clear c29
       try clear c39
       try clear c44
       try clear c48
       try clear c48b0
       try clear c48b1
       try clear c50
       try clear c50b0
       try clear c50b1
       try clear c51
       try clear c53
       try clear c57
       try clear c57b0
       try clear c57b1
       try clear c58
       try clear p64
       try clear c65
       try clear c72
       try clear c74
       try clear c74b0
       try clear c74b1
       try clear hcz12_0
       try clear hcz12_1
       try clear hcz12_10
       try clear hcz12_2
       try clear hcz12_3
       try clear hcz12_4
       try clear hcz12_5
       try clear hcz12_6
       try clear hcz12_7
       try clear hcz12_8
       try clear hcz12_9
       try clear hcz20_0
       try clear hcz20_1
       try clear hcz20_10
       try clear hcz20_2
       try clear hcz20_3
       try clear hcz20_4
       try clear hcz20_5
       try clear hcz20_6
       try clear hcz20_7
       try clear hcz20_8
       try clear hcz20_9
       try clear hcz22_0
       try clear hcz22_1
       try clear hcz22_10
       try clear hcz22_2
       try clear hcz22_3
       try clear hcz22_4
       try clear hcz22_5
       try clear hcz22_6
       try clear hcz22_7
       try clear hcz22_8
       try clear hcz22_9
       try clear hcz24_0
       try clear hcz24_1
       try clear hcz24_10
       try clear hcz24_2
       try clear hcz24_3
       try clear hcz24_4
       try clear hcz24_5
       try clear hcz24_6
       try clear hcz24_7
       try clear hcz24_8
       try clear hcz24_9
       try clear hcz26_0
       try clear hcz26_1
       try clear hcz26_10
       try clear hcz26_2
       try clear hcz26_3
       try clear hcz26_4
       try clear hcz26_5
       try clear hcz26_6
       try clear hcz26_7
       try clear hcz26_8
       try clear hcz26_9
       try clear hcz30_0
       try clear hcz30_1
       try clear hcz30_10
       try clear hcz30_2
       try clear hcz30_3
       try clear hcz30_4
       try clear hcz30_5
       try clear hcz30_6
       try clear hcz30_7
       try clear hcz30_8
       try clear hcz30_9
       try clear hcz32_0
       try clear hcz32_1
       try clear hcz32_10
       try clear hcz32_2
       try clear hcz32_3
       try clear hcz32_4
       try clear hcz32_5
       try clear hcz32_6
       try clear hcz32_7
       try clear hcz32_8
       try clear hcz32_9
       try clear hcz34_0
       try clear hcz34_1
       try clear hcz34_10
       try clear hcz34_2
       try clear hcz34_3
       try clear hcz34_4
       try clear hcz34_5
       try clear hcz34_6
       try clear hcz34_7
       try clear hcz34_8
       try clear hcz34_9
       try clear hcz37_0
       try clear hcz37_1
       try clear hcz37_10
       try clear hcz37_2
       try clear hcz37_3
       try clear hcz37_4
       try clear hcz37_5
       try clear hcz37_6
       try clear hcz37_7
       try clear hcz37_8
       try clear hcz37_9
       try clear hcz38_0
       try clear hcz38_1
       try clear hcz38_10
       try clear hcz38_2
       try clear hcz38_3
       try clear hcz38_4
       try clear hcz38_5
       try clear hcz38_6
       try clear hcz38_7
       try clear hcz38_8
       try clear hcz38_9
       try clear hcz40_0
       try clear hcz40_1
       try clear hcz40_10
       try clear hcz40_2
       try clear hcz40_3
       try clear hcz40_4
       try clear hcz40_5
       try clear hcz40_6
       try clear hcz40_7
       try clear hcz40_8
       try clear hcz40_9
       try clear hcz42_0
       try clear hcz42_1
       try clear hcz42_10
       try clear hcz42_2
       try clear hcz42_3
       try clear hcz42_4
       try clear hcz42_5
       try clear hcz42_6
       try clear hcz42_7
       try clear hcz42_8
       try clear hcz42_9
       try clear hcz44_0
       try clear hcz44_1
       try clear hcz44_10
       try clear hcz44_2
       try clear hcz44_3
       try clear hcz44_4
       try clear hcz44_5
       try clear hcz44_6
       try clear hcz44_7
       try clear hcz44_8
       try clear hcz44_9
       try clear hcz47_0
       try clear hcz47_1
       try clear hcz47_10
       try clear hcz47_2
       try clear hcz47_3
       try clear hcz47_4
       try clear hcz47_5
       try clear hcz47_6
       try clear hcz47_7
       try clear hcz47_8
       try clear hcz47_9
       try clear hcz52_0
       try clear hcz52_1
       try clear hcz52_10
       try clear hcz52_2
       try clear hcz52_3
       try clear hcz52_4
       try clear hcz52_5
       try clear hcz52_6
       try clear hcz52_7
       try clear hcz52_8
       try clear hcz52_9
       try clear hcz54_0
       try clear hcz54_1
       try clear hcz54_10
       try clear hcz54_2
       try clear hcz54_3
       try clear hcz54_4
       try clear hcz54_5
       try clear hcz54_6
       try clear hcz54_7
       try clear hcz54_8
       try clear hcz54_9
       try clear hcz55_0
       try clear hcz55_1
       try clear hcz55_10
       try clear hcz55_2
       try clear hcz55_3
       try clear hcz55_4
       try clear hcz55_5
       try clear hcz55_6
       try clear hcz55_7
       try clear hcz55_8
       try clear hcz55_9
       try clear hcz59_0
       try clear hcz59_1
       try clear hcz59_10
       try clear hcz59_2
       try clear hcz59_3
       try clear hcz59_4
       try clear hcz59_5
       try clear hcz59_6
       try clear hcz59_7
       try clear hcz59_8
       try clear hcz59_9
       try clear hcz61_0
       try clear hcz61_1
       try clear hcz61_10
       try clear hcz61_2
       try clear hcz61_3
       try clear hcz61_4
       try clear hcz61_5
       try clear hcz61_6
       try clear hcz61_7
       try clear hcz61_8
       try clear hcz61_9
       try clear hcz63_0
       try clear hcz63_1
       try clear hcz63_10
       try clear hcz63_2
       try clear hcz63_3
       try clear hcz63_4
       try clear hcz63_5
       try clear hcz63_6
       try clear hcz63_7
       try clear hcz63_8
       try clear hcz63_9
       try clear hcz64_0
       try clear hcz64_1
       try clear hcz64_10
       try clear hcz64_2
       try clear hcz64_3
       try clear hcz64_4
       try clear hcz64_5
       try clear hcz64_6
       try clear hcz64_7
       try clear hcz64_8
       try clear hcz64_9
       try clear hcz66_0
       try clear hcz66_1
       try clear hcz66_10
       try clear hcz66_2
       try clear hcz66_3
       try clear hcz66_4
       try clear hcz66_5
       try clear hcz66_6
       try clear hcz66_7
       try clear hcz66_8
       try clear hcz66_9
       try clear hcz68_0
       try clear hcz68_1
       try clear hcz68_10
       try clear hcz68_2
       try clear hcz68_3
       try clear hcz68_4
       try clear hcz68_5
       try clear hcz68_6
       try clear hcz68_7
       try clear hcz68_8
       try clear hcz68_9
       try clear hcz6_0
       try clear hcz6_1
       try clear hcz6_10
       try clear hcz6_2
       try clear hcz6_3
       try clear hcz6_4
       try clear hcz6_5
       try clear hcz6_6
       try clear hcz6_7
       try clear hcz6_8
       try clear hcz6_9
       try clear hcz70_0
       try clear hcz70_1
       try clear hcz70_10
       try clear hcz70_2
       try clear hcz70_3
       try clear hcz70_4
       try clear hcz70_5
       try clear hcz70_6
       try clear hcz70_7
       try clear hcz70_8
       try clear hcz70_9
       try clear hcz73_0
       try clear hcz73_1
       try clear hcz73_10
       try clear hcz73_2
       try clear hcz73_3
       try clear hcz73_4
       try clear hcz73_5
       try clear hcz73_6
       try clear hcz73_7
       try clear hcz73_8
       try clear hcz73_9
       try clear hfz12_0
       try clear hfz12_1
       try clear hfz12_10
       try clear hfz12_2
       try clear hfz12_3
       try clear hfz12_4
       try clear hfz12_5
       try clear hfz12_6
       try clear hfz12_7
       try clear hfz12_8
       try clear hfz12_9
       try clear hfz20_0
       try clear hfz20_1
       try clear hfz20_10
       try clear hfz20_2
       try clear hfz20_3
       try clear hfz20_4
       try clear hfz20_5
       try clear hfz20_6
       try clear hfz20_7
       try clear hfz20_8
       try clear hfz20_9
       try clear hfz22_0
       try clear hfz22_1
       try clear hfz22_10
       try clear hfz22_2
       try clear hfz22_3
       try clear hfz22_4
       try clear hfz22_5
       try clear hfz22_6
       try clear hfz22_7
       try clear hfz22_8
       try clear hfz22_9
       try clear hfz24_0
       try clear hfz24_1
       try clear hfz24_10
       try clear hfz24_2
       try clear hfz24_3
       try clear hfz24_4
       try clear hfz24_5
       try clear hfz24_6
       try clear hfz24_7
       try clear hfz24_8
       try clear hfz24_9
       try clear hfz26_0
       try clear hfz26_1
       try clear hfz26_10
       try clear hfz26_2
       try clear hfz26_3
       try clear hfz26_4
       try clear hfz26_5
       try clear hfz26_6
       try clear hfz26_7
       try clear hfz26_8
       try clear hfz26_9
       try clear hfz30_0
       try clear hfz30_1
       try clear hfz30_10
       try clear hfz30_2
       try clear hfz30_3
       try clear hfz30_4
       try clear hfz30_5
       try clear hfz30_6
       try clear hfz30_7
       try clear hfz30_8
       try clear hfz30_9
       try clear hfz32_0
       try clear hfz32_1
       try clear hfz32_10
       try clear hfz32_2
       try clear hfz32_3
       try clear hfz32_4
       try clear hfz32_5
       try clear hfz32_6
       try clear hfz32_7
       try clear hfz32_8
       try clear hfz32_9
       try clear hfz34_0
       try clear hfz34_1
       try clear hfz34_10
       try clear hfz34_2
       try clear hfz34_3
       try clear hfz34_4
       try clear hfz34_5
       try clear hfz34_6
       try clear hfz34_7
       try clear hfz34_8
       try clear hfz34_9
       try clear hfz37_0
       try clear hfz37_1
       try clear hfz37_10
       try clear hfz37_2
       try clear hfz37_3
       try clear hfz37_4
       try clear hfz37_5
       try clear hfz37_6
       try clear hfz37_7
       try clear hfz37_8
       try clear hfz37_9
       try clear hfz38_0
       try clear hfz38_1
       try clear hfz38_10
       try clear hfz38_2
       try clear hfz38_3
       try clear hfz38_4
       try clear hfz38_5
       try clear hfz38_6
       try clear hfz38_7
       try clear hfz38_8
       try clear hfz38_9
       try clear hfz40_0
       try clear hfz40_1
       try clear hfz40_10
       try clear hfz40_2
       try clear hfz40_3
       try clear hfz40_4
       try clear hfz40_5
       try clear hfz40_6
       try clear hfz40_7
       try clear hfz40_8
       try clear hfz40_9
       try clear hfz42_0
       try clear hfz42_1
       try clear hfz42_10
       try clear hfz42_2
       try clear hfz42_3
       try clear hfz42_4
       try clear hfz42_5
       try clear hfz42_6
       try clear hfz42_7
       try clear hfz42_8
       try clear hfz42_9
       try clear hfz44_0
       try clear hfz44_1
       try clear hfz44_10
       try clear hfz44_2
       try clear hfz44_3
       try clear hfz44_4
       try clear hfz44_5
       try clear hfz44_6
       try clear hfz44_7
       try clear hfz44_8
       try clear hfz44_9
       try clear hfz47_0
       try clear hfz47_1
       try clear hfz47_10
       try clear hfz47_2
       try clear hfz47_3
       try clear hfz47_4
       try clear hfz47_5
       try clear hfz47_6
       try clear hfz47_7
       try clear hfz47_8
       try clear hfz47_9
       try clear hfz52_0
       try clear hfz52_1
       try clear hfz52_10
       try clear hfz52_2
       try clear hfz52_3
       try clear hfz52_4
       try clear hfz52_5
       try clear hfz52_6
       try clear hfz52_7
       try clear hfz52_8
       try clear hfz52_9
       try clear hfz54_0
       try clear hfz54_1
       try clear hfz54_10
       try clear hfz54_2
       try clear hfz54_3
       try clear hfz54_4
       try clear hfz54_5
       try clear hfz54_6
       try clear hfz54_7
       try clear hfz54_8
       try clear hfz54_9
       try clear hfz55_0
       try clear hfz55_1
       try clear hfz55_10
       try clear hfz55_2
       try clear hfz55_3
       try clear hfz55_4
       try clear hfz55_5
       try clear hfz55_6
       try clear hfz55_7
       try clear hfz55_8
       try clear hfz55_9
       try clear hfz59_0
       try clear hfz59_1
       try clear hfz59_10
       try clear hfz59_2
       try clear hfz59_3
       try clear hfz59_4
       try clear hfz59_5
       try clear hfz59_6
       try clear hfz59_7
       try clear hfz59_8
       try clear hfz59_9
       try clear hfz61_0
       try clear hfz61_1
       try clear hfz61_10
       try clear hfz61_2
       try clear hfz61_3
       try clear hfz61_4
       try clear hfz61_5
       try clear hfz61_6
       try clear hfz61_7
       try clear hfz61_8
       try clear hfz61_9
       try clear hfz63_0
       try clear hfz63_1
       try clear hfz63_10
       try clear hfz63_2
       try clear hfz63_3
       try clear hfz63_4
       try clear hfz63_5
       try clear hfz63_6
       try clear hfz63_7
       try clear hfz63_8
       try clear hfz63_9
       try clear hfz64_0
       try clear hfz64_1
       try clear hfz64_10
       try clear hfz64_2
       try clear hfz64_3
       try clear hfz64_4
       try clear hfz64_5
       try clear hfz64_6
       try clear hfz64_7
       try clear hfz64_8
       try clear hfz64_9
       try clear hfz66_0
       try clear hfz66_1
       try clear hfz66_10
       try clear hfz66_2
       try clear hfz66_3
       try clear hfz66_4
       try clear hfz66_5
       try clear hfz66_6
       try clear hfz66_7
       try clear hfz66_8
       try clear hfz66_9
       try clear hfz68_0
       try clear hfz68_1
       try clear hfz68_10
       try clear hfz68_2
       try clear hfz68_3
       try clear hfz68_4
       try clear hfz68_5
       try clear hfz68_6
       try clear hfz68_7
       try clear hfz68_8
       try clear hfz68_9
       try clear hfz6_0
       try clear hfz6_1
       try clear hfz6_10
       try clear hfz6_2
       try clear hfz6_3
       try clear hfz6_4
       try clear hfz6_5
       try clear hfz6_6
       try clear hfz6_7
       try clear hfz6_8
       try clear hfz6_9
       try clear hfz70_0
       try clear hfz70_1
       try clear hfz70_10
       try clear hfz70_2
       try clear hfz70_3
       try clear hfz70_4
       try clear hfz70_5
       try clear hfz70_6
       try clear hfz70_7
       try clear hfz70_8
       try clear hfz70_9
       try clear hfz73_0
       try clear hfz73_1
       try clear hfz73_10
       try clear hfz73_2
       try clear hfz73_3
       try clear hfz73_4
       try clear hfz73_5
       try clear hfz73_6
       try clear hfz73_7
       try clear hfz73_8
       try clear hfz73_9
       try clear p2
       obtain ⟨kq, x55_70, rfl, HA, HJ70, BK370, BK374, HB⟩ := hcut
       cases kq with
       | zero => exact absurd HA.out (by simp [script_Parse.j1])
       | succ kj70 =>
        have H := HA.out
        clear HA
        simp only [script_Parse.j1] at H
        by_cases c75 : x55_70 = true
        ·subst c75
         have H1 : ((hist_Num.f t372).bind fun t393 => (if a0.toList = ([] : List UInt8) then (some (0, 0, 0, 0, (⟨#[]⟩ : ByteArray), (⟨#[]⟩ : ByteArray), 0, 0, ([] : List Int), 0, ([] : List Int), some 14)) else ((script_Text.f x375000_1 0 t393 0 (⟨#[]⟩ : ByteArray) (⟨#[]⟩ : ByteArray) 0 0 ([] : List Int) 0 ([] : List Int)).bind fun t394 => (if t394.toList = a0.toList then (some (x375000_1, 0, t393, 0, (⟨#[]⟩ : ByteArray), (⟨#[]⟩ : ByteArray), 0, 0, ([] : List Int), 0, ([] : List Int), none)) else (some (0, 0, 0, 0, (⟨#[]⟩ : ByteArray), (⟨#[]⟩ : ByteArray), 0, 0, ([] : List Int), 0, ([] : List Int), some 14)))))) = some (r1, r2, r3, r4, r5, r6, r7, r8, r9, r10, r11, r12) := by rw [if_pos rfl] at H; exact H
         clear H
         have H := H1
         clear H1
         replace H := Option.bind_eq_some_iff.mp H
         obtain ⟨t393, A760, H⟩ := H
         try dsimp only at H
         have A76 := Aside0.mk A760
         clear A760
         by_cases c77 : a0.toList = ([] : List UInt8)
         ·rw [if_pos c77] at H
          have c77b0 : (a0.toList == ([] : List UInt8)) = true := beq_iff_eq.mpr c77
          have c77b1 : (a0.toList != ([] : List UInt8)) = false := bne_eq_false_iff_eq.mpr c77
          clear c77
          simp only [Option.some.injEq, Prod.mk.injEq] at H
          obtain ⟨rfl, rfl, rfl, rfl, rfl, rfl, rfl, rfl, rfl, rfl, rfl, rfl⟩ := H
          go_wp2_with (first | ((with_reducible refine gate_callee (f := 44) rfl ?_); refine goesL_ (some 59) rfl rfl Tryz.func44 (by kernel_rfl) rfl #[.string t372] rfl (by (try simp only [List.map_toArray, List.map_cons, List.map_nil]); first | done | rfl | (simp only [List.length_drop, List.length_take]; rfl)) ?_; (with_reducible refine (hist_Num.calls t372 t393 _ A76.out ?hT_).mono ?_); (case hT_ => exact Tabs.after HT.out (by repeat (first | (with_reducible first | exact HB.out | apply s1 | apply s2 | apply s3 | refine s4 ?_ GE370.out | refine s4 ?_ GE374.out) | exact HB.out))); rintro e w78 ⟨rfl, hb⟩; refine ⟨_, rfl, ?_⟩; have n0_ := Aside0.mk (blk_below (g := gb370) (o := .cells #[.int .i64 0, .int .i64 0, .int .i64 0, .int .i64 0, .string ⟨#[]⟩, .string ⟨#[]⟩, .int .i64 0, .int .i64 0, .slice none 0 0, .int .i64 0, .slice none 0 0] 52 (0, 0)) (by (with_reducible repeat first | apply q1 | apply q2 | apply q3); exact BK370.out) hb); have n1_ := Aside0.mk (blk_below (g := gb374) (o := .cells #[.int .i64 x375000_1, .int .i64 0, .int .i64 0, .int .i64 0, .string ⟨#[]⟩, .string ⟨#[]⟩, .int .i64 0, .int .i64 0, .slice none 0 0, .int .i64 0, .slice none 0 0] 52 (0, 0)) (by (with_reducible repeat first | apply q1 | apply q2 | apply q3); exact BK374.out) hb); have n2_ := Aside0.mk (below_step (by repeat (first | (with_reducible first | exact HB.out | apply s1 | apply s2 | apply s3 | refine s4 ?_ GE370.out | refine s4 ?_ GE374.out) | exact HB.out)) hb); clear BK370; clear BK374; clear HB; have BK370 := n0_; have BK374 := n1_; have HB := n2_; clear n0_ n1_ n2_; (try clear hb); (try clear hb2); (try clear hk); (try clear hi); have hnb79 := NB374_370.out; have hnc79 := NB370_374.out; have hcz80_0 : w78.cell? ⟨gb374, 0, none⟩ = some (.int .i64 x375000_1) := (blk_cell BK374.out 0).trans rfl; have hcz80_1 : w78.cell? ⟨gb374, 1, none⟩ = some (.int .i64 0) := (blk_cell BK374.out 1).trans rfl; have hcz80_2 : w78.cell? ⟨gb374, 2, none⟩ = some (.int .i64 0) := (blk_cell BK374.out 2).trans rfl; have hcz80_3 : w78.cell? ⟨gb374, 3, none⟩ = some (.int .i64 0) := (blk_cell BK374.out 3).trans rfl; have hcz80_4 : w78.cell? ⟨gb374, 4, none⟩ = some (.string ⟨#[]⟩) := (blk_cell BK374.out 4).trans rfl; have hcz80_5 : w78.cell? ⟨gb374, 5, none⟩ = some (.string ⟨#[]⟩) := (blk_cell BK374.out 5).trans rfl; have hcz80_6 : w78.cell? ⟨gb374, 6, none⟩ = some (.int .i64 0) := (blk_cell BK374.out 6).trans rfl; have hcz80_7 : w78.cell? ⟨gb374, 7, none⟩ = some (.int .i64 0) := (blk_cell BK374.out 7).trans rfl; have hcz80_8 : w78.cell? ⟨gb374, 8, none⟩ = some (.slice none 0 0) := (blk_cell BK374.out 8).trans rfl; have hcz80_9 : w78.cell? ⟨gb374, 9, none⟩ = some (.int .i64 0) := (blk_cell BK374.out 9).trans rfl; have hcz80_10 : w78.cell? ⟨gb374, 10, none⟩ = some (.slice none 0 0) := (blk_cell BK374.out 10).trans rfl; have hfz80_0 := blk_frozen BK374.out 0; have hfz80_1 := blk_frozen BK374.out 1; have hfz80_2 := blk_frozen BK374.out 2; have hfz80_3 := blk_frozen BK374.out 3; have hfz80_4 := blk_frozen BK374.out 4; have hfz80_5 := blk_frozen BK374.out 5; have hfz80_6 := blk_frozen BK374.out 6; have hfz80_7 := blk_frozen BK374.out 7; have hfz80_8 := blk_frozen BK374.out 8; have hfz80_9 := blk_frozen BK374.out 9; have hfz80_10 := blk_frozen BK374.out 10; have hcz81_0 : w78.cell? ⟨gb370, 0, none⟩ = some (.int .i64 0) := (blk_cell BK370.out 0).trans rfl; have hcz81_1 : w78.cell? ⟨gb370, 1, none⟩ = some (.int .i64 0) := (blk_cell BK370.out 1).trans rfl; have hcz81_2 : w78.cell? ⟨gb370, 2, none⟩ = some (.int .i64 0) := (blk_cell BK370.out 2).trans rfl; have hcz81_3 : w78.cell? ⟨gb370, 3, none⟩ = some (.int .i64 0) := (blk_cell BK370.out 3).trans rfl; have hcz81_4 : w78.cell? ⟨gb370, 4, none⟩ = some (.string ⟨#[]⟩) := (blk_cell BK370.out 4).trans rfl; have hcz81_5 : w78.cell? ⟨gb370, 5, none⟩ = some (.string ⟨#[]⟩) := (blk_cell BK370.out 5).trans rfl; have hcz81_6 : w78.cell? ⟨gb370, 6, none⟩ = some (.int .i64 0) := (blk_cell BK370.out 6).trans rfl; have hcz81_7 : w78.cell? ⟨gb370, 7, none⟩ = some (.int .i64 0) := (blk_cell BK370.out 7).trans rfl; have hcz81_8 : w78.cell? ⟨gb370, 8, none⟩ = some (.slice none 0 0) := (blk_cell BK370.out 8).trans rfl; have hcz81_9 : w78.cell? ⟨gb370, 9, none⟩ = some (.int .i64 0) := (blk_cell BK370.out 9).trans rfl; have hcz81_10 : w78.cell? ⟨gb370, 10, none⟩ = some (.slice none 0 0) := (blk_cell BK370.out 10).trans rfl; have hfz81_0 := blk_frozen BK370.out 0; have hfz81_1 := blk_frozen BK370.out 1; have hfz81_2 := blk_frozen BK370.out 2; have hfz81_3 := blk_frozen BK370.out 3; have hfz81_4 := blk_frozen BK370.out 4; have hfz81_5 := blk_frozen BK370.out 5; have hfz81_6 := blk_frozen BK370.out 6; have hfz81_7 := blk_frozen BK370.out 7; have hfz81_8 := blk_frozen BK370.out 8; have hfz81_9 := blk_frozen BK370.out 9; have hfz81_10 := blk_frozen BK370.out 10))
          refine bodyPost_ret (results_ct rfl _ _ gb370 52 #[.int .i64 0, .int .i64 0, .int .i64 0, .int .i64 0, .string ⟨#[]⟩, .string ⟨#[]⟩, .int .i64 0, .int .i64 0, .slice none 0 0, .int .i64 0, .slice none 0 0] (0, 0) _ rfl (by (with_reducible repeat first | apply q1 | apply q2 | apply q3); refine q5 ?_ 10 _ rfl; refine q5 ?_ 9 _ rfl; refine q5 ?_ 8 _ rfl; refine q5 ?_ 7 _ rfl; refine q5 ?_ 6 _ rfl; refine q5 ?_ 5 _ rfl; refine q5 ?_ 4 _ rfl; refine q5 ?_ 3 _ rfl; refine q5 ?_ 2 _ rfl; refine q5 ?_ 1 _ rfl; refine q5 ?_ 0 _ rfl; (with_reducible repeat first | apply q1 | apply q2 | apply q3); refine blk_far ?_ NB370_374.out _; (with_reducible repeat first | apply q1 | apply q2 | apply q3); exact BK370.out) Tryz.underlying52 rfl (by kernel_rfl)) rfl ?_
          exact ⟨_, _, by first | rfl | (simp [errW_none, errW_some] <;> rfl) | (simp [*, errW_none, errW_some] <;> rfl), by exact Kd.R_nil _ _ _ _ _, by exact Kd.R_nil _ _ _ _ _, by repeat (first | (with_reducible first | exact HB.out | apply s1 | apply s2 | apply s3 | refine s4 ?_ GE370.out | refine s4 ?_ GE374.out) | exact HB.out)⟩
         ·rw [if_neg c77] at H
          have c77b0 : (a0.toList == ([] : List UInt8)) = false := beq_eq_false_iff_ne.mpr c77
          have c77b1 : (a0.toList != ([] : List UInt8)) = true := bne_iff_ne.mpr c77
          replace H := Option.bind_eq_some_iff.mp H
          obtain ⟨t394, A820, H⟩ := H
          try dsimp only at H
          have A82 := Aside0.mk A820
          clear A820
          by_cases c83 : t394.toList = a0.toList
          ·rw [if_pos c83] at H
           have c83b0 : (t394.toList == a0.toList) = true := beq_iff_eq.mpr c83
           have c83b1 : (t394.toList != a0.toList) = false := bne_eq_false_iff_eq.mpr c83
           clear c83
           simp only [Option.some.injEq, Prod.mk.injEq] at H
           obtain ⟨rfl, rfl, rfl, rfl, rfl, rfl, rfl, rfl, rfl, rfl, rfl, rfl⟩ := H
           go_wp2_with (first | ((with_reducible refine gate_callee (f := 44) rfl ?_); refine goesL_ (some 59) rfl rfl Tryz.func44 (by kernel_rfl) rfl #[.string t372] rfl (by (try simp only [List.map_toArray, List.map_cons, List.map_nil]); first | done | rfl | (simp only [List.length_drop, List.length_take]; rfl)) ?_; (with_reducible refine (hist_Num.calls t372 t393 _ A76.out ?hT_).mono ?_); (case hT_ => exact Tabs.after HT.out (by repeat (first | (with_reducible first | exact HB.out | apply s1 | apply s2 | apply s3 | refine s4 ?_ GE370.out | refine s4 ?_ GE374.out) | exact HB.out))); rintro e w84 ⟨rfl, hb⟩; refine ⟨_, rfl, ?_⟩; have n0_ := Aside0.mk (blk_below (g := gb370) (o := .cells #[.int .i64 0, .int .i64 0, .int .i64 0, .int .i64 0, .string ⟨#[]⟩, .string ⟨#[]⟩, .int .i64 0, .int .i64 0, .slice none 0 0, .int .i64 0, .slice none 0 0] 52 (0, 0)) (by (with_reducible repeat first | apply q1 | apply q2 | apply q3); exact BK370.out) hb); have n1_ := Aside0.mk (blk_below (g := gb374) (o := .cells #[.int .i64 x375000_1, .int .i64 0, .int .i64 0, .int .i64 0, .string ⟨#[]⟩, .string ⟨#[]⟩, .int .i64 0, .int .i64 0, .slice none 0 0, .int .i64 0, .slice none 0 0] 52 (0, 0)) (by (with_reducible repeat first | apply q1 | apply q2 | apply q3); exact BK374.out) hb); have n2_ := Aside0.mk (below_step (by repeat (first | (with_reducible first | exact HB.out | apply s1 | apply s2 | apply s3 | refine s4 ?_ GE370.out | refine s4 ?_ GE374.out) | exact HB.out)) hb); clear BK370; clear BK374; clear HB; have BK370 := n0_; have BK374 := n1_; have HB := n2_; clear n0_ n1_ n2_; (try clear hb); (try clear hb2); (try clear hk); (try clear hi); have hnb85 := NB374_370.out; have hnc85 := NB370_374.out; have hcz86_0 : w84.cell? ⟨gb374, 0, none⟩ = some (.int .i64 x375000_1) := (blk_cell BK374.out 0).trans rfl; have hcz86_1 : w84.cell? ⟨gb374, 1, none⟩ = some (.int .i64 0) := (blk_cell BK374.out 1).trans rfl; have hcz86_2 : w84.cell? ⟨gb374, 2, none⟩ = some (.int .i64 0) := (blk_cell BK374.out 2).trans rfl; have hcz86_3 : w84.cell? ⟨gb374, 3, none⟩ = some (.int .i64 0) := (blk_cell BK374.out 3).trans rfl; have hcz86_4 : w84.cell? ⟨gb374, 4, none⟩ = some (.string ⟨#[]⟩) := (blk_cell BK374.out 4).trans rfl; have hcz86_5 : w84.cell? ⟨gb374, 5, none⟩ = some (.string ⟨#[]⟩) := (blk_cell BK374.out 5).trans rfl; have hcz86_6 : w84.cell? ⟨gb374, 6, none⟩ = some (.int .i64 0) := (blk_cell BK374.out 6).trans rfl; have hcz86_7 : w84.cell? ⟨gb374, 7, none⟩ = some (.int .i64 0) := (blk_cell BK374.out 7).trans rfl; have hcz86_8 : w84.cell? ⟨gb374, 8, none⟩ = some (.slice none 0 0) := (blk_cell BK374.out 8).trans rfl; have hcz86_9 : w84.cell? ⟨gb374, 9, none⟩ = some (.int .i64 0) := (blk_cell BK374.out 9).trans rfl; have hcz86_10 : w84.cell? ⟨gb374, 10, none⟩ = some (.slice none 0 0) := (blk_cell BK374.out 10).trans rfl; have hfz86_0 := blk_frozen BK374.out 0; have hfz86_1 := blk_frozen BK374.out 1; have hfz86_2 := blk_frozen BK374.out 2; have hfz86_3 := blk_frozen BK374.out 3; have hfz86_4 := blk_frozen BK374.out 4; have hfz86_5 := blk_frozen BK374.out 5; have hfz86_6 := blk_frozen BK374.out 6; have hfz86_7 := blk_frozen BK374.out 7; have hfz86_8 := blk_frozen BK374.out 8; have hfz86_9 := blk_frozen BK374.out 9; have hfz86_10 := blk_frozen BK374.out 10) | (go_at_call 22; (refine (script_Text.calls x375000_1 0 t393 0 (⟨#[]⟩ : ByteArray) (⟨#[]⟩ : ByteArray) 0 0 _ _ ([] : List Int) 0 _ _ ([] : List Int) t394 _ ?side1 ?side2 ?side3 ?side4 A82.out ?hT_).mono ?_); (case hT_ => exact Tabs.after HT.out (by repeat (first | (with_reducible first | exact HB.out | apply s1 | apply s2 | apply s3 | refine s4 ?_ GE370.out | refine s4 ?_ GE374.out) | exact HB.out))); (case side1 => exact Kd.C_nil _ _); (case side2 => exact Nat.le_refl _); (case side3 => exact Kd.C_nil _ _); (case side4 => exact Nat.le_refl _); rintro e w87 ⟨rfl, hb⟩; have n0_ := Aside0.mk (blk_below (g := gb370) (o := .cells #[.int .i64 0, .int .i64 0, .int .i64 0, .int .i64 0, .string ⟨#[]⟩, .string ⟨#[]⟩, .int .i64 0, .int .i64 0, .slice none 0 0, .int .i64 0, .slice none 0 0] 52 (0, 0)) (by (with_reducible repeat first | apply q1 | apply q2 | apply q3); refine blk_far ?_ NB370_374.out _; (with_reducible repeat first | apply q1 | apply q2 | apply q3); exact BK370.out) hb); have n1_ := Aside0.mk (blk_below (g := gb374) (o := .cells #[.int .i64 x375000_1, .int .i64 0, .int .i64 t393, .int .i64 0, .string ⟨#[]⟩, .string ⟨#[]⟩, .int .i64 0, .int .i64 0, .slice none 0 0, .int .i64 0, .slice none 0 0] 52 (0, 0)) (by (with_reducible repeat first | apply q1 | apply q2 | apply q3); refine blk_put (cs := #[.int .i64 x375000_1, .int .i64 0, .int .i64 0, .int .i64 0, .string ⟨#[]⟩, .string ⟨#[]⟩, .int .i64 0, .int .i64 0, .slice none 0 0, .int .i64 0, .slice none 0 0]) ?_ 2 _ rfl; (with_reducible repeat first | apply q1 | apply q2 | apply q3); exact BK374.out) hb); have n2_ := Aside0.mk (below_step (by repeat (first | (with_reducible first | exact HB.out | apply s1 | apply s2 | apply s3 | refine s4 ?_ GE370.out | refine s4 ?_ GE374.out) | exact HB.out)) hb); clear BK370; clear BK374; clear HB; have BK370 := n0_; have BK374 := n1_; have HB := n2_; clear n0_ n1_ n2_; (try clear hb); (try clear hb2); (try clear hk); (try clear hi); have hcz88_0 : w87.cell? ⟨gb374, 0, none⟩ = some (.int .i64 x375000_1) := (blk_cell BK374.out 0).trans rfl; have hcz88_1 : w87.cell? ⟨gb374, 1, none⟩ = some (.int .i64 0) := (blk_cell BK374.out 1).trans rfl; have hcz88_2 : w87.cell? ⟨gb374, 2, none⟩ = some (.int .i64 t393) := (blk_cell BK374.out 2).trans rfl; have hcz88_3 : w87.cell? ⟨gb374, 3, none⟩ = some (.int .i64 0) := (blk_cell BK374.out 3).trans rfl; have hcz88_4 : w87.cell? ⟨gb374, 4, none⟩ = some (.string ⟨#[]⟩) := (blk_cell BK374.out 4).trans rfl; have hcz88_5 : w87.cell? ⟨gb374, 5, none⟩ = some (.string ⟨#[]⟩) := (blk_cell BK374.out 5).trans rfl; have hcz88_6 : w87.cell? ⟨gb374, 6, none⟩ = some (.int .i64 0) := (blk_cell BK374.out 6).trans rfl; have hcz88_7 : w87.cell? ⟨gb374, 7, none⟩ = some (.int .i64 0) := (blk_cell BK374.out 7).trans rfl; have hcz88_8 : w87.cell? ⟨gb374, 8, none⟩ = some (.slice none 0 0) := (blk_cell BK374.out 8).trans rfl; have hcz88_9 : w87.cell? ⟨gb374, 9, none⟩ = some (.int .i64 0) := (blk_cell BK374.out 9).trans rfl; have hcz88_10 : w87.cell? ⟨gb374, 10, none⟩ = some (.slice none 0 0) := (blk_cell BK374.out 10).trans rfl; have hfz88_0 := blk_frozen BK374.out 0; have hfz88_1 := blk_frozen BK374.out 1; have hfz88_2 := blk_frozen BK374.out 2; have hfz88_3 := blk_frozen BK374.out 3; have hfz88_4 := blk_frozen BK374.out 4; have hfz88_5 := blk_frozen BK374.out 5; have hfz88_6 := blk_frozen BK374.out 6; have hfz88_7 := blk_frozen BK374.out 7; have hfz88_8 := blk_frozen BK374.out 8; have hfz88_9 := blk_frozen BK374.out 9; have hfz88_10 := blk_frozen BK374.out 10; have hcz89_0 : w87.cell? ⟨gb370, 0, none⟩ = some (.int .i64 0) := (blk_cell BK370.out 0).trans rfl; have hcz89_1 : w87.cell? ⟨gb370, 1, none⟩ = some (.int .i64 0) := (blk_cell BK370.out 1).trans rfl; have hcz89_2 : w87.cell? ⟨gb370, 2, none⟩ = some (.int .i64 0) := (blk_cell BK370.out 2).trans rfl; have hcz89_3 : w87.cell? ⟨gb370, 3, none⟩ = some (.int .i64 0) := (blk_cell BK370.out 3).trans rfl; have hcz89_4 : w87.cell? ⟨gb370, 4, none⟩ = some (.string ⟨#[]⟩) := (blk_cell BK370.out 4).trans rfl; have hcz89_5 : w87.cell? ⟨gb370, 5, none⟩ = some (.string ⟨#[]⟩) := (blk_cell BK370.out 5).trans rfl; have hcz89_6 : w87.cell? ⟨gb370, 6, none⟩ = some (.int .i64 0) := (blk_cell BK370.out 6).trans rfl; have hcz89_7 : w87.cell? ⟨gb370, 7, none⟩ = some (.int .i64 0) := (blk_cell BK370.out 7).trans rfl; have hcz89_8 : w87.cell? ⟨gb370, 8, none⟩ = some (.slice none 0 0) := (blk_cell BK370.out 8).trans rfl; have hcz89_9 : w87.cell? ⟨gb370, 9, none⟩ = some (.int .i64 0) := (blk_cell BK370.out 9).trans rfl; have hcz89_10 : w87.cell? ⟨gb370, 10, none⟩ = some (.slice none 0 0) := (blk_cell BK370.out 10).trans rfl; have hfz89_0 := blk_frozen BK370.out 0; have hfz89_1 := blk_frozen BK370.out 1; have hfz89_2 := blk_frozen BK370.out 2; have hfz89_3 := blk_frozen BK370.out 3; have hfz89_4 := blk_frozen BK370.out 4; have hfz89_5 := blk_frozen BK370.out 5; have hfz89_6 := blk_frozen BK370.out 6; have hfz89_7 := blk_frozen BK370.out 7; have hfz89_8 := blk_frozen BK370.out 8; have hfz89_9 := blk_frozen BK370.out 9; have hfz89_10 := blk_frozen BK370.out 10))
           refine bodyPost_ret (results_ct rfl _ _ gb370 52 #[.int .i64 x375000_1, .int .i64 0, .int .i64 t393, .int .i64 0, .string ⟨#[]⟩, .string ⟨#[]⟩, .int .i64 0, .int .i64 0, .slice none 0 0, .int .i64 0, .slice none 0 0] (0, 0) _ rfl (by (with_reducible repeat first | apply q1 | apply q2 | apply q3); refine q5 ?_ 10 _ rfl; refine q5 ?_ 9 _ rfl; refine q5 ?_ 8 _ rfl; refine q5 ?_ 7 _ rfl; refine q5 ?_ 6 _ rfl; refine q5 ?_ 5 _ rfl; refine q5 ?_ 4 _ rfl; refine q5 ?_ 3 _ rfl; refine blk_put (cs := #[.int .i64 x375000_1, .int .i64 0, .int .i64 0, .int .i64 0, .string ⟨#[]⟩, .string ⟨#[]⟩, .int .i64 0, .int .i64 0, .slice none 0 0, .int .i64 0, .slice none 0 0]) ?_ 2 _ rfl; refine q5 ?_ 1 _ rfl; refine blk_put (cs := #[.int .i64 0, .int .i64 0, .int .i64 0, .int .i64 0, .string ⟨#[]⟩, .string ⟨#[]⟩, .int .i64 0, .int .i64 0, .slice none 0 0, .int .i64 0, .slice none 0 0]) ?_ 0 _ rfl; (with_reducible repeat first | apply q1 | apply q2 | apply q3); exact BK370.out) Tryz.underlying52 rfl (by kernel_rfl)) rfl ?_
           exact ⟨_, _, by first | rfl | (simp [errW_none, errW_some] <;> rfl) | (simp [*, errW_none, errW_some] <;> rfl), by exact Kd.R_nil _ _ _ _ _, by exact Kd.R_nil _ _ _ _ _, by repeat (first | (with_reducible first | exact HB.out | apply s1 | apply s2 | apply s3 | refine s4 ?_ GE370.out | refine s4 ?_ GE374.out) | exact HB.out)⟩
          ·rw [if_neg c83] at H
           have c83b0 : (t394.toList == a0.toList) = false := beq_eq_false_iff_ne.mpr c83
           have c83b1 : (t394.toList != a0.toList) = true := bne_iff_ne.mpr c83
           simp only [Option.some.injEq, Prod.mk.injEq] at H
           obtain ⟨rfl, rfl, rfl, rfl, rfl, rfl, rfl, rfl, rfl, rfl, rfl, rfl⟩ := H
           go_wp2_with (first | ((with_reducible refine gate_callee (f := 44) rfl ?_); refine goesL_ (some 59) rfl rfl Tryz.func44 (by kernel_rfl) rfl #[.string t372] rfl (by (try simp only [List.map_toArray, List.map_cons, List.map_nil]); first | done | rfl | (simp only [List.length_drop, List.length_take]; rfl)) ?_; (with_reducible refine (hist_Num.calls t372 t393 _ A76.out ?hT_).mono ?_); (case hT_ => exact Tabs.after HT.out (by repeat (first | (with_reducible first | exact HB.out | apply s1 | apply s2 | apply s3 | refine s4 ?_ GE370.out | refine s4 ?_ GE374.out) | exact HB.out))); rintro e w90 ⟨rfl, hb⟩; refine ⟨_, rfl, ?_⟩; have n0_ := Aside0.mk (blk_below (g := gb370) (o := .cells #[.int .i64 0, .int .i64 0, .int .i64 0, .int .i64 0, .string ⟨#[]⟩, .string ⟨#[]⟩, .int .i64 0, .int .i64 0, .slice none 0 0, .int .i64 0, .slice none 0 0] 52 (0, 0)) (by (with_reducible repeat first | apply q1 | apply q2 | apply q3); exact BK370.out) hb); have n1_ := Aside0.mk (blk_below (g := gb374) (o := .cells #[.int .i64 x375000_1, .int .i64 0, .int .i64 0, .int .i64 0, .string ⟨#[]⟩, .string ⟨#[]⟩, .int .i64 0, .int .i64 0, .slice none 0 0, .int .i64 0, .slice none 0 0] 52 (0, 0)) (by (with_reducible repeat first | apply q1 | apply q2 | apply q3); exact BK374.out) hb); have n2_ := Aside0.mk (below_step (by repeat (first | (with_reducible first | exact HB.out | apply s1 | apply s2 | apply s3 | refine s4 ?_ GE370.out | refine s4 ?_ GE374.out) | exact HB.out)) hb); clear BK370; clear BK374; clear HB; have BK370 := n0_; have BK374 := n1_; have HB := n2_; clear n0_ n1_ n2_; (try clear hb); (try clear hb2); (try clear hk); (try clear hi); have hnb91 := NB374_370.out; have hnc91 := NB370_374.out; have hcz92_0 : w90.cell? ⟨gb374, 0, none⟩ = some (.int .i64 x375000_1) := (blk_cell BK374.out 0).trans rfl; have hcz92_1 : w90.cell? ⟨gb374, 1, none⟩ = some (.int .i64 0) := (blk_cell BK374.out 1).trans rfl; have hcz92_2 : w90.cell? ⟨gb374, 2, none⟩ = some (.int .i64 0) := (blk_cell BK374.out 2).trans rfl; have hcz92_3 : w90.cell? ⟨gb374, 3, none⟩ = some (.int .i64 0) := (blk_cell BK374.out 3).trans rfl; have hcz92_4 : w90.cell? ⟨gb374, 4, none⟩ = some (.string ⟨#[]⟩) := (blk_cell BK374.out 4).trans rfl; have hcz92_5 : w90.cell? ⟨gb374, 5, none⟩ = some (.string ⟨#[]⟩) := (blk_cell BK374.out 5).trans rfl; have hcz92_6 : w90.cell? ⟨gb374, 6, none⟩ = some (.int .i64 0) := (blk_cell BK374.out 6).trans rfl; have hcz92_7 : w90.cell? ⟨gb374, 7, none⟩ = some (.int .i64 0) := (blk_cell BK374.out 7).trans rfl; have hcz92_8 : w90.cell? ⟨gb374, 8, none⟩ = some (.slice none 0 0) := (blk_cell BK374.out 8).trans rfl; have hcz92_9 : w90.cell? ⟨gb374, 9, none⟩ = some (.int .i64 0) := (blk_cell BK374.out 9).trans rfl; have hcz92_10 : w90.cell? ⟨gb374, 10, none⟩ = some (.slice none 0 0) := (blk_cell BK374.out 10).trans rfl; have hfz92_0 := blk_frozen BK374.out 0; have hfz92_1 := blk_frozen BK374.out 1; have hfz92_2 := blk_frozen BK374.out 2; have hfz92_3 := blk_frozen BK374.out 3; have hfz92_4 := blk_frozen BK374.out 4; have hfz92_5 := blk_frozen BK374.out 5; have hfz92_6 := blk_frozen BK374.out 6; have hfz92_7 := blk_frozen BK374.out 7; have hfz92_8 := blk_frozen BK374.out 8; have hfz92_9 := blk_frozen BK374.out 9; have hfz92_10 := blk_frozen BK374.out 10) | (go_at_call 22; (refine (script_Text.calls x375000_1 0 t393 0 (⟨#[]⟩ : ByteArray) (⟨#[]⟩ : ByteArray) 0 0 _ _ ([] : List Int) 0 _ _ ([] : List Int) t394 _ ?side1 ?side2 ?side3 ?side4 A82.out ?hT_).mono ?_); (case hT_ => exact Tabs.after HT.out (by repeat (first | (with_reducible first | exact HB.out | apply s1 | apply s2 | apply s3 | refine s4 ?_ GE370.out | refine s4 ?_ GE374.out) | exact HB.out))); (case side1 => exact Kd.C_nil _ _); (case side2 => exact Nat.le_refl _); (case side3 => exact Kd.C_nil _ _); (case side4 => exact Nat.le_refl _); rintro e w93 ⟨rfl, hb⟩; have n0_ := Aside0.mk (blk_below (g := gb370) (o := .cells #[.int .i64 0, .int .i64 0, .int .i64 0, .int .i64 0, .string ⟨#[]⟩, .string ⟨#[]⟩, .int .i64 0, .int .i64 0, .slice none 0 0, .int .i64 0, .slice none 0 0] 52 (0, 0)) (by (with_reducible repeat first | apply q1 | apply q2 | apply q3); refine blk_far ?_ NB370_374.out _; (with_reducible repeat first | apply q1 | apply q2 | apply q3); exact BK370.out) hb); have n1_ := Aside0.mk (blk_below (g := gb374) (o := .cells #[.int .i64 x375000_1, .int .i64 0, .int .i64 t393, .int .i64 0, .string ⟨#[]⟩, .string ⟨#[]⟩, .int .i64 0, .int .i64 0, .slice none 0 0, .int .i64 0, .slice none 0 0] 52 (0, 0)) (by (with_reducible repeat first | apply q1 | apply q2 | apply q3); refine blk_put (cs := #[.int .i64 x375000_1, .int .i64 0, .int .i64 0, .int .i64 0, .string ⟨#[]⟩, .string ⟨#[]⟩, .int .i64 0, .int .i64 0, .slice none 0 0, .int .i64 0, .slice none 0 0]) ?_ 2 _ rfl; (with_reducible repeat first | apply q1 | apply q2 | apply q3); exact BK374.out) hb); have n2_ := Aside0.mk (below_step (by repeat (first | (with_reducible first | exact HB.out | apply s1 | apply s2 | apply s3 | refine s4 ?_ GE370.out | refine s4 ?_ GE374.out) | exact HB.out)) hb); clear BK370; clear BK374; clear HB; have BK370 := n0_; have BK374 := n1_; have HB := n2_; clear n0_ n1_ n2_; (try clear hb); (try clear hb2); (try clear hk); (try clear hi); have hcz94_0 : w93.cell? ⟨gb370, 0, none⟩ = some (.int .i64 0) := (blk_cell BK370.out 0).trans rfl; have hcz94_1 : w93.cell? ⟨gb370, 1, none⟩ = some (.int .i64 0) := (blk_cell BK370.out 1).trans rfl; have hcz94_2 : w93.cell? ⟨gb370, 2, none⟩ = some (.int .i64 0) := (blk_cell BK370.out 2).trans rfl; have hcz94_3 : w93.cell? ⟨gb370, 3, none⟩ = some (.int .i64 0) := (blk_cell BK370.out 3).trans rfl; have hcz94_4 : w93.cell? ⟨gb370, 4, none⟩ = some (.string ⟨#[]⟩) := (blk_cell BK370.out 4).trans rfl; have hcz94_5 : w93.cell? ⟨gb370, 5, none⟩ = some (.string ⟨#[]⟩) := (blk_cell BK370.out 5).trans rfl; have hcz94_6 : w93.cell? ⟨gb370, 6, none⟩ = some (.int .i64 0) := (blk_cell BK370.out 6).trans rfl; have hcz94_7 : w93.cell? ⟨gb370, 7, none⟩ = some (.int .i64 0) := (blk_cell BK370.out 7).trans rfl; have hcz94_8 : w93.cell? ⟨gb370, 8, none⟩ = some (.slice none 0 0) := (blk_cell BK370.out 8).trans rfl; have hcz94_9 : w93.cell? ⟨gb370, 9, none⟩ = some (.int .i64 0) := (blk_cell BK370.out 9).trans rfl; have hcz94_10 : w93.cell? ⟨gb370, 10, none⟩ = some (.slice none 0 0) := (blk_cell BK370.out 10).trans rfl; have hfz94_0 := blk_frozen BK370.out 0; have hfz94_1 := blk_frozen BK370.out 1; have hfz94_2 := blk_frozen BK370.out 2; have hfz94_3 := blk_frozen BK370.out 3; have hfz94_4 := blk_frozen BK370.out 4; have hfz94_5 := blk_frozen BK370.out 5; have hfz94_6 := blk_frozen BK370.out 6; have hfz94_7 := blk_frozen BK370.out 7; have hfz94_8 := blk_frozen BK370.out 8; have hfz94_9 := blk_frozen BK370.out 9; have hfz94_10 := blk_frozen BK370.out 10))
           refine bodyPost_ret (results_ct rfl _ _ gb370 52 #[.int .i64 0, .int .i64 0, .int .i64 0, .int .i64 0, .string ⟨#[]⟩, .string ⟨#[]⟩, .int .i64 0, .int .i64 0, .slice none 0 0, .int .i64 0, .slice none 0 0] (0, 0) _ rfl (by (with_reducible repeat first | apply q1 | apply q2 | apply q3); refine q5 ?_ 10 _ rfl; refine q5 ?_ 9 _ rfl; refine q5 ?_ 8 _ rfl; refine q5 ?_ 7 _ rfl; refine q5 ?_ 6 _ rfl; refine q5 ?_ 5 _ rfl; refine q5 ?_ 4 _ rfl; refine q5 ?_ 3 _ rfl; refine q5 ?_ 2 _ rfl; refine q5 ?_ 1 _ rfl; refine q5 ?_ 0 _ rfl; (with_reducible repeat first | apply q1 | apply q2 | apply q3); exact BK370.out) Tryz.underlying52 rfl (by kernel_rfl)) rfl ?_
           exact ⟨_, _, by first | rfl | (simp [errW_none, errW_some] <;> rfl) | (simp [*, errW_none, errW_some] <;> rfl), by exact Kd.R_nil _ _ _ _ _, by exact Kd.R_nil _ _ _ _ _, by repeat (first | (with_reducible first | exact HB.out | apply s1 | apply s2 | apply s3 | refine s4 ?_ GE370.out | refine s4 ?_ GE374.out) | exact HB.out)⟩
        ·replace c75 := Bool.eq_false_iff.mpr c75
         subst c75
         have H1 : (if x375000_1 = 5 then (if t373 = true then ((strings_Split.f t372 (⟨#[32]⟩ : ByteArray)).bind fun t396 => (script_Parse.l1 kj70 a0 t396 (t396.length : Int) 0 x375000_1 0 0 0 (⟨#[]⟩ : ByteArray) (⟨#[]⟩ : ByteArray) 0 0 0 ([] : List Int))) else (if a0.toList = ([] : List UInt8) then (some (0, 0, 0, 0, (⟨#[]⟩ : ByteArray), (⟨#[]⟩ : ByteArray), 0, 0, ([] : List Int), 0, ([] : List Int), some 14)) else ((script_Text.f x375000_1 0 0 0 (⟨#[]⟩ : ByteArray) (⟨#[]⟩ : ByteArray) 0 0 ([] : List Int) 0 ([] : List Int)).bind fun t395 => (if t395.toList = a0.toList then (some (x375000_1, 0, 0, 0, (⟨#[]⟩ : ByteArray), (⟨#[]⟩ : ByteArray), 0, 0, ([] : List Int), 0, ([] : List Int), none)) else (some (0, 0, 0, 0, (⟨#[]⟩ : ByteArray), (⟨#[]⟩ : ByteArray), 0, 0, ([] : List Int), 0, ([] : List Int), some 14)))))) else (if a0.toList = ([] : List UInt8) then (some (0, 0, 0, 0, (⟨#[]⟩ : ByteArray), (⟨#[]⟩ : ByteArray), 0, 0, ([] : List Int), 0, ([] : List Int), some 14)) else ((script_Text.f x375000_1 0 0 0 (⟨#[]⟩ : ByteArray) (⟨#[]⟩ : ByteArray) 0 0 ([] : List Int) 0 ([] : List Int)).bind fun t405 => (if t405.toList = a0.toList then (some (x375000_1, 0, 0, 0, (⟨#[]⟩ : ByteArray), (⟨#[]⟩ : ByteArray), 0, 0, ([] : List Int), 0, ([] : List Int), none)) else (some (0, 0, 0, 0, (⟨#[]⟩ : ByteArray), (⟨#[]⟩ : ByteArray), 0, 0, ([] : List Int), 0, ([] : List Int), some 14)))))) = some (r1, r2, r3, r4, r5, r6, r7, r8, r9, r10, r11, r12) := by rw [if_neg (show ¬ (false = true) by decide)] at H; exact H
         clear H
         have H := H1
         clear H1
         by_cases c95 : x375000_1 = 5
         ·rw [if_pos c95] at H
          have c95b0 : (x375000_1 == 5) = true := beq_iff_eq.mpr c95
          have c95b1 : (x375000_1 != 5) = false := bne_eq_false_iff_eq.mpr c95
          clear c95
          by_cases c96 : t373 = true
          ·subst c96
           have H1 : ((strings_Split.f t372 (⟨#[32]⟩ : ByteArray)).bind fun t396 => (script_Parse.l1 kj70 a0 t396 (t396.length : Int) 0 x375000_1 0 0 0 (⟨#[]⟩ : ByteArray) (⟨#[]⟩ : ByteArray) 0 0 0 ([] : List Int))) = some (r1, r2, r3, r4, r5, r6, r7, r8, r9, r10, r11, r12) := by rw [if_pos rfl] at H; exact H
           clear H
           have H := H1
           clear H1
           replace H := Option.bind_eq_some_iff.mp H
           obtain ⟨t396, A970, H⟩ := H
           try dsimp only at H
           have A97 := Aside0.mk A970
           clear A970
           have H' := Aside0.mk H
           clear H
           go_wp2_with (first | ((with_reducible refine gate_callee (f := 42) rfl ?_); refine goesL_ (some 66) rfl rfl Tryz.func42 (by kernel_rfl) rfl #[.string t372, .string (⟨#[32]⟩ : ByteArray)] rfl (by (try simp only [List.map_toArray, List.map_cons, List.map_nil]); first | done | rfl | (simp only [List.length_drop, List.length_take]; rfl)) ?_; (with_reducible refine (strings_Split.calls t372 (⟨#[32]⟩ : ByteArray) t396 _ A97.out).mono ?_); rintro e w98 ⟨v397, rfl, ho0, hb⟩; refine ⟨_, rfl, ?_⟩; have n0_ := Aside0.mk (Kd.R_lower ho0 (below_size (by repeat (first | (with_reducible first | exact HB.out | apply s1 | apply s2 | apply s3 | refine s4 ?_ GE370.out | refine s4 ?_ GE374.out) | exact HB.out)))); have n1_ := Aside0.mk (blk_below (g := gb370) (o := .cells #[.int .i64 0, .int .i64 0, .int .i64 0, .int .i64 0, .string ⟨#[]⟩, .string ⟨#[]⟩, .int .i64 0, .int .i64 0, .slice none 0 0, .int .i64 0, .slice none 0 0] 52 (0, 0)) (by (with_reducible repeat first | apply q1 | apply q2 | apply q3); exact BK370.out) hb); have n2_ := Aside0.mk (blk_below (g := gb374) (o := .cells #[.int .i64 x375000_1, .int .i64 0, .int .i64 0, .int .i64 0, .string ⟨#[]⟩, .string ⟨#[]⟩, .int .i64 0, .int .i64 0, .slice none 0 0, .int .i64 0, .slice none 0 0] 52 (0, 0)) (by (with_reducible repeat first | apply q1 | apply q2 | apply q3); exact BK374.out) hb); have n3_ := Aside0.mk (below_step (by repeat (first | (with_reducible first | exact HB.out | apply s1 | apply s2 | apply s3 | refine s4 ?_ GE370.out | refine s4 ?_ GE374.out) | exact HB.out)) hb); clear BK370; clear BK374; clear HB; have HO398 := n0_; have BK370 := n1_; have BK374 := n2_; have HB := n3_; clear n0_ n1_ n2_ n3_; (try clear hb); (try clear hb2); (try clear hk); (try clear hi); (try clear ho0); obtain ⟨Ao99, co99, eo99⟩ := Kd.R_slice HO398.out; subst eo99))
           go_loopg [68] kj70 (fun kq v68 w' => ∃ (x68_3 : Int) (x375010_3 : List Int) (u375010 : Value), v68 = .int .i64 x68_3 ∧ Aside0 (script_Parse.l1 kq a0 t396 (t396.length : Int) x68_3 x375000_1 0 0 0 (⟨#[]⟩ : ByteArray) (⟨#[]⟩ : ByteArray) 0 0 0 x375010_3 = some (r1, r2, r3, r4, r5, r6, r7, r8, r9, r10, r11, r12)) ∧ Aside0 (kq ≤ kj70) ∧ Aside0 (Kd.R Kd.string 9 w' w.heap.size (fun _ => True) (.slice Ao99 t396.length co99) t396) ∧ Aside0 (Kd.R (Kd.int .i64) 3 w' w.heap.size (fun _ => True) u375010 x375010_3) ∧ Aside0 (w'.heap[gb370]? = some (.cells #[.int .i64 0, .int .i64 0, .int .i64 0, .int .i64 0, .string ⟨#[]⟩, .string ⟨#[]⟩, .int .i64 0, .int .i64 0, (.slice none 0 0), .int .i64 0, (.slice none 0 0)] 52 (0, 0))) ∧ Aside0 (w'.heap[gb374]? = some (.cells #[.int .i64 x375000_1, .int .i64 0, .int .i64 0, .int .i64 0, .string ⟨#[]⟩, .string ⟨#[]⟩, .int .i64 0, .int .i64 0, (.slice none 0 0), .int .i64 0, u375010] 52 (0, 0))) ∧ Aside0 (Below w.heap.size w w'))
           case atStart => exact ⟨(0), (([] : List Int)), (.slice none 0 0), (by first | rfl | (simp; done) | (simp [*]; done)), H', ⟨Nat.le_refl _⟩, ⟨by (with_reducible repeat first | apply r1 | apply r2 | apply r3); exact HO398.out⟩, ⟨by exact Kd.R_nil _ _ _ _ _⟩, ⟨by (with_reducible repeat first | apply q1 | apply q2 | apply q3); exact BK370.out⟩, ⟨by (with_reducible repeat first | apply q1 | apply q2 | apply q3); exact BK374.out⟩, ⟨by repeat (first | (with_reducible first | exact HB.out | apply s1 | apply s2 | apply s3 | refine s4 ?_ GE370.out | refine s4 ?_ GE374.out) | exact HB.out)⟩⟩
           case round =>
            clear H'
            try clear p2
            try clear c4
            try clear c7
            try clear c8
            try clear c9
            try clear c42
            try clear c44
            try clear c75
            try clear c77
            try clear c77b0
            try clear c77b1
            try clear c79
            try clear c83
            try clear c83b0
            try clear c83b1
            try clear c85
            try clear c91
            try clear c95
            try clear c95b0
            try clear c95b1
            try clear c96
            try clear hcz30_1
            try clear hcz30_10
            try clear hcz30_2
            try clear hcz30_3
            try clear hcz30_4
            try clear hcz30_5
            try clear hcz30_6
            try clear hcz30_7
            try clear hcz30_8
            try clear hcz30_9
            try clear hcz32_0
            try clear hcz32_1
            try clear hcz32_10
            try clear hcz32_2
            try clear hcz32_3
            try clear hcz32_4
            try clear hcz32_5
            try clear hcz32_6
            try clear hcz32_7
            try clear hcz32_8
            try clear hcz32_9
            try clear hcz34_0
            try clear hcz34_1
            try clear hcz34_10
            try clear hcz34_2
            try clear hcz34_3
            try clear hcz34_4
            try clear hcz34_5
            try clear hcz34_6
            try clear hcz34_7
            try clear hcz34_8
            try clear hcz34_9
            try clear hcz37_0
            try clear hcz37_1
            try clear hcz37_10
            try clear hcz37_2
            try clear hcz37_3
            try clear hcz37_4
            try clear hcz37_5
            try clear hcz37_6
            try clear hcz37_7
            try clear hcz37_8
            try clear hcz37_9
            try clear hcz38_0
            try clear hcz38_1
            try clear hcz38_10
            try clear hcz38_2
            try clear hcz38_3
            try clear hcz38_4
            try clear hcz38_5
            try clear hcz38_6
            try clear hcz38_7
            try clear hcz38_8
            try clear hcz38_9
            try clear hcz40_0
            try clear hcz40_1
            try clear hcz40_10
            try clear hcz40_2
            try clear hcz40_3
            try clear hcz40_4
            try clear hcz40_5
            try clear hcz40_6
            try clear hcz40_7
            try clear hcz40_8
            try clear hcz40_9
            try clear hcz42_0
            try clear hcz42_1
            try clear hcz42_10
            try clear hcz42_2
            try clear hcz42_3
            try clear hcz42_4
            try clear hcz42_5
            try clear hcz42_6
            try clear hcz42_7
            try clear hcz42_8
            try clear hcz42_9
            try clear hcz44_0
            try clear hcz44_1
            try clear hcz44_10
            try clear hcz44_2
            try clear hcz44_3
            try clear hcz44_4
            try clear hcz44_5
            try clear hcz44_6
            try clear hcz44_7
            try clear hcz44_8
            try clear hcz44_9
            try clear hcz47_0
            try clear hcz47_1
            try clear hcz47_10
            try clear hcz47_2
            try clear hcz47_3
            try clear hcz47_4
            try clear hcz47_5
            try clear hcz47_6
            try clear hcz47_7
            try clear hcz47_8
            try clear hcz47_9
            try clear hcz52_0
            try clear hcz52_1
            try clear hcz52_10
            try clear hcz52_2
            try clear hcz52_3
            try clear hcz52_4
            try clear hcz52_5
            try clear hcz52_6
            try clear hcz52_7
            try clear hcz52_8
            try clear hcz52_9
            try clear hcz54_0
            try clear hcz54_1
            try clear hcz54_10
            try clear hcz54_2
            try clear hcz54_3
            try clear hcz54_4
            try clear hcz54_5
            try clear hcz54_6
            try clear hcz54_7
            try clear hcz54_8
            try clear hcz54_9
            try clear hcz55_0
            try clear hcz55_1
            try clear hcz55_10
            try clear hcz55_2
            try clear hcz55_3
            try clear hcz55_4
            try clear hcz55_5
            try clear hcz55_6
            try clear hcz55_7
            try clear hcz55_8
            try clear hcz55_9
            try clear hcz59_0
            try clear hcz59_1
            try clear hcz59_10
            try clear hcz59_2
            try clear hcz59_3
            try clear hcz59_4
            try clear hcz59_5
            try clear hcz59_6
            try clear hcz59_7
            try clear hcz59_8
            try clear hcz59_9
            try clear hcz61_0
            try clear hcz61_1
            try clear hcz61_10
            try clear hcz61_2
            try clear hcz61_3
            try clear hcz61_4
            try clear hcz61_5
            try clear hcz61_6
            try clear hcz61_7
            try clear hcz61_8
            try clear hcz61_9
            try clear hcz63_0
            try clear hcz63_1
            try clear hcz63_10
            try clear hcz63_2
            try clear hcz63_3
            try clear hcz63_4
            try clear hcz63_5
            try clear hcz63_6
            try clear hcz63_7
            try clear hcz63_8
            try clear hcz63_9
            try clear hcz64_0
            try clear hcz64_1
            try clear hcz64_10
            try clear hcz64_2
            try clear hcz64_3
            try clear hcz64_4
            try clear hcz64_5
            try clear hcz64_6
            try clear hcz64_7
            try clear hcz64_8
            try clear hcz64_9
            try clear hcz66_0
            try clear hcz66_1
            try clear hcz66_10
            try clear hcz66_2
            try clear hcz66_3
            try clear hcz66_4
            try clear hcz66_5
            try clear hcz66_6
            try clear hcz66_7
            try clear hcz66_8
            try clear hcz66_9
            try clear hcz68_0
            try clear hcz68_1
            try clear hcz68_10
            try clear hcz68_2
            try clear hcz68_3
            try clear hcz68_4
            try clear hcz68_5
            try clear hcz68_6
            try clear hcz68_7
            try clear hcz68_8
            try clear hcz68_9
            try clear hcz6_0
            try clear hcz6_1
            try clear hcz6_10
            try clear hcz6_2
            try clear hcz6_3
            try clear hcz6_4
            try clear hcz6_5
            try clear hcz6_6
            try clear hcz6_7
            try clear hcz6_8
            try clear hcz6_9
            try clear hcz70_0
            try clear hcz70_1
            try clear hcz70_10
            try clear hcz70_2
            try clear hcz70_3
            try clear hcz70_4
            try clear hcz70_5
            try clear hcz70_6
            try clear hcz70_7
            try clear hcz70_8
            try clear hcz70_9
            try clear hcz73_0
            try clear hcz73_1
            try clear hcz73_10
            try clear hcz73_2
            try clear hcz73_3
            try clear hcz73_4
            try clear hcz73_5
            try clear hcz73_6
            try clear hcz73_7
            try clear hcz73_8
            try clear hcz73_9
            try clear hcz80_0
            try clear hcz80_1
            try clear hcz80_10
            try clear hcz80_2
            try clear hcz80_3
            try clear hcz80_4
            try clear hcz80_5
            try clear hcz80_6
            try clear hcz80_7
            try clear hcz80_8
            try clear hcz80_9
            try clear hcz81_0
            try clear hcz81_1
            try clear hcz81_10
            try clear hcz81_2
            try clear hcz81_3
            try clear hcz81_4
            try clear hcz81_5
            try clear hcz81_6
            try clear hcz81_7
            try clear hcz81_8
            try clear hcz81_9
            try clear hcz86_0
            try clear hcz86_1
            try clear hcz86_10
            try clear hcz86_2
            try clear hcz86_3
            try clear hcz86_4
            try clear hcz86_5
            try clear hcz86_6
            try clear hcz86_7
            try clear hcz86_8
            try clear hcz86_9
            try clear hcz88_0
            try clear hcz88_1
            try clear hcz88_10
            try clear hcz88_2
            try clear hcz88_3
            try clear hcz88_4
            try clear hcz88_5
            try clear hcz88_6
            try clear hcz88_7
            try clear hcz88_8
            try clear hcz88_9
            try clear hcz89_0
            try clear hcz89_1
            try clear hcz89_10
            try clear hcz89_2
            try clear hcz89_3
            try clear hcz89_4
            try clear hcz89_5
            try clear hcz89_6
            try clear hcz89_7
            try clear hcz89_8
            try clear hcz89_9
            try clear hcz92_0
            try clear hcz92_1
            try clear hcz92_10
            try clear hcz92_2
            try clear hcz92_3
            try clear hcz92_4
            try clear hcz92_5
            try clear hcz92_6
            try clear hcz92_7
            try clear hcz92_8
            try clear hcz92_9
            try clear hcz94_0
            try clear hcz94_1
            try clear hcz94_10
            try clear hcz94_2
            try clear hcz94_3
            try clear hcz94_4
            try clear hcz94_5
            try clear hcz94_6
            try clear hcz94_7
            try clear hcz94_8
            try clear hcz94_9
            try clear hfz12_0
            try clear hfz12_1
            try clear hfz12_10
            try clear hfz12_2
            try clear hfz12_3
            try clear hfz12_4
            try clear hfz12_5
            try clear hfz12_6
            try clear hfz12_7
            try clear hfz12_8
            try clear hfz12_9
            try clear hfz20_0
            try clear hfz20_1
            try clear hfz20_10
            try clear hfz20_2
            try clear hfz20_3
            try clear hfz20_4
            try clear hfz20_5
            try clear hfz20_6
            try clear hfz20_7
            try clear hfz20_8
            try clear hfz20_9
            try clear hfz22_0
            try clear hfz22_1
            try clear hfz22_10
            try clear hfz22_2
            try clear hfz22_3
            try clear hfz22_4
            try clear hfz22_5
            try clear hfz22_6
            try clear hfz22_7
            try clear hfz22_8
            try clear hfz22_9
            try clear hfz24_0
            try clear hfz24_1
            try clear hfz24_10
            try clear hfz24_2
            try clear hfz24_3
            try clear hfz24_4
            try clear hfz24_5
            try clear hfz24_6
            try clear hfz24_7
            try clear hfz24_8
            try clear hfz24_9
            try clear hfz26_0
            try clear hfz26_1
            try clear hfz26_10
            try clear hfz26_2
            try clear hfz26_3
            try clear hfz26_4
            try clear hfz26_5
            try clear hfz26_6
            try clear hfz26_7
            try clear hfz26_8
            try clear hfz26_9
            try clear hfz30_0
            try clear hfz30_1
            try clear hfz30_10
            try clear hfz30_2
            try clear hfz30_3
            try clear hfz30_4
            try clear hfz30_5
            try clear hfz30_6
            try clear hfz30_7
            try clear hfz30_8
            try clear hfz30_9
            try clear hfz32_0
            try clear hfz32_1
            try clear hfz32_10
            try clear hfz32_2
            try clear hfz32_3
            try clear hfz32_4
            try clear hfz32_5
            try clear hfz32_6
            try clear hfz32_7
            try clear hfz32_8
            try clear hfz32_9
            try clear hfz34_0
            try clear hfz34_1
            try clear hfz34_10
            try clear hfz34_2
            try clear hfz34_3
            try clear hfz34_4
            try clear hfz34_5
            try clear hfz34_6
            try clear hfz34_7
            try clear hfz34_8
            try clear hfz34_9
            try clear hfz37_0
            try clear hfz37_1
            try clear hfz37_10
            try clear hfz37_2
            try clear hfz37_3
            try clear hfz37_4
            try clear hfz37_5
            try clear hfz37_6
            try clear hfz37_7
            try clear hfz37_8
            try clear hfz37_9
            try clear hfz38_0
            try clear hfz38_1
            try clear hfz38_10
            try clear hfz38_2
            try clear hfz38_3
            try clear hfz38_4
            try clear hfz38_5
            try clear hfz38_6
            try clear hfz38_7
            try clear hfz38_8
            try clear hfz38_9
            try clear hfz40_0
            try clear hfz40_1
            try clear hfz40_10
            try clear hfz40_2
            try clear hfz40_3
            try clear hfz40_4
            try clear hfz40_5
            try clear hfz40_6
            try clear hfz40_7
            try clear hfz40_8
            try clear hfz40_9
            try clear hfz42_0
            try clear hfz42_1
            try clear hfz42_10
            try clear hfz42_2
            try clear hfz42_3
            try clear hfz42_4
            try clear hfz42_5
            try clear hfz42_6
            try clear hfz42_7
            try clear hfz42_8
            try clear hfz42_9
            try clear hfz44_0
            try clear hfz44_1
            try clear hfz44_10
            try clear hfz44_2
            try clear hfz44_3
            try clear hfz44_4
            try clear hfz44_5
            try clear hfz44_6
            try clear hfz44_7
            try clear hfz44_8
            try clear hfz44_9
            try clear hfz47_0
            try clear hfz47_1
            try clear hfz47_10
            try clear hfz47_2
            try clear hfz47_3
            try clear hfz47_4
            try clear hfz47_5
            try clear hfz47_6
            try clear hfz47_7
            try clear hfz47_8
            try clear hfz47_9
            try clear hfz52_0
            try clear hfz52_1
            try clear hfz52_10
            try clear hfz52_2
            try clear hfz52_3
            try clear hfz52_4
            try clear hfz52_5
            try clear hfz52_6
            try clear hfz52_7
            try clear hfz52_8
            try clear hfz52_9
            try clear hfz54_0
            try clear hfz54_1
            try clear hfz54_10
            try clear hfz54_2
            try clear hfz54_3
            try clear hfz54_4
            try clear hfz54_5
            try clear hfz54_6
            try clear hfz54_7
            try clear hfz54_8
            try clear hfz54_9
            try clear hfz55_0
            try clear hfz55_1
            try clear hfz55_10
            try clear hfz55_2
            try clear hfz55_3
            try clear hfz55_4
            try clear hfz55_5
            try clear hfz55_6
            try clear hfz55_7
            try clear hfz55_8
            try clear hfz55_9
            try clear hfz59_0
            try clear hfz59_1
            try clear hfz59_10
            try clear hfz59_2
            try clear hfz59_3
            try clear hfz59_4
            try clear hfz59_5
            try clear hfz59_6
            try clear hfz59_7
            try clear hfz59_8
            try clear hfz59_9
            try clear hfz61_0
            try clear hfz61_1
            try clear hfz61_10
            try clear hfz61_2
            try clear hfz61_3
            try clear hfz61_4
            try clear hfz61_5
            try clear hfz61_6
            try clear hfz61_7
            try clear hfz61_8
            try clear hfz61_9
            try clear hfz63_0
            try clear hfz63_1
            try clear hfz63_10
            try clear hfz63_2
            try clear hfz63_3
            try clear hfz63_4
            try clear hfz63_5
            try clear hfz63_6
            try clear hfz63_7
            try clear hfz63_8
            try clear hfz63_9
            try clear hfz64_0
            try clear hfz64_1
            try clear hfz64_10
            try clear hfz64_2
            try clear hfz64_3
            try clear hfz64_4
            try clear hfz64_5
            try clear hfz64_6
            try clear hfz64_7
            try clear hfz64_8
            try clear hfz64_9
            try clear hfz66_0
            try clear hfz66_1
            try clear hfz66_10
            try clear hfz66_2
            try clear hfz66_3
            try clear hfz66_4
            try clear hfz66_5
            try clear hfz66_6
            try clear hfz66_7
            try clear hfz66_8
            try clear hfz66_9
            try clear hfz68_0
            try clear hfz68_1
            try clear hfz68_10
            try clear hfz68_2
            try clear hfz68_3
            try clear hfz68_4
            try clear hfz68_5
            try clear hfz68_6
            try clear hfz68_7
            try clear hfz68_8
            try clear hfz68_9
            try clear hfz6_0
            try clear hfz6_1
            try clear hfz6_10
            try clear hfz6_2
            try clear hfz6_3
            try clear hfz6_4
            try clear hfz6_5
            try clear hfz6_6
            try clear hfz6_7
            try clear hfz6_8
            try clear hfz6_9
            try clear hfz70_0
            try clear hfz70_1
            try clear hfz70_10
            try clear hfz70_2
            try clear hfz70_3
            try clear hfz70_4
            try clear hfz70_5
            try clear hfz70_6
            try clear hfz70_7
            try clear hfz70_8
            try clear hfz70_9
            try clear hfz73_0
            try clear hfz73_1
            try clear hfz73_10
            try clear hfz73_2
            try clear hfz73_3
            try clear hfz73_4
            try clear hfz73_5
            try clear hfz73_6
            try clear hfz73_7
            try clear hfz73_8
            try clear hfz73_9
            try clear hfz80_0
            try clear hfz80_1
            try clear hfz80_10
            try clear hfz80_2
            try clear hfz80_3
            try clear hfz80_4
            try clear hfz80_5
            try clear hfz80_6
            try clear hfz80_7
            try clear hfz80_8
            try clear hfz80_9
            try clear hfz81_0
            try clear hfz81_1
            try clear hfz81_10
            try clear hfz81_2
            try clear hfz81_3
            try clear hfz81_4
            try clear hfz81_5
            try clear hfz81_6
            try clear hfz81_7
            try clear hfz81_8
            try clear hfz81_9
            try clear hfz86_0
            try clear hfz86_1
            try clear hfz86_10
            try clear hfz86_2
            try clear hfz86_3
            try clear hfz86_4
            try clear hfz86_5
            try clear hfz86_6
            try clear hfz86_7
            try clear hfz86_8
            try clear hfz86_9
            try clear hfz88_0
            try clear hfz88_1
            try clear hfz88_10
            try clear hfz88_2
            try clear hfz88_3
            try clear hfz88_4
            try clear hfz88_5
            try clear hfz88_6
            try clear hfz88_7
            try clear hfz88_8
            try clear hfz88_9
            try clear hfz89_0
            try clear hfz89_1
            try clear hfz89_10
            try clear hfz89_2
            try clear hfz89_3
            try clear hfz89_4
            try clear hfz89_5
            try clear hfz89_6
            try clear hfz89_7
            try clear hfz89_8
            try clear hfz89_9
            try clear hfz92_0
            try clear hfz92_1
            try clear hfz92_10
            try clear hfz92_2
            try clear hfz92_3
            try clear hfz92_4
            try clear hfz92_5
            try clear hfz92_6
            try clear hfz92_7
            try clear hfz92_8
            try clear hfz92_9
            try clear hfz94_0
            try clear hfz94_1
            try clear hfz94_10
            try clear hfz94_2
            try clear hfz94_3
            try clear hfz94_4
            try clear hfz94_5
            try clear hfz94_6
            try clear hfz94_7
            try clear hfz94_8
            try clear hfz94_9
            try clear p2
            obtain ⟨x68_3, x375010_3, u375010, rfl, HA, HK3, HO_66, HO_375010, BK370, BK374, HB⟩ := hrel
            cases gk with
            | zero => exact absurd HA.out (by simp [script_Parse.l1])
            | succ k3 =>
             have H := HA.out
             clear HA
             simp only [script_Parse.l1] at H
             by_cases c100 : x68_3 < (t396.length : Int)
             ·rw [if_pos c100] at H
              have c100b0 : decide (x68_3 < (t396.length : Int)) = true := decide_eq_true c100
              clear c100
              by_cases c101 : 0 ≤ x68_3
              ·rw [if_pos c101] at H
               have c101b0 : decide (0 ≤ x68_3) = true := decide_eq_true c101
               clear c101
               by_cases c102 : x68_3 < (t396.length : Int)
               ·rw [if_pos c102] at H
                have c102b0 : decide (x68_3 < (t396.length : Int)) = true := decide_eq_true c102
                clear c102
                replace H := Option.bind_eq_some_iff.mp H
                obtain ⟨t400, A1030, H⟩ := H
                try dsimp only at H
                have A103 := Aside0.mk A1030
                clear A1030
                by_cases c104 : x375010_3.length < 17592186044416
                ·rw [if_pos c104] at H
                 have LMc104 := Aside0.mk c104
                 clear c104
                 obtain ⟨y401, hy401⟩ : ∃ y_ : List Int, y_ = (x375010_3 ++ [t400]) := ⟨_, rfl⟩
                 replace H : (script_Parse.l1 k3 a0 t396 (t396.length : Int) (wrap64 (x68_3 + 1)) x375000_1 0 0 0 (⟨#[]⟩ : ByteArray) (⟨#[]⟩ : ByteArray) 0 0 0 y401) = some (r1, r2, r3, r4, r5, r6, r7, r8, r9, r10, r11, r12) := by first | (rw [hy401]; with_reducible exact H) | (have H2_ := (Option.bind_some _ _).symm.trans H; rw [hy401]; with_reducible exact H2_) | (have H2_ := (Option.bind_some _ _).symm.trans H; with_reducible exact H2_) | with_reducible exact H | (rw [hy401]; exact H) | exact H
                 have Ny401 := Aside0.mk hy401
                 clear hy401
                 have H' := Aside0.mk H
                 clear H
                 have p399 : 0 ≤ (x68_3 : Int) := of_decide_eq_true (by first | (with_reducible assumption) | assumption)
                 have q399 : x68_3 < (t396.length : Int) := of_decide_eq_true (by first | (with_reducible assumption) | assumption)
                 obtain ⟨ad399, e399, hx399_0⟩ := Kd.at_string (Kd.R_reads' HO_66.out).2.2 x68_3 p399 q399
                 cases e399
                 replace p399 := eq_true p399
                 replace q399 := eq_true q399
                 try go_wp2
                 have n0_ := Aside0.mk (Kd.R_drew HO_66.out)
                 have n1_ := Aside0.mk (Kd.R_drew HO_375010.out)
                 have n2_ := Aside0.mk (blk_drew BK370.out)
                 have n3_ := Aside0.mk (blk_drew BK374.out)
                 have n4_ := Aside0.mk (below_drew1 HB.out)
                 clear HO_66
                 clear HO_375010
                 clear BK370
                 clear BK374
                 clear HB
                 have HO_66 := n0_
                 have HO_375010 := n1_
                 have BK370 := n2_
                 have BK374 := n3_
                 have HB := n4_
                 clear n0_ n1_ n2_ n3_ n4_
                 refine start_ (n := 8) (S := fun w' => w'.cell? ⟨gb374, 0, none⟩ = some (.int .i64 x375000_1) ∧ w'.cell? ⟨gb374, 1, none⟩ = some (.int .i64 0) ∧ w'.cell? ⟨gb374, 2, none⟩ = some (.int .i64 0) ∧ w'.cell? ⟨gb374, 3, none⟩ = some (.int .i64 0) ∧ w'.cell? ⟨gb374, 4, none⟩ = some (.string ⟨#[]⟩) ∧ w'.cell? ⟨gb374, 5, none⟩ = some (.string ⟨#[]⟩) ∧ w'.cell? ⟨gb374, 6, none⟩ = some (.int .i64 0) ∧ w'.cell? ⟨gb374, 7, none⟩ = some (.int .i64 0) ∧ w'.cell? ⟨gb374, 8, none⟩ = some (.slice none 0 0) ∧ w'.cell? ⟨gb374, 9, none⟩ = some (.int .i64 0) ∧ w'.cell? ⟨gb374, 10, none⟩ = some (u375010)) (ds := [7]) #[false, false, false, false, false, false, false, false] (by kernel_rfl) rfl rfl ⟨(blk_cell BK374.out 0).trans rfl, (blk_cell BK374.out 1).trans rfl, (blk_cell BK374.out 2).trans rfl, (blk_cell BK374.out 3).trans rfl, (blk_cell BK374.out 4).trans rfl, (blk_cell BK374.out 5).trans rfl, (blk_cell BK374.out 6).trans rfl, (blk_cell BK374.out 7).trans rfl, (blk_cell BK374.out 8).trans rfl, (blk_cell BK374.out 9).trans rfl, (blk_cell BK374.out 10).trans rfl⟩ (fun hHeld => ?_); refine with_tabW script_Parse.tab23 script_Parse.bits23 (fun HT_ HW_ => ?_)
                 generalize wr.drew = w105 at HO_66 HO_375010 BK370 BK374 HB hHeld ⊢
                 refine pure_ (i := 0) (N := some 72) (v := ?_) (a' := ?_) #[true, false, false, false, false, false, false, false] rfl rfl (any_of HT_.out (by kernel_rfl)) (fun _ _ _ h => h) (Or.inl ⟨by rfl, ?_⟩) ?_ ?_
                 rotate_left
                 ·intro w'
                  go_simp
                  with_reducible rfl
                 rotate_left
                 ·simp only [Act.put, List.setIfInBounds_toArray, List.set_cons_zero, List.set_cons_succ, i64_w, i32_w]
                  rfl
                 refine pure_ (i := 2) (N := some 74) (v := ?_) (a' := ?_) #[true, false, true, false, false, false, false, false] rfl rfl (any_of HT_.out (by kernel_rfl)) (fun _ _ _ h => h) (Or.inl ⟨by rfl, ?_⟩) ?_ ?_
                 rotate_left
                 ·intro w'
                  go_simp
                  with_reducible rfl
                 rotate_left
                 ·simp only [Act.put, List.setIfInBounds_toArray, List.set_cons_zero, List.set_cons_succ, i64_w, i32_w]
                  rfl
                 refine take_ (i := 1) (N := some 73) (v := ?_) (a' := ?_) #[true, true, true, false, false, false, false, false] rfl rfl (take_ofW HT_.out HW_.out (by kernel_rfl)) (fun _ _ _ h => h) (Or.inl ⟨by rfl, ?_⟩) hHeld ?_ ?_
                 rotate_left
                 ·rintro w' ⟨s0, s1, s2, s3, s4, s5, s6, s7, s8, s9, s10⟩
                  go_simp
                  with_reducible rfl
                 rotate_left
                 ·simp only [Act.put, List.setIfInBounds_toArray, List.set_cons_zero, List.set_cons_succ, i64_w, i32_w]
                  rfl
                 refine one_ (i := 3) (N := some 75) #[true, true, true, true, false, false, false, false] rfl rfl (one_of HT_.out (by kernel_rfl)) (by decide) (fun K hK => ?_)
                 refine goes_ Tryz.func44 (by kernel_rfl) rfl #[.string (rdOf ByteArray.empty t396 x68_3)] (by rfl) rfl rfl (by (try simp only [List.map_toArray, List.map_cons, List.map_nil]); first | done | rfl | (simp only [List.length_drop, List.length_take]; rfl)) ?_
                 with_reducible refine (hist_Num.calls (rdOf ByteArray.empty t396 x68_3) t400 _ A103.out ?hT_).mono ?_
                 case hT_ => exact Tabs.after HT.out (by repeat (first | (with_reducible first | exact HB.out | apply s1 | apply s2 | apply s3 | refine s4 ?_ GE370.out | refine s4 ?_ GE374.out) | exact HB.out))
                 rintro e w106 ⟨rfl, hb⟩
                 refine ⟨_, rfl, ?_⟩
                 have n0_ := Aside0.mk (Kd.R_below (by (with_reducible repeat first | apply r1 | apply r2 | apply r3); exact HO_66.out) hb)
                 have n1_ := Aside0.mk (Kd.R_below (by (with_reducible repeat first | apply r1 | apply r2 | apply r3); exact HO_375010.out) hb)
                 have n2_ := Aside0.mk (blk_below (g := gb370) (o := .cells #[.int .i64 0, .int .i64 0, .int .i64 0, .int .i64 0, .string ⟨#[]⟩, .string ⟨#[]⟩, .int .i64 0, .int .i64 0, .slice none 0 0, .int .i64 0, .slice none 0 0] 52 (0, 0)) (by (with_reducible repeat first | apply q1 | apply q2 | apply q3); exact BK370.out) hb)
                 have n3_ := Aside0.mk (blk_below (g := gb374) (o := .cells #[.int .i64 x375000_1, .int .i64 0, .int .i64 0, .int .i64 0, .string ⟨#[]⟩, .string ⟨#[]⟩, .int .i64 0, .int .i64 0, .slice none 0 0, .int .i64 0, u375010] 52 (0, 0)) (by (with_reducible repeat first | apply q1 | apply q2 | apply q3); exact BK374.out) hb)
                 have n4_ := Aside0.mk (below_step (by repeat (first | (with_reducible first | exact HB.out | apply s1 | apply s2 | apply s3 | refine s4 ?_ GE370.out | refine s4 ?_ GE374.out) | exact HB.out)) hb)
                 clear HO_66
                 clear HO_375010
                 clear BK370
                 clear BK374
                 clear HB
                 have HO_66 := n0_
                 have HO_375010 := n1_
                 have BK370 := n2_
                 have BK374 := n3_
                 have HB := n4_
                 clear n0_ n1_ n2_ n3_ n4_
                 (try clear hb)
                 (try clear hb2)
                 (try clear hk)
                 (try clear hi)
                 refine hK.out _ _ ⟨(blk_cell BK374.out 0).trans rfl, (blk_cell BK374.out 1).trans rfl, (blk_cell BK374.out 2).trans rfl, (blk_cell BK374.out 3).trans rfl, (blk_cell BK374.out 4).trans rfl, (blk_cell BK374.out 5).trans rfl, (blk_cell BK374.out 6).trans rfl, (blk_cell BK374.out 7).trans rfl, (blk_cell BK374.out 8).trans rfl, (blk_cell BK374.out 9).trans rfl, (blk_cell BK374.out 10).trans rfl⟩ (fun hHeld => ?_)
                 clear hK K
                 refine norm_ (a' := ?_) ?_ ?_
                 rotate_left
                 ·show Act.put _ (some 75) _ = _
                  simp only [Act.put, List.setIfInBounds_toArray, List.set_cons_zero, List.set_cons_succ, i64_w, i32_w]
                  rfl
                 refine one_ (i := 4) (N := some 76) #[true, true, true, true, true, false, false, false] rfl rfl (one_of HT_.out (by kernel_rfl)) (by decide) (fun K hK => ?_)
                 refine value_ (w1 := ?_) (v := ?_) (by rfl) rfl ?_ ?_
                 rotate_left 2
                 ·go_simp
                  constructor
                  ·rfl
                  ·rfl
                 refine hK.out _ _ ⟨(blk_cell (blk_alloc BK374.out _) 0).trans rfl, (blk_cell (blk_alloc BK374.out _) 1).trans rfl, (blk_cell (blk_alloc BK374.out _) 2).trans rfl, (blk_cell (blk_alloc BK374.out _) 3).trans rfl, (blk_cell (blk_alloc BK374.out _) 4).trans rfl, (blk_cell (blk_alloc BK374.out _) 5).trans rfl, (blk_cell (blk_alloc BK374.out _) 6).trans rfl, (blk_cell (blk_alloc BK374.out _) 7).trans rfl, (blk_cell (blk_alloc BK374.out _) 8).trans rfl, (blk_cell (blk_alloc BK374.out _) 9).trans rfl, (blk_cell (blk_alloc BK374.out _) 10).trans rfl⟩ (fun hHeld => ?_)
                 clear hK K
                 refine norm_ (a' := ?_) ?_ ?_
                 rotate_left
                 ·show Act.put _ (some 76) _ = _
                  simp only [Act.put, List.setIfInBounds_toArray, List.set_cons_zero, List.set_cons_succ, i64_w, i32_w]
                  rfl
                 refine one_ (i := 5) (N := some 77) #[true, true, true, true, true, true, false, false] rfl rfl (one_of HT_.out (by kernel_rfl)) (by decide) (fun K hK => ?_)
                 refine Kd.R_append_step (Kd.int .i64) (w0 := w) w.heap.size (by rfl) (.tmp 73) (.tmp 76) 39 3 (.int .i64 0) 8 rfl Tryz.underlying39 info3 rfl (by decide) (by omega) u375010 x375010_3 t400 [.int .i64 t400] (fun _ => True) (fun _ => False) rfl rfl ?aP (fun _ hk => hk.elim) ?aF ?aO ?aB ?aS ?aL ?_
                 (case aP => exact rfl)
                 (case aB => exact (by repeat (first | (with_reducible first | exact HB.out | apply s1 | apply s2 | apply s3 | refine s4 ?_ GE370.out | refine s4 ?_ GE374.out) | exact HB.out)))
                 (case aF => exact (fun _ _ => trivial))
                 (case aO => exact (by (with_reducible repeat first | apply r1 | apply r2 | apply r3); exact HO_375010.out))
                 (case aS => exact (below_size (by repeat (first | (with_reducible first | exact HB.out | apply s1 | apply s2 | apply s3 | refine s4 ?_ GE370.out | refine s4 ?_ GE374.out) | exact HB.out))))
                 (case aL => have := LMc104.out; omega)
                 intro v402 w107 ho hb hg hat
                 rw [← Ny401.out] at ho
                 have n0_ := Aside0.mk (Kd.R_over' (by (with_reducible repeat first | apply r1 | apply r2 | apply r3); exact HO_66.out) (Kd.R_typed (by (with_reducible repeat first | apply r1 | apply r2 | apply r3); exact HO_375010.out)) (by decide) hg)
                 have n1_ := Aside0.mk (blk_grown (g := gb370) (o := .cells #[.int .i64 0, .int .i64 0, .int .i64 0, .int .i64 0, .string ⟨#[]⟩, .string ⟨#[]⟩, .int .i64 0, .int .i64 0, .slice none 0 0, .int .i64 0, .slice none 0 0] 52 (0, 0)) (by (with_reducible repeat first | apply q1 | apply q2 | apply q3); exact BK370.out) hg (Kd.R_ne HO_375010.out BK370.out (by decide)))
                 have n2_ := Aside0.mk (blk_grown (g := gb374) (o := .cells #[.int .i64 x375000_1, .int .i64 0, .int .i64 0, .int .i64 0, .string ⟨#[]⟩, .string ⟨#[]⟩, .int .i64 0, .int .i64 0, .slice none 0 0, .int .i64 0, u375010] 52 (0, 0)) (by (with_reducible repeat first | apply q1 | apply q2 | apply q3); exact BK374.out) hg (Kd.R_ne HO_375010.out BK374.out (by decide)))
                 have n3_ := Aside0.mk (hb)
                 have n4_ := Aside0.mk (ho)
                 clear HO_66
                 clear BK370
                 clear BK374
                 clear HB
                 clear HO_375010
                 have HO_66 := n0_
                 have BK370 := n1_
                 have BK374 := n2_
                 have HB := n3_
                 have HO403 := n4_
                 clear n0_ n1_ n2_ n3_ n4_
                 clear ho hb hg hat
                 obtain ⟨Ao108, co108, eo108⟩ := Kd.R_slice HO403.out
                 (first | subst eo108 | (injection eo108 with f1_ f2_ f3_; have f4_ := f1_.symm; have f5_ := f3_.symm; clear f1_ f2_ f3_; subst f4_; subst f5_))
                 refine hK.out _ _ ⟨(blk_cell BK374.out 0).trans rfl, (blk_cell BK374.out 1).trans rfl, (blk_cell BK374.out 2).trans rfl, (blk_cell BK374.out 3).trans rfl, (blk_cell BK374.out 4).trans rfl, (blk_cell BK374.out 5).trans rfl, (blk_cell BK374.out 6).trans rfl, (blk_cell BK374.out 7).trans rfl, (blk_cell BK374.out 8).trans rfl, (blk_cell BK374.out 9).trans rfl, (blk_cell BK374.out 10).trans rfl⟩ (fun hHeld => ?_)
                 clear hK K
                 refine norm_ (a' := ?_) ?_ ?_
                 rotate_left
                 ·show Act.put _ (some 77) _ = _
                  simp only [Act.put, List.setIfInBounds_toArray, List.set_cons_zero, List.set_cons_succ, i64_w, i32_w]
                  rfl
                 refine pure_ (i := 6) (N := some 78) (v := ?_) (a' := ?_) #[true, true, true, true, true, true, true, false] rfl rfl (any_of HT_.out (by kernel_rfl)) (fun _ _ _ h => h) (Or.inl ⟨by rfl, ?_⟩) ?_ ?_
                 rotate_left
                 ·intro w'
                  go_simp
                  with_reducible rfl
                 rotate_left
                 ·simp only [Act.put, List.setIfInBounds_toArray, List.set_cons_zero, List.set_cons_succ, i64_w, i32_w]
                  rfl
                 refine last_ (i := 7) (N := none) #[true, true, true, true, true, true, true, true] rfl rfl (one_of HT_.out (by kernel_rfl)) (by decide) (fun K hK => ?_)
                 have hs109 : w107.cell? ⟨gb374, 10, none⟩ = some (u375010) := (blk_cell BK374.out 10).trans rfl
                 have hfs109 := blk_frozen BK374.out 10
                 have hns109_0 := NB370_374.out
                 have hms109_0 := NB374_370.out
                 refine skip_ (w1 := ?_) (by rfl) rfl ?_ ?_
                 rotate_left
                 ·go_simp
                  rfl
                 refine hK.out _ _ ?_
                 clear hK K
                 refine done_ (done_of HT_.out (by kernel_rfl)) ?_
                 try go_wp2
                 go_roundg k3
                 case measure => have := HK1.out; have := HJ70.out; have := HK3.out; omega
                 case rel => exact ⟨(wrap64 (x68_3 + 1)), (y401), (.slice Ao108 y401.length co108), (by first | rfl | (simp; done) | (simp [*]; done)), H', ⟨by have := HK1.out; have := HJ70.out; have := HK3.out; omega⟩, ⟨by (with_reducible repeat first | apply r1 | apply r2 | apply r3); exact Kd.R_mono (Kd.R_far (p := ⟨gb374, 10, none⟩) (Kd.R_types HO_66.out BK374.out (by decide)) (fun _ hk => hk.2) (.slice Ao108 y401.length co108)) (fun _ hk => trivial)⟩, ⟨by (with_reducible repeat first | apply r1 | apply r2 | apply r3); exact Kd.R_mono (Kd.R_far (p := ⟨gb374, 10, none⟩) (Kd.R_types HO403.out BK374.out (by decide)) (fun _ hk => hk.2) (.slice Ao108 y401.length co108)) (fun _ hk => trivial)⟩, ⟨by (with_reducible repeat first | apply q1 | apply q2 | apply q3); refine blk_far ?_ NB370_374.out _; (with_reducible repeat first | apply q1 | apply q2 | apply q3); exact BK370.out⟩, ⟨by (with_reducible repeat first | apply q1 | apply q2 | apply q3); refine blk_put (cs := #[.int .i64 x375000_1, .int .i64 0, .int .i64 0, .int .i64 0, .string ⟨#[]⟩, .string ⟨#[]⟩, .int .i64 0, .int .i64 0, .slice none 0 0, .int .i64 0, u375010]) ?_ 10 _ rfl; (with_reducible repeat first | apply q1 | apply q2 | apply q3); exact BK374.out⟩, ⟨by repeat (first | (with_reducible first | exact HB.out | apply s1 | apply s2 | apply s3 | refine s4 ?_ GE370.out | refine s4 ?_ GE374.out) | exact HB.out)⟩⟩
                ·rw [if_neg c104] at H
                 exact absurd H (by simp)
               ·rw [if_neg c102] at H
                exact absurd H (by simp)
              ·rw [if_neg c101] at H
               exact absurd H (by simp)
             ·rw [if_neg c100] at H
              have c100b0 : decide (x68_3 < (t396.length : Int)) = false := decide_eq_false c100
              clear c100
              by_cases c110 : a0.toList = ([] : List UInt8)
              ·rw [if_pos c110] at H
               have c110b0 : (a0.toList == ([] : List UInt8)) = true := beq_iff_eq.mpr c110
               have c110b1 : (a0.toList != ([] : List UInt8)) = false := bne_eq_false_iff_eq.mpr c110
               clear c110
               simp only [Option.some.injEq, Prod.mk.injEq] at H
               obtain ⟨rfl, rfl, rfl, rfl, rfl, rfl, rfl, rfl, rfl, rfl, rfl, rfl⟩ := H
               have hnb111 := NB370_374.out
               have hnc111 := NB374_370.out
               have hcz112_0 : wr.cell? ⟨gb370, 0, none⟩ = some (.int .i64 0) := (blk_cell BK370.out 0).trans rfl
               have hcz112_1 : wr.cell? ⟨gb370, 1, none⟩ = some (.int .i64 0) := (blk_cell BK370.out 1).trans rfl
               have hcz112_2 : wr.cell? ⟨gb370, 2, none⟩ = some (.int .i64 0) := (blk_cell BK370.out 2).trans rfl
               have hcz112_3 : wr.cell? ⟨gb370, 3, none⟩ = some (.int .i64 0) := (blk_cell BK370.out 3).trans rfl
               have hcz112_4 : wr.cell? ⟨gb370, 4, none⟩ = some (.string ⟨#[]⟩) := (blk_cell BK370.out 4).trans rfl
               have hcz112_5 : wr.cell? ⟨gb370, 5, none⟩ = some (.string ⟨#[]⟩) := (blk_cell BK370.out 5).trans rfl
               have hcz112_6 : wr.cell? ⟨gb370, 6, none⟩ = some (.int .i64 0) := (blk_cell BK370.out 6).trans rfl
               have hcz112_7 : wr.cell? ⟨gb370, 7, none⟩ = some (.int .i64 0) := (blk_cell BK370.out 7).trans rfl
               have hcz112_8 : wr.cell? ⟨gb370, 8, none⟩ = some (.slice none 0 0) := (blk_cell BK370.out 8).trans rfl
               have hcz112_9 : wr.cell? ⟨gb370, 9, none⟩ = some (.int .i64 0) := (blk_cell BK370.out 9).trans rfl
               have hcz112_10 : wr.cell? ⟨gb370, 10, none⟩ = some (.slice none 0 0) := (blk_cell BK370.out 10).trans rfl
               have hfz112_0 := blk_frozen BK370.out 0
               have hfz112_1 := blk_frozen BK370.out 1
               have hfz112_2 := blk_frozen BK370.out 2
               have hfz112_3 := blk_frozen BK370.out 3
               have hfz112_4 := blk_frozen BK370.out 4
               have hfz112_5 := blk_frozen BK370.out 5
               have hfz112_6 := blk_frozen BK370.out 6
               have hfz112_7 := blk_frozen BK370.out 7
               have hfz112_8 := blk_frozen BK370.out 8
               have hfz112_9 := blk_frozen BK370.out 9
               have hfz112_10 := blk_frozen BK370.out 10
               go_wp2
               refine bodyPost_ret (results_ct rfl _ _ gb370 52 #[.int .i64 0, .int .i64 0, .int .i64 0, .int .i64 0, .string ⟨#[]⟩, .string ⟨#[]⟩, .int .i64 0, .int .i64 0, .slice none 0 0, .int .i64 0, .slice none 0 0] (0, 0) _ rfl (by (with_reducible repeat first | apply q1 | apply q2 | apply q3); refine q5 ?_ 10 _ rfl; refine q5 ?_ 9 _ rfl; refine q5 ?_ 8 _ rfl; refine q5 ?_ 7 _ rfl; refine q5 ?_ 6 _ rfl; refine q5 ?_ 5 _ rfl; refine q5 ?_ 4 _ rfl; refine q5 ?_ 3 _ rfl; refine q5 ?_ 2 _ rfl; refine q5 ?_ 1 _ rfl; refine q5 ?_ 0 _ rfl; (with_reducible repeat first | apply q1 | apply q2 | apply q3); exact BK370.out) Tryz.underlying52 rfl (by kernel_rfl)) rfl ?_
               exact ⟨_, _, by first | rfl | (simp [errW_none, errW_some] <;> rfl) | (simp [*, errW_none, errW_some] <;> rfl), by exact Kd.R_nil _ _ _ _ _, by exact Kd.R_nil _ _ _ _ _, by repeat (first | (with_reducible first | exact HB.out | apply s1 | apply s2 | apply s3 | refine s4 ?_ GE370.out | refine s4 ?_ GE374.out) | exact HB.out)⟩
              ·rw [if_neg c110] at H
               have c110b0 : (a0.toList == ([] : List UInt8)) = false := beq_eq_false_iff_ne.mpr c110
               have c110b1 : (a0.toList != ([] : List UInt8)) = true := bne_iff_ne.mpr c110
               replace H := Option.bind_eq_some_iff.mp H
               obtain ⟨t404, A1130, H⟩ := H
               try dsimp only at H
               have A113 := Aside0.mk A1130
               clear A1130
               by_cases c114 : t404.toList = a0.toList
               ·rw [if_pos c114] at H
                have c114b0 : (t404.toList == a0.toList) = true := beq_iff_eq.mpr c114
                have c114b1 : (t404.toList != a0.toList) = false := bne_eq_false_iff_eq.mpr c114
                clear c114
                simp only [Option.some.injEq, Prod.mk.injEq] at H
                obtain ⟨rfl, rfl, rfl, rfl, rfl, rfl, rfl, rfl, rfl, rfl, rfl, rfl⟩ := H
                have hnb115 := NB374_370.out
                have hnc115 := NB370_374.out
                have hcz116_0 : wr.cell? ⟨gb374, 0, none⟩ = some (.int .i64 x375000_1) := (blk_cell BK374.out 0).trans rfl
                have hcz116_1 : wr.cell? ⟨gb374, 1, none⟩ = some (.int .i64 0) := (blk_cell BK374.out 1).trans rfl
                have hcz116_2 : wr.cell? ⟨gb374, 2, none⟩ = some (.int .i64 0) := (blk_cell BK374.out 2).trans rfl
                have hcz116_3 : wr.cell? ⟨gb374, 3, none⟩ = some (.int .i64 0) := (blk_cell BK374.out 3).trans rfl
                have hcz116_4 : wr.cell? ⟨gb374, 4, none⟩ = some (.string ⟨#[]⟩) := (blk_cell BK374.out 4).trans rfl
                have hcz116_5 : wr.cell? ⟨gb374, 5, none⟩ = some (.string ⟨#[]⟩) := (blk_cell BK374.out 5).trans rfl
                have hcz116_6 : wr.cell? ⟨gb374, 6, none⟩ = some (.int .i64 0) := (blk_cell BK374.out 6).trans rfl
                have hcz116_7 : wr.cell? ⟨gb374, 7, none⟩ = some (.int .i64 0) := (blk_cell BK374.out 7).trans rfl
                have hcz116_8 : wr.cell? ⟨gb374, 8, none⟩ = some (.slice none 0 0) := (blk_cell BK374.out 8).trans rfl
                have hcz116_9 : wr.cell? ⟨gb374, 9, none⟩ = some (.int .i64 0) := (blk_cell BK374.out 9).trans rfl
                have hcz116_10 : wr.cell? ⟨gb374, 10, none⟩ = some (u375010) := (blk_cell BK374.out 10).trans rfl
                have hfz116_0 := blk_frozen BK374.out 0
                have hfz116_1 := blk_frozen BK374.out 1
                have hfz116_2 := blk_frozen BK374.out 2
                have hfz116_3 := blk_frozen BK374.out 3
                have hfz116_4 := blk_frozen BK374.out 4
                have hfz116_5 := blk_frozen BK374.out 5
                have hfz116_6 := blk_frozen BK374.out 6
                have hfz116_7 := blk_frozen BK374.out 7
                have hfz116_8 := blk_frozen BK374.out 8
                have hfz116_9 := blk_frozen BK374.out 9
                have hfz116_10 := blk_frozen BK374.out 10
                obtain ⟨Ao117, co117, eo117⟩ := Kd.R_slice HO_375010.out
                subst eo117
                go_wp2_with (first | (go_at_call 22; (refine (script_Text.calls x375000_1 0 0 0 (⟨#[]⟩ : ByteArray) (⟨#[]⟩ : ByteArray) 0 0 _ _ ([] : List Int) 0 _ _ x375010_3 t404 _ ?side1 ?side2 ?side3 ?side4 A113.out ?hT_).mono ?_); (case hT_ => exact Tabs.after HT.out (by repeat (first | (with_reducible first | exact HB.out | apply s1 | apply s2 | apply s3 | refine s4 ?_ GE370.out | refine s4 ?_ GE374.out) | exact HB.out))); (case side1 => exact Kd.C_nil _ _); (case side2 => exact Nat.le_refl _); (case side3 => repeat (first | exact (Kd.R_reads' HO_375010.out).2.2 | (with_reducible refine Kd.C_alloc ?_ _) | (with_reducible refine Kd.C_drewN ?_ _) | (with_reducible refine Kd.C_drew ?_))); (case side4 => exact (Kd.R_reads' HO_375010.out).2.1); rintro e w118 ⟨rfl, hb⟩; have n0_ := Aside0.mk (Kd.R_below (by (with_reducible repeat first | apply r1 | apply r2 | apply r3); exact HO_66.out) hb); have n1_ := Aside0.mk (Kd.R_below (by (with_reducible repeat first | apply r1 | apply r2 | apply r3); exact HO_375010.out) hb); have n2_ := Aside0.mk (blk_below (g := gb370) (o := .cells #[.int .i64 0, .int .i64 0, .int .i64 0, .int .i64 0, .string ⟨#[]⟩, .string ⟨#[]⟩, .int .i64 0, .int .i64 0, .slice none 0 0, .int .i64 0, .slice none 0 0] 52 (0, 0)) (by (with_reducible repeat first | apply q1 | apply q2 | apply q3); exact BK370.out) hb); have n3_ := Aside0.mk (blk_below (g := gb374) (o := .cells #[.int .i64 x375000_1, .int .i64 0, .int .i64 0, .int .i64 0, .string ⟨#[]⟩, .string ⟨#[]⟩, .int .i64 0, .int .i64 0, .slice none 0 0, .int .i64 0, .slice Ao117 x375010_3.length co117] 52 (0, 0)) (by (with_reducible repeat first | apply q1 | apply q2 | apply q3); exact BK374.out) hb); have n4_ := Aside0.mk (below_step (by repeat (first | (with_reducible first | exact HB.out | apply s1 | apply s2 | apply s3 | refine s4 ?_ GE370.out | refine s4 ?_ GE374.out) | exact HB.out)) hb); clear HO_66; clear HO_375010; clear BK370; clear BK374; clear HB; have HO_66 := n0_; have HO_375010 := n1_; have BK370 := n2_; have BK374 := n3_; have HB := n4_; clear n0_ n1_ n2_ n3_ n4_; (try clear hb); (try clear hb2); (try clear hk); (try clear hi); have hcz119_0 : w118.cell? ⟨gb374, 0, none⟩ = some (.int .i64 x375000_1) := (blk_cell BK374.out 0).trans rfl; have hcz119_1 : w118.cell? ⟨gb374, 1, none⟩ = some (.int .i64 0) := (blk_cell BK374.out 1).trans rfl; have hcz119_2 : w118.cell? ⟨gb374, 2, none⟩ = some (.int .i64 0) := (blk_cell BK374.out 2).trans rfl; have hcz119_3 : w118.cell? ⟨gb374, 3, none⟩ = some (.int .i64 0) := (blk_cell BK374.out 3).trans rfl; have hcz119_4 : w118.cell? ⟨gb374, 4, none⟩ = some (.string ⟨#[]⟩) := (blk_cell BK374.out 4).trans rfl; have hcz119_5 : w118.cell? ⟨gb374, 5, none⟩ = some (.string ⟨#[]⟩) := (blk_cell BK374.out 5).trans rfl; have hcz119_6 : w118.cell? ⟨gb374, 6, none⟩ = some (.int .i64 0) := (blk_cell BK374.out 6).trans rfl; have hcz119_7 : w118.cell? ⟨gb374, 7, none⟩ = some (.int .i64 0) := (blk_cell BK374.out 7).trans rfl; have hcz119_8 : w118.cell? ⟨gb374, 8, none⟩ = some (.slice none 0 0) := (blk_cell BK374.out 8).trans rfl; have hcz119_9 : w118.cell? ⟨gb374, 9, none⟩ = some (.int .i64 0) := (blk_cell BK374.out 9).trans rfl; have hcz119_10 : w118.cell? ⟨gb374, 10, none⟩ = some (.slice Ao117 x375010_3.length co117) := (blk_cell BK374.out 10).trans rfl; have hfz119_0 := blk_frozen BK374.out 0; have hfz119_1 := blk_frozen BK374.out 1; have hfz119_2 := blk_frozen BK374.out 2; have hfz119_3 := blk_frozen BK374.out 3; have hfz119_4 := blk_frozen BK374.out 4; have hfz119_5 := blk_frozen BK374.out 5; have hfz119_6 := blk_frozen BK374.out 6; have hfz119_7 := blk_frozen BK374.out 7; have hfz119_8 := blk_frozen BK374.out 8; have hfz119_9 := blk_frozen BK374.out 9; have hfz119_10 := blk_frozen BK374.out 10; have hcz120_0 : w118.cell? ⟨gb370, 0, none⟩ = some (.int .i64 0) := (blk_cell BK370.out 0).trans rfl; have hcz120_1 : w118.cell? ⟨gb370, 1, none⟩ = some (.int .i64 0) := (blk_cell BK370.out 1).trans rfl; have hcz120_2 : w118.cell? ⟨gb370, 2, none⟩ = some (.int .i64 0) := (blk_cell BK370.out 2).trans rfl; have hcz120_3 : w118.cell? ⟨gb370, 3, none⟩ = some (.int .i64 0) := (blk_cell BK370.out 3).trans rfl; have hcz120_4 : w118.cell? ⟨gb370, 4, none⟩ = some (.string ⟨#[]⟩) := (blk_cell BK370.out 4).trans rfl; have hcz120_5 : w118.cell? ⟨gb370, 5, none⟩ = some (.string ⟨#[]⟩) := (blk_cell BK370.out 5).trans rfl; have hcz120_6 : w118.cell? ⟨gb370, 6, none⟩ = some (.int .i64 0) := (blk_cell BK370.out 6).trans rfl; have hcz120_7 : w118.cell? ⟨gb370, 7, none⟩ = some (.int .i64 0) := (blk_cell BK370.out 7).trans rfl; have hcz120_8 : w118.cell? ⟨gb370, 8, none⟩ = some (.slice none 0 0) := (blk_cell BK370.out 8).trans rfl; have hcz120_9 : w118.cell? ⟨gb370, 9, none⟩ = some (.int .i64 0) := (blk_cell BK370.out 9).trans rfl; have hcz120_10 : w118.cell? ⟨gb370, 10, none⟩ = some (.slice none 0 0) := (blk_cell BK370.out 10).trans rfl; have hfz120_0 := blk_frozen BK370.out 0; have hfz120_1 := blk_frozen BK370.out 1; have hfz120_2 := blk_frozen BK370.out 2; have hfz120_3 := blk_frozen BK370.out 3; have hfz120_4 := blk_frozen BK370.out 4; have hfz120_5 := blk_frozen BK370.out 5; have hfz120_6 := blk_frozen BK370.out 6; have hfz120_7 := blk_frozen BK370.out 7; have hfz120_8 := blk_frozen BK370.out 8; have hfz120_9 := blk_frozen BK370.out 9; have hfz120_10 := blk_frozen BK370.out 10))
                refine bodyPost_ret (results_ct rfl _ _ gb370 52 #[.int .i64 x375000_1, .int .i64 0, .int .i64 0, .int .i64 0, .string ⟨#[]⟩, .string ⟨#[]⟩, .int .i64 0, .int .i64 0, .slice none 0 0, .int .i64 0, .slice Ao117 x375010_3.length co117] (0, 0) _ rfl (by (with_reducible repeat first | apply q1 | apply q2 | apply q3); refine blk_put (cs := #[.int .i64 x375000_1, .int .i64 0, .int .i64 0, .int .i64 0, .string ⟨#[]⟩, .string ⟨#[]⟩, .int .i64 0, .int .i64 0, .slice none 0 0, .int .i64 0, .slice none 0 0]) ?_ 10 _ rfl; refine q5 ?_ 9 _ rfl; refine q5 ?_ 8 _ rfl; refine q5 ?_ 7 _ rfl; refine q5 ?_ 6 _ rfl; refine q5 ?_ 5 _ rfl; refine q5 ?_ 4 _ rfl; refine q5 ?_ 3 _ rfl; refine q5 ?_ 2 _ rfl; refine q5 ?_ 1 _ rfl; refine blk_put (cs := #[.int .i64 0, .int .i64 0, .int .i64 0, .int .i64 0, .string ⟨#[]⟩, .string ⟨#[]⟩, .int .i64 0, .int .i64 0, .slice none 0 0, .int .i64 0, .slice none 0 0]) ?_ 0 _ rfl; (with_reducible repeat first | apply q1 | apply q2 | apply q3); exact BK370.out) Tryz.underlying52 rfl (by kernel_rfl)) rfl ?_
                exact ⟨_, _, by first | rfl | (simp [errW_none, errW_some] <;> rfl) | (simp [*, errW_none, errW_some] <;> rfl), by exact Kd.R_nil _ _ _ _ _, by (with_reducible repeat first | apply r1 | apply r2 | apply r3); exact Kd.R_mono (Kd.R_far (p := ⟨gb370, 10, none⟩) (Kd.R_far (p := ⟨gb370, 9, none⟩) (Kd.R_far (p := ⟨gb370, 8, none⟩) (Kd.R_far (p := ⟨gb370, 7, none⟩) (Kd.R_far (p := ⟨gb370, 6, none⟩) (Kd.R_far (p := ⟨gb370, 5, none⟩) (Kd.R_far (p := ⟨gb370, 4, none⟩) (Kd.R_far (p := ⟨gb370, 3, none⟩) (Kd.R_far (p := ⟨gb370, 2, none⟩) (Kd.R_far (p := ⟨gb370, 1, none⟩) (Kd.R_far (p := ⟨gb370, 0, none⟩) (Kd.R_types HO_375010.out BK370.out (by decide)) (fun _ hk => hk.2) (.int .i64 x375000_1)) (fun _ hk => hk.2) (.int .i64 0)) (fun _ hk => hk.2) (.int .i64 0)) (fun _ hk => hk.2) (.int .i64 0)) (fun _ hk => hk.2) (.string ⟨#[]⟩)) (fun _ hk => hk.2) (.string ⟨#[]⟩)) (fun _ hk => hk.2) (.int .i64 0)) (fun _ hk => hk.2) (.int .i64 0)) (fun _ hk => hk.2) (.slice none 0 0)) (fun _ hk => hk.2) (.int .i64 0)) (fun _ hk => hk.2) (.slice Ao117 x375010_3.length co117)) (fun _ hk => trivial), by repeat (first | (with_reducible first | exact HB.out | apply s1 | apply s2 | apply s3 | refine s4 ?_ GE370.out | refine s4 ?_ GE374.out) | exact HB.out)⟩
               ·rw [if_neg c114] at H
                have c114b0 : (t404.toList == a0.toList) = false := beq_eq_false_iff_ne.mpr c114
                have c114b1 : (t404.toList != a0.toList) = true := bne_iff_ne.mpr c114
                simp only [Option.some.injEq, Prod.mk.injEq] at H
                obtain ⟨rfl, rfl, rfl, rfl, rfl, rfl, rfl, rfl, rfl, rfl, rfl, rfl⟩ := H
                have hnb121 := NB374_370.out
                have hnc121 := NB370_374.out
                have hcz122_0 : wr.cell? ⟨gb374, 0, none⟩ = some (.int .i64 x375000_1) := (blk_cell BK374.out 0).trans rfl
                have hcz122_1 : wr.cell? ⟨gb374, 1, none⟩ = some (.int .i64 0) := (blk_cell BK374.out 1).trans rfl
                have hcz122_2 : wr.cell? ⟨gb374, 2, none⟩ = some (.int .i64 0) := (blk_cell BK374.out 2).trans rfl
                have hcz122_3 : wr.cell? ⟨gb374, 3, none⟩ = some (.int .i64 0) := (blk_cell BK374.out 3).trans rfl
                have hcz122_4 : wr.cell? ⟨gb374, 4, none⟩ = some (.string ⟨#[]⟩) := (blk_cell BK374.out 4).trans rfl
                have hcz122_5 : wr.cell? ⟨gb374, 5, none⟩ = some (.string ⟨#[]⟩) := (blk_cell BK374.out 5).trans rfl
                have hcz122_6 : wr.cell? ⟨gb374, 6, none⟩ = some (.int .i64 0) := (blk_cell BK374.out 6).trans rfl
                have hcz122_7 : wr.cell? ⟨gb374, 7, none⟩ = some (.int .i64 0) := (blk_cell BK374.out 7).trans rfl
                have hcz122_8 : wr.cell? ⟨gb374, 8, none⟩ = some (.slice none 0 0) := (blk_cell BK374.out 8).trans rfl
                have hcz122_9 : wr.cell? ⟨gb374, 9, none⟩ = some (.int .i64 0) := (blk_cell BK374.out 9).trans rfl
                have hcz122_10 : wr.cell? ⟨gb374, 10, none⟩ = some (u375010) := (blk_cell BK374.out 10).trans rfl
                have hfz122_0 := blk_frozen BK374.out 0
                have hfz122_1 := blk_frozen BK374.out 1
                have hfz122_2 := blk_frozen BK374.out 2
                have hfz122_3 := blk_frozen BK374.out 3
                have hfz122_4 := blk_frozen BK374.out 4
                have hfz122_5 := blk_frozen BK374.out 5
                have hfz122_6 := blk_frozen BK374.out 6
                have hfz122_7 := blk_frozen BK374.out 7
                have hfz122_8 := blk_frozen BK374.out 8
                have hfz122_9 := blk_frozen BK374.out 9
                have hfz122_10 := blk_frozen BK374.out 10
                obtain ⟨Ao123, co123, eo123⟩ := Kd.R_slice HO_375010.out
                subst eo123
                go_wp2_with (first | (go_at_call 22; (refine (script_Text.calls x375000_1 0 0 0 (⟨#[]⟩ : ByteArray) (⟨#[]⟩ : ByteArray) 0 0 _ _ ([] : List Int) 0 _ _ x375010_3 t404 _ ?side1 ?side2 ?side3 ?side4 A113.out ?hT_).mono ?_); (case hT_ => exact Tabs.after HT.out (by repeat (first | (with_reducible first | exact HB.out | apply s1 | apply s2 | apply s3 | refine s4 ?_ GE370.out | refine s4 ?_ GE374.out) | exact HB.out))); (case side1 => exact Kd.C_nil _ _); (case side2 => exact Nat.le_refl _); (case side3 => repeat (first | exact (Kd.R_reads' HO_375010.out).2.2 | (with_reducible refine Kd.C_alloc ?_ _) | (with_reducible refine Kd.C_drewN ?_ _) | (with_reducible refine Kd.C_drew ?_))); (case side4 => exact (Kd.R_reads' HO_375010.out).2.1); rintro e w124 ⟨rfl, hb⟩; have n0_ := Aside0.mk (Kd.R_below (by (with_reducible repeat first | apply r1 | apply r2 | apply r3); exact HO_66.out) hb); have n1_ := Aside0.mk (Kd.R_below (by (with_reducible repeat first | apply r1 | apply r2 | apply r3); exact HO_375010.out) hb); have n2_ := Aside0.mk (blk_below (g := gb370) (o := .cells #[.int .i64 0, .int .i64 0, .int .i64 0, .int .i64 0, .string ⟨#[]⟩, .string ⟨#[]⟩, .int .i64 0, .int .i64 0, .slice none 0 0, .int .i64 0, .slice none 0 0] 52 (0, 0)) (by (with_reducible repeat first | apply q1 | apply q2 | apply q3); exact BK370.out) hb); have n3_ := Aside0.mk (blk_below (g := gb374) (o := .cells #[.int .i64 x375000_1, .int .i64 0, .int .i64 0, .int .i64 0, .string ⟨#[]⟩, .string ⟨#[]⟩, .int .i64 0, .int .i64 0, .slice none 0 0, .int .i64 0, .slice Ao123 x375010_3.length co123] 52 (0, 0)) (by (with_reducible repeat first | apply q1 | apply q2 | apply q3); exact BK374.out) hb); have n4_ := Aside0.mk (below_step (by repeat (first | (with_reducible first | exact HB.out | apply s1 | apply s2 | apply s3 | refine s4 ?_ GE370.out | refine s4 ?_ GE374.out) | exact HB.out)) hb); clear HO_66; clear HO_375010; clear BK370; clear BK374; clear HB; have HO_66 := n0_; have HO_375010 := n1_; have BK370 := n2_; have BK374 := n3_; have HB := n4_; clear n0_ n1_ n2_ n3_ n4_; (try clear hb); (try clear hb2); (try clear hk); (try clear hi); have hcz125_0 : w124.cell? ⟨gb370, 0, none⟩ = some (.int .i64 0) := (blk_cell BK370.out 0).trans rfl; have hcz125_1 : w124.cell? ⟨gb370, 1, none⟩ = some (.int .i64 0) := (blk_cell BK370.out 1).trans rfl; have hcz125_2 : w124.cell? ⟨gb370, 2, none⟩ = some (.int .i64 0) := (blk_cell BK370.out 2).trans rfl; have hcz125_3 : w124.cell? ⟨gb370, 3, none⟩ = some (.int .i64 0) := (blk_cell BK370.out 3).trans rfl; have hcz125_4 : w124.cell? ⟨gb370, 4, none⟩ = some (.string ⟨#[]⟩) := (blk_cell BK370.out 4).trans rfl; have hcz125_5 : w124.cell? ⟨gb370, 5, none⟩ = some (.string ⟨#[]⟩) := (blk_cell BK370.out 5).trans rfl; have hcz125_6 : w124.cell? ⟨gb370, 6, none⟩ = some (.int .i64 0) := (blk_cell BK370.out 6).trans rfl; have hcz125_7 : w124.cell? ⟨gb370, 7, none⟩ = some (.int .i64 0) := (blk_cell BK370.out 7).trans rfl; have hcz125_8 : w124.cell? ⟨gb370, 8, none⟩ = some (.slice none 0 0) := (blk_cell BK370.out 8).trans rfl; have hcz125_9 : w124.cell? ⟨gb370, 9, none⟩ = some (.int .i64 0) := (blk_cell BK370.out 9).trans rfl; have hcz125_10 : w124.cell? ⟨gb370, 10, none⟩ = some (.slice none 0 0) := (blk_cell BK370.out 10).trans rfl; have hfz125_0 := blk_frozen BK370.out 0; have hfz125_1 := blk_frozen BK370.out 1; have hfz125_2 := blk_frozen BK370.out 2; have hfz125_3 := blk_frozen BK370.out 3; have hfz125_4 := blk_frozen BK370.out 4; have hfz125_5 := blk_frozen BK370.out 5; have hfz125_6 := blk_frozen BK370.out 6; have hfz125_7 := blk_frozen BK370.out 7; have hfz125_8 := blk_frozen BK370.out 8; have hfz125_9 := blk_frozen BK370.out 9; have hfz125_10 := blk_frozen BK370.out 10))
                refine bodyPost_ret (results_ct rfl _ _ gb370 52 #[.int .i64 0, .int .i64 0, .int .i64 0, .int .i64 0, .string ⟨#[]⟩, .string ⟨#[]⟩, .int .i64 0, .int .i64 0, .slice none 0 0, .int .i64 0, .slice none 0 0] (0, 0) _ rfl (by (with_reducible repeat first | apply q1 | apply q2 | apply q3); refine q5 ?_ 10 _ rfl; refine q5 ?_ 9 _ rfl; refine q5 ?_ 8 _ rfl; refine q5 ?_ 7 _ rfl; refine q5 ?_ 6 _ rfl; refine q5 ?_ 5 _ rfl; refine q5 ?_ 4 _ rfl; refine q5 ?_ 3 _ rfl; refine q5 ?_ 2 _ rfl; refine q5 ?_ 1 _ rfl; refine q5 ?_ 0 _ rfl; (with_reducible repeat first | apply q1 | apply q2 | apply q3); exact BK370.out) Tryz.underlying52 rfl (by kernel_rfl)) rfl ?_
                exact ⟨_, _, by first | rfl | (simp [errW_none, errW_some] <;> rfl) | (simp [*, errW_none, errW_some] <;> rfl), by exact Kd.R_nil _ _ _ _ _, by exact Kd.R_nil _ _ _ _ _, by repeat (first | (with_reducible first | exact HB.out | apply s1 | apply s2 | apply s3 | refine s4 ?_ GE370.out | refine s4 ?_ GE374.out) | exact HB.out)⟩
          ·replace c96 := Bool.eq_false_iff.mpr c96
           subst c96
           have H1 : (if a0.toList = ([] : List UInt8) then (some (0, 0, 0, 0, (⟨#[]⟩ : ByteArray), (⟨#[]⟩ : ByteArray), 0, 0, ([] : List Int), 0, ([] : List Int), some 14)) else ((script_Text.f x375000_1 0 0 0 (⟨#[]⟩ : ByteArray) (⟨#[]⟩ : ByteArray) 0 0 ([] : List Int) 0 ([] : List Int)).bind fun t395 => (if t395.toList = a0.toList then (some (x375000_1, 0, 0, 0, (⟨#[]⟩ : ByteArray), (⟨#[]⟩ : ByteArray), 0, 0, ([] : List Int), 0, ([] : List Int), none)) else (some (0, 0, 0, 0, (⟨#[]⟩ : ByteArray), (⟨#[]⟩ : ByteArray), 0, 0, ([] : List Int), 0, ([] : List Int), some 14))))) = some (r1, r2, r3, r4, r5, r6, r7, r8, r9, r10, r11, r12) := by rw [if_neg (show ¬ (false = true) by decide)] at H; exact H
           clear H
           have H := H1
           clear H1
           by_cases c126 : a0.toList = ([] : List UInt8)
           ·rw [if_pos c126] at H
            have c126b0 : (a0.toList == ([] : List UInt8)) = true := beq_iff_eq.mpr c126
            have c126b1 : (a0.toList != ([] : List UInt8)) = false := bne_eq_false_iff_eq.mpr c126
            clear c126
            simp only [Option.some.injEq, Prod.mk.injEq] at H
            obtain ⟨rfl, rfl, rfl, rfl, rfl, rfl, rfl, rfl, rfl, rfl, rfl, rfl⟩ := H
            have hnb127 := NB370_374.out
            have hnc127 := NB374_370.out
            have hcz128_0 : wc.cell? ⟨gb370, 0, none⟩ = some (.int .i64 0) := (blk_cell BK370.out 0).trans rfl
            have hcz128_1 : wc.cell? ⟨gb370, 1, none⟩ = some (.int .i64 0) := (blk_cell BK370.out 1).trans rfl
            have hcz128_2 : wc.cell? ⟨gb370, 2, none⟩ = some (.int .i64 0) := (blk_cell BK370.out 2).trans rfl
            have hcz128_3 : wc.cell? ⟨gb370, 3, none⟩ = some (.int .i64 0) := (blk_cell BK370.out 3).trans rfl
            have hcz128_4 : wc.cell? ⟨gb370, 4, none⟩ = some (.string ⟨#[]⟩) := (blk_cell BK370.out 4).trans rfl
            have hcz128_5 : wc.cell? ⟨gb370, 5, none⟩ = some (.string ⟨#[]⟩) := (blk_cell BK370.out 5).trans rfl
            have hcz128_6 : wc.cell? ⟨gb370, 6, none⟩ = some (.int .i64 0) := (blk_cell BK370.out 6).trans rfl
            have hcz128_7 : wc.cell? ⟨gb370, 7, none⟩ = some (.int .i64 0) := (blk_cell BK370.out 7).trans rfl
            have hcz128_8 : wc.cell? ⟨gb370, 8, none⟩ = some (.slice none 0 0) := (blk_cell BK370.out 8).trans rfl
            have hcz128_9 : wc.cell? ⟨gb370, 9, none⟩ = some (.int .i64 0) := (blk_cell BK370.out 9).trans rfl
            have hcz128_10 : wc.cell? ⟨gb370, 10, none⟩ = some (.slice none 0 0) := (blk_cell BK370.out 10).trans rfl
            have hfz128_0 := blk_frozen BK370.out 0
            have hfz128_1 := blk_frozen BK370.out 1
            have hfz128_2 := blk_frozen BK370.out 2
            have hfz128_3 := blk_frozen BK370.out 3
            have hfz128_4 := blk_frozen BK370.out 4
            have hfz128_5 := blk_frozen BK370.out 5
            have hfz128_6 := blk_frozen BK370.out 6
            have hfz128_7 := blk_frozen BK370.out 7
            have hfz128_8 := blk_frozen BK370.out 8
            have hfz128_9 := blk_frozen BK370.out 9
            have hfz128_10 := blk_frozen BK370.out 10
            go_wp2
            refine bodyPost_ret (results_ct rfl _ _ gb370 52 #[.int .i64 0, .int .i64 0, .int .i64 0, .int .i64 0, .string ⟨#[]⟩, .string ⟨#[]⟩, .int .i64 0, .int .i64 0, .slice none 0 0, .int .i64 0, .slice none 0 0] (0, 0) _ rfl (by (with_reducible repeat first | apply q1 | apply q2 | apply q3); refine q5 ?_ 10 _ rfl; refine q5 ?_ 9 _ rfl; refine q5 ?_ 8 _ rfl; refine q5 ?_ 7 _ rfl; refine q5 ?_ 6 _ rfl; refine q5 ?_ 5 _ rfl; refine q5 ?_ 4 _ rfl; refine q5 ?_ 3 _ rfl; refine q5 ?_ 2 _ rfl; refine q5 ?_ 1 _ rfl; refine q5 ?_ 0 _ rfl; (with_reducible repeat first | apply q1 | apply q2 | apply q3); exact BK370.out) Tryz.underlying52 rfl (by kernel_rfl)) rfl ?_
            exact ⟨_, _, by first | rfl | (simp [errW_none, errW_some] <;> rfl) | (simp [*, errW_none, errW_some] <;> rfl), by exact Kd.R_nil _ _ _ _ _, by exact Kd.R_nil _ _ _ _ _, by repeat (first | (with_reducible first | exact HB.out | apply s1 | apply s2 | apply s3 | refine s4 ?_ GE370.out | refine s4 ?_ GE374.out) | exact HB.out)⟩
           ·rw [if_neg c126] at H
            have c126b0 : (a0.toList == ([] : List UInt8)) = false := beq_eq_false_iff_ne.mpr c126
            have c126b1 : (a0.toList != ([] : List UInt8)) = true := bne_iff_ne.mpr c126
            replace H := Option.bind_eq_some_iff.mp H
            obtain ⟨t395, A1290, H⟩ := H
            try dsimp only at H
            have A129 := Aside0.mk A1290
            clear A1290
            by_cases c130 : t395.toList = a0.toList
            ·rw [if_pos c130] at H
             have c130b0 : (t395.toList == a0.toList) = true := beq_iff_eq.mpr c130
             have c130b1 : (t395.toList != a0.toList) = false := bne_eq_false_iff_eq.mpr c130
             clear c130
             simp only [Option.some.injEq, Prod.mk.injEq] at H
             obtain ⟨rfl, rfl, rfl, rfl, rfl, rfl, rfl, rfl, rfl, rfl, rfl, rfl⟩ := H
             have hnb131 := NB374_370.out
             have hnc131 := NB370_374.out
             have hcz132_0 : wc.cell? ⟨gb374, 0, none⟩ = some (.int .i64 x375000_1) := (blk_cell BK374.out 0).trans rfl
             have hcz132_1 : wc.cell? ⟨gb374, 1, none⟩ = some (.int .i64 0) := (blk_cell BK374.out 1).trans rfl
             have hcz132_2 : wc.cell? ⟨gb374, 2, none⟩ = some (.int .i64 0) := (blk_cell BK374.out 2).trans rfl
             have hcz132_3 : wc.cell? ⟨gb374, 3, none⟩ = some (.int .i64 0) := (blk_cell BK374.out 3).trans rfl
             have hcz132_4 : wc.cell? ⟨gb374, 4, none⟩ = some (.string ⟨#[]⟩) := (blk_cell BK374.out 4).trans rfl
             have hcz132_5 : wc.cell? ⟨gb374, 5, none⟩ = some (.string ⟨#[]⟩) := (blk_cell BK374.out 5).trans rfl
             have hcz132_6 : wc.cell? ⟨gb374, 6, none⟩ = some (.int .i64 0) := (blk_cell BK374.out 6).trans rfl
             have hcz132_7 : wc.cell? ⟨gb374, 7, none⟩ = some (.int .i64 0) := (blk_cell BK374.out 7).trans rfl
             have hcz132_8 : wc.cell? ⟨gb374, 8, none⟩ = some (.slice none 0 0) := (blk_cell BK374.out 8).trans rfl
             have hcz132_9 : wc.cell? ⟨gb374, 9, none⟩ = some (.int .i64 0) := (blk_cell BK374.out 9).trans rfl
             have hcz132_10 : wc.cell? ⟨gb374, 10, none⟩ = some (.slice none 0 0) := (blk_cell BK374.out 10).trans rfl
             have hfz132_0 := blk_frozen BK374.out 0
             have hfz132_1 := blk_frozen BK374.out 1
             have hfz132_2 := blk_frozen BK374.out 2
             have hfz132_3 := blk_frozen BK374.out 3
             have hfz132_4 := blk_frozen BK374.out 4
             have hfz132_5 := blk_frozen BK374.out 5
             have hfz132_6 := blk_frozen BK374.out 6
             have hfz132_7 := blk_frozen BK374.out 7
             have hfz132_8 := blk_frozen BK374.out 8
             have hfz132_9 := blk_frozen BK374.out 9
             have hfz132_10 := blk_frozen BK374.out 10
             go_wp2_with (first | (go_at_call 22; (refine (script_Text.calls x375000_1 0 0 0 (⟨#[]⟩ : ByteArray) (⟨#[]⟩ : ByteArray) 0 0 _ _ ([] : List Int) 0 _ _ ([] : List Int) t395 _ ?side1 ?side2 ?side3 ?side4 A129.out ?hT_).mono ?_); (case hT_ => exact Tabs.after HT.out (by repeat (first | (with_reducible first | exact HB.out | apply s1 | apply s2 | apply s3 | refine s4 ?_ GE370.out | refine s4 ?_ GE374.out) | exact HB.out))); (case side1 => exact Kd.C_nil _ _); (case side2 => exact Nat.le_refl _); (case side3 => exact Kd.C_nil _ _); (case side4 => exact Nat.le_refl _); rintro e w133 ⟨rfl, hb⟩; have n0_ := Aside0.mk (blk_below (g := gb370) (o := .cells #[.int .i64 0, .int .i64 0, .int .i64 0, .int .i64 0, .string ⟨#[]⟩, .string ⟨#[]⟩, .int .i64 0, .int .i64 0, .slice none 0 0, .int .i64 0, .slice none 0 0] 52 (0, 0)) (by (with_reducible repeat first | apply q1 | apply q2 | apply q3); exact BK370.out) hb); have n1_ := Aside0.mk (blk_below (g := gb374) (o := .cells #[.int .i64 x375000_1, .int .i64 0, .int .i64 0, .int .i64 0, .string ⟨#[]⟩, .string ⟨#[]⟩, .int .i64 0, .int .i64 0, .slice none 0 0, .int .i64 0, .slice none 0 0] 52 (0, 0)) (by (with_reducible repeat first | apply q1 | apply q2 | apply q3); exact BK374.out) hb); have n2_ := Aside0.mk (below_step (by repeat (first | (with_reducible first | exact HB.out | apply s1 | apply s2 | apply s3 | refine s4 ?_ GE370.out | refine s4 ?_ GE374.out) | exact HB.out)) hb); clear BK370; clear BK374; clear HB; have BK370 := n0_; have BK374 := n1_; have HB := n2_; clear n0_ n1_ n2_; (try clear hb); (try clear hb2); (try clear hk); (try clear hi); have hcz134_0 : w133.cell? ⟨gb374, 0, none⟩ = some (.int .i64 x375000_1) := (blk_cell BK374.out 0).trans rfl; have hcz134_1 : w133.cell? ⟨gb374, 1, none⟩ = some (.int .i64 0) := (blk_cell BK374.out 1).trans rfl; have hcz134_2 : w133.cell? ⟨gb374, 2, none⟩ = some (.int .i64 0) := (blk_cell BK374.out 2).trans rfl; have hcz134_3 : w133.cell? ⟨gb374, 3, none⟩ = some (.int .i64 0) := (blk_cell BK374.out 3).trans rfl; have hcz134_4 : w133.cell? ⟨gb374, 4, none⟩ = some (.string ⟨#[]⟩) := (blk_cell BK374.out 4).trans rfl; have hcz134_5 : w133.cell? ⟨gb374, 5, none⟩ = some (.string ⟨#[]⟩) := (blk_cell BK374.out 5).trans rfl; have hcz134_6 : w133.cell? ⟨gb374, 6, none⟩ = some (.int .i64 0) := (blk_cell BK374.out 6).trans rfl; have hcz134_7 : w133.cell? ⟨gb374, 7, none⟩ = some (.int .i64 0) := (blk_cell BK374.out 7).trans rfl; have hcz134_8 : w133.cell? ⟨gb374, 8, none⟩ = some (.slice none 0 0) := (blk_cell BK374.out 8).trans rfl; have hcz134_9 : w133.cell? ⟨gb374, 9, none⟩ = some (.int .i64 0) := (blk_cell BK374.out 9).trans rfl; have hcz134_10 : w133.cell? ⟨gb374, 10, none⟩ = some (.slice none 0 0) := (blk_cell BK374.out 10).trans rfl; have hfz134_0 := blk_frozen BK374.out 0; have hfz134_1 := blk_frozen BK374.out 1; have hfz134_2 := blk_frozen BK374.out 2; have hfz134_3 := blk_frozen BK374.out 3; have hfz134_4 := blk_frozen BK374.out 4; have hfz134_5 := blk_frozen BK374.out 5; have hfz134_6 := blk_frozen BK374.out 6; have hfz134_7 := blk_frozen BK374.out 7; have hfz134_8 := blk_frozen BK374.out 8; have hfz134_9 := blk_frozen BK374.out 9; have hfz134_10 := blk_frozen BK374.out 10; have hcz135_0 : w133.cell? ⟨gb370, 0, none⟩ = some (.int .i64 0) := (blk_cell BK370.out 0).trans rfl; have hcz135_1 : w133.cell? ⟨gb370, 1, none⟩ = some (.int .i64 0) := (blk_cell BK370.out 1).trans rfl; have hcz135_2 : w133.cell? ⟨gb370, 2, none⟩ = some (.int .i64 0) := (blk_cell BK370.out 2).trans rfl; have hcz135_3 : w133.cell? ⟨gb370, 3, none⟩ = some (.int .i64 0) := (blk_cell BK370.out 3).trans rfl; have hcz135_4 : w133.cell? ⟨gb370, 4, none⟩ = some (.string ⟨#[]⟩) := (blk_cell BK370.out 4).trans rfl; have hcz135_5 : w133.cell? ⟨gb370, 5, none⟩ = some (.string ⟨#[]⟩) := (blk_cell BK370.out 5).trans rfl; have hcz135_6 : w133.cell? ⟨gb370, 6, none⟩ = some (.int .i64 0) := (blk_cell BK370.out 6).trans rfl; have hcz135_7 : w133.cell? ⟨gb370, 7, none⟩ = some (.int .i64 0) := (blk_cell BK370.out 7).trans rfl; have hcz135_8 : w133.cell? ⟨gb370, 8, none⟩ = some (.slice none 0 0) := (blk_cell BK370.out 8).trans rfl; have hcz135_9 : w133.cell? ⟨gb370, 9, none⟩ = some (.int .i64 0) := (blk_cell BK370.out 9).trans rfl; have hcz135_10 : w133.cell? ⟨gb370, 10, none⟩ = some (.slice none 0 0) := (blk_cell BK370.out 10).trans rfl; have hfz135_0 := blk_frozen BK370.out 0; have hfz135_1 := blk_frozen BK370.out 1; have hfz135_2 := blk_frozen BK370.out 2; have hfz135_3 := blk_frozen BK370.out 3; have hfz135_4 := blk_frozen BK370.out 4; have hfz135_5 := blk_frozen BK370.out 5; have hfz135_6 := blk_frozen BK370.out 6; have hfz135_7 := blk_frozen BK370.out 7; have hfz135_8 := blk_frozen BK370.out 8; have hfz135_9 := blk_frozen BK370.out 9; have hfz135_10 := blk_frozen BK370.out 10))
             refine bodyPost_ret (results_ct rfl _ _ gb370 52 #[.int .i64 x375000_1, .int .i64 0, .int .i64 0, .int .i64 0, .string ⟨#[]⟩, .string ⟨#[]⟩, .int .i64 0, .int .i64 0, .slice none 0 0, .int .i64 0, .slice none 0 0] (0, 0) _ rfl (by (with_reducible repeat first | apply q1 | apply q2 | apply q3); refine q5 ?_ 10 _ rfl; refine q5 ?_ 9 _ rfl; refine q5 ?_ 8 _ rfl; refine q5 ?_ 7 _ rfl; refine q5 ?_ 6 _ rfl; refine q5 ?_ 5 _ rfl; refine q5 ?_ 4 _ rfl; refine q5 ?_ 3 _ rfl; refine q5 ?_ 2 _ rfl; refine q5 ?_ 1 _ rfl; refine blk_put (cs := #[.int .i64 0, .int .i64 0, .int .i64 0, .int .i64 0, .string ⟨#[]⟩, .string ⟨#[]⟩, .int .i64 0, .int .i64 0, .slice none 0 0, .int .i64 0, .slice none 0 0]) ?_ 0 _ rfl; (with_reducible repeat first | apply q1 | apply q2 | apply q3); exact BK370.out) Tryz.underlying52 rfl (by kernel_rfl)) rfl ?_
             exact ⟨_, _, by first | rfl | (simp [errW_none, errW_some] <;> rfl) | (simp [*, errW_none, errW_some] <;> rfl), by exact Kd.R_nil _ _ _ _ _, by exact Kd.R_nil _ _ _ _ _, by repeat (first | (with_reducible first | exact HB.out | apply s1 | apply s2 | apply s3 | refine s4 ?_ GE370.out | refine s4 ?_ GE374.out) | exact HB.out)⟩
            ·rw [if_neg c130] at H
             have c130b0 : (t395.toList == a0.toList) = false := beq_eq_false_iff_ne.mpr c130
             have c130b1 : (t395.toList != a0.toList) = true := bne_iff_ne.mpr c130
             simp only [Option.some.injEq, Prod.mk.injEq] at H
             obtain ⟨rfl, rfl, rfl, rfl, rfl, rfl, rfl, rfl, rfl, rfl, rfl, rfl⟩ := H
             have hnb136 := NB374_370.out
             have hnc136 := NB370_374.out
             have hcz137_0 : wc.cell? ⟨gb374, 0, none⟩ = some (.int .i64 x375000_1) := (blk_cell BK374.out 0).trans rfl
             have hcz137_1 : wc.cell? ⟨gb374, 1, none⟩ = some (.int .i64 0) := (blk_cell BK374.out 1).trans rfl
             have hcz137_2 : wc.cell? ⟨gb374, 2, none⟩ = some (.int .i64 0) := (blk_cell BK374.out 2).trans rfl
             have hcz137_3 : wc.cell? ⟨gb374, 3, none⟩ = some (.int .i64 0) := (blk_cell BK374.out 3).trans rfl
             have hcz137_4 : wc.cell? ⟨gb374, 4, none⟩ = some (.string ⟨#[]⟩) := (blk_cell BK374.out 4).trans rfl
             have hcz137_5 : wc.cell? ⟨gb374, 5, none⟩ = some (.string ⟨#[]⟩) := (blk_cell BK374.out 5).trans rfl
             have hcz137_6 : wc.cell? ⟨gb374, 6, none⟩ = some (.int .i64 0) := (blk_cell BK374.out 6).trans rfl
             have hcz137_7 : wc.cell? ⟨gb374, 7, none⟩ = some (.int .i64 0) := (blk_cell BK374.out 7).trans rfl
             have hcz137_8 : wc.cell? ⟨gb374, 8, none⟩ = some (.slice none 0 0) := (blk_cell BK374.out 8).trans rfl
             have hcz137_9 : wc.cell? ⟨gb374, 9, none⟩ = some (.int .i64 0) := (blk_cell BK374.out 9).trans rfl
             have hcz137_10 : wc.cell? ⟨gb374, 10, none⟩ = some (.slice none 0 0) := (blk_cell BK374.out 10).trans rfl
             have hfz137_0 := blk_frozen BK374.out 0
             have hfz137_1 := blk_frozen BK374.out 1
             have hfz137_2 := blk_frozen BK374.out 2
             have hfz137_3 := blk_frozen BK374.out 3
             have hfz137_4 := blk_frozen BK374.out 4
             have hfz137_5 := blk_frozen BK374.out 5
             have hfz137_6 := blk_frozen BK374.out 6
             have hfz137_7 := blk_frozen BK374.out 7
             have hfz137_8 := blk_frozen BK374.out 8
             have hfz137_9 := blk_frozen BK374.out 9
             have hfz137_10 := blk_frozen BK374.out 10
             go_wp2_with (first | (go_at_call 22; (refine (script_Text.calls x375000_1 0 0 0 (⟨#[]⟩ : ByteArray) (⟨#[]⟩ : ByteArray) 0 0 _ _ ([] : List Int) 0 _ _ ([] : List Int) t395 _ ?side1 ?side2 ?side3 ?side4 A129.out ?hT_).mono ?_); (case hT_ => exact Tabs.after HT.out (by repeat (first | (with_reducible first | exact HB.out | apply s1 | apply s2 | apply s3 | refine s4 ?_ GE370.out | refine s4 ?_ GE374.out) | exact HB.out))); (case side1 => exact Kd.C_nil _ _); (case side2 => exact Nat.le_refl _); (case side3 => exact Kd.C_nil _ _); (case side4 => exact Nat.le_refl _); rintro e w138 ⟨rfl, hb⟩; have n0_ := Aside0.mk (blk_below (g := gb370) (o := .cells #[.int .i64 0, .int .i64 0, .int .i64 0, .int .i64 0, .string ⟨#[]⟩, .string ⟨#[]⟩, .int .i64 0, .int .i64 0, .slice none 0 0, .int .i64 0, .slice none 0 0] 52 (0, 0)) (by (with_reducible repeat first | apply q1 | apply q2 | apply q3); exact BK370.out) hb); have n1_ := Aside0.mk (blk_below (g := gb374) (o := .cells #[.int .i64 x375000_1, .int .i64 0, .int .i64 0, .int .i64 0, .string ⟨#[]⟩, .string ⟨#[]⟩, .int .i64 0, .int .i64 0, .slice none 0 0, .int .i64 0, .slice none 0 0] 52 (0, 0)) (by (with_reducible repeat first | apply q1 | apply q2 | apply q3); exact BK374.out) hb); have n2_ := Aside0.mk (below_step (by repeat (first | (with_reducible first | exact HB.out | apply s1 | apply s2 | apply s3 | refine s4 ?_ GE370.out | refine s4 ?_ GE374.out) | exact HB.out)) hb); clear BK370; clear BK374; clear HB; have BK370 := n0_; have BK374 := n1_; have HB := n2_; clear n0_ n1_ n2_; (try clear hb); (try clear hb2); (try clear hk); (try clear hi); have hcz139_0 : w138.cell? ⟨gb370, 0, none⟩ = some (.int .i64 0) := (blk_cell BK370.out 0).trans rfl; have hcz139_1 : w138.cell? ⟨gb370, 1, none⟩ = some (.int .i64 0) := (blk_cell BK370.out 1).trans rfl; have hcz139_2 : w138.cell? ⟨gb370, 2, none⟩ = some (.int .i64 0) := (blk_cell BK370.out 2).trans rfl; have hcz139_3 : w138.cell? ⟨gb370, 3, none⟩ = some (.int .i64 0) := (blk_cell BK370.out 3).trans rfl; have hcz139_4 : w138.cell? ⟨gb370, 4, none⟩ = some (.string ⟨#[]⟩) := (blk_cell BK370.out 4).trans rfl; have hcz139_5 : w138.cell? ⟨gb370, 5, none⟩ = some (.string ⟨#[]⟩) := (blk_cell BK370.out 5).trans rfl; have hcz139_6 : w138.cell? ⟨gb370, 6, none⟩ = some (.int .i64 0) := (blk_cell BK370.out 6).trans rfl; have hcz139_7 : w138.cell? ⟨gb370, 7, none⟩ = some (.int .i64 0) := (blk_cell BK370.out 7).trans rfl; have hcz139_8 : w138.cell? ⟨gb370, 8, none⟩ = some (.slice none 0 0) := (blk_cell BK370.out 8).trans rfl; have hcz139_9 : w138.cell? ⟨gb370, 9, none⟩ = some (.int .i64 0) := (blk_cell BK370.out 9).trans rfl; have hcz139_10 : w138.cell? ⟨gb370, 10, none⟩ = some (.slice none 0 0) := (blk_cell BK370.out 10).trans rfl; have hfz139_0 := blk_frozen BK370.out 0; have hfz139_1 := blk_frozen BK370.out 1; have hfz139_2 := blk_frozen BK370.out 2; have hfz139_3 := blk_frozen BK370.out 3; have hfz139_4 := blk_frozen BK370.out 4; have hfz139_5 := blk_frozen BK370.out 5; have hfz139_6 := blk_frozen BK370.out 6; have hfz139_7 := blk_frozen BK370.out 7; have hfz139_8 := blk_frozen BK370.out 8; have hfz139_9 := blk_frozen BK370.out 9; have hfz139_10 := blk_frozen BK370.out 10))
             refine bodyPost_ret (results_ct rfl _ _ gb370 52 #[.int .i64 0, .int .i64 0, .int .i64 0, .int .i64 0, .string ⟨#[]⟩, .string ⟨#[]⟩, .int .i64 0, .int .i64 0, .slice none 0 0, .int .i64 0, .slice none 0 0] (0, 0) _ rfl (by (with_reducible repeat first | apply q1 | apply q2 | apply q3); refine q5 ?_ 10 _ rfl; refine q5 ?_ 9 _ rfl; refine q5 ?_ 8 _ rfl; refine q5 ?_ 7 _ rfl; refine q5 ?_ 6 _ rfl; refine q5 ?_ 5 _ rfl; refine q5 ?_ 4 _ rfl; refine q5 ?_ 3 _ rfl; refine q5 ?_ 2 _ rfl; refine q5 ?_ 1 _ rfl; refine q5 ?_ 0 _ rfl; (with_reducible repeat first | apply q1 | apply q2 | apply q3); exact BK370.out) Tryz.underlying52 rfl (by kernel_rfl)) rfl ?_
             exact ⟨_, _, by first | rfl | (simp [errW_none, errW_some] <;> rfl) | (simp [*, errW_none, errW_some] <;> rfl), by exact Kd.R_nil _ _ _ _ _, by exact Kd.R_nil _ _ _ _ _, by repeat (first | (with_reducible first | exact HB.out | apply s1 | apply s2 | apply s3 | refine s4 ?_ GE370.out | refine s4 ?_ GE374.out) | exact HB.out)⟩
         ·rw [if_neg c95] at H
          have c95b0 : (x375000_1 == 5) = false := beq_eq_false_iff_ne.mpr c95
          have c95b1 : (x375000_1 != 5) = true := bne_iff_ne.mpr c95
          by_cases c140 : a0.toList = ([] : List UInt8)
          ·rw [if_pos c140] at H
           have c140b0 : (a0.toList == ([] : List UInt8)) = true := beq_iff_eq.mpr c140
           have c140b1 : (a0.toList != ([] : List UInt8)) = false := bne_eq_false_iff_eq.mpr c140
           clear c140
           simp only [Option.some.injEq, Prod.mk.injEq] at H
           obtain ⟨rfl, rfl, rfl, rfl, rfl, rfl, rfl, rfl, rfl, rfl, rfl, rfl⟩ := H
           have hnb141 := NB370_374.out
           have hnc141 := NB374_370.out
           have hcz142_0 : wc.cell? ⟨gb370, 0, none⟩ = some (.int .i64 0) := (blk_cell BK370.out 0).trans rfl
           have hcz142_1 : wc.cell? ⟨gb370, 1, none⟩ = some (.int .i64 0) := (blk_cell BK370.out 1).trans rfl
           have hcz142_2 : wc.cell? ⟨gb370, 2, none⟩ = some (.int .i64 0) := (blk_cell BK370.out 2).trans rfl
           have hcz142_3 : wc.cell? ⟨gb370, 3, none⟩ = some (.int .i64 0) := (blk_cell BK370.out 3).trans rfl
           have hcz142_4 : wc.cell? ⟨gb370, 4, none⟩ = some (.string ⟨#[]⟩) := (blk_cell BK370.out 4).trans rfl
           have hcz142_5 : wc.cell? ⟨gb370, 5, none⟩ = some (.string ⟨#[]⟩) := (blk_cell BK370.out 5).trans rfl
           have hcz142_6 : wc.cell? ⟨gb370, 6, none⟩ = some (.int .i64 0) := (blk_cell BK370.out 6).trans rfl
           have hcz142_7 : wc.cell? ⟨gb370, 7, none⟩ = some (.int .i64 0) := (blk_cell BK370.out 7).trans rfl
           have hcz142_8 : wc.cell? ⟨gb370, 8, none⟩ = some (.slice none 0 0) := (blk_cell BK370.out 8).trans rfl
           have hcz142_9 : wc.cell? ⟨gb370, 9, none⟩ = some (.int .i64 0) := (blk_cell BK370.out 9).trans rfl
           have hcz142_10 : wc.cell? ⟨gb370, 10, none⟩ = some (.slice none 0 0) := (blk_cell BK370.out 10).trans rfl
           have hfz142_0 := blk_frozen BK370.out 0
           have hfz142_1 := blk_frozen BK370.out 1
           have hfz142_2 := blk_frozen BK370.out 2
           have hfz142_3 := blk_frozen BK370.out 3
           have hfz142_4 := blk_frozen BK370.out 4
           have hfz142_5 := blk_frozen BK370.out 5
           have hfz142_6 := blk_frozen BK370.out 6
           have hfz142_7 := blk_frozen BK370.out 7
           have hfz142_8 := blk_frozen BK370.out 8
           have hfz142_9 := blk_frozen BK370.out 9
           have hfz142_10 := blk_frozen BK370.out 10
           go_wp2
           refine bodyPost_ret (results_ct rfl _ _ gb370 52 #[.int .i64 0, .int .i64 0, .int .i64 0, .int .i64 0, .string ⟨#[]⟩, .string ⟨#[]⟩, .int .i64 0, .int .i64 0, .slice none 0 0, .int .i64 0, .slice none 0 0] (0, 0) _ rfl (by (with_reducible repeat first | apply q1 | apply q2 | apply q3); refine q5 ?_ 10 _ rfl; refine q5 ?_ 9 _ rfl; refine q5 ?_ 8 _ rfl; refine q5 ?_ 7 _ rfl; refine q5 ?_ 6 _ rfl; refine q5 ?_ 5 _ rfl; refine q5 ?_ 4 _ rfl; refine q5 ?_ 3 _ rfl; refine q5 ?_ 2 _ rfl; refine q5 ?_ 1 _ rfl; refine q5 ?_ 0 _ rfl; (with_reducible repeat first | apply q1 | apply q2 | apply q3); exact BK370.out) Tryz.underlying52 rfl (by kernel_rfl)) rfl ?_
           exact ⟨_, _, by first | rfl | (simp [errW_none, errW_some] <;> rfl) | (simp [*, errW_none, errW_some] <;> rfl), by exact Kd.R_nil _ _ _ _ _, by exact Kd.R_nil _ _ _ _ _, by repeat (first | (with_reducible first | exact HB.out | apply s1 | apply s2 | apply s3 | refine s4 ?_ GE370.out | refine s4 ?_ GE374.out) | exact HB.out)⟩
          ·rw [if_neg c140] at H
           have c140b0 : (a0.toList == ([] : List UInt8)) = false := beq_eq_false_iff_ne.mpr c140
           have c140b1 : (a0.toList != ([] : List UInt8)) = true := bne_iff_ne.mpr c140
           replace H := Option.bind_eq_some_iff.mp H
           obtain ⟨t405, A1430, H⟩ := H
           try dsimp only at H
           have A143 := Aside0.mk A1430
           clear A1430
           by_cases c144 : t405.toList = a0.toList
           ·rw [if_pos c144] at H
            have c144b0 : (t405.toList == a0.toList) = true := beq_iff_eq.mpr c144
            have c144b1 : (t405.toList != a0.toList) = false := bne_eq_false_iff_eq.mpr c144
            clear c144
            simp only [Option.some.injEq, Prod.mk.injEq] at H
            obtain ⟨rfl, rfl, rfl, rfl, rfl, rfl, rfl, rfl, rfl, rfl, rfl, rfl⟩ := H
            have hnb145 := NB374_370.out
            have hnc145 := NB370_374.out
            have hcz146_0 : wc.cell? ⟨gb374, 0, none⟩ = some (.int .i64 x375000_1) := (blk_cell BK374.out 0).trans rfl
            have hcz146_1 : wc.cell? ⟨gb374, 1, none⟩ = some (.int .i64 0) := (blk_cell BK374.out 1).trans rfl
            have hcz146_2 : wc.cell? ⟨gb374, 2, none⟩ = some (.int .i64 0) := (blk_cell BK374.out 2).trans rfl
            have hcz146_3 : wc.cell? ⟨gb374, 3, none⟩ = some (.int .i64 0) := (blk_cell BK374.out 3).trans rfl
            have hcz146_4 : wc.cell? ⟨gb374, 4, none⟩ = some (.string ⟨#[]⟩) := (blk_cell BK374.out 4).trans rfl
            have hcz146_5 : wc.cell? ⟨gb374, 5, none⟩ = some (.string ⟨#[]⟩) := (blk_cell BK374.out 5).trans rfl
            have hcz146_6 : wc.cell? ⟨gb374, 6, none⟩ = some (.int .i64 0) := (blk_cell BK374.out 6).trans rfl
            have hcz146_7 : wc.cell? ⟨gb374, 7, none⟩ = some (.int .i64 0) := (blk_cell BK374.out 7).trans rfl
            have hcz146_8 : wc.cell? ⟨gb374, 8, none⟩ = some (.slice none 0 0) := (blk_cell BK374.out 8).trans rfl
            have hcz146_9 : wc.cell? ⟨gb374, 9, none⟩ = some (.int .i64 0) := (blk_cell BK374.out 9).trans rfl
            have hcz146_10 : wc.cell? ⟨gb374, 10, none⟩ = some (.slice none 0 0) := (blk_cell BK374.out 10).trans rfl
            have hfz146_0 := blk_frozen BK374.out 0
            have hfz146_1 := blk_frozen BK374.out 1
            have hfz146_2 := blk_frozen BK374.out 2
            have hfz146_3 := blk_frozen BK374.out 3
            have hfz146_4 := blk_frozen BK374.out 4
            have hfz146_5 := blk_frozen BK374.out 5
            have hfz146_6 := blk_frozen BK374.out 6
            have hfz146_7 := blk_frozen BK374.out 7
            have hfz146_8 := blk_frozen BK374.out 8
            have hfz146_9 := blk_frozen BK374.out 9
            have hfz146_10 := blk_frozen BK374.out 10
            go_wp2_with (first | (go_at_call 22; (refine (script_Text.calls x375000_1 0 0 0 (⟨#[]⟩ : ByteArray) (⟨#[]⟩ : ByteArray) 0 0 _ _ ([] : List Int) 0 _ _ ([] : List Int) t405 _ ?side1 ?side2 ?side3 ?side4 A143.out ?hT_).mono ?_); (case hT_ => exact Tabs.after HT.out (by repeat (first | (with_reducible first | exact HB.out | apply s1 | apply s2 | apply s3 | refine s4 ?_ GE370.out | refine s4 ?_ GE374.out) | exact HB.out))); (case side1 => exact Kd.C_nil _ _); (case side2 => exact Nat.le_refl _); (case side3 => exact Kd.C_nil _ _); (case side4 => exact Nat.le_refl _); rintro e w147 ⟨rfl, hb⟩; have n0_ := Aside0.mk (blk_below (g := gb370) (o := .cells #[.int .i64 0, .int .i64 0, .int .i64 0, .int .i64 0, .string ⟨#[]⟩, .string ⟨#[]⟩, .int .i64 0, .int .i64 0, .slice none 0 0, .int .i64 0, .slice none 0 0] 52 (0, 0)) (by (with_reducible repeat first | apply q1 | apply q2 | apply q3); exact BK370.out) hb); have n1_ := Aside0.mk (blk_below (g := gb374) (o := .cells #[.int .i64 x375000_1, .int .i64 0, .int .i64 0, .int .i64 0, .string ⟨#[]⟩, .string ⟨#[]⟩, .int .i64 0, .int .i64 0, .slice none 0 0, .int .i64 0, .slice none 0 0] 52 (0, 0)) (by (with_reducible repeat first | apply q1 | apply q2 | apply q3); exact BK374.out) hb); have n2_ := Aside0.mk (below_step (by repeat (first | (with_reducible first | exact HB.out | apply s1 | apply s2 | apply s3 | refine s4 ?_ GE370.out | refine s4 ?_ GE374.out) | exact HB.out)) hb); clear BK370; clear BK374; clear HB; have BK370 := n0_; have BK374 := n1_; have HB := n2_; clear n0_ n1_ n2_; (try clear hb); (try clear hb2); (try clear hk); (try clear hi); have hcz148_0 : w147.cell? ⟨gb374, 0, none⟩ = some (.int .i64 x375000_1) := (blk_cell BK374.out 0).trans rfl; have hcz148_1 : w147.cell? ⟨gb374, 1, none⟩ = some (.int .i64 0) := (blk_cell BK374.out 1).trans rfl; have hcz148_2 : w147.cell? ⟨gb374, 2, none⟩ = some (.int .i64 0) := (blk_cell BK374.out 2).trans rfl; have hcz148_3 : w147.cell? ⟨gb374, 3, none⟩ = some (.int .i64 0) := (blk_cell BK374.out 3).trans rfl; have hcz148_4 : w147.cell? ⟨gb374, 4, none⟩ = some (.string ⟨#[]⟩) := (blk_cell BK374.out 4).trans rfl; have hcz148_5 : w147.cell? ⟨gb374, 5, none⟩ = some (.string ⟨#[]⟩) := (blk_cell BK374.out 5).trans rfl; have hcz148_6 : w147.cell? ⟨gb374, 6, none⟩ = some (.int .i64 0) := (blk_cell BK374.out 6).trans rfl; have hcz148_7 : w147.cell? ⟨gb374, 7, none⟩ = some (.int .i64 0) := (blk_cell BK374.out 7).trans rfl; have hcz148_8 : w147.cell? ⟨gb374, 8, none⟩ = some (.slice none 0 0) := (blk_cell BK374.out 8).trans rfl; have hcz148_9 : w147.cell? ⟨gb374, 9, none⟩ = some (.int .i64 0) := (blk_cell BK374.out 9).trans rfl; have hcz148_10 : w147.cell? ⟨gb374, 10, none⟩ = some (.slice none 0 0) := (blk_cell BK374.out 10).trans rfl; have hfz148_0 := blk_frozen BK374.out 0; have hfz148_1 := blk_frozen BK374.out 1; have hfz148_2 := blk_frozen BK374.out 2; have hfz148_3 := blk_frozen BK374.out 3; have hfz148_4 := blk_frozen BK374.out 4; have hfz148_5 := blk_frozen BK374.out 5; have hfz148_6 := blk_frozen BK374.out 6; have hfz148_7 := blk_frozen BK374.out 7; have hfz148_8 := blk_frozen BK374.out 8; have hfz148_9 := blk_frozen BK374.out 9; have hfz148_10 := blk_frozen BK374.out 10; have hcz149_0 : w147.cell? ⟨gb370, 0, none⟩ = some (.int .i64 0) := (blk_cell BK370.out 0).trans rfl; have hcz149_1 : w147.cell? ⟨gb370, 1, none⟩ = some (.int .i64 0) := (blk_cell BK370.out 1).trans rfl; have hcz149_2 : w147.cell? ⟨gb370, 2, none⟩ = some (.int .i64 0) := (blk_cell BK370.out 2).trans rfl; have hcz149_3 : w147.cell? ⟨gb370, 3, none⟩ = some (.int .i64 0) := (blk_cell BK370.out 3).trans rfl; have hcz149_4 : w147.cell? ⟨gb370, 4, none⟩ = some (.string ⟨#[]⟩) := (blk_cell BK370.out 4).trans rfl; have hcz149_5 : w147.cell? ⟨gb370, 5, none⟩ = some (.string ⟨#[]⟩) := (blk_cell BK370.out 5).trans rfl; have hcz149_6 : w147.cell? ⟨gb370, 6, none⟩ = some (.int .i64 0) := (blk_cell BK370.out 6).trans rfl; have hcz149_7 : w147.cell? ⟨gb370, 7, none⟩ = some (.int .i64 0) := (blk_cell BK370.out 7).trans rfl; have hcz149_8 : w147.cell? ⟨gb370, 8, none⟩ = some (.slice none 0 0) := (blk_cell BK370.out 8).trans rfl; have hcz149_9 : w147.cell? ⟨gb370, 9, none⟩ = some (.int .i64 0) := (blk_cell BK370.out 9).trans rfl; have hcz149_10 : w147.cell? ⟨gb370, 10, none⟩ = some (.slice none 0 0) := (blk_cell BK370.out 10).trans rfl; have hfz149_0 := blk_frozen BK370.out 0; have hfz149_1 := blk_frozen BK370.out 1; have hfz149_2 := blk_frozen BK370.out 2; have hfz149_3 := blk_frozen BK370.out 3; have hfz149_4 := blk_frozen BK370.out 4; have hfz149_5 := blk_frozen BK370.out 5; have hfz149_6 := blk_frozen BK370.out 6; have hfz149_7 := blk_frozen BK370.out 7; have hfz149_8 := blk_frozen BK370.out 8; have hfz149_9 := blk_frozen BK370.out 9; have hfz149_10 := blk_frozen BK370.out 10))
            refine bodyPost_ret (results_ct rfl _ _ gb370 52 #[.int .i64 x375000_1, .int .i64 0, .int .i64 0, .int .i64 0, .string ⟨#[]⟩, .string ⟨#[]⟩, .int .i64 0, .int .i64 0, .slice none 0 0, .int .i64 0, .slice none 0 0] (0, 0) _ rfl (by (with_reducible repeat first | apply q1 | apply q2 | apply q3); refine q5 ?_ 10 _ rfl; refine q5 ?_ 9 _ rfl; refine q5 ?_ 8 _ rfl; refine q5 ?_ 7 _ rfl; refine q5 ?_ 6 _ rfl; refine q5 ?_ 5 _ rfl; refine q5 ?_ 4 _ rfl; refine q5 ?_ 3 _ rfl; refine q5 ?_ 2 _ rfl; refine q5 ?_ 1 _ rfl; refine blk_put (cs := #[.int .i64 0, .int .i64 0, .int .i64 0, .int .i64 0, .string ⟨#[]⟩, .string ⟨#[]⟩, .int .i64 0, .int .i64 0, .slice none 0 0, .int .i64 0, .slice none 0 0]) ?_ 0 _ rfl; (with_reducible repeat first | apply q1 | apply q2 | apply q3); exact BK370.out) Tryz.underlying52 rfl (by kernel_rfl)) rfl ?_
            exact ⟨_, _, by first | rfl | (simp [errW_none, errW_some] <;> rfl) | (simp [*, errW_none, errW_some] <;> rfl), by exact Kd.R_nil _ _ _ _ _, by exact Kd.R_nil _ _ _ _ _, by repeat (first | (with_reducible first | exact HB.out | apply s1 | apply s2 | apply s3 | refine s4 ?_ GE370.out | refine s4 ?_ GE374.out) | exact HB.out)⟩
           ·rw [if_neg c144] at H
            have c144b0 : (t405.toList == a0.toList) = false := beq_eq_false_iff_ne.mpr c144
            have c144b1 : (t405.toList != a0.toList) = true := bne_iff_ne.mpr c144
            simp only [Option.some.injEq, Prod.mk.injEq] at H
            obtain ⟨rfl, rfl, rfl, rfl, rfl, rfl, rfl, rfl, rfl, rfl, rfl, rfl⟩ := H
            have hnb150 := NB374_370.out
            have hnc150 := NB370_374.out
            have hcz151_0 : wc.cell? ⟨gb374, 0, none⟩ = some (.int .i64 x375000_1) := (blk_cell BK374.out 0).trans rfl
            have hcz151_1 : wc.cell? ⟨gb374, 1, none⟩ = some (.int .i64 0) := (blk_cell BK374.out 1).trans rfl
            have hcz151_2 : wc.cell? ⟨gb374, 2, none⟩ = some (.int .i64 0) := (blk_cell BK374.out 2).trans rfl
            have hcz151_3 : wc.cell? ⟨gb374, 3, none⟩ = some (.int .i64 0) := (blk_cell BK374.out 3).trans rfl
            have hcz151_4 : wc.cell? ⟨gb374, 4, none⟩ = some (.string ⟨#[]⟩) := (blk_cell BK374.out 4).trans rfl
            have hcz151_5 : wc.cell? ⟨gb374, 5, none⟩ = some (.string ⟨#[]⟩) := (blk_cell BK374.out 5).trans rfl
            have hcz151_6 : wc.cell? ⟨gb374, 6, none⟩ = some (.int .i64 0) := (blk_cell BK374.out 6).trans rfl
            have hcz151_7 : wc.cell? ⟨gb374, 7, none⟩ = some (.int .i64 0) := (blk_cell BK374.out 7).trans rfl
            have hcz151_8 : wc.cell? ⟨gb374, 8, none⟩ = some (.slice none 0 0) := (blk_cell BK374.out 8).trans rfl
            have hcz151_9 : wc.cell? ⟨gb374, 9, none⟩ = some (.int .i64 0) := (blk_cell BK374.out 9).trans rfl
            have hcz151_10 : wc.cell? ⟨gb374, 10, none⟩ = some (.slice none 0 0) := (blk_cell BK374.out 10).trans rfl
            have hfz151_0 := blk_frozen BK374.out 0
            have hfz151_1 := blk_frozen BK374.out 1
            have hfz151_2 := blk_frozen BK374.out 2
            have hfz151_3 := blk_frozen BK374.out 3
            have hfz151_4 := blk_frozen BK374.out 4
            have hfz151_5 := blk_frozen BK374.out 5
            have hfz151_6 := blk_frozen BK374.out 6
            have hfz151_7 := blk_frozen BK374.out 7
            have hfz151_8 := blk_frozen BK374.out 8
            have hfz151_9 := blk_frozen BK374.out 9
            have hfz151_10 := blk_frozen BK374.out 10
            go_wp2_with (first | (go_at_call 22; (refine (script_Text.calls x375000_1 0 0 0 (⟨#[]⟩ : ByteArray) (⟨#[]⟩ : ByteArray) 0 0 _ _ ([] : List Int) 0 _ _ ([] : List Int) t405 _ ?side1 ?side2 ?side3 ?side4 A143.out ?hT_).mono ?_); (case hT_ => exact Tabs.after HT.out (by repeat (first | (with_reducible first | exact HB.out | apply s1 | apply s2 | apply s3 | refine s4 ?_ GE370.out | refine s4 ?_ GE374.out) | exact HB.out))); (case side1 => exact Kd.C_nil _ _); (case side2 => exact Nat.le_refl _); (case side3 => exact Kd.C_nil _ _); (case side4 => exact Nat.le_refl _); rintro e w152 ⟨rfl, hb⟩; have n0_ := Aside0.mk (blk_below (g := gb370) (o := .cells #[.int .i64 0, .int .i64 0, .int .i64 0, .int .i64 0, .string ⟨#[]⟩, .string ⟨#[]⟩, .int .i64 0, .int .i64 0, .slice none 0 0, .int .i64 0, .slice none 0 0] 52 (0, 0)) (by (with_reducible repeat first | apply q1 | apply q2 | apply q3); exact BK370.out) hb); have n1_ := Aside0.mk (blk_below (g := gb374) (o := .cells #[.int .i64 x375000_1, .int .i64 0, .int .i64 0, .int .i64 0, .string ⟨#[]⟩, .string ⟨#[]⟩, .int .i64 0, .int .i64 0, .slice none 0 0, .int .i64 0, .slice none 0 0] 52 (0, 0)) (by (with_reducible repeat first | apply q1 | apply q2 | apply q3); exact BK374.out) hb); have n2_ := Aside0.mk (below_step (by repeat (first | (with_reducible first | exact HB.out | apply s1 | apply s2 | apply s3 | refine s4 ?_ GE370.out | refine s4 ?_ GE374.out) | exact HB.out)) hb); clear BK370; clear BK374; clear HB; have BK370 := n0_; have BK374 := n1_; have HB := n2_; clear n0_ n1_ n2_; (try clear hb); (try clear hb2); (try clear hk); (try clear hi); have hcz153_0 : w152.cell? ⟨gb370, 0, none⟩ = some (.int .i64 0) := (blk_cell BK370.out 0).trans rfl; have hcz153_1 : w152.cell? ⟨gb370, 1, none⟩ = some (.int .i64 0) := (blk_cell BK370.out 1).trans rfl; have hcz153_2 : w152.cell? ⟨gb370, 2, none⟩ = some (.int .i64 0) := (blk_cell BK370.out 2).trans rfl; have hcz153_3 : w152.cell? ⟨gb370, 3, none⟩ = some (.int .i64 0) := (blk_cell BK370.out 3).trans rfl; have hcz153_4 : w152.cell? ⟨gb370, 4, none⟩ = some (.string ⟨#[]⟩) := (blk_cell BK370.out 4).trans rfl; have hcz153_5 : w152.cell? ⟨gb370, 5, none⟩ = some (.string ⟨#[]⟩) := (blk_cell BK370.out 5).trans rfl; have hcz153_6 : w152.cell? ⟨gb370, 6, none⟩ = some (.int .i64 0) := (blk_cell BK370.out 6).trans rfl; have hcz153_7 : w152.cell? ⟨gb370, 7, none⟩ = some (.int .i64 0) := (blk_cell BK370.out 7).trans rfl; have hcz153_8 : w152.cell? ⟨gb370, 8, none⟩ = some (.slice none 0 0) := (blk_cell BK370.out 8).trans rfl; have hcz153_9 : w152.cell? ⟨gb370, 9, none⟩ = some (.int .i64 0) := (blk_cell BK370.out 9).trans rfl; have hcz153_10 : w152.cell? ⟨gb370, 10, none⟩ = some (.slice none 0 0) := (blk_cell BK370.out 10).trans rfl; have hfz153_0 := blk_frozen BK370.out 0; have hfz153_1 := blk_frozen BK370.out 1; have hfz153_2 := blk_frozen BK370.out 2; have hfz153_3 := blk_frozen BK370.out 3; have hfz153_4 := blk_frozen BK370.out 4; have hfz153_5 := blk_frozen BK370.out 5; have hfz153_6 := blk_frozen BK370.out 6; have hfz153_7 := blk_frozen BK370.out 7; have hfz153_8 := blk_frozen BK370.out 8; have hfz153_9 := blk_frozen BK370.out 9; have hfz153_10 := blk_frozen BK370.out 10))
            refine bodyPost_ret (results_ct rfl _ _ gb370 52 #[.int .i64 0, .int .i64 0, .int .i64 0, .int .i64 0, .string ⟨#[]⟩, .string ⟨#[]⟩, .int .i64 0, .int .i64 0, .slice none 0 0, .int .i64 0, .slice none 0 0] (0, 0) _ rfl (by (with_reducible repeat first | apply q1 | apply q2 | apply q3); refine q5 ?_ 10 _ rfl; refine q5 ?_ 9 _ rfl; refine q5 ?_ 8 _ rfl; refine q5 ?_ 7 _ rfl; refine q5 ?_ 6 _ rfl; refine q5 ?_ 5 _ rfl; refine q5 ?_ 4 _ rfl; refine q5 ?_ 3 _ rfl; refine q5 ?_ 2 _ rfl; refine q5 ?_ 1 _ rfl; refine q5 ?_ 0 _ rfl; (with_reducible repeat first | apply q1 | apply q2 | apply q3); exact BK370.out) Tryz.underlying52 rfl (by kernel_rfl)) rfl ?_
            exact ⟨_, _, by first | rfl | (simp [errW_none, errW_some] <;> rfl) | (simp [*, errW_none, errW_some] <;> rfl), by exact Kd.R_nil _ _ _ _ _, by exact Kd.R_nil _ _ _ _ _, by repeat (first | (with_reducible first | exact HB.out | apply s1 | apply s2 | apply s3 | refine s4 ?_ GE370.out | refine s4 ?_ GE374.out) | exact HB.out)⟩

end Go.Proofs.YtcbmbjapcpbnnaaGreatDoor.G
