-- WRITTEN BY a program of this session (wip/gprint.py) out of the translation
import Derived.Test.YtcbmbjapcpbnnaaGreatDoorTabs
import Derived.Test.YtcbmbjapcpbnnaaGreatDoorG0
import Derived.Test.YtcbmbjapcpbnnaaGreatDoorGTexts
import Derived.Test.YtcbmbjapcpbnnaaGreatDoorG19
import Derived.Test.YtcbmbjapcpbnnaaGreatDoorGvAwake29
namespace Go.Proofs.YtcbmbjapcpbnnaaGreatDoor.G
open Go.RowKit Go.Proofs.YtcbmbjapcpbnnaaGreatDoorW.PrintWords Go.Proofs.YtcbmbjapcpbnnaaGreatDoorW.PrintLast Go.Proofs.YtcbmbjapcpbnnaaGreatDoorW.PrintMore
attribute [local go_sem] max2_int min2_int max_two min_two max_three min_three max_four min_four   -- for this text's walks alone
set_option linter.unusedVariables false
set_option linter.unusedSimpArgs false

/-! ### dolmenlaw29_ScriptLines: function 6 -/
mutual
def dolmenlaw29_ScriptLines.j0 : Nat → List ByteArray → Int → Int → Bool → Option (Bool)
 | 0, _, _, _, _ => none
 | k + 1, x0, x1, x2, x38 => if x38 = true then ((dolmenlaw29_awake.f).bind fun t413 => (some t413)) else (dolmenlaw29_ScriptLines.l0 k x0 x1 x2 (⟨#[]⟩ : ByteArray) 0)
def dolmenlaw29_ScriptLines.l0 : Nat → List ByteArray → Int → Int → ByteArray → Int → Option (Bool)
 | 0, _, _, _, _, _ => none
 | k + 1, x0, x1, x2, x7, x8 => if x8 < (x0.length : Int) then (if 0 ≤ x8 then (if ((rdOf ByteArray.empty x0 x8).size : Int) > 100 then ((dolmenlaw29_awake.f).bind fun t415 => (some t415)) else (dolmenlaw29_ScriptLines.l1 k x0 x1 x2 x7 x8 0)) else (none)) else ((script_Split.f x7).bind fun bt420 => (if bt420.2.isNone = true then ((dolmenref5_Texts.f k bt420.1 x0).bind fun t425 => (dolmenlaw29_ScriptLines.j3 k x1 x2 (!t425))) else (dolmenlaw29_ScriptLines.j3 k x1 x2 true)))
def dolmenlaw29_ScriptLines.l1 : Nat → List ByteArray → Int → Int → ByteArray → Int → Int → Option (Bool)
 | 0, _, _, _, _, _, _ => none
 | k + 1, x0, x1, x2, x7, x8, x9 => if 0 ≤ x8 then (if x8 < (x0.length : Int) then (if x9 < ((rdOf ByteArray.empty x0 x8).size : Int) then (if 0 ≤ x9 then (if (bt (rdOf ByteArray.empty x0 x8) x9) = 10 then ((dolmenlaw29_awake.f).bind fun t418 => (some t418)) else (dolmenlaw29_ScriptLines.l1 k x0 x1 x2 x7 x8 (wrap64 (x9 + 1)))) else (none)) else (if x7.size + (rdOf ByteArray.empty x0 x8).size ≤ 9223372036854775807 then (if (x7 ++ (rdOf ByteArray.empty x0 x8)).size + 1 ≤ 9223372036854775807 then (dolmenlaw29_ScriptLines.l0 k x0 x1 x2 ((x7 ++ (rdOf ByteArray.empty x0 x8)) ++ (⟨#[10]⟩ : ByteArray)) (wrap64 (x8 + 1))) else (none)) else (none))) else (none)) else (none)
def dolmenlaw29_ScriptLines.j3 : Nat → Int → Int → Bool → Option (Bool)
 | 0, _, _, _ => none
 | k + 1, x1, x2, x89 => if x89 = true then (some false) else (if 0 ≤ x1 then (if (x1 : Int).toNat ≤ 281474976710656 then (dolmenlaw29_ScriptLines.l2 k x1 x2 (List.replicate (x1 : Int).toNat 0) 0) else (none)) else (none))
def dolmenlaw29_ScriptLines.l2 : Nat → Int → Int → List Int → Int → Option (Bool)
 | 0, _, _, _, _ => none
 | k + 1, x1, x2, x12, x13 => if x13 < x1 then (if 0 ≤ x13 then (if x13 < (x12.length : Int) then (dolmenlaw29_ScriptLines.l2 k x1 x2 (x12.set (x13 : Int).toNat 10) (wrap64 (x13 + 1))) else (none)) else (none)) else (if 0 ≤ x2 then (if (x2 : Int).toNat ≤ 281474976710656 then (dolmenlaw29_ScriptLines.l3 k x1 x2 x12 (List.replicate (x2 : Int).toNat 0) 0) else (none)) else (none))
def dolmenlaw29_ScriptLines.l3 : Nat → Int → Int → List Int → List Int → Int → Option (Bool)
 | 0, _, _, _, _, _ => none
 | k + 1, x1, x2, x12, x14, x15 => if x15 < x2 then (if 0 ≤ x15 then (if x15 < (x14.length : Int) then (dolmenlaw29_ScriptLines.l3 k x1 x2 x12 (x14.set (x15 : Int).toNat 120) (wrap64 (x15 + 1))) else (none)) else (none)) else ((script_Split.f (strOfNums x12)).bind fun bt434 => ((script_Split.f (strOfNums x14)).bind fun bt438 => (if bt434.2.isNone = true then (if (true == (decide (x1 ≤ 10000))) = true then (if bt438.2.isNone = true then (if (true == (decide (x2 ≤ 262144))) = true then (if (bt434.1.length : Int) = x1 then (if (bt438.1.length : Int) = (mn x2 1) then ((dolmenlaw29_awake.f).bind fun t444 => (some t444)) else (some false)) else (some false)) else (some false)) else (if (false == (decide (x2 ≤ 262144))) = true then (if (bt434.1.length : Int) = x1 then ((dolmenlaw29_awake.f).bind fun t445 => (some t445)) else (some false)) else (some false))) else (some false)) else (if (false == (decide (x1 ≤ 10000))) = true then (if bt438.2.isNone = true then (if (true == (decide (x2 ≤ 262144))) = true then (if (bt438.1.length : Int) = (mn x2 1) then ((dolmenlaw29_awake.f).bind fun t447 => (some t447)) else (some false)) else (some false)) else (if (false == (decide (x2 ≤ 262144))) = true then ((dolmenlaw29_awake.f).bind fun t448 => (some t448)) else (some false))) else (some false)))))
end
def dolmenlaw29_ScriptLines.f (k : Nat) (l0 : List ByteArray) (a1 : Int) (a2 : Int) : Option (Bool) := if (l0.length : Int) > 50 then (dolmenlaw29_ScriptLines.j0 k l0 a1 a2 true) else (if a1 < 0 then (dolmenlaw29_ScriptLines.j0 k l0 a1 a2 true) else (if a1 > 11000 then (dolmenlaw29_ScriptLines.j0 k l0 a1 a2 true) else (if a2 < 0 then (dolmenlaw29_ScriptLines.j0 k l0 a1 a2 true) else (dolmenlaw29_ScriptLines.j0 k l0 a1 a2 (decide (a2 > 300000))))))
theorem dolmenlaw29_ScriptLines.mono_l : ∀ k, (∀ y0 y1 y2 y3, LeO (dolmenlaw29_ScriptLines.j0 k y0 y1 y2 y3) (dolmenlaw29_ScriptLines.j0 (k + 1) y0 y1 y2 y3)) ∧ (∀ y0 y1 y2 y3 y4, LeO (dolmenlaw29_ScriptLines.l0 k y0 y1 y2 y3 y4) (dolmenlaw29_ScriptLines.l0 (k + 1) y0 y1 y2 y3 y4)) ∧ (∀ y0 y1 y2 y3 y4 y5, LeO (dolmenlaw29_ScriptLines.l1 k y0 y1 y2 y3 y4 y5) (dolmenlaw29_ScriptLines.l1 (k + 1) y0 y1 y2 y3 y4 y5)) ∧ (∀ y0 y1 y2, LeO (dolmenlaw29_ScriptLines.j3 k y0 y1 y2) (dolmenlaw29_ScriptLines.j3 (k + 1) y0 y1 y2)) ∧ (∀ y0 y1 y2 y3, LeO (dolmenlaw29_ScriptLines.l2 k y0 y1 y2 y3) (dolmenlaw29_ScriptLines.l2 (k + 1) y0 y1 y2 y3)) ∧ (∀ y0 y1 y2 y3 y4, LeO (dolmenlaw29_ScriptLines.l3 k y0 y1 y2 y3 y4) (dolmenlaw29_ScriptLines.l3 (k + 1) y0 y1 y2 y3 y4))
 | 0 => ⟨fun _ _ _ _ r h => by simp [dolmenlaw29_ScriptLines.j0] at h, fun _ _ _ _ _ r h => by simp [dolmenlaw29_ScriptLines.l0] at h, fun _ _ _ _ _ _ r h => by simp [dolmenlaw29_ScriptLines.l1] at h, fun _ _ _ r h => by simp [dolmenlaw29_ScriptLines.j3] at h, fun _ _ _ _ r h => by simp [dolmenlaw29_ScriptLines.l2] at h, fun _ _ _ _ _ r h => by simp [dolmenlaw29_ScriptLines.l3] at h⟩
 | k + 1 => by
  obtain ⟨ih0, ih1, ih2, ih3, ih4, ih5⟩ := dolmenlaw29_ScriptLines.mono_l k
  refine ⟨?_, ?_, ?_, ?_, ?_, ?_⟩
  ·intro y0 y1 y2 y3
   unfold dolmenlaw29_ScriptLines.j0
   repeat' first
   | (with_reducible exact ih0 _ _ _ _)
   | (with_reducible exact ih1 _ _ _ _ _)
   | (with_reducible exact ih2 _ _ _ _ _ _)
   | (with_reducible exact ih3 _ _ _)
   | (with_reducible exact ih4 _ _ _ _)
   | (with_reducible exact ih5 _ _ _ _ _)
   | (with_reducible exact dolmenref5_Texts.mono _ _ _)
   | (with_reducible exact LeO.refl _)
   | (with_reducible exact LeO.none _)
   | (with_reducible refine LeO.ite ?_ ?_)
   | (with_reducible refine LeO.bind ?_ (fun _ => ?_))
   | exact ih0 _ _ _ _
   | exact ih1 _ _ _ _ _
   | exact ih2 _ _ _ _ _ _
   | exact ih3 _ _ _
   | exact ih4 _ _ _ _
   | exact ih5 _ _ _ _ _
   | exact dolmenref5_Texts.mono _ _ _
   | exact LeO.none _
   | refine LeO.ite ?_ ?_
   | refine LeO.bind ?_ (fun _ => ?_)
  ·intro y0 y1 y2 y3 y4
   unfold dolmenlaw29_ScriptLines.l0
   repeat' first
   | (with_reducible exact ih0 _ _ _ _)
   | (with_reducible exact ih1 _ _ _ _ _)
   | (with_reducible exact ih2 _ _ _ _ _ _)
   | (with_reducible exact ih3 _ _ _)
   | (with_reducible exact ih4 _ _ _ _)
   | (with_reducible exact ih5 _ _ _ _ _)
   | (with_reducible exact dolmenref5_Texts.mono _ _ _)
   | (with_reducible exact LeO.refl _)
   | (with_reducible exact LeO.none _)
   | (with_reducible refine LeO.ite ?_ ?_)
   | (with_reducible refine LeO.bind ?_ (fun _ => ?_))
   | exact ih0 _ _ _ _
   | exact ih1 _ _ _ _ _
   | exact ih2 _ _ _ _ _ _
   | exact ih3 _ _ _
   | exact ih4 _ _ _ _
   | exact ih5 _ _ _ _ _
   | exact dolmenref5_Texts.mono _ _ _
   | exact LeO.none _
   | refine LeO.ite ?_ ?_
   | refine LeO.bind ?_ (fun _ => ?_)
  ·intro y0 y1 y2 y3 y4 y5
   unfold dolmenlaw29_ScriptLines.l1
   repeat' first
   | (with_reducible exact ih0 _ _ _ _)
   | (with_reducible exact ih1 _ _ _ _ _)
   | (with_reducible exact ih2 _ _ _ _ _ _)
   | (with_reducible exact ih3 _ _ _)
   | (with_reducible exact ih4 _ _ _ _)
   | (with_reducible exact ih5 _ _ _ _ _)
   | (with_reducible exact dolmenref5_Texts.mono _ _ _)
   | (with_reducible exact LeO.refl _)
   | (with_reducible exact LeO.none _)
   | (with_reducible refine LeO.ite ?_ ?_)
   | (with_reducible refine LeO.bind ?_ (fun _ => ?_))
   | exact ih0 _ _ _ _
   | exact ih1 _ _ _ _ _
   | exact ih2 _ _ _ _ _ _
   | exact ih3 _ _ _
   | exact ih4 _ _ _ _
   | exact ih5 _ _ _ _ _
   | exact dolmenref5_Texts.mono _ _ _
   | exact LeO.none _
   | refine LeO.ite ?_ ?_
   | refine LeO.bind ?_ (fun _ => ?_)
  ·intro y0 y1 y2
   unfold dolmenlaw29_ScriptLines.j3
   repeat' first
   | (with_reducible exact ih0 _ _ _ _)
   | (with_reducible exact ih1 _ _ _ _ _)
   | (with_reducible exact ih2 _ _ _ _ _ _)
   | (with_reducible exact ih3 _ _ _)
   | (with_reducible exact ih4 _ _ _ _)
   | (with_reducible exact ih5 _ _ _ _ _)
   | (with_reducible exact dolmenref5_Texts.mono _ _ _)
   | (with_reducible exact LeO.refl _)
   | (with_reducible exact LeO.none _)
   | (with_reducible refine LeO.ite ?_ ?_)
   | (with_reducible refine LeO.bind ?_ (fun _ => ?_))
   | exact ih0 _ _ _ _
   | exact ih1 _ _ _ _ _
   | exact ih2 _ _ _ _ _ _
   | exact ih3 _ _ _
   | exact ih4 _ _ _ _
   | exact ih5 _ _ _ _ _
   | exact dolmenref5_Texts.mono _ _ _
   | exact LeO.none _
   | refine LeO.ite ?_ ?_
   | refine LeO.bind ?_ (fun _ => ?_)
  ·intro y0 y1 y2 y3
   unfold dolmenlaw29_ScriptLines.l2
   repeat' first
   | (with_reducible exact ih0 _ _ _ _)
   | (with_reducible exact ih1 _ _ _ _ _)
   | (with_reducible exact ih2 _ _ _ _ _ _)
   | (with_reducible exact ih3 _ _ _)
   | (with_reducible exact ih4 _ _ _ _)
   | (with_reducible exact ih5 _ _ _ _ _)
   | (with_reducible exact dolmenref5_Texts.mono _ _ _)
   | (with_reducible exact LeO.refl _)
   | (with_reducible exact LeO.none _)
   | (with_reducible refine LeO.ite ?_ ?_)
   | (with_reducible refine LeO.bind ?_ (fun _ => ?_))
   | exact ih0 _ _ _ _
   | exact ih1 _ _ _ _ _
   | exact ih2 _ _ _ _ _ _
   | exact ih3 _ _ _
   | exact ih4 _ _ _ _
   | exact ih5 _ _ _ _ _
   | exact dolmenref5_Texts.mono _ _ _
   | exact LeO.none _
   | refine LeO.ite ?_ ?_
   | refine LeO.bind ?_ (fun _ => ?_)
  ·intro y0 y1 y2 y3 y4
   unfold dolmenlaw29_ScriptLines.l3
   repeat' first
   | (with_reducible exact ih0 _ _ _ _)
   | (with_reducible exact ih1 _ _ _ _ _)
   | (with_reducible exact ih2 _ _ _ _ _ _)
   | (with_reducible exact ih3 _ _ _)
   | (with_reducible exact ih4 _ _ _ _)
   | (with_reducible exact ih5 _ _ _ _ _)
   | (with_reducible exact dolmenref5_Texts.mono _ _ _)
   | (with_reducible exact LeO.refl _)
   | (with_reducible exact LeO.none _)
   | (with_reducible refine LeO.ite ?_ ?_)
   | (with_reducible refine LeO.bind ?_ (fun _ => ?_))
   | exact ih0 _ _ _ _
   | exact ih1 _ _ _ _ _
   | exact ih2 _ _ _ _ _ _
   | exact ih3 _ _ _
   | exact ih4 _ _ _ _
   | exact ih5 _ _ _ _ _
   | exact dolmenref5_Texts.mono _ _ _
   | exact LeO.none _
   | refine LeO.ite ?_ ?_
   | refine LeO.bind ?_ (fun _ => ?_)
theorem dolmenlaw29_ScriptLines.mono : ∀ a0 a1 a2 k, LeO (dolmenlaw29_ScriptLines.f k a0 a1 a2) (dolmenlaw29_ScriptLines.f (k + 1) a0 a1 a2) := by
 intro a0 a1 a2 k
 obtain ⟨ih0, ih1, ih2, ih3, ih4, ih5⟩ := dolmenlaw29_ScriptLines.mono_l k
 unfold dolmenlaw29_ScriptLines.f
 repeat' first
   | (with_reducible exact ih0 _ _ _ _)
   | (with_reducible exact ih1 _ _ _ _ _)
   | (with_reducible exact ih2 _ _ _ _ _ _)
   | (with_reducible exact ih3 _ _ _)
   | (with_reducible exact ih4 _ _ _ _)
   | (with_reducible exact ih5 _ _ _ _ _)
   | (with_reducible exact dolmenref5_Texts.mono _ _ _)
   | (with_reducible exact LeO.refl _)
   | (with_reducible exact LeO.none _)
   | (with_reducible refine LeO.ite ?_ ?_)
   | (with_reducible refine LeO.bind ?_ (fun _ => ?_))
   | exact ih0 _ _ _ _
   | exact ih1 _ _ _ _ _
   | exact ih2 _ _ _ _ _ _
   | exact ih3 _ _ _
   | exact ih4 _ _ _ _
   | exact ih5 _ _ _ _ _
   | exact dolmenref5_Texts.mono _ _ _
   | exact LeO.none _
   | refine LeO.ite ?_ ?_
   | refine LeO.bind ?_ (fun _ => ?_)
set_option maxHeartbeats 8000000 in
set_option maxRecDepth 100000 in
theorem dolmenlaw29_ScriptLines.calls (k : Nat) (A0 : Option Addr) (c0 : Nat) (l0 : List ByteArray) (a1 : Int) (a2 : Int) (r : Bool) (w : World) (hr0 : Kd.C Kd.string w A0 l0.length l0) (hc0 : l0.length ≤ c0) (h : dolmenlaw29_ScriptLines.f k l0 a1 a2 = some r) (hr_ : r = true) (hT : Tabs w) :
  Calls Tryz.prog 6 #[.slice A0 l0.length c0, .int .i64 a1, .int .i64 a2] w fun e w' => e = .returned (.bool r) ∧ Below w.heap.size w w' := by
 have HT := Aside0.mk hT
 clear hT
 have hu29 := Tryz.underlying29
 have hu42 := Tryz.underlying42
 have HR0 := Aside0.mk hr0
 have HC0 := Aside0.mk hc0
 clear hr0 hc0
 have HB := Aside0.mk (Below.refl w.heap.size w)
 have H : (if (l0.length : Int) > 50 then (dolmenlaw29_ScriptLines.j0 k l0 a1 a2 true) else (if a1 < 0 then (dolmenlaw29_ScriptLines.j0 k l0 a1 a2 true) else (if a1 > 11000 then (dolmenlaw29_ScriptLines.j0 k l0 a1 a2 true) else (if a2 < 0 then (dolmenlaw29_ScriptLines.j0 k l0 a1 a2 true) else (dolmenlaw29_ScriptLines.j0 k l0 a1 a2 (decide (a2 > 300000))))))) = some r := h
 clear h
 have HC4 := Aside0.mk H
 clear H
 go_enter Tryz.func6, Tryz.ntmps6
 go_upto_region 1 with (fail)
 go_cut [38] (fun v38 wc => ∃ (kq : Nat) (x38_3 : Bool), v38 = .bool x38_3 ∧ Aside0 (dolmenlaw29_ScriptLines.j0 kq l0 a1 a2 x38_3 = some r) ∧ Aside0 (kq ≤ k) ∧ Aside0 (Below w.heap.size w wc))
 case first =>
  have H := HC4.out
  clear HC4
  by_cases c5 : (l0.length : Int) > 50
  ·rw [if_pos c5] at H
   have c5b0 : decide (50 < (l0.length : Int)) = true := decide_eq_true c5
   have c5b1 : decide (50 < l0.length) = true := decide_eq_true (by omega)
   clear c5
   (first | rw [c5b0] | (simp only [i64_w, i32_w]; rw [c5b0]) | skip)
   have H' := Aside0.mk H
   clear H
   go_wp2
   go_meet
   case rel => exact ⟨_, (true), (by first | rfl | (simp; done) | (simp [*]; done)), H', ⟨by first | omega | exact Nat.le_refl _⟩, ⟨by repeat (first | (with_reducible first | exact HB.out | apply s1 | apply s2 | apply s3) | exact HB.out)⟩⟩
  ·rw [if_neg c5] at H
   have c5b0 : decide (50 < (l0.length : Int)) = false := decide_eq_false c5
   have c5b1 : decide (50 < l0.length) = false := decide_eq_false (by omega)
   clear c5
   (first | rw [c5b0] | (simp only [i64_w, i32_w]; rw [c5b0]) | skip)
   by_cases c6 : a1 < 0
   ·rw [if_pos c6] at H
    have c6b0 : decide (a1 < 0) = true := decide_eq_true c6
    clear c6
    have H' := Aside0.mk H
    clear H
    go_wp2
    go_meet
    case rel => exact ⟨_, (true), (by first | rfl | (simp; done) | (simp [*]; done)), H', ⟨by first | omega | exact Nat.le_refl _⟩, ⟨by repeat (first | (with_reducible first | exact HB.out | apply s1 | apply s2 | apply s3) | exact HB.out)⟩⟩
   ·rw [if_neg c6] at H
    have c6b0 : decide (a1 < 0) = false := decide_eq_false c6
    clear c6
    by_cases c7 : a1 > 11000
    ·rw [if_pos c7] at H
     have c7b0 : decide (11000 < a1) = true := decide_eq_true c7
     clear c7
     have H' := Aside0.mk H
     clear H
     go_wp2
     go_meet
     case rel => exact ⟨_, (true), (by first | rfl | (simp; done) | (simp [*]; done)), H', ⟨by first | omega | exact Nat.le_refl _⟩, ⟨by repeat (first | (with_reducible first | exact HB.out | apply s1 | apply s2 | apply s3) | exact HB.out)⟩⟩
    ·rw [if_neg c7] at H
     have c7b0 : decide (11000 < a1) = false := decide_eq_false c7
     clear c7
     by_cases c8 : a2 < 0
     ·rw [if_pos c8] at H
      have c8b0 : decide (a2 < 0) = true := decide_eq_true c8
      clear c8
      have H' := Aside0.mk H
      clear H
      go_wp2
      go_meet
      case rel => exact ⟨_, (true), (by first | rfl | (simp; done) | (simp [*]; done)), H', ⟨by first | omega | exact Nat.le_refl _⟩, ⟨by repeat (first | (with_reducible first | exact HB.out | apply s1 | apply s2 | apply s3) | exact HB.out)⟩⟩
     ·rw [if_neg c8] at H
      have c8b0 : decide (a2 < 0) = false := decide_eq_false c8
      clear c8
      have H' := Aside0.mk H
      clear H
      go_wp2
      go_meet
      case rel => exact ⟨_, (decide (a2 > 300000)), (by first | rfl | (simp; done) | (simp [*]; done)), H', ⟨by first | omega | exact Nat.le_refl _⟩, ⟨by repeat (first | (with_reducible first | exact HB.out | apply s1 | apply s2 | apply s3) | exact HB.out)⟩⟩
 case rest =>
  clear HC4
  try clear p2
  try clear c5
  try clear c5b0
  try clear c5b1
  try clear c6
  try clear c6b0
  try clear c7
  try clear c7b0
  try clear c8
  try clear c8b0
  obtain ⟨kq, x38_3, rfl, HA, HJ3, HB⟩ := hcut
  cases kq with
  | zero => exact absurd HA.out (by simp [dolmenlaw29_ScriptLines.j0])
  | succ kj3 =>
   have H := HA.out
   clear HA
   simp only [dolmenlaw29_ScriptLines.j0] at H
   by_cases c9 : x38_3 = true
   ·subst c9
    have H1 : ((dolmenlaw29_awake.f).bind fun t413 => (some t413)) = some r := by rw [if_pos rfl] at H; exact H
    clear H
    have H := H1
    clear H1
    replace H := Option.bind_eq_some_iff.mp H
    obtain ⟨t413, A100, H⟩ := H
    try dsimp only at H
    have A10 := Aside0.mk A100
    clear A100
    obtain rfl := Option.some.inj H
    go_wp2_with (first | ((with_reducible refine gate_callee (f := 21) rfl ?_); refine goesL_ (some 39) rfl rfl Tryz.func21 (by kernel_rfl) rfl #[] rfl (by (try simp only [List.map_toArray, List.map_cons, List.map_nil]); first | done | rfl | (simp only [List.length_drop, List.length_take]; rfl)) ?_; (with_reducible refine (dolmenlaw29_awake.calls  t413 _ A10.out ?hT_).mono ?_); (case hT_ => exact Tabs.after HT.out (by repeat (first | (with_reducible first | exact HB.out | apply s1 | apply s2 | apply s3) | exact HB.out))); rintro e w11 ⟨rfl, hb⟩; refine ⟨_, rfl, ?_⟩; have n0_ := Aside0.mk (below_step (by repeat (first | (with_reducible first | exact HB.out | apply s1 | apply s2 | apply s3) | exact HB.out)) hb); clear HB; have HB := n0_; clear n0_; (try clear hb); (try clear hb2); (try clear hk); (try clear hi)))
    go_ret
    exact ⟨by first | rfl | (simp [errW_none, errW_some] <;> rfl) | (simp [*, errW_none, errW_some] <;> rfl), by repeat (first | (with_reducible first | exact HB.out | apply s1 | apply s2 | apply s3) | exact HB.out)⟩
   ·replace c9 := Bool.eq_false_iff.mpr c9
    subst c9
    have H1 : (dolmenlaw29_ScriptLines.l0 kj3 l0 a1 a2 (⟨#[]⟩ : ByteArray) 0) = some r := by rw [if_neg (show ¬ (false = true) by decide)] at H; exact H
    clear H
    have H := H1
    clear H1
    have H' := Aside0.mk H
    clear H
    go_wp2
    go_loopg [7, 8] kj3 (fun kq v7 v8 w' => ∃ (x7_2 : ByteArray) (x8_2 : Int), v7 = .string x7_2 ∧ v8 = .int .i64 x8_2 ∧ Aside0 (dolmenlaw29_ScriptLines.l0 kq l0 a1 a2 x7_2 x8_2 = some r) ∧ Aside0 (kq ≤ kj3) ∧ Aside0 (Below w.heap.size w w'))
    case atStart => exact ⟨((⟨#[]⟩ : ByteArray)), (0), (by first | rfl | (simp; done) | (simp [*]; done)), (by first | rfl | (simp; done) | (simp [*]; done)), H', ⟨Nat.le_refl _⟩, ⟨by repeat (first | (with_reducible first | exact HB.out | apply s1 | apply s2 | apply s3) | exact HB.out)⟩⟩
    case round =>
     clear H'
     try clear c2
     try clear p2
     try clear c5
     try clear c5b0
     try clear c5b1
     try clear c6
     try clear c6b0
     try clear c7
     try clear c7b0
     try clear c8
     try clear c8b0
     try clear c9
     try clear p2
     obtain ⟨x7_2, x8_2, rfl, rfl, HA, HK2, HB⟩ := hrel
     cases gk with
     | zero => exact absurd HA.out (by simp [dolmenlaw29_ScriptLines.l0])
     | succ k2 =>
      have H := HA.out
      clear HA
      simp only [dolmenlaw29_ScriptLines.l0] at H
      by_cases c12 : x8_2 < (l0.length : Int)
      ·rw [if_pos c12] at H
       have c12b0 : decide (x8_2 < (l0.length : Int)) = true := decide_eq_true c12
       clear c12
       by_cases c13 : 0 ≤ x8_2
       ·rw [if_pos c13] at H
        have c13b0 : decide (0 ≤ x8_2) = true := decide_eq_true c13
        clear c13
        by_cases c14 : ((rdOf ByteArray.empty l0 x8_2).size : Int) > 100
        ·rw [if_pos c14] at H
         have c14b0 : decide (100 < ((rdOf ByteArray.empty l0 x8_2).size : Int)) = true := decide_eq_true c14
         have c14b1 : decide (100 < (rdOf ByteArray.empty l0 x8_2).size) = true := decide_eq_true (by omega)
         clear c14
         replace H := Option.bind_eq_some_iff.mp H
         obtain ⟨t415, A150, H⟩ := H
         try dsimp only at H
         have A15 := Aside0.mk A150
         clear A150
         obtain rfl := Option.some.inj H
         have p414 : 0 ≤ (x8_2 : Int) := of_decide_eq_true (by first | (with_reducible assumption) | assumption)
         have q414 : x8_2 < (l0.length : Int) := of_decide_eq_true (by first | (with_reducible assumption) | assumption)
         obtain ⟨ad414, e414, hx414_0⟩ := Kd.at_string HR0.out x8_2 p414 q414
         cases e414
         replace hx414_0 := (HB.out.cell (World.block_lt_of_cell? w _ hx414_0)).trans hx414_0
         replace p414 := eq_true p414
         replace q414 := eq_true q414
         go_wp2_with (first | ((with_reducible refine gate_callee (f := 21) rfl ?_); refine goesL_ (some 52) rfl rfl Tryz.func21 (by kernel_rfl) rfl #[] rfl (by (try simp only [List.map_toArray, List.map_cons, List.map_nil]); first | done | rfl | (simp only [List.length_drop, List.length_take]; rfl)) ?_; (with_reducible refine (dolmenlaw29_awake.calls  t415 _ A15.out ?hT_).mono ?_); (case hT_ => exact Tabs.after HT.out (by repeat (first | (with_reducible first | exact HB.out | apply s1 | apply s2 | apply s3) | exact HB.out))); rintro e w16 ⟨rfl, hb⟩; refine ⟨_, rfl, ?_⟩; have n0_ := Aside0.mk (below_step (by repeat (first | (with_reducible first | exact HB.out | apply s1 | apply s2 | apply s3) | exact HB.out)) hb); clear HB; have HB := n0_; clear n0_; (try clear hb); (try clear hb2); (try clear hk); (try clear hi)))
         go_ret
         exact ⟨by first | rfl | (simp [errW_none, errW_some] <;> rfl) | (simp [*, errW_none, errW_some] <;> rfl), by repeat (first | (with_reducible first | exact HB.out | apply s1 | apply s2 | apply s3) | exact HB.out)⟩
        ·rw [if_neg c14] at H
         have c14b0 : decide (100 < ((rdOf ByteArray.empty l0 x8_2).size : Int)) = false := decide_eq_false c14
         have c14b1 : decide (100 < (rdOf ByteArray.empty l0 x8_2).size) = false := decide_eq_false (by omega)
         clear c14
         have H' := Aside0.mk H
         clear H
         have p414 : 0 ≤ (x8_2 : Int) := of_decide_eq_true (by first | (with_reducible assumption) | assumption)
         have q414 : x8_2 < (l0.length : Int) := of_decide_eq_true (by first | (with_reducible assumption) | assumption)
         obtain ⟨ad414, e414, hx414_0⟩ := Kd.at_string HR0.out x8_2 p414 q414
         cases e414
         replace hx414_0 := (HB.out.cell (World.block_lt_of_cell? w _ hx414_0)).trans hx414_0
         replace p414 := eq_true p414
         replace q414 := eq_true q414
         go_wp2
         go_loopg [9] k2 (fun kq v9 w' => ∃ (x9_3 : Int), v9 = .int .i64 x9_3 ∧ Aside0 (dolmenlaw29_ScriptLines.l1 kq l0 a1 a2 x7_2 x8_2 x9_3 = some r) ∧ Aside0 (kq ≤ k2) ∧ Aside0 (Below w.heap.size w w'))
         case atStart => exact ⟨(0), (by first | rfl | (simp; done) | (simp [*]; done)), H', ⟨Nat.le_refl _⟩, ⟨by repeat (first | (with_reducible first | exact HB.out | apply s1 | apply s2 | apply s3) | exact HB.out)⟩⟩
         case round =>
          clear H'
          try clear c1
          try clear c2
          try clear p2
          try clear p4
          try clear q4
          try clear hx4
          try clear c5
          try clear c5b0
          try clear c5b1
          try clear c6
          try clear c6b0
          try clear c7
          try clear c7b0
          try clear c8
          try clear c8b0
          try clear c9
          try clear c12
          try clear c12b0
          try clear c13
          try clear c13b0
          try clear c14
          try clear c14b0
          try clear c14b1
          try clear hx414_0
          try clear p2
          try clear p414
          try clear q414
          obtain ⟨x9_3, rfl, HA, HK3, HB⟩ := hrel
          cases gk with
          | zero => exact absurd HA.out (by simp [dolmenlaw29_ScriptLines.l1])
          | succ k3 =>
           have H := HA.out
           clear HA
           simp only [dolmenlaw29_ScriptLines.l1] at H
           by_cases c17 : 0 ≤ x8_2
           ·rw [if_pos c17] at H
            have c17b0 : decide (0 ≤ x8_2) = true := decide_eq_true c17
            clear c17
            by_cases c18 : x8_2 < (l0.length : Int)
            ·rw [if_pos c18] at H
             have c18b0 : decide (x8_2 < (l0.length : Int)) = true := decide_eq_true c18
             clear c18
             by_cases c19 : x9_3 < ((rdOf ByteArray.empty l0 x8_2).size : Int)
             ·rw [if_pos c19] at H
              have c19b0 : decide (x9_3 < ((rdOf ByteArray.empty l0 x8_2).size : Int)) = true := decide_eq_true c19
              clear c19
              by_cases c20 : 0 ≤ x9_3
              ·rw [if_pos c20] at H
               have c20b0 : decide (0 ≤ x9_3) = true := decide_eq_true c20
               clear c20
               by_cases c22 : (bt (rdOf ByteArray.empty l0 x8_2) x9_3) = 10
               ·rw [if_pos c22] at H
                have c22b0 : ((bt (rdOf ByteArray.empty l0 x8_2) x9_3) == 10) = true := beq_iff_eq.mpr c22
                have c22b1 : ((bt (rdOf ByteArray.empty l0 x8_2) x9_3) != 10) = false := bne_eq_false_iff_eq.mpr c22
                clear c22
                replace H := Option.bind_eq_some_iff.mp H
                obtain ⟨t418, A230, H⟩ := H
                try dsimp only at H
                have A23 := Aside0.mk A230
                clear A230
                obtain rfl := Option.some.inj H
                have p416 : 0 ≤ (x8_2 : Int) := of_decide_eq_true (by first | (with_reducible assumption) | assumption)
                have q416 : x8_2 < (l0.length : Int) := of_decide_eq_true (by first | (with_reducible assumption) | assumption)
                obtain ⟨ad416, e416, hx416_0⟩ := Kd.at_string HR0.out x8_2 p416 q416
                obtain rfl : ad414 = ad416 := (by injection e416)
                replace hx416_0 := (HB.out.cell (World.block_lt_of_cell? w _ hx416_0)).trans hx416_0
                replace p416 := eq_true p416
                replace q416 := eq_true q416
                have p417 : 0 ≤ (x8_2 : Int) := of_decide_eq_true (by first | (with_reducible assumption) | assumption)
                have q417 : x8_2 < (l0.length : Int) := of_decide_eq_true (by first | (with_reducible assumption) | assumption)
                obtain ⟨ad417, e417, hx417_0⟩ := Kd.at_string HR0.out x8_2 p417 q417
                obtain rfl : ad414 = ad417 := (by injection e417)
                replace hx417_0 := (HB.out.cell (World.block_lt_of_cell? w _ hx417_0)).trans hx417_0
                replace p417 := eq_true p417
                replace q417 := eq_true q417
                have p21 : 0 ≤ (x9_3 : Int) := of_decide_eq_true (by first | (with_reducible assumption) | assumption)
                have q21 : x9_3 < ((rdOf ByteArray.empty l0 x8_2).size : Int) := of_decide_eq_true (by first | (with_reducible assumption) | assumption)
                have hx21 := bt_at (rdOf ByteArray.empty l0 x8_2) x9_3
                replace p21 := eq_true p21
                replace q21 := eq_true q21
                go_wp2_with (first | ((with_reducible refine gate_callee (f := 21) rfl ?_); refine goesL_ (some 69) rfl rfl Tryz.func21 (by kernel_rfl) rfl #[] rfl (by (try simp only [List.map_toArray, List.map_cons, List.map_nil]); first | done | rfl | (simp only [List.length_drop, List.length_take]; rfl)) ?_; (with_reducible refine (dolmenlaw29_awake.calls  t418 _ A23.out ?hT_).mono ?_); (case hT_ => exact Tabs.after HT.out (by repeat (first | (with_reducible first | exact HB.out | apply s1 | apply s2 | apply s3) | exact HB.out))); rintro e w24 ⟨rfl, hb⟩; refine ⟨_, rfl, ?_⟩; have n0_ := Aside0.mk (below_step (by repeat (first | (with_reducible first | exact HB.out | apply s1 | apply s2 | apply s3) | exact HB.out)) hb); clear HB; have HB := n0_; clear n0_; (try clear hb); (try clear hb2); (try clear hk); (try clear hi)))
                go_ret
                exact ⟨by first | rfl | (simp [errW_none, errW_some] <;> rfl) | (simp [*, errW_none, errW_some] <;> rfl), by repeat (first | (with_reducible first | exact HB.out | apply s1 | apply s2 | apply s3) | exact HB.out)⟩
               ·rw [if_neg c22] at H
                have c22b0 : ((bt (rdOf ByteArray.empty l0 x8_2) x9_3) == 10) = false := beq_eq_false_iff_ne.mpr c22
                have c22b1 : ((bt (rdOf ByteArray.empty l0 x8_2) x9_3) != 10) = true := bne_iff_ne.mpr c22
                have H' := Aside0.mk H
                clear H
                have p416 : 0 ≤ (x8_2 : Int) := of_decide_eq_true (by first | (with_reducible assumption) | assumption)
                have q416 : x8_2 < (l0.length : Int) := of_decide_eq_true (by first | (with_reducible assumption) | assumption)
                obtain ⟨ad416, e416, hx416_0⟩ := Kd.at_string HR0.out x8_2 p416 q416
                obtain rfl : ad414 = ad416 := (by injection e416)
                replace hx416_0 := (HB.out.cell (World.block_lt_of_cell? w _ hx416_0)).trans hx416_0
                replace p416 := eq_true p416
                replace q416 := eq_true q416
                have p417 : 0 ≤ (x8_2 : Int) := of_decide_eq_true (by first | (with_reducible assumption) | assumption)
                have q417 : x8_2 < (l0.length : Int) := of_decide_eq_true (by first | (with_reducible assumption) | assumption)
                obtain ⟨ad417, e417, hx417_0⟩ := Kd.at_string HR0.out x8_2 p417 q417
                obtain rfl : ad414 = ad417 := (by injection e417)
                replace hx417_0 := (HB.out.cell (World.block_lt_of_cell? w _ hx417_0)).trans hx417_0
                replace p417 := eq_true p417
                replace q417 := eq_true q417
                have p21 : 0 ≤ (x9_3 : Int) := of_decide_eq_true (by first | (with_reducible assumption) | assumption)
                have q21 : x9_3 < ((rdOf ByteArray.empty l0 x8_2).size : Int) := of_decide_eq_true (by first | (with_reducible assumption) | assumption)
                have hx21 := bt_at (rdOf ByteArray.empty l0 x8_2) x9_3
                replace p21 := eq_true p21
                replace q21 := eq_true q21
                go_wp2
                go_roundg k3
                case measure => have := HJ3.out; have := HK2.out; have := HK3.out; omega
                case rel => exact ⟨(wrap64 (x9_3 + 1)), (by first | rfl | (simp; done) | (simp [*]; done)), H', ⟨by have := HJ3.out; have := HK2.out; have := HK3.out; omega⟩, ⟨by repeat (first | (with_reducible first | exact HB.out | apply s1 | apply s2 | apply s3) | exact HB.out)⟩⟩
              ·rw [if_neg c20] at H
               exact absurd H (by simp)
             ·rw [if_neg c19] at H
              have c19b0 : decide (x9_3 < ((rdOf ByteArray.empty l0 x8_2).size : Int)) = false := decide_eq_false c19
              clear c19
              by_cases c25 : x7_2.size + (rdOf ByteArray.empty l0 x8_2).size ≤ 9223372036854775807
              ·rw [if_pos c25] at H
               have c25b0 := eq_true c25
               have c25b1 : decide (x7_2.size + (rdOf ByteArray.empty l0 x8_2).size ≤ 9223372036854775807) = true := decide_eq_true c25
               try have c25b2 : (9223372036854775807 < x7_2.size + (rdOf ByteArray.empty l0 x8_2).size) = False := eq_false (Nat.not_lt.2 c25)
               by_cases c26 : (x7_2 ++ (rdOf ByteArray.empty l0 x8_2)).size + 1 ≤ 9223372036854775807
               ·rw [if_pos c26] at H
                (try (have c26s := c26; simp only [ByteArray.size_append, show (⟨#[10]⟩ : ByteArray).size = 1 from rfl, show (⟨#[32]⟩ : ByteArray).size = 1 from rfl] at c26s; have c26t := eq_true c26s; have c26u := eq_false (Nat.not_lt.2 c26s)))
                have c26b0 := eq_true c26
                have c26b1 : decide ((x7_2 ++ (rdOf ByteArray.empty l0 x8_2)).size + 1 ≤ 9223372036854775807) = true := decide_eq_true c26
                try have c26b2 : (9223372036854775807 < (x7_2 ++ (rdOf ByteArray.empty l0 x8_2)).size + 1) = False := eq_false (Nat.not_lt.2 c26)
                have H' := Aside0.mk H
                clear H
                have p416 : 0 ≤ (x8_2 : Int) := of_decide_eq_true (by first | (with_reducible assumption) | assumption)
                have q416 : x8_2 < (l0.length : Int) := of_decide_eq_true (by first | (with_reducible assumption) | assumption)
                obtain ⟨ad416, e416, hx416_0⟩ := Kd.at_string HR0.out x8_2 p416 q416
                obtain rfl : ad414 = ad416 := (by injection e416)
                replace hx416_0 := (HB.out.cell (World.block_lt_of_cell? w _ hx416_0)).trans hx416_0
                replace p416 := eq_true p416
                replace q416 := eq_true q416
                have p419 : 0 ≤ (x8_2 : Int) := of_decide_eq_true (by first | (with_reducible assumption) | assumption)
                have q419 : x8_2 < (l0.length : Int) := of_decide_eq_true (by first | (with_reducible assumption) | assumption)
                obtain ⟨ad419, e419, hx419_0⟩ := Kd.at_string HR0.out x8_2 p419 q419
                obtain rfl : ad414 = ad419 := (by injection e419)
                replace hx419_0 := (HB.out.cell (World.block_lt_of_cell? w _ hx419_0)).trans hx419_0
                replace p419 := eq_true p419
                replace q419 := eq_true q419
                go_wp2
                go_roundg k3
                case measure => have := HJ3.out; have := HK2.out; have := HK3.out; omega
                case rel => exact ⟨((x7_2 ++ (rdOf ByteArray.empty l0 x8_2)) ++ (⟨#[10]⟩ : ByteArray)), (wrap64 (x8_2 + 1)), (by first | rfl | (simp; done) | (simp [*]; done)), (by first | rfl | (simp; done) | (simp [*]; done)), H', ⟨by have := HJ3.out; have := HK2.out; have := HK3.out; omega⟩, ⟨by repeat (first | (with_reducible first | exact HB.out | apply s1 | apply s2 | apply s3) | exact HB.out)⟩⟩
               ·rw [if_neg c26] at H
                exact absurd H (by simp)
              ·rw [if_neg c25] at H
               exact absurd H (by simp)
            ·rw [if_neg c18] at H
             exact absurd H (by simp)
           ·rw [if_neg c17] at H
            exact absurd H (by simp)
       ·rw [if_neg c13] at H
        exact absurd H (by simp)
      ·rw [if_neg c12] at H
       have c12b0 : decide (x8_2 < (l0.length : Int)) = false := decide_eq_false c12
       clear c12
       replace H := Option.bind_eq_some_iff.mp H
       obtain ⟨⟨t420, t421⟩, A270, H⟩ := H
       try dsimp only at H
       have A27 := Aside0.mk A270
       clear A270
       have HC28 := Aside0.mk H
       clear H
       go_upto_region 16 with (first | ((with_reducible refine gate_callee (f := 26) rfl ?_); refine goesL_ (some 79) rfl rfl Tryz.func26 (by kernel_rfl) rfl #[.string x7_2] rfl (by (try simp only [List.map_toArray, List.map_cons, List.map_nil]); first | done | rfl | (simp only [List.length_drop, List.length_take]; rfl)) ?_; (with_reducible refine (script_Split.calls x7_2 t420 t421 _ A27.out).mono ?_); rintro e w29 ⟨v422, rfl, ho0, hb⟩; refine ⟨_, rfl, ?_⟩; have n0_ := Aside0.mk (Kd.R_lower ho0 (below_size (by repeat (first | (with_reducible first | exact HB.out | apply s1 | apply s2 | apply s3) | exact HB.out)))); have n1_ := Aside0.mk (below_step (by repeat (first | (with_reducible first | exact HB.out | apply s1 | apply s2 | apply s3) | exact HB.out)) hb); clear HB; have HO423 := n0_; have HB := n1_; clear n0_ n1_; (try clear hb); (try clear hb2); (try clear hk); (try clear hi); (try clear ho0); (try simp only [errW_none, errW_some])))
       (try simp only [Act.put, List.setIfInBounds_toArray, List.set_cons_zero, List.set_cons_succ])
       go_cut [89] (fun v89 wc => ∃ (kq : Nat) (x89_27 : Bool), v89 = .bool x89_27 ∧ Aside0 (dolmenlaw29_ScriptLines.j3 kq a1 a2 x89_27 = some r) ∧ Aside0 (kq ≤ k2) ∧ Aside0 (Below w.heap.size w wc))
       case first =>
        have H := HC28.out
        clear HC28
        rcases t421 with _ | q424
        ·have H1 : ((dolmenref5_Texts.f k2 t420 l0).bind fun t425 => (dolmenlaw29_ScriptLines.j3 k2 a1 a2 (!t425))) = some r := by rw [if_pos (show (none : Option Int).isNone = true by rfl)] at H; exact H
         clear H
         have H := H1
         clear H1
         try simp only [errW_none, errW_some]
         replace H := Option.bind_eq_some_iff.mp H
         obtain ⟨t425, A300, H⟩ := H
         try dsimp only at H
         have A30 := Aside0.mk A300
         clear A300
         have H' := Aside0.mk H
         clear H
         obtain ⟨Ao31, co31, eo31⟩ := Kd.R_slice HO423.out
         subst eo31
         go_wp2_with (first | (go_at_call 18; (with_reducible refine (dolmenref5_Texts.calls k2 _ _ t420 _ _ l0 t425 _ ?side1 ?side2 ?side3 ?side4 A30.out).mono ?_); (case side1 => repeat (first | exact (Kd.R_reads' HO423.out).2.2 | (with_reducible refine Kd.C_alloc ?_ _) | (with_reducible refine Kd.C_drewN ?_ _) | (with_reducible refine Kd.C_drew ?_))); (case side2 => exact (Kd.R_reads' HO423.out).2.1); (case side3 => repeat (first | exact (Kd.C_below HR0.out HB.out) | (with_reducible refine Kd.C_alloc ?_ _) | (with_reducible refine Kd.C_drewN ?_ _) | (with_reducible refine Kd.C_drew ?_))); (case side4 => exact HC0.out); rintro e w' ⟨rfl, ⟨nd, rfl⟩⟩))
         go_meet
         case rel => exact ⟨_, (!t425), (by first | rfl | (simp; done) | (simp [*]; done)), H', ⟨by have := HJ3.out; have := HK2.out; first | omega | exact Nat.le_refl _⟩, ⟨by repeat (first | (with_reducible first | exact HB.out | apply s1 | apply s2 | apply s3) | exact HB.out)⟩⟩
        ·have H1 : (dolmenlaw29_ScriptLines.j3 k2 a1 a2 true) = some r := by rw [if_neg (show ¬ (some q424).isNone = true by simp)] at H; exact H
         clear H
         have H := H1
         clear H1
         try simp only [errW_none, errW_some]
         have H' := Aside0.mk H
         clear H
         go_wp2
         go_meet
         case rel => exact ⟨_, (true), (by first | rfl | (simp; done) | (simp [*]; done)), H', ⟨by have := HJ3.out; have := HK2.out; first | omega | exact Nat.le_refl _⟩, ⟨by repeat (first | (with_reducible first | exact HB.out | apply s1 | apply s2 | apply s3) | exact HB.out)⟩⟩
       case rest =>
        clear HC28
        try clear c1
        try clear c2
        try clear p2
        try clear q2
        try clear hx2
        try clear p4
        try clear q4
        try clear hx4
        try clear c5
        try clear c5b0
        try clear c5b1
        try clear c6
        try clear c6b0
        try clear p6
        try clear c7
        try clear c7b0
        try clear c8
        try clear c8b0
        try clear c9
        try clear c12
        try clear c12b0
        try clear c13
        try clear c13b0
        try clear c14
        try clear c14b0
        try clear c14b1
        try clear c17
        try clear c17b0
        try clear c18
        try clear c18b0
        try clear c19
        try clear c19b0
        try clear c20
        try clear c20b0
        try clear c21
        try clear p21
        try clear q21
        try clear hx21
        try clear c22
        try clear c22b0
        try clear c22b1
        try clear c25
        try clear c25b0
        try clear c25b1
        try clear c25b2
        try clear c26
        try clear c26b0
        try clear c26b1
        try clear c26b2
        try clear hx414_0
        try clear hx416_0
        try clear hx417_0
        try clear hx419_0
        try clear p2
        try clear p21
        try clear p4
        try clear p414
        try clear p416
        try clear p417
        try clear p419
        try clear q21
        try clear q4
        try clear q414
        try clear q416
        try clear q417
        try clear q419
        try clear q424
        obtain ⟨kq, x89_27, rfl, HA, HJ27, HB⟩ := hcut
        cases kq with
        | zero => exact absurd HA.out (by simp [dolmenlaw29_ScriptLines.j3])
        | succ kj27 =>
         have H := HA.out
         clear HA
         simp only [dolmenlaw29_ScriptLines.j3] at H
         by_cases c32 : x89_27 = true
         ·subst c32
          have H1 : (some false) = some r := by rw [if_pos rfl] at H; exact H
          clear H
          have H := H1
          clear H1
          exact absurd (Option.some.inj H) (by rw [hr_]; decide)
         ·replace c32 := Bool.eq_false_iff.mpr c32
          subst c32
          have H1 : (if 0 ≤ a1 then (if (a1 : Int).toNat ≤ 281474976710656 then (dolmenlaw29_ScriptLines.l2 kj27 a1 a2 (List.replicate (a1 : Int).toNat 0) 0) else (none)) else (none)) = some r := by rw [if_neg (show ¬ (false = true) by decide)] at H; exact H
          clear H
          have H := H1
          clear H1
          by_cases c33 : 0 ≤ a1
          ·rw [if_pos c33] at H
           have c33b0 := eq_true c33
           have c33b1 : decide (0 ≤ a1) = true := decide_eq_true c33
           clear c33
           by_cases c34 : (a1 : Int).toNat ≤ 281474976710656
           ·rw [if_pos c34] at H
            have c34b0 := eq_true c34
            have c34b1 : decide ((a1 : Int).toNat ≤ 281474976710656) = true := decide_eq_true c34
            clear c34
            obtain ⟨y426, hy426⟩ : ∃ y_ : List Int, y_ = (List.replicate (a1 : Int).toNat 0) := ⟨_, rfl⟩
            replace H : (dolmenlaw29_ScriptLines.l2 kj27 a1 a2 y426 0) = some r := by first | (rw [hy426]; with_reducible exact H) | (have H2_ := (Option.bind_some _ _).symm.trans H; rw [hy426]; with_reducible exact H2_) | (have H2_ := (Option.bind_some _ _).symm.trans H; with_reducible exact H2_) | with_reducible exact H | (rw [hy426]; exact H) | exact H
            have Ny426 := Aside0.mk hy426
            clear hy426
            have H' := Aside0.mk H
            clear H
            go_wp2_with (first | ((with_reducible refine gate_dst (N := 91) rfl ?_); (try (refine gate_guard (by rfl) ?_; dsimp only)); refine Kd.R_make (Kd.int .u8) _ 5 rfl (N := 91) rfl 22 _ _ rfl a1 rfl rfl Tryz.underlying22 (.int .u8 0) 1 info5 rfl (by decide) (by omega) 0 (ok := fun _ => True) (okp := fun _ => True) rfl (fun _ hk => hk) trivial (of_decide_eq_true (by first | (with_reducible assumption) | assumption)) (Nat.le_trans (Nat.mul_le_mul_right _ (of_decide_eq_true (by first | (with_reducible assumption) | assumption) : a1.toNat ≤ 281474976710656)) (by omega)) (Below.refl _ _) (Nat.le_refl _) ?_; intro v427 w35 ho36 hb hg_ hnew_; clear hg_ hnew_; (first | rw [← Ny426.out] at ho36 | (simp only [Int.reduceToNat] at ho36; rw [← Ny426.out] at ho36)); have n0_ := Aside0.mk (Kd.R_lower ho36 (below_size (by repeat (first | (with_reducible first | exact HB.out | apply s1 | apply s2 | apply s3) | exact HB.out)))); have n1_ := Aside0.mk (below_step (by repeat (first | (with_reducible first | exact HB.out | apply s1 | apply s2 | apply s3) | exact HB.out)) hb); clear HB; have HO428 := n0_; have HB := n1_; clear n0_ n1_; clear hb ho36))
            go_loopg [13] kj27 (fun kq v13 w' => ∃ (x12_4 : List Int) (x13_4 : Int), v13 = .int .i64 x13_4 ∧ Aside0 (dolmenlaw29_ScriptLines.l2 kq a1 a2 x12_4 x13_4 = some r) ∧ Aside0 (kq ≤ kj27) ∧ Aside0 (Kd.R (Kd.int .u8) 5 w' w.heap.size (fun _ => True) v427 x12_4) ∧ Aside0 (Below w.heap.size w w'))
            case atStart => exact ⟨(y426), (0), (by first | rfl | (simp; done) | (simp [*]; done)), H', ⟨Nat.le_refl _⟩, ⟨by (with_reducible repeat first | apply r1 | apply r2 | apply r3); exact HO428.out⟩, ⟨by repeat (first | (with_reducible first | exact HB.out | apply s1 | apply s2 | apply s3) | exact HB.out)⟩⟩
            case round =>
             clear H'
             try clear c1
             try clear c2
             try clear p2
             try clear q2
             try clear hx2
             try clear c3
             try clear p4
             try clear q4
             try clear hx4
             try clear c5
             try clear c5b0
             try clear c5b1
             try clear c6
             try clear c6b0
             try clear p6
             try clear c7
             try clear c7b0
             try clear c8
             try clear c8b0
             try clear c9
             try clear c12
             try clear c12b0
             try clear c13
             try clear c13b0
             try clear c14
             try clear c14b0
             try clear c14b1
             try clear c17
             try clear c17b0
             try clear c18
             try clear c18b0
             try clear c19
             try clear c19b0
             try clear c20
             try clear c20b0
             try clear c21
             try clear p21
             try clear q21
             try clear hx21
             try clear c22
             try clear c22b0
             try clear c22b1
             try clear c25
             try clear c25b0
             try clear c25b1
             try clear c25b2
             try clear c26
             try clear c26b0
             try clear c26b1
             try clear c26b2
             try clear c32
             try clear c33
             try clear c33b0
             try clear c33b1
             try clear c34
             try clear c34b0
             try clear c34b1
             try clear hx414_0
             try clear hx416_0
             try clear hx417_0
             try clear hx419_0
             try clear p2
             try clear p21
             try clear p4
             try clear p414
             try clear p416
             try clear p417
             try clear p419
             try clear p6
             try clear q2
             try clear q21
             try clear q4
             try clear q414
             try clear q416
             try clear q417
             try clear q419
             try clear q424
             obtain ⟨x12_4, x13_4, rfl, HA, HK4, HO_12, HB⟩ := hrel
             cases gk with
             | zero => exact absurd HA.out (by simp [dolmenlaw29_ScriptLines.l2])
             | succ k4 =>
              have H := HA.out
              clear HA
              simp only [dolmenlaw29_ScriptLines.l2] at H
              by_cases c37 : x13_4 < a1
              ·rw [if_pos c37] at H
               have c37b0 : decide (x13_4 < a1) = true := decide_eq_true c37
               clear c37
               by_cases c38 : 0 ≤ x13_4
               ·rw [if_pos c38] at H
                have c38b0 : decide (0 ≤ x13_4) = true := decide_eq_true c38
                clear c38
                by_cases c39 : x13_4 < (x12_4.length : Int)
                ·rw [if_pos c39] at H
                 have c39b0 : decide (x13_4 < (x12_4.length : Int)) = true := decide_eq_true c39
                 clear c39
                 obtain ⟨y429, hy429⟩ : ∃ y_ : List Int, y_ = (x12_4.set (x13_4 : Int).toNat 10) := ⟨_, rfl⟩
                 replace H : (dolmenlaw29_ScriptLines.l2 k4 a1 a2 y429 (wrap64 (x13_4 + 1))) = some r := by first | (rw [hy429]; with_reducible exact H) | (have H2_ := (Option.bind_some _ _).symm.trans H; rw [hy429]; with_reducible exact H2_) | (have H2_ := (Option.bind_some _ _).symm.trans H; with_reducible exact H2_) | with_reducible exact H | (rw [hy429]; exact H) | exact H
                 have Ny429 := Aside0.mk hy429
                 clear hy429
                 have H' := Aside0.mk H
                 clear H
                 have p40 : 0 ≤ (x13_4 : Int) := of_decide_eq_true (by first | (with_reducible assumption) | assumption)
                 have q40 : (x13_4 : Int) < ((x12_4.length : Int) : Int) := of_decide_eq_true (by first | (with_reducible assumption) | assumption)
                 obtain ⟨go40, co40, eo40, gb40, gl40, cl40, HG40⟩ := Kd.R_form HO_12.out (by omega)
                 (first | cases eo40 | (injection eo40 with ea_ en_ ec_; (first | subst ea_ | (injection ea_ with ea_; subst ea_)); subst ec_; clear en_))
                 have GB40 := Aside0.mk gb40
                 have GG40 := Aside0.mk HG40
                 clear gb40 gl40 HG40
                 obtain ⟨hx40_0, hf40_0⟩ := Kd.R_celln 0 HO_12.out (x13_4 : Int) p40 q40
                 replace p40 := eq_true p40
                 replace q40 := eq_true q40
                 have HP41 := Kd.R_putg HO_12.out (x13_4 : Int) 10
                 go_wp2_with (first | ((with_reducible refine gate_store (t := 5) (p := 99) rfl ?_); refine store_event (t := 5) (p := 99) (v := ?vo_w42) (w1 := (wr.setCell ⟨go40, (x13_4 : Int).toNat, none⟩ (.int .u8 10))) ?hg ?ho ?hn ?hr ?_; (case ho => rfl); (case hg => rfl); (case hn => rfl); (case hr => first | (go_simp; done) | (go_simp; rfl)); intro w42 hw; have hg : wr.grownBy w42 (some go40) := (by rw [hw]; exact HP41.2); have hp_ : Kd.R (Kd.int .u8) 5 w42 w.heap.size (fun _ => True) (.slice (some ⟨go40, 0, none⟩) x12_4.length co40) y429 := (by rw [hw, Ny429.out]; exact HP41.1); clear HP41; have n0_ := Aside0.mk (hp_); have n1_ := Aside0.mk ((by rw [hw]; exact below_set (HB.out) GB40.out : Below w.heap.size w w42)); clear HO_12; clear HB; have HO_12 := n0_; have HB := n1_; clear n0_ n1_; clear hg hw hp_))
                 go_roundg k4
                 case measure => have := HJ3.out; have := HK2.out; have := HJ27.out; have := HK4.out; omega
                 case rel => exact ⟨(y429), (wrap64 (x13_4 + 1)), (by first | rfl | (simp; done) | (simp [*]; done)), H', ⟨by have := HJ3.out; have := HK2.out; have := HJ27.out; have := HK4.out; omega⟩, ⟨by (with_reducible repeat first | apply r1 | apply r2 | apply r3); exact HO_12.out⟩, ⟨by repeat (first | (with_reducible first | exact HB.out | apply s1 | apply s2 | apply s3) | exact HB.out)⟩⟩
                ·rw [if_neg c39] at H
                 exact absurd H (by simp)
               ·rw [if_neg c38] at H
                exact absurd H (by simp)
              ·rw [if_neg c37] at H
               have c37b0 : decide (x13_4 < a1) = false := decide_eq_false c37
               clear c37
               by_cases c43 : 0 ≤ a2
               ·rw [if_pos c43] at H
                have c43b0 := eq_true c43
                have c43b1 : decide (0 ≤ a2) = true := decide_eq_true c43
                clear c43
                by_cases c44 : (a2 : Int).toNat ≤ 281474976710656
                ·rw [if_pos c44] at H
                 have c44b0 := eq_true c44
                 have c44b1 : decide ((a2 : Int).toNat ≤ 281474976710656) = true := decide_eq_true c44
                 clear c44
                 obtain ⟨y430, hy430⟩ : ∃ y_ : List Int, y_ = (List.replicate (a2 : Int).toNat 0) := ⟨_, rfl⟩
                 replace H : (dolmenlaw29_ScriptLines.l3 k4 a1 a2 x12_4 y430 0) = some r := by first | (rw [hy430]; with_reducible exact H) | (have H2_ := (Option.bind_some _ _).symm.trans H; rw [hy430]; with_reducible exact H2_) | (have H2_ := (Option.bind_some _ _).symm.trans H; with_reducible exact H2_) | with_reducible exact H | (rw [hy430]; exact H) | exact H
                 have Ny430 := Aside0.mk hy430
                 clear hy430
                 have H' := Aside0.mk H
                 clear H
                 go_wp2_with (first | ((with_reducible refine gate_dst (N := 101) rfl ?_); (try (refine gate_guard (by rfl) ?_; dsimp only)); refine Kd.R_make (Kd.int .u8) _ 5 rfl (N := 101) rfl 22 _ _ rfl a2 rfl rfl Tryz.underlying22 (.int .u8 0) 1 info5 rfl (by decide) (by omega) 0 (ok := fun _ => True) (okp := fun _ => True) rfl (fun _ hk => hk) trivial (of_decide_eq_true (by first | (with_reducible assumption) | assumption)) (Nat.le_trans (Nat.mul_le_mul_right _ (of_decide_eq_true (by first | (with_reducible assumption) | assumption) : a2.toNat ≤ 281474976710656)) (by omega)) (Below.refl _ _) (Nat.le_refl _) ?_; intro v431 w45 ho46 hb hg_ hnew_; clear hg_ hnew_; (first | rw [← Ny430.out] at ho46 | (simp only [Int.reduceToNat] at ho46; rw [← Ny430.out] at ho46)); have n0_ := Aside0.mk (Kd.R_elder' (by (with_reducible repeat first | apply r1 | apply r2 | apply r3); exact HO_12.out) (Kd.R_base ho46) hb); have n1_ := Aside0.mk (Kd.R_lower (Kd.R_new' ho46 (Kd.R_lt (by (with_reducible repeat first | apply r1 | apply r2 | apply r3); exact HO_12.out))) (below_size (by repeat (first | (with_reducible first | exact HB.out | apply s1 | apply s2 | apply s3) | exact HB.out)))); have n2_ := Aside0.mk (below_step (by repeat (first | (with_reducible first | exact HB.out | apply s1 | apply s2 | apply s3) | exact HB.out)) hb); clear HO_12; clear HB; have HO_12 := n0_; have HO432 := n1_; have HB := n2_; clear n0_ n1_ n2_; clear hb ho46))
                 go_loopg [15] k4 (fun kq v15 w' => ∃ (x14_5 : List Int) (x15_5 : Int), v15 = .int .i64 x15_5 ∧ Aside0 (dolmenlaw29_ScriptLines.l3 kq a1 a2 x12_4 x14_5 x15_5 = some r) ∧ Aside0 (kq ≤ k4) ∧ Aside0 (Kd.R (Kd.int .u8) 5 w' w.heap.size (fun k_ => some k_ ≠ (v431 : Value).ownBlock) v427 x12_4) ∧ Aside0 (Kd.R (Kd.int .u8) 5 w' w.heap.size (fun k_ => some k_ ≠ (v427 : Value).ownBlock) v431 x14_5) ∧ Aside0 (Below w.heap.size w w'))
                 case atStart => exact ⟨(y430), (0), (by first | rfl | (simp; done) | (simp [*]; done)), H', ⟨Nat.le_refl _⟩, ⟨by (with_reducible repeat first | apply r1 | apply r2 | apply r3); exact Kd.R_mono HO_12.out (fun _ hk => hk.2)⟩, ⟨by (with_reducible repeat first | apply r1 | apply r2 | apply r3); exact Kd.R_mono HO432.out (fun _ hk => hk.2)⟩, ⟨by repeat (first | (with_reducible first | exact HB.out | apply s1 | apply s2 | apply s3) | exact HB.out)⟩⟩
                 case round =>
                  clear H'
                  try clear c1
                  try clear c2
                  try clear p2
                  try clear q2
                  try clear hx2
                  try clear c3
                  try clear c4
                  try clear p4
                  try clear q4
                  try clear hx4
                  try clear hf4
                  try clear c5
                  try clear c5b0
                  try clear c5b1
                  try clear c6
                  try clear c6b0
                  try clear p6
                  try clear c7
                  try clear c7b0
                  try clear c8
                  try clear c8b0
                  try clear c9
                  try clear c12
                  try clear c12b0
                  try clear c13
                  try clear c13b0
                  try clear c14
                  try clear c14b0
                  try clear c14b1
                  try clear c17
                  try clear c17b0
                  try clear c18
                  try clear c18b0
                  try clear c19
                  try clear c19b0
                  try clear c20
                  try clear c20b0
                  try clear c21
                  try clear p21
                  try clear q21
                  try clear hx21
                  try clear c22
                  try clear c22b0
                  try clear c22b1
                  try clear c25
                  try clear c25b0
                  try clear c25b1
                  try clear c25b2
                  try clear c26
                  try clear c26b0
                  try clear c26b1
                  try clear c26b2
                  try clear c32
                  try clear c33
                  try clear c33b0
                  try clear c33b1
                  try clear c34
                  try clear c34b0
                  try clear c34b1
                  try clear c37
                  try clear c37b0
                  try clear c38
                  try clear c38b0
                  try clear c39
                  try clear c39b0
                  try clear p40
                  try clear q40
                  try clear hx40
                  try clear hf40
                  try clear p41
                  try clear q41
                  try clear hx41
                  try clear q42
                  try clear c43
                  try clear c43b0
                  try clear c43b1
                  try clear c44
                  try clear c44b0
                  try clear c44b1
                  try clear hx40_0
                  try clear hx414_0
                  try clear hx416_0
                  try clear hx417_0
                  try clear hx419_0
                  try clear p2
                  try clear p21
                  try clear p4
                  try clear p40
                  try clear p414
                  try clear p416
                  try clear p417
                  try clear p419
                  try clear p6
                  try clear q2
                  try clear q21
                  try clear q4
                  try clear q40
                  try clear q414
                  try clear q416
                  try clear q417
                  try clear q419
                  try clear q424
                  obtain ⟨x14_5, x15_5, rfl, HA, HK5, HO_12, HO_14, HB⟩ := hrel
                  cases gk with
                  | zero => exact absurd HA.out (by simp [dolmenlaw29_ScriptLines.l3])
                  | succ k5 =>
                   have H := HA.out
                   clear HA
                   simp only [dolmenlaw29_ScriptLines.l3] at H
                   by_cases c47 : x15_5 < a2
                   ·rw [if_pos c47] at H
                    have c47b0 : decide (x15_5 < a2) = true := decide_eq_true c47
                    clear c47
                    by_cases c48 : 0 ≤ x15_5
                    ·rw [if_pos c48] at H
                     have c48b0 : decide (0 ≤ x15_5) = true := decide_eq_true c48
                     clear c48
                     by_cases c49 : x15_5 < (x14_5.length : Int)
                     ·rw [if_pos c49] at H
                      have c49b0 : decide (x15_5 < (x14_5.length : Int)) = true := decide_eq_true c49
                      clear c49
                      obtain ⟨y433, hy433⟩ : ∃ y_ : List Int, y_ = (x14_5.set (x15_5 : Int).toNat 120) := ⟨_, rfl⟩
                      replace H : (dolmenlaw29_ScriptLines.l3 k5 a1 a2 x12_4 y433 (wrap64 (x15_5 + 1))) = some r := by first | (rw [hy433]; with_reducible exact H) | (have H2_ := (Option.bind_some _ _).symm.trans H; rw [hy433]; with_reducible exact H2_) | (have H2_ := (Option.bind_some _ _).symm.trans H; with_reducible exact H2_) | with_reducible exact H | (rw [hy433]; exact H) | exact H
                      have Ny433 := Aside0.mk hy433
                      clear hy433
                      have H' := Aside0.mk H
                      clear H
                      have p50 : 0 ≤ (x15_5 : Int) := of_decide_eq_true (by first | (with_reducible assumption) | assumption)
                      have q50 : (x15_5 : Int) < ((x14_5.length : Int) : Int) := of_decide_eq_true (by first | (with_reducible assumption) | assumption)
                      obtain ⟨go50, co50, eo50, gb50, gl50, cl50, HG50⟩ := Kd.R_form HO_14.out (by omega)
                      (first | cases eo50 | (injection eo50 with ea_ en_ ec_; (first | subst ea_ | (injection ea_ with ea_; subst ea_)); subst ec_; clear en_))
                      have GB50 := Aside0.mk gb50
                      have GG50 := Aside0.mk HG50
                      clear gb50 gl50 HG50
                      obtain ⟨hx50_0, hf50_0⟩ := Kd.R_celln 0 HO_14.out (x15_5 : Int) p50 q50
                      replace p50 := eq_true p50
                      replace q50 := eq_true q50
                      have HP51 := Kd.R_putg HO_14.out (x15_5 : Int) 120
                      go_wp2_with (first | ((with_reducible refine gate_store (t := 5) (p := 109) rfl ?_); refine store_event (t := 5) (p := 109) (v := ?vo_w52) (w1 := (wr.setCell ⟨go50, (x15_5 : Int).toNat, none⟩ (.int .u8 120))) ?hg ?ho ?hn ?hr ?_; (case ho => rfl); (case hg => rfl); (case hn => rfl); (case hr => first | (go_simp; done) | (go_simp; rfl)); intro w52 hw; have hg : wr.grownBy w52 (some go50) := (by rw [hw]; exact HP51.2); have hp_ : Kd.R (Kd.int .u8) 5 w52 w.heap.size (fun k_ => some k_ ≠ (v427 : Value).ownBlock) (.slice (some ⟨go50, 0, none⟩) x14_5.length co50) y433 := (by rw [hw, Ny433.out]; exact HP51.1); clear HP51; have n0_ := Aside0.mk (Kd.R_after (v := (.slice (some ⟨go50, 0, none⟩) x14_5.length co50)) (v1 := (.slice (some ⟨go50, 0, none⟩) x14_5.length co50)) (ok := (fun _ => True)) (by (with_reducible repeat first | apply r1 | apply r2 | apply r3); exact Kd.R_mono HO_12.out (fun _ hk => ⟨trivial, hk⟩)) hg (.inl rfl)); have n1_ := Aside0.mk (hp_); have n2_ := Aside0.mk ((by rw [hw]; exact below_set (HB.out) GB50.out : Below w.heap.size w w52)); clear HO_12; clear HO_14; clear HB; have HO_12 := n0_; have HO_14 := n1_; have HB := n2_; clear n0_ n1_ n2_; clear hg hw hp_))
                      go_roundg k5
                      case measure => have := HJ3.out; have := HK2.out; have := HJ27.out; have := HK4.out; have := HK5.out; omega
                      case rel => exact ⟨(y433), (wrap64 (x15_5 + 1)), (by first | rfl | (simp; done) | (simp [*]; done)), H', ⟨by have := HJ3.out; have := HK2.out; have := HJ27.out; have := HK4.out; have := HK5.out; omega⟩, ⟨by (with_reducible repeat first | apply r1 | apply r2 | apply r3); exact Kd.R_mono HO_12.out (fun _ hk => hk.2)⟩, ⟨by (with_reducible repeat first | apply r1 | apply r2 | apply r3); exact HO_14.out⟩, ⟨by repeat (first | (with_reducible first | exact HB.out | apply s1 | apply s2 | apply s3) | exact HB.out)⟩⟩
                     ·rw [if_neg c49] at H
                      exact absurd H (by simp)
                    ·rw [if_neg c48] at H
                     exact absurd H (by simp)
                   ·rw [if_neg c47] at H
                    have c47b0 : decide (x15_5 < a2) = false := decide_eq_false c47
                    clear c47
                    replace H := Option.bind_eq_some_iff.mp H
                    obtain ⟨⟨t434, t435⟩, A530, H⟩ := H
                    try dsimp only at H
                    have A53 := Aside0.mk A530
                    clear A530
                    replace H := Option.bind_eq_some_iff.mp H
                    obtain ⟨⟨t438, t439⟩, A540, H⟩ := H
                    try dsimp only at H
                    have A54 := Aside0.mk A540
                    clear A540
                    rcases t435 with _ | q442
                    ·have H1 : (if (true == (decide (a1 ≤ 10000))) = true then (if t439.isNone = true then (if (true == (decide (a2 ≤ 262144))) = true then (if (t434.length : Int) = a1 then (if (t438.length : Int) = (mn a2 1) then ((dolmenlaw29_awake.f).bind fun t444 => (some t444)) else (some false)) else (some false)) else (some false)) else (if (false == (decide (a2 ≤ 262144))) = true then (if (t434.length : Int) = a1 then ((dolmenlaw29_awake.f).bind fun t445 => (some t445)) else (some false)) else (some false))) else (some false)) = some r := by rw [if_pos (show (none : Option Int).isNone = true by rfl)] at H; exact H
                     clear H
                     have H := H1
                     clear H1
                     try simp only [errW_none, errW_some]
                     by_cases c55 : (true == (decide (a1 ≤ 10000))) = true
                     ·rw [if_pos c55] at H
                      have c55b0 : (true == (decide (a1 ≤ 10000))) = true := c55
                      (try (have c55b1 : decide (true = (decide (a1 ≤ 10000))) = true := by simpa using c55))
                      (try (have c55b2 : (true == (decide (a1 ≤ 10000))) = true := by simpa using c55))
                      clear c55
                      rcases t439 with _ | q443
                      ·have H1 : (if (true == (decide (a2 ≤ 262144))) = true then (if (t434.length : Int) = a1 then (if (t438.length : Int) = (mn a2 1) then ((dolmenlaw29_awake.f).bind fun t444 => (some t444)) else (some false)) else (some false)) else (some false)) = some r := by rw [if_pos (show (none : Option Int).isNone = true by rfl)] at H; exact H
                       clear H
                       have H := H1
                       clear H1
                       try simp only [errW_none, errW_some]
                       by_cases c56 : (true == (decide (a2 ≤ 262144))) = true
                       ·rw [if_pos c56] at H
                        have c56b0 : (true == (decide (a2 ≤ 262144))) = true := c56
                        (try (have c56b1 : decide (true = (decide (a2 ≤ 262144))) = true := by simpa using c56))
                        (try (have c56b2 : (true == (decide (a2 ≤ 262144))) = true := by simpa using c56))
                        clear c56
                        by_cases c57 : (t434.length : Int) = a1
                        ·rw [if_pos c57] at H
                         have c57b0 : ((t434.length : Int) == a1) = true := beq_iff_eq.mpr c57
                         have c57b1 : ((t434.length : Int) != a1) = false := bne_eq_false_iff_eq.mpr c57
                         clear c57
                         obtain ⟨ji58, hji58⟩ : ∃ j_ : Int, (mn a2 1) = j_ := ⟨_, rfl⟩
                         replace H : (if (t438.length : Int) = (ji58) then ((dolmenlaw29_awake.f).bind fun t444 => (some t444)) else (some false)) = some r := by first | (rw [hji58] at H; exact H) | (simp only [hji58] at H ⊢; exact H)
                         (try rw [hji58] at A53)
                         (try rw [hji58] at A54)
                         have hji58_ : (if 1 < a2 then 1 else a2) = ji58 := hji58
                         by_cases c59 : (t438.length : Int) = (ji58)
                         ·rw [if_pos c59] at H
                          have c59b0 : ((t438.length : Int) == (ji58)) = true := beq_iff_eq.mpr c59
                          have c59b1 : ((t438.length : Int) != (ji58)) = false := bne_eq_false_iff_eq.mpr c59
                          clear c59
                          replace H := Option.bind_eq_some_iff.mp H
                          obtain ⟨t444, A600, H⟩ := H
                          try dsimp only at H
                          have A60 := Aside0.mk A600
                          clear A600
                          obtain rfl := Option.some.inj H
                          have hcv61 := own_string (P := Tryz.prog) Tryz.underlying22 Tryz.underlying5 Tryz.underlying9 (Kd.own_of_R HO_12.out)
                          go_wp2_with (first | ((with_reducible refine gate_callee (f := 26) rfl ?_); refine goesL_ (some 113) rfl rfl Tryz.func26 (by kernel_rfl) rfl #[.string (strOfNums x12_4)] rfl (by (try simp only [List.map_toArray, List.map_cons, List.map_nil]); first | done | rfl | (simp only [List.length_drop, List.length_take]; rfl)) ?_; (with_reducible refine (script_Split.calls (strOfNums x12_4) t434 none _ A53.out).mono ?_); rintro e w62 ⟨v436, rfl, ho0, hb⟩; refine ⟨_, rfl, ?_⟩; have n0_ := Aside0.mk (Kd.R_below (by (with_reducible repeat first | apply r1 | apply r2 | apply r3); exact HO_12.out) hb); have n1_ := Aside0.mk (Kd.R_below (by (with_reducible repeat first | apply r1 | apply r2 | apply r3); exact HO_14.out) hb); have n2_ := Aside0.mk (Kd.R_lower ho0 (below_size (by repeat (first | (with_reducible first | exact HB.out | apply s1 | apply s2 | apply s3) | exact HB.out)))); have n3_ := Aside0.mk (below_step (by repeat (first | (with_reducible first | exact HB.out | apply s1 | apply s2 | apply s3) | exact HB.out)) hb); clear HO_12; clear HO_14; clear HB; have HO_12 := n0_; have HO_14 := n1_; have HO437 := n2_; have HB := n3_; clear n0_ n1_ n2_ n3_; (try clear hb); (try clear hb2); (try clear hk); (try clear hi); (try clear ho0); (try simp only [errW_none, errW_some]); have hcv63 := own_string (P := Tryz.prog) Tryz.underlying22 Tryz.underlying5 Tryz.underlying9 (Kd.own_of_R HO_14.out)) | ((with_reducible refine gate_callee (f := 26) rfl ?_); refine goesL_ (some 119) rfl rfl Tryz.func26 (by kernel_rfl) rfl #[.string (strOfNums x14_5)] rfl (by (try simp only [List.map_toArray, List.map_cons, List.map_nil]); first | done | rfl | (simp only [List.length_drop, List.length_take]; rfl)) ?_; (with_reducible refine (script_Split.calls (strOfNums x14_5) t438 none _ A54.out).mono ?_); rintro e w64 ⟨v440, rfl, ho0, hb⟩; refine ⟨_, rfl, ?_⟩; have n0_ := Aside0.mk (Kd.R_below (by (with_reducible repeat first | apply r1 | apply r2 | apply r3); exact HO_12.out) hb); have n1_ := Aside0.mk (Kd.R_below (by (with_reducible repeat first | apply r1 | apply r2 | apply r3); exact HO_14.out) hb); have n2_ := Aside0.mk (Kd.R_elder' (by (with_reducible repeat first | apply r1 | apply r2 | apply r3); exact HO437.out) (Kd.R_base ho0) hb); have n3_ := Aside0.mk (Kd.R_lower (Kd.R_new' ho0 (Kd.R_lt (by (with_reducible repeat first | apply r1 | apply r2 | apply r3); exact HO437.out))) (below_size (by repeat (first | (with_reducible first | exact HB.out | apply s1 | apply s2 | apply s3) | exact HB.out)))); have n4_ := Aside0.mk (below_step (by repeat (first | (with_reducible first | exact HB.out | apply s1 | apply s2 | apply s3) | exact HB.out)) hb); clear HO_12; clear HO_14; clear HO437; clear HB; have HO_12 := n0_; have HO_14 := n1_; have HO437 := n2_; have HO441 := n3_; have HB := n4_; clear n0_ n1_ n2_ n3_ n4_; (try clear hb); (try clear hb2); (try clear hk); (try clear hi); (try clear ho0); (try simp only [errW_none, errW_some]); obtain ⟨Ao65, co65, eo65⟩ := Kd.R_slice HO437.out; subst eo65; obtain ⟨Ao66, co66, eo66⟩ := Kd.R_slice HO441.out; subst eo66) | (go_at_call 21; (with_reducible refine (dolmenlaw29_awake.calls  t444 _ A60.out ?hT_).mono ?_); (case hT_ => exact Tabs.after HT.out (by repeat (first | (with_reducible first | exact HB.out | apply s1 | apply s2 | apply s3) | exact HB.out))); rintro e w67 ⟨rfl, hb⟩; have n0_ := Aside0.mk (Kd.R_below (by (with_reducible repeat first | apply r1 | apply r2 | apply r3); exact HO_12.out) hb); have n1_ := Aside0.mk (Kd.R_below (by (with_reducible repeat first | apply r1 | apply r2 | apply r3); exact HO_14.out) hb); have n2_ := Aside0.mk (Kd.R_below (by (with_reducible repeat first | apply r1 | apply r2 | apply r3); exact HO437.out) hb); have n3_ := Aside0.mk (Kd.R_below (by (with_reducible repeat first | apply r1 | apply r2 | apply r3); exact HO441.out) hb); have n4_ := Aside0.mk (below_step (by repeat (first | (with_reducible first | exact HB.out | apply s1 | apply s2 | apply s3) | exact HB.out)) hb); clear HO_12; clear HO_14; clear HO437; clear HO441; clear HB; have HO_12 := n0_; have HO_14 := n1_; have HO437 := n2_; have HO441 := n3_; have HB := n4_; clear n0_ n1_ n2_ n3_ n4_; (try clear hb); (try clear hb2); (try clear hk); (try clear hi)))
                          go_ret
                          exact ⟨by first | rfl | (simp [errW_none, errW_some] <;> rfl) | (simp only [← hji58]; first | rfl | (simp [errW_none, errW_some] <;> rfl)) | (simp [*, errW_none, errW_some] <;> rfl), by repeat (first | (with_reducible first | exact HB.out | apply s1 | apply s2 | apply s3) | exact HB.out)⟩
                         ·rw [if_neg c59] at H
                          have c59b0 : ((t438.length : Int) == (ji58)) = false := beq_eq_false_iff_ne.mpr c59
                          have c59b1 : ((t438.length : Int) != (ji58)) = true := bne_iff_ne.mpr c59
                          exact absurd (Option.some.inj H) (by rw [hr_]; decide)
                        ·rw [if_neg c57] at H
                         have c57b0 : ((t434.length : Int) == a1) = false := beq_eq_false_iff_ne.mpr c57
                         have c57b1 : ((t434.length : Int) != a1) = true := bne_iff_ne.mpr c57
                         exact absurd (Option.some.inj H) (by rw [hr_]; decide)
                       ·rw [if_neg c56] at H
                        have c56b0 : (true == (decide (a2 ≤ 262144))) = false := by simpa using c56
                        (try (have c56b1 : decide (true = (decide (a2 ≤ 262144))) = false := by simpa using c56))
                        (try (have c56b2 : (true == (decide (a2 ≤ 262144))) = false := by simpa using c56))
                        (try (have c56b3 : ¬ (true = (decide (a2 ≤ 262144))) := by simpa using c56))
                        clear c56
                        exact absurd (Option.some.inj H) (by rw [hr_]; decide)
                      ·have H1 : (if (false == (decide (a2 ≤ 262144))) = true then (if (t434.length : Int) = a1 then ((dolmenlaw29_awake.f).bind fun t445 => (some t445)) else (some false)) else (some false)) = some r := by rw [if_neg (show ¬ (some q443).isNone = true by simp)] at H; exact H
                       clear H
                       have H := H1
                       clear H1
                       try simp only [errW_none, errW_some]
                       by_cases c83 : (false == (decide (a2 ≤ 262144))) = true
                       ·rw [if_pos c83] at H
                        have c83b0 : (false == (decide (a2 ≤ 262144))) = true := c83
                        (try (have c83b1 : decide (false = (decide (a2 ≤ 262144))) = true := by simpa using c83))
                        (try (have c83b2 : (false == (decide (a2 ≤ 262144))) = true := by simpa using c83))
                        clear c83
                        by_cases c84 : (t434.length : Int) = a1
                        ·rw [if_pos c84] at H
                         have c84b0 : ((t434.length : Int) == a1) = true := beq_iff_eq.mpr c84
                         have c84b1 : ((t434.length : Int) != a1) = false := bne_eq_false_iff_eq.mpr c84
                         clear c84
                         replace H := Option.bind_eq_some_iff.mp H
                         obtain ⟨t445, A850, H⟩ := H
                         try dsimp only at H
                         have A85 := Aside0.mk A850
                         clear A850
                         obtain rfl := Option.some.inj H
                         have hcv86 := own_string (P := Tryz.prog) Tryz.underlying22 Tryz.underlying5 Tryz.underlying9 (Kd.own_of_R HO_12.out)
                         go_wp2_with (first | ((with_reducible refine gate_callee (f := 26) rfl ?_); refine goesL_ (some 113) rfl rfl Tryz.func26 (by kernel_rfl) rfl #[.string (strOfNums x12_4)] rfl (by (try simp only [List.map_toArray, List.map_cons, List.map_nil]); first | done | rfl | (simp only [List.length_drop, List.length_take]; rfl)) ?_; (with_reducible refine (script_Split.calls (strOfNums x12_4) t434 none _ A53.out).mono ?_); rintro e w87 ⟨v436, rfl, ho0, hb⟩; refine ⟨_, rfl, ?_⟩; have n0_ := Aside0.mk (Kd.R_below (by (with_reducible repeat first | apply r1 | apply r2 | apply r3); exact HO_12.out) hb); have n1_ := Aside0.mk (Kd.R_below (by (with_reducible repeat first | apply r1 | apply r2 | apply r3); exact HO_14.out) hb); have n2_ := Aside0.mk (Kd.R_lower ho0 (below_size (by repeat (first | (with_reducible first | exact HB.out | apply s1 | apply s2 | apply s3) | exact HB.out)))); have n3_ := Aside0.mk (below_step (by repeat (first | (with_reducible first | exact HB.out | apply s1 | apply s2 | apply s3) | exact HB.out)) hb); clear HO_12; clear HO_14; clear HB; have HO_12 := n0_; have HO_14 := n1_; have HO437 := n2_; have HB := n3_; clear n0_ n1_ n2_ n3_; (try clear hb); (try clear hb2); (try clear hk); (try clear hi); (try clear ho0); (try simp only [errW_none, errW_some]); have hcv88 := own_string (P := Tryz.prog) Tryz.underlying22 Tryz.underlying5 Tryz.underlying9 (Kd.own_of_R HO_14.out)) | ((with_reducible refine gate_callee (f := 26) rfl ?_); refine goesL_ (some 119) rfl rfl Tryz.func26 (by kernel_rfl) rfl #[.string (strOfNums x14_5)] rfl (by (try simp only [List.map_toArray, List.map_cons, List.map_nil]); first | done | rfl | (simp only [List.length_drop, List.length_take]; rfl)) ?_; (with_reducible refine (script_Split.calls (strOfNums x14_5) t438 (some q443) _ A54.out).mono ?_); rintro e w89 ⟨v440, rfl, ho0, hb⟩; refine ⟨_, rfl, ?_⟩; have n0_ := Aside0.mk (Kd.R_below (by (with_reducible repeat first | apply r1 | apply r2 | apply r3); exact HO_12.out) hb); have n1_ := Aside0.mk (Kd.R_below (by (with_reducible repeat first | apply r1 | apply r2 | apply r3); exact HO_14.out) hb); have n2_ := Aside0.mk (Kd.R_elder' (by (with_reducible repeat first | apply r1 | apply r2 | apply r3); exact HO437.out) (Kd.R_base ho0) hb); have n3_ := Aside0.mk (Kd.R_lower (Kd.R_new' ho0 (Kd.R_lt (by (with_reducible repeat first | apply r1 | apply r2 | apply r3); exact HO437.out))) (below_size (by repeat (first | (with_reducible first | exact HB.out | apply s1 | apply s2 | apply s3) | exact HB.out)))); have n4_ := Aside0.mk (below_step (by repeat (first | (with_reducible first | exact HB.out | apply s1 | apply s2 | apply s3) | exact HB.out)) hb); clear HO_12; clear HO_14; clear HO437; clear HB; have HO_12 := n0_; have HO_14 := n1_; have HO437 := n2_; have HO441 := n3_; have HB := n4_; clear n0_ n1_ n2_ n3_ n4_; (try clear hb); (try clear hb2); (try clear hk); (try clear hi); (try clear ho0); (try simp only [errW_none, errW_some]); obtain ⟨Ao90, co90, eo90⟩ := Kd.R_slice HO437.out; subst eo90) | (go_at_call 21; (with_reducible refine (dolmenlaw29_awake.calls  t445 _ A85.out ?hT_).mono ?_); (case hT_ => exact Tabs.after HT.out (by repeat (first | (with_reducible first | exact HB.out | apply s1 | apply s2 | apply s3) | exact HB.out))); rintro e w91 ⟨rfl, hb⟩; have n0_ := Aside0.mk (Kd.R_below (by (with_reducible repeat first | apply r1 | apply r2 | apply r3); exact HO_12.out) hb); have n1_ := Aside0.mk (Kd.R_below (by (with_reducible repeat first | apply r1 | apply r2 | apply r3); exact HO_14.out) hb); have n2_ := Aside0.mk (Kd.R_below (by (with_reducible repeat first | apply r1 | apply r2 | apply r3); exact HO437.out) hb); have n3_ := Aside0.mk (Kd.R_below (by (with_reducible repeat first | apply r1 | apply r2 | apply r3); exact HO441.out) hb); have n4_ := Aside0.mk (below_step (by repeat (first | (with_reducible first | exact HB.out | apply s1 | apply s2 | apply s3) | exact HB.out)) hb); clear HO_12; clear HO_14; clear HO437; clear HO441; clear HB; have HO_12 := n0_; have HO_14 := n1_; have HO437 := n2_; have HO441 := n3_; have HB := n4_; clear n0_ n1_ n2_ n3_ n4_; (try clear hb); (try clear hb2); (try clear hk); (try clear hi)))
                         go_ret
                         exact ⟨by first | rfl | (simp [errW_none, errW_some] <;> rfl) | (simp [*, errW_none, errW_some] <;> rfl), by repeat (first | (with_reducible first | exact HB.out | apply s1 | apply s2 | apply s3) | exact HB.out)⟩
                        ·rw [if_neg c84] at H
                         have c84b0 : ((t434.length : Int) == a1) = false := beq_eq_false_iff_ne.mpr c84
                         have c84b1 : ((t434.length : Int) != a1) = true := bne_iff_ne.mpr c84
                         exact absurd (Option.some.inj H) (by rw [hr_]; decide)
                       ·rw [if_neg c83] at H
                        have c83b0 : (false == (decide (a2 ≤ 262144))) = false := by simpa using c83
                        (try (have c83b1 : decide (false = (decide (a2 ≤ 262144))) = false := by simpa using c83))
                        (try (have c83b2 : (false == (decide (a2 ≤ 262144))) = false := by simpa using c83))
                        (try (have c83b3 : ¬ (false = (decide (a2 ≤ 262144))) := by simpa using c83))
                        clear c83
                        exact absurd (Option.some.inj H) (by rw [hr_]; decide)
                     ·rw [if_neg c55] at H
                      have c55b0 : (true == (decide (a1 ≤ 10000))) = false := by simpa using c55
                      (try (have c55b1 : decide (true = (decide (a1 ≤ 10000))) = false := by simpa using c55))
                      (try (have c55b2 : (true == (decide (a1 ≤ 10000))) = false := by simpa using c55))
                      (try (have c55b3 : ¬ (true = (decide (a1 ≤ 10000))) := by simpa using c55))
                      clear c55
                      exact absurd (Option.some.inj H) (by rw [hr_]; decide)
                    ·have H1 : (if (false == (decide (a1 ≤ 10000))) = true then (if t439.isNone = true then (if (true == (decide (a2 ≤ 262144))) = true then (if (t438.length : Int) = (mn a2 1) then ((dolmenlaw29_awake.f).bind fun t447 => (some t447)) else (some false)) else (some false)) else (if (false == (decide (a2 ≤ 262144))) = true then ((dolmenlaw29_awake.f).bind fun t448 => (some t448)) else (some false))) else (some false)) = some r := by rw [if_neg (show ¬ (some q442).isNone = true by simp)] at H; exact H
                     clear H
                     have H := H1
                     clear H1
                     try simp only [errW_none, errW_some]
                     by_cases c105 : (false == (decide (a1 ≤ 10000))) = true
                     ·rw [if_pos c105] at H
                      have c105b0 : (false == (decide (a1 ≤ 10000))) = true := c105
                      (try (have c105b1 : decide (false = (decide (a1 ≤ 10000))) = true := by simpa using c105))
                      (try (have c105b2 : (false == (decide (a1 ≤ 10000))) = true := by simpa using c105))
                      clear c105
                      rcases t439 with _ | q446
                      ·have H1 : (if (true == (decide (a2 ≤ 262144))) = true then (if (t438.length : Int) = (mn a2 1) then ((dolmenlaw29_awake.f).bind fun t447 => (some t447)) else (some false)) else (some false)) = some r := by rw [if_pos (show (none : Option Int).isNone = true by rfl)] at H; exact H
                       clear H
                       have H := H1
                       clear H1
                       try simp only [errW_none, errW_some]
                       by_cases c106 : (true == (decide (a2 ≤ 262144))) = true
                       ·rw [if_pos c106] at H
                        have c106b0 : (true == (decide (a2 ≤ 262144))) = true := c106
                        (try (have c106b1 : decide (true = (decide (a2 ≤ 262144))) = true := by simpa using c106))
                        (try (have c106b2 : (true == (decide (a2 ≤ 262144))) = true := by simpa using c106))
                        clear c106
                        try clear hji58w
                        try clear hji58
                        obtain ⟨ji107, hji107⟩ : ∃ j_ : Int, (mn a2 1) = j_ := ⟨_, rfl⟩
                        replace H : (if (t438.length : Int) = (ji107) then ((dolmenlaw29_awake.f).bind fun t447 => (some t447)) else (some false)) = some r := by first | (rw [hji107] at H; exact H) | (simp only [hji107] at H ⊢; exact H)
                        (try rw [hji107] at A53)
                        (try rw [hji107] at A54)
                        have hji107_ : (if 1 < a2 then 1 else a2) = ji107 := hji107
                        by_cases c108 : (t438.length : Int) = (ji107)
                        ·rw [if_pos c108] at H
                         have c108b0 : ((t438.length : Int) == (ji107)) = true := beq_iff_eq.mpr c108
                         have c108b1 : ((t438.length : Int) != (ji107)) = false := bne_eq_false_iff_eq.mpr c108
                         clear c108
                         replace H := Option.bind_eq_some_iff.mp H
                         obtain ⟨t447, A1090, H⟩ := H
                         try dsimp only at H
                         have A109 := Aside0.mk A1090
                         clear A1090
                         obtain rfl := Option.some.inj H
                         have hcv110 := own_string (P := Tryz.prog) Tryz.underlying22 Tryz.underlying5 Tryz.underlying9 (Kd.own_of_R HO_12.out)
                         go_wp2_with (first | ((with_reducible refine gate_callee (f := 26) rfl ?_); refine goesL_ (some 113) rfl rfl Tryz.func26 (by kernel_rfl) rfl #[.string (strOfNums x12_4)] rfl (by (try simp only [List.map_toArray, List.map_cons, List.map_nil]); first | done | rfl | (simp only [List.length_drop, List.length_take]; rfl)) ?_; (with_reducible refine (script_Split.calls (strOfNums x12_4) t434 (some q442) _ A53.out).mono ?_); rintro e w111 ⟨v436, rfl, ho0, hb⟩; refine ⟨_, rfl, ?_⟩; have n0_ := Aside0.mk (Kd.R_below (by (with_reducible repeat first | apply r1 | apply r2 | apply r3); exact HO_12.out) hb); have n1_ := Aside0.mk (Kd.R_below (by (with_reducible repeat first | apply r1 | apply r2 | apply r3); exact HO_14.out) hb); have n2_ := Aside0.mk (Kd.R_lower ho0 (below_size (by repeat (first | (with_reducible first | exact HB.out | apply s1 | apply s2 | apply s3) | exact HB.out)))); have n3_ := Aside0.mk (below_step (by repeat (first | (with_reducible first | exact HB.out | apply s1 | apply s2 | apply s3) | exact HB.out)) hb); clear HO_12; clear HO_14; clear HB; have HO_12 := n0_; have HO_14 := n1_; have HO437 := n2_; have HB := n3_; clear n0_ n1_ n2_ n3_; (try clear hb); (try clear hb2); (try clear hk); (try clear hi); (try clear ho0); (try simp only [errW_none, errW_some]); have hcv112 := own_string (P := Tryz.prog) Tryz.underlying22 Tryz.underlying5 Tryz.underlying9 (Kd.own_of_R HO_14.out)) | ((with_reducible refine gate_callee (f := 26) rfl ?_); refine goesL_ (some 119) rfl rfl Tryz.func26 (by kernel_rfl) rfl #[.string (strOfNums x14_5)] rfl (by (try simp only [List.map_toArray, List.map_cons, List.map_nil]); first | done | rfl | (simp only [List.length_drop, List.length_take]; rfl)) ?_; (with_reducible refine (script_Split.calls (strOfNums x14_5) t438 none _ A54.out).mono ?_); rintro e w113 ⟨v440, rfl, ho0, hb⟩; refine ⟨_, rfl, ?_⟩; have n0_ := Aside0.mk (Kd.R_below (by (with_reducible repeat first | apply r1 | apply r2 | apply r3); exact HO_12.out) hb); have n1_ := Aside0.mk (Kd.R_below (by (with_reducible repeat first | apply r1 | apply r2 | apply r3); exact HO_14.out) hb); have n2_ := Aside0.mk (Kd.R_elder' (by (with_reducible repeat first | apply r1 | apply r2 | apply r3); exact HO437.out) (Kd.R_base ho0) hb); have n3_ := Aside0.mk (Kd.R_lower (Kd.R_new' ho0 (Kd.R_lt (by (with_reducible repeat first | apply r1 | apply r2 | apply r3); exact HO437.out))) (below_size (by repeat (first | (with_reducible first | exact HB.out | apply s1 | apply s2 | apply s3) | exact HB.out)))); have n4_ := Aside0.mk (below_step (by repeat (first | (with_reducible first | exact HB.out | apply s1 | apply s2 | apply s3) | exact HB.out)) hb); clear HO_12; clear HO_14; clear HO437; clear HB; have HO_12 := n0_; have HO_14 := n1_; have HO437 := n2_; have HO441 := n3_; have HB := n4_; clear n0_ n1_ n2_ n3_ n4_; (try clear hb); (try clear hb2); (try clear hk); (try clear hi); (try clear ho0); (try simp only [errW_none, errW_some]); obtain ⟨Ao114, co114, eo114⟩ := Kd.R_slice HO441.out; subst eo114) | (go_at_call 21; (with_reducible refine (dolmenlaw29_awake.calls  t447 _ A109.out ?hT_).mono ?_); (case hT_ => exact Tabs.after HT.out (by repeat (first | (with_reducible first | exact HB.out | apply s1 | apply s2 | apply s3) | exact HB.out))); rintro e w115 ⟨rfl, hb⟩; have n0_ := Aside0.mk (Kd.R_below (by (with_reducible repeat first | apply r1 | apply r2 | apply r3); exact HO_12.out) hb); have n1_ := Aside0.mk (Kd.R_below (by (with_reducible repeat first | apply r1 | apply r2 | apply r3); exact HO_14.out) hb); have n2_ := Aside0.mk (Kd.R_below (by (with_reducible repeat first | apply r1 | apply r2 | apply r3); exact HO437.out) hb); have n3_ := Aside0.mk (Kd.R_below (by (with_reducible repeat first | apply r1 | apply r2 | apply r3); exact HO441.out) hb); have n4_ := Aside0.mk (below_step (by repeat (first | (with_reducible first | exact HB.out | apply s1 | apply s2 | apply s3) | exact HB.out)) hb); clear HO_12; clear HO_14; clear HO437; clear HO441; clear HB; have HO_12 := n0_; have HO_14 := n1_; have HO437 := n2_; have HO441 := n3_; have HB := n4_; clear n0_ n1_ n2_ n3_ n4_; (try clear hb); (try clear hb2); (try clear hk); (try clear hi)))
                         go_ret
                         exact ⟨by first | rfl | (simp [errW_none, errW_some] <;> rfl) | (simp only [← hji107]; first | rfl | (simp [errW_none, errW_some] <;> rfl)) | (simp [*, errW_none, errW_some] <;> rfl), by repeat (first | (with_reducible first | exact HB.out | apply s1 | apply s2 | apply s3) | exact HB.out)⟩
                        ·rw [if_neg c108] at H
                         have c108b0 : ((t438.length : Int) == (ji107)) = false := beq_eq_false_iff_ne.mpr c108
                         have c108b1 : ((t438.length : Int) != (ji107)) = true := bne_iff_ne.mpr c108
                         exact absurd (Option.some.inj H) (by rw [hr_]; decide)
                       ·rw [if_neg c106] at H
                        have c106b0 : (true == (decide (a2 ≤ 262144))) = false := by simpa using c106
                        (try (have c106b1 : decide (true = (decide (a2 ≤ 262144))) = false := by simpa using c106))
                        (try (have c106b2 : (true == (decide (a2 ≤ 262144))) = false := by simpa using c106))
                        (try (have c106b3 : ¬ (true = (decide (a2 ≤ 262144))) := by simpa using c106))
                        clear c106
                        exact absurd (Option.some.inj H) (by rw [hr_]; decide)
                      ·have H1 : (if (false == (decide (a2 ≤ 262144))) = true then ((dolmenlaw29_awake.f).bind fun t448 => (some t448)) else (some false)) = some r := by rw [if_neg (show ¬ (some q446).isNone = true by simp)] at H; exact H
                       clear H
                       have H := H1
                       clear H1
                       try simp only [errW_none, errW_some]
                       by_cases c125 : (false == (decide (a2 ≤ 262144))) = true
                       ·rw [if_pos c125] at H
                        have c125b0 : (false == (decide (a2 ≤ 262144))) = true := c125
                        (try (have c125b1 : decide (false = (decide (a2 ≤ 262144))) = true := by simpa using c125))
                        (try (have c125b2 : (false == (decide (a2 ≤ 262144))) = true := by simpa using c125))
                        clear c125
                        replace H := Option.bind_eq_some_iff.mp H
                        obtain ⟨t448, A1260, H⟩ := H
                        try dsimp only at H
                        have A126 := Aside0.mk A1260
                        clear A1260
                        obtain rfl := Option.some.inj H
                        have hcv127 := own_string (P := Tryz.prog) Tryz.underlying22 Tryz.underlying5 Tryz.underlying9 (Kd.own_of_R HO_12.out)
                        go_wp2_with (first | ((with_reducible refine gate_callee (f := 26) rfl ?_); refine goesL_ (some 113) rfl rfl Tryz.func26 (by kernel_rfl) rfl #[.string (strOfNums x12_4)] rfl (by (try simp only [List.map_toArray, List.map_cons, List.map_nil]); first | done | rfl | (simp only [List.length_drop, List.length_take]; rfl)) ?_; (with_reducible refine (script_Split.calls (strOfNums x12_4) t434 (some q442) _ A53.out).mono ?_); rintro e w128 ⟨v436, rfl, ho0, hb⟩; refine ⟨_, rfl, ?_⟩; have n0_ := Aside0.mk (Kd.R_below (by (with_reducible repeat first | apply r1 | apply r2 | apply r3); exact HO_12.out) hb); have n1_ := Aside0.mk (Kd.R_below (by (with_reducible repeat first | apply r1 | apply r2 | apply r3); exact HO_14.out) hb); have n2_ := Aside0.mk (Kd.R_lower ho0 (below_size (by repeat (first | (with_reducible first | exact HB.out | apply s1 | apply s2 | apply s3) | exact HB.out)))); have n3_ := Aside0.mk (below_step (by repeat (first | (with_reducible first | exact HB.out | apply s1 | apply s2 | apply s3) | exact HB.out)) hb); clear HO_12; clear HO_14; clear HB; have HO_12 := n0_; have HO_14 := n1_; have HO437 := n2_; have HB := n3_; clear n0_ n1_ n2_ n3_; (try clear hb); (try clear hb2); (try clear hk); (try clear hi); (try clear ho0); (try simp only [errW_none, errW_some]); have hcv129 := own_string (P := Tryz.prog) Tryz.underlying22 Tryz.underlying5 Tryz.underlying9 (Kd.own_of_R HO_14.out)) | ((with_reducible refine gate_callee (f := 26) rfl ?_); refine goesL_ (some 119) rfl rfl Tryz.func26 (by kernel_rfl) rfl #[.string (strOfNums x14_5)] rfl (by (try simp only [List.map_toArray, List.map_cons, List.map_nil]); first | done | rfl | (simp only [List.length_drop, List.length_take]; rfl)) ?_; (with_reducible refine (script_Split.calls (strOfNums x14_5) t438 (some q446) _ A54.out).mono ?_); rintro e w130 ⟨v440, rfl, ho0, hb⟩; refine ⟨_, rfl, ?_⟩; have n0_ := Aside0.mk (Kd.R_below (by (with_reducible repeat first | apply r1 | apply r2 | apply r3); exact HO_12.out) hb); have n1_ := Aside0.mk (Kd.R_below (by (with_reducible repeat first | apply r1 | apply r2 | apply r3); exact HO_14.out) hb); have n2_ := Aside0.mk (Kd.R_elder' (by (with_reducible repeat first | apply r1 | apply r2 | apply r3); exact HO437.out) (Kd.R_base ho0) hb); have n3_ := Aside0.mk (Kd.R_lower (Kd.R_new' ho0 (Kd.R_lt (by (with_reducible repeat first | apply r1 | apply r2 | apply r3); exact HO437.out))) (below_size (by repeat (first | (with_reducible first | exact HB.out | apply s1 | apply s2 | apply s3) | exact HB.out)))); have n4_ := Aside0.mk (below_step (by repeat (first | (with_reducible first | exact HB.out | apply s1 | apply s2 | apply s3) | exact HB.out)) hb); clear HO_12; clear HO_14; clear HO437; clear HB; have HO_12 := n0_; have HO_14 := n1_; have HO437 := n2_; have HO441 := n3_; have HB := n4_; clear n0_ n1_ n2_ n3_ n4_; (try clear hb); (try clear hb2); (try clear hk); (try clear hi); (try clear ho0); (try simp only [errW_none, errW_some])) | (go_at_call 21; (with_reducible refine (dolmenlaw29_awake.calls  t448 _ A126.out ?hT_).mono ?_); (case hT_ => exact Tabs.after HT.out (by repeat (first | (with_reducible first | exact HB.out | apply s1 | apply s2 | apply s3) | exact HB.out))); rintro e w131 ⟨rfl, hb⟩; have n0_ := Aside0.mk (Kd.R_below (by (with_reducible repeat first | apply r1 | apply r2 | apply r3); exact HO_12.out) hb); have n1_ := Aside0.mk (Kd.R_below (by (with_reducible repeat first | apply r1 | apply r2 | apply r3); exact HO_14.out) hb); have n2_ := Aside0.mk (Kd.R_below (by (with_reducible repeat first | apply r1 | apply r2 | apply r3); exact HO437.out) hb); have n3_ := Aside0.mk (Kd.R_below (by (with_reducible repeat first | apply r1 | apply r2 | apply r3); exact HO441.out) hb); have n4_ := Aside0.mk (below_step (by repeat (first | (with_reducible first | exact HB.out | apply s1 | apply s2 | apply s3) | exact HB.out)) hb); clear HO_12; clear HO_14; clear HO437; clear HO441; clear HB; have HO_12 := n0_; have HO_14 := n1_; have HO437 := n2_; have HO441 := n3_; have HB := n4_; clear n0_ n1_ n2_ n3_ n4_; (try clear hb); (try clear hb2); (try clear hk); (try clear hi)))
                        go_ret
                        exact ⟨by first | rfl | (simp [errW_none, errW_some] <;> rfl) | (simp [*, errW_none, errW_some] <;> rfl), by repeat (first | (with_reducible first | exact HB.out | apply s1 | apply s2 | apply s3) | exact HB.out)⟩
                       ·rw [if_neg c125] at H
                        have c125b0 : (false == (decide (a2 ≤ 262144))) = false := by simpa using c125
                        (try (have c125b1 : decide (false = (decide (a2 ≤ 262144))) = false := by simpa using c125))
                        (try (have c125b2 : (false == (decide (a2 ≤ 262144))) = false := by simpa using c125))
                        (try (have c125b3 : ¬ (false = (decide (a2 ≤ 262144))) := by simpa using c125))
                        clear c125
                        exact absurd (Option.some.inj H) (by rw [hr_]; decide)
                     ·rw [if_neg c105] at H
                      have c105b0 : (false == (decide (a1 ≤ 10000))) = false := by simpa using c105
                      (try (have c105b1 : decide (false = (decide (a1 ≤ 10000))) = false := by simpa using c105))
                      (try (have c105b2 : (false == (decide (a1 ≤ 10000))) = false := by simpa using c105))
                      (try (have c105b3 : ¬ (false = (decide (a1 ≤ 10000))) := by simpa using c105))
                      clear c105
                      exact absurd (Option.some.inj H) (by rw [hr_]; decide)
                ·rw [if_neg c44] at H
                 exact absurd H (by simp)
               ·rw [if_neg c43] at H
                exact absurd H (by simp)
           ·rw [if_neg c34] at H
            exact absurd H (by simp)
          ·rw [if_neg c33] at H
           exact absurd H (by simp)

end Go.Proofs.YtcbmbjapcpbnnaaGreatDoor.G
