-- WRITTEN BY a program of this session (wip/gprint.py) out of the translation
import Derived.Test.YtcbmbjapcpbnnaaGreatDoorTabs
import Derived.Test.YtcbmbjapcpbnnaaGreatDoorG0
import Derived.Test.YtcbmbjapcpbnnaaGreatDoorG18
import Derived.Test.YtcbmbjapcpbnnaaGreatDoorGvAwake29
import Derived.Test.YtcbmbjapcpbnnaaGreatDoorGvScript
namespace Go.Proofs.YtcbmbjapcpbnnaaGreatDoor.G
open Go.RowKit Go.Proofs.YtcbmbjapcpbnnaaGreatDoorW.PrintWords Go.Proofs.YtcbmbjapcpbnnaaGreatDoorW.PrintLast Go.Proofs.YtcbmbjapcpbnnaaGreatDoorW.PrintMore
attribute [local go_sem] max2_int min2_int max_two min_two max_three min_three max_four min_four   -- for this text's walks alone
set_option linter.unusedVariables false
set_option linter.unusedSimpArgs false

/-! ### dolmenref5_Ints: function 27 -/
def dolmenref5_Ints.l0 : Nat → List Int → List Int → Int → Option (Bool)
  | 0, _, _, _ => none
  | k + 1, x0, x1, x5 => if x5 < (x0.length : Int) then (if 0 ≤ x5 then (if x5 < (x1.length : Int) then (if (rd x0 x5) = (rd x1 x5) then (dolmenref5_Ints.l0 k x0 x1 (wrap64 (x5 + 1))) else (some false)) else (none)) else (none)) else (some true)
def dolmenref5_Ints.f (k : Nat) (l0 : List Int) (l1 : List Int) : Option (Bool) := if (l0.length : Int) = (l1.length : Int) then (dolmenref5_Ints.l0 k l0 l1 0) else (some false)
theorem dolmenref5_Ints.mono_l : ∀ k, (∀ y0 y1 y2, LeO (dolmenref5_Ints.l0 k y0 y1 y2) (dolmenref5_Ints.l0 (k + 1) y0 y1 y2))
  | 0 => fun _ _ _ r h => by simp [dolmenref5_Ints.l0] at h
  | k + 1 => by
    have ih0 := dolmenref5_Ints.mono_l k
    · intro y0 y1 y2
      unfold dolmenref5_Ints.l0
      repeat' first
      | (with_reducible exact ih0 _ _ _)
      | (with_reducible exact LeO.refl _)
      | (with_reducible exact LeO.none _)
      | (with_reducible refine LeO.ite ?_ ?_)
      | (with_reducible refine LeO.bind ?_ (fun _ => ?_))
      | exact ih0 _ _ _
      | exact LeO.none _
      | refine LeO.ite ?_ ?_
      | refine LeO.bind ?_ (fun _ => ?_)
theorem dolmenref5_Ints.mono : ∀ a0 a1 k, LeO (dolmenref5_Ints.f k a0 a1) (dolmenref5_Ints.f (k + 1) a0 a1) := by
  intro a0 a1 k
  have ih0 := dolmenref5_Ints.mono_l k
  unfold dolmenref5_Ints.f
  repeat' first
      | (with_reducible exact ih0 _ _ _)
      | (with_reducible exact LeO.refl _)
      | (with_reducible exact LeO.none _)
      | (with_reducible refine LeO.ite ?_ ?_)
      | (with_reducible refine LeO.bind ?_ (fun _ => ?_))
      | exact ih0 _ _ _
      | exact LeO.none _
      | refine LeO.ite ?_ ?_
      | refine LeO.bind ?_ (fun _ => ?_)
set_option maxHeartbeats 8000000 in
set_option maxRecDepth 100000 in
theorem dolmenref5_Ints.calls (k : Nat) (A0 : Option Addr) (c0 : Nat) (l0 : List Int) (A1 : Option Addr) (c1 : Nat) (l1 : List Int) (r : Bool) (w : World) (hr0 : Kd.C (Kd.int .i64) w A0 l0.length l0) (hc0 : l0.length ≤ c0) (hr1 : Kd.C (Kd.int .i64) w A1 l1.length l1) (hc1 : l1.length ≤ c1) (h : dolmenref5_Ints.f k l0 l1 = some r) :
    Calls Tryz.prog 27 #[.slice A0 l0.length c0, .slice A1 l1.length c1] w fun e w' => e = .returned (.bool r) ∧ Drawn0 w w' := by
  have HR0 := Aside0.mk hr0
  have HC0 := Aside0.mk hc0
  clear hr0 hc0
  have HR1 := Aside0.mk hr1
  have HC1 := Aside0.mk hc1
  clear hr1 hc1
  have H : (if (l0.length : Int) = (l1.length : Int) then (dolmenref5_Ints.l0 k l0 l1 0) else (some false)) = some r := h
  clear h
  by_cases c3 : (l0.length : Int) = (l1.length : Int)
  · rw [if_pos c3] at H
    have c3b0 : ((l0.length : Int) == (l1.length : Int)) = true := beq_iff_eq.mpr c3
    have c3b1 : ((l0.length : Int) != (l1.length : Int)) = false := bne_eq_false_iff_eq.mpr c3
    have c3b2 : (l0.length == l1.length) = true := by first | simpa using c3 | (simp at c3 ⊢; omega)
    clear c3
    have H' := Aside0.mk H
    clear H
    go_enter Tryz.func27, Tryz.ntmps27
    go_wp2
    repeat (go_quiet (fail); try go_wp2)
    go_loopg [5] k (fun kq v5 w' => ∃ (x5_1 : Int), v5 = .int .i64 x5_1 ∧ Aside0 (dolmenref5_Ints.l0 kq l0 l1 x5_1 = some r) ∧ Aside0 (kq ≤ k) ∧ Drawn0 w w')
    case atStart => exact ⟨(0), (by first | rfl | (simp; done) | (simp [*]; done)), H', ⟨Nat.le_refl _⟩, by repeat (first | exact Drawn0.refl _ | apply Drawn0.step)⟩
    case round =>
      clear H'
      try clear c1
      try clear c2
      try clear p2
      try clear c3
      try clear c3b0
      try clear c3b1
      try clear c3b2
      obtain ⟨x5_1, rfl, HA, HK1, ⟨m1, rfl⟩⟩ := hrel
      cases gk with
      | zero => exact absurd HA.out (by simp [dolmenref5_Ints.l0])
      | succ k1 =>
        have H := HA.out
        clear HA
        simp only [dolmenref5_Ints.l0] at H
        by_cases c4 : x5_1 < (l0.length : Int)
        · rw [if_pos c4] at H
          have c4b0 : decide (x5_1 < (l0.length : Int)) = true := decide_eq_true c4
          clear c4
          by_cases c5 : 0 ≤ x5_1
          · rw [if_pos c5] at H
            have c5b0 : decide (0 ≤ x5_1) = true := decide_eq_true c5
            clear c5
            by_cases c6 : x5_1 < (l1.length : Int)
            · rw [if_pos c6] at H
              have c6b0 : decide (x5_1 < (l1.length : Int)) = true := decide_eq_true c6
              clear c6
              by_cases c7 : (rd l0 x5_1) = (rd l1 x5_1)
              · rw [if_pos c7] at H
                have c7b0 : ((rd l0 x5_1) == (rd l1 x5_1)) = true := beq_iff_eq.mpr c7
                have c7b1 : ((rd l0 x5_1) != (rd l1 x5_1)) = false := bne_eq_false_iff_eq.mpr c7
                clear c7
                have H' := Aside0.mk H
                clear H
                have p449 : 0 ≤ (x5_1 : Int) := of_decide_eq_true (by first | (with_reducible assumption) | assumption)
                have q449 : x5_1 < (l0.length : Int) := of_decide_eq_true (by first | (with_reducible assumption) | assumption)
                obtain ⟨ad449, e449, hx449_0⟩ := Kd.at_int HR0.out x5_1 p449 q449
                cases e449
                replace p449 := eq_true p449
                replace q449 := eq_true q449
                have p450 : 0 ≤ (x5_1 : Int) := of_decide_eq_true (by first | (with_reducible assumption) | assumption)
                have q450 : x5_1 < (l1.length : Int) := of_decide_eq_true (by first | (with_reducible assumption) | assumption)
                obtain ⟨ad450, e450, hx450_0⟩ := Kd.at_int HR1.out x5_1 p450 q450
                cases e450
                replace p450 := eq_true p450
                replace q450 := eq_true q450
                go_wp2
                repeat (go_quiet (fail); try go_wp2)
                go_roundg k1
                case measure => have := HK1.out; omega
                case rel => exact ⟨(wrap64 (x5_1 + 1)), (by first | rfl | (simp; done) | (simp [*]; done)), H', ⟨by have := HK1.out; omega⟩, by repeat (first | exact Drawn0.refl _ | apply Drawn0.step)⟩
              · rw [if_neg c7] at H
                have c7b0 : ((rd l0 x5_1) == (rd l1 x5_1)) = false := beq_eq_false_iff_ne.mpr c7
                have c7b1 : ((rd l0 x5_1) != (rd l1 x5_1)) = true := bne_iff_ne.mpr c7
                obtain rfl := Option.some.inj H
                have p449 : 0 ≤ (x5_1 : Int) := of_decide_eq_true (by first | (with_reducible assumption) | assumption)
                have q449 : x5_1 < (l0.length : Int) := of_decide_eq_true (by first | (with_reducible assumption) | assumption)
                obtain ⟨ad449, e449, hx449_0⟩ := Kd.at_int HR0.out x5_1 p449 q449
                cases e449
                replace p449 := eq_true p449
                replace q449 := eq_true q449
                have p450 : 0 ≤ (x5_1 : Int) := of_decide_eq_true (by first | (with_reducible assumption) | assumption)
                have q450 : x5_1 < (l1.length : Int) := of_decide_eq_true (by first | (with_reducible assumption) | assumption)
                obtain ⟨ad450, e450, hx450_0⟩ := Kd.at_int HR1.out x5_1 p450 q450
                cases e450
                replace p450 := eq_true p450
                replace q450 := eq_true q450
                go_wp2
                repeat (go_quiet (fail); try go_wp2)
                go_ret
                exact ⟨by first | rfl | (simp; done) | (simp [*]; done), by repeat (first | exact Drawn0.refl _ | apply Drawn0.step)⟩
            · rw [if_neg c6] at H
              exact absurd H (by simp)
          · rw [if_neg c5] at H
            exact absurd H (by simp)
        · rw [if_neg c4] at H
          have c4b0 : decide (x5_1 < (l0.length : Int)) = false := decide_eq_false c4
          clear c4
          obtain rfl := Option.some.inj H
          go_wp2
          repeat (go_quiet (fail); try go_wp2)
          go_ret
          exact ⟨by first | rfl | (simp; done) | (simp [*]; done), by repeat (first | exact Drawn0.refl _ | apply Drawn0.step)⟩
  · rw [if_neg c3] at H
    have c3b0 : ((l0.length : Int) == (l1.length : Int)) = false := beq_eq_false_iff_ne.mpr c3
    have c3b1 : ((l0.length : Int) != (l1.length : Int)) = true := bne_iff_ne.mpr c3
    have c3b2 : (l0.length == l1.length) = false := by first | simpa using c3 | (simp at c3 ⊢; omega)
    obtain rfl := Option.some.inj H
    go_enter Tryz.func27, Tryz.ntmps27
    go_wp2
    repeat (go_quiet (fail); try go_wp2)
    go_ret
    exact ⟨by first | rfl | (simp; done) | (simp [*]; done), by repeat (first | exact Drawn0.refl _ | apply Drawn0.step)⟩

/-! ### dolmenlaw29_ScriptCrash: function 7 -/
mutual
def dolmenlaw29_ScriptCrash.j0 : Nat → List Int → Int → Bool → Option (Bool)
  | 0, _, _, _ => none
  | k + 1, x0, x1, x21 => if x21 = true then ((dolmenlaw29_awake.f).bind fun t451 => (some t451)) else (dolmenlaw29_ScriptCrash.l0 k x0 x1 0)
def dolmenlaw29_ScriptCrash.l0 : Nat → List Int → Int → Int → Option (Bool)
  | 0, _, _, _ => none
  | k + 1, x0, x1, x5 => if x5 < (x0.length : Int) then (if 0 ≤ x5 then (if (rd x0 x5) < 0 then (dolmenlaw29_ScriptCrash.j2 k x0 x1 x5 true) else (dolmenlaw29_ScriptCrash.j2 k x0 x1 x5 (decide ((rd x0 x5) > 1099511627776)))) else (none)) else ((script_Text.f 5 0 0 0 (⟨#[]⟩ : ByteArray) (⟨#[]⟩ : ByteArray) 0 0 ([] : List Int) 0 x0).bind fun t456 => ((script_Parse.f k t456).bind fun bt457 => (if 0 ≤ x1 then (if (x1 : Int).toNat ≤ 35184372088832 then ((script_Text.f 5 0 0 0 (⟨#[]⟩ : ByteArray) (⟨#[]⟩ : ByteArray) 0 0 ([] : List Int) 0 (List.replicate (x1 : Int).toNat 0)).bind fun t477 => (if bt457.2.2.2.2.2.2.2.2.2.2.2.isNone = true then (if bt457.1 = 5 then ((dolmenref5_Ints.f k bt457.2.2.2.2.2.2.2.2.2.2.1 x0).bind fun t479 => (if t479 = true then (if (x0.length : Int) > 0 then (if ((t477.toList == ([] : List UInt8)) == (decide (x1 > 100))) = true then ((dolmenlaw29_awake.f).bind fun t480 => (some t480)) else (some false)) else (if t456.toList = ([99, 114, 97, 115, 104] : List UInt8) then (if ((t477.toList == ([] : List UInt8)) == (decide (x1 > 100))) = true then ((dolmenlaw29_awake.f).bind fun t481 => (some t481)) else (some false)) else (some false))) else (some false))) else (some false)) else (some false))) else (none)) else (none))))
def dolmenlaw29_ScriptCrash.j2 : Nat → List Int → Int → Int → Bool → Option (Bool)
  | 0, _, _, _, _ => none
  | k + 1, x0, x1, x5, x40 => if x40 = true then ((script_Text.f 5 0 0 0 (⟨#[]⟩ : ByteArray) (⟨#[]⟩ : ByteArray) 0 0 ([] : List Int) 0 x0).bind fun t454 => (if t454.toList = ([] : List UInt8) then ((dolmenlaw29_awake.f).bind fun t455 => (some t455)) else (some false))) else (dolmenlaw29_ScriptCrash.l0 k x0 x1 (wrap64 (x5 + 1)))
end
def dolmenlaw29_ScriptCrash.f (k : Nat) (l0 : List Int) (a1 : Int) : Option (Bool) := if (l0.length : Int) > 30 then (dolmenlaw29_ScriptCrash.j0 k l0 a1 true) else (if a1 < 0 then (dolmenlaw29_ScriptCrash.j0 k l0 a1 true) else (dolmenlaw29_ScriptCrash.j0 k l0 a1 (decide (a1 > 110))))
theorem dolmenlaw29_ScriptCrash.mono_l : ∀ k, (∀ y0 y1 y2, LeO (dolmenlaw29_ScriptCrash.j0 k y0 y1 y2) (dolmenlaw29_ScriptCrash.j0 (k + 1) y0 y1 y2)) ∧ (∀ y0 y1 y2, LeO (dolmenlaw29_ScriptCrash.l0 k y0 y1 y2) (dolmenlaw29_ScriptCrash.l0 (k + 1) y0 y1 y2)) ∧ (∀ y0 y1 y2 y3, LeO (dolmenlaw29_ScriptCrash.j2 k y0 y1 y2 y3) (dolmenlaw29_ScriptCrash.j2 (k + 1) y0 y1 y2 y3))
  | 0 => ⟨fun _ _ _ r h => by simp [dolmenlaw29_ScriptCrash.j0] at h, fun _ _ _ r h => by simp [dolmenlaw29_ScriptCrash.l0] at h, fun _ _ _ _ r h => by simp [dolmenlaw29_ScriptCrash.j2] at h⟩
  | k + 1 => by
    obtain ⟨ih0, ih1, ih2⟩ := dolmenlaw29_ScriptCrash.mono_l k
    refine ⟨?_, ?_, ?_⟩
    · intro y0 y1 y2
      unfold dolmenlaw29_ScriptCrash.j0
      repeat' first
      | (with_reducible exact ih0 _ _ _)
      | (with_reducible exact ih1 _ _ _)
      | (with_reducible exact ih2 _ _ _ _)
      | (with_reducible exact dolmenref5_Ints.mono _ _ _)
      | (with_reducible exact script_Parse.mono _ _)
      | (with_reducible exact LeO.refl _)
      | (with_reducible exact LeO.none _)
      | (with_reducible refine LeO.ite ?_ ?_)
      | (with_reducible refine LeO.bind ?_ (fun _ => ?_))
      | exact ih0 _ _ _
      | exact ih1 _ _ _
      | exact ih2 _ _ _ _
      | exact dolmenref5_Ints.mono _ _ _
      | exact script_Parse.mono _ _
      | exact LeO.none _
      | refine LeO.ite ?_ ?_
      | refine LeO.bind ?_ (fun _ => ?_)
    · intro y0 y1 y2
      unfold dolmenlaw29_ScriptCrash.l0
      repeat' first
      | (with_reducible exact ih0 _ _ _)
      | (with_reducible exact ih1 _ _ _)
      | (with_reducible exact ih2 _ _ _ _)
      | (with_reducible exact dolmenref5_Ints.mono _ _ _)
      | (with_reducible exact script_Parse.mono _ _)
      | (with_reducible exact LeO.refl _)
      | (with_reducible exact LeO.none _)
      | (with_reducible refine LeO.ite ?_ ?_)
      | (with_reducible refine LeO.bind ?_ (fun _ => ?_))
      | exact ih0 _ _ _
      | exact ih1 _ _ _
      | exact ih2 _ _ _ _
      | exact dolmenref5_Ints.mono _ _ _
      | exact script_Parse.mono _ _
      | exact LeO.none _
      | refine LeO.ite ?_ ?_
      | refine LeO.bind ?_ (fun _ => ?_)
    · intro y0 y1 y2 y3
      unfold dolmenlaw29_ScriptCrash.j2
      repeat' first
      | (with_reducible exact ih0 _ _ _)
      | (with_reducible exact ih1 _ _ _)
      | (with_reducible exact ih2 _ _ _ _)
      | (with_reducible exact dolmenref5_Ints.mono _ _ _)
      | (with_reducible exact script_Parse.mono _ _)
      | (with_reducible exact LeO.refl _)
      | (with_reducible exact LeO.none _)
      | (with_reducible refine LeO.ite ?_ ?_)
      | (with_reducible refine LeO.bind ?_ (fun _ => ?_))
      | exact ih0 _ _ _
      | exact ih1 _ _ _
      | exact ih2 _ _ _ _
      | exact dolmenref5_Ints.mono _ _ _
      | exact script_Parse.mono _ _
      | exact LeO.none _
      | refine LeO.ite ?_ ?_
      | refine LeO.bind ?_ (fun _ => ?_)
theorem dolmenlaw29_ScriptCrash.mono : ∀ a0 a1 k, LeO (dolmenlaw29_ScriptCrash.f k a0 a1) (dolmenlaw29_ScriptCrash.f (k + 1) a0 a1) := by
  intro a0 a1 k
  obtain ⟨ih0, ih1, ih2⟩ := dolmenlaw29_ScriptCrash.mono_l k
  unfold dolmenlaw29_ScriptCrash.f
  repeat' first
      | (with_reducible exact ih0 _ _ _)
      | (with_reducible exact ih1 _ _ _)
      | (with_reducible exact ih2 _ _ _ _)
      | (with_reducible exact dolmenref5_Ints.mono _ _ _)
      | (with_reducible exact script_Parse.mono _ _)
      | (with_reducible exact LeO.refl _)
      | (with_reducible exact LeO.none _)
      | (with_reducible refine LeO.ite ?_ ?_)
      | (with_reducible refine LeO.bind ?_ (fun _ => ?_))
      | exact ih0 _ _ _
      | exact ih1 _ _ _
      | exact ih2 _ _ _ _
      | exact dolmenref5_Ints.mono _ _ _
      | exact script_Parse.mono _ _
      | exact LeO.none _
      | refine LeO.ite ?_ ?_
      | refine LeO.bind ?_ (fun _ => ?_)
set_option maxHeartbeats 8000000 in
set_option maxRecDepth 100000 in
theorem dolmenlaw29_ScriptCrash.calls (k : Nat) (A0 : Option Addr) (c0 : Nat) (l0 : List Int) (a1 : Int) (r : Bool) (w : World) (hr0 : Kd.C (Kd.int .i64) w A0 l0.length l0) (hc0 : l0.length ≤ c0) (h : dolmenlaw29_ScriptCrash.f k l0 a1 = some r) (hr_ : r = true) (hT : Tabs w) :
    Calls Tryz.prog 7 #[.slice A0 l0.length c0, .int .i64 a1] w fun e w' => e = .returned (.bool r) ∧ Below w.heap.size w w' := by
  have HT := Aside0.mk hT
  clear hT
  have hu52 := Tryz.underlying52
  have hu29 := Tryz.underlying29
  have hu42 := Tryz.underlying42
  have HR0 := Aside0.mk hr0
  have HC0 := Aside0.mk hc0
  clear hr0 hc0
  have HB := Aside0.mk (Below.refl w.heap.size w)
  have H : (if (l0.length : Int) > 30 then (dolmenlaw29_ScriptCrash.j0 k l0 a1 true) else (if a1 < 0 then (dolmenlaw29_ScriptCrash.j0 k l0 a1 true) else (dolmenlaw29_ScriptCrash.j0 k l0 a1 (decide (a1 > 110))))) = some r := h
  clear h
  have HC3 := Aside0.mk H
  clear H
  go_enter Tryz.func7, Tryz.ntmps7
  go_upto_region 1 with (fail)
  go_cut [21] (fun v21 wc => ∃ (kq : Nat) (x21_2 : Bool), v21 = .bool x21_2 ∧ Aside0 (dolmenlaw29_ScriptCrash.j0 kq l0 a1 x21_2 = some r) ∧ Aside0 (kq ≤ k) ∧ Aside0 (Below w.heap.size w wc))
  case first =>
    have H := HC3.out
    clear HC3
    by_cases c4 : (l0.length : Int) > 30
    · rw [if_pos c4] at H
      have c4b0 : decide (30 < (l0.length : Int)) = true := decide_eq_true c4
      have c4b1 : decide (30 < l0.length) = true := decide_eq_true (by omega)
      clear c4
      (first | rw [c4b0] | (simp only [i64_w, i32_w]; rw [c4b0]) | skip)
      have H' := Aside0.mk H
      clear H
      go_wp2
      go_meet
      case rel => exact ⟨_, (true), (by first | rfl | (simp; done) | (simp [*]; done)), H', ⟨by first | omega | exact Nat.le_refl _⟩, ⟨by repeat (first | (with_reducible first | exact HB.out | apply s1 | apply s2 | apply s3) | exact HB.out)⟩⟩
    · rw [if_neg c4] at H
      have c4b0 : decide (30 < (l0.length : Int)) = false := decide_eq_false c4
      have c4b1 : decide (30 < l0.length) = false := decide_eq_false (by omega)
      clear c4
      (first | rw [c4b0] | (simp only [i64_w, i32_w]; rw [c4b0]) | skip)
      by_cases c5 : a1 < 0
      · rw [if_pos c5] at H
        have c5b0 : decide (a1 < 0) = true := decide_eq_true c5
        clear c5
        have H' := Aside0.mk H
        clear H
        go_wp2
        go_meet
        case rel => exact ⟨_, (true), (by first | rfl | (simp; done) | (simp [*]; done)), H', ⟨by first | omega | exact Nat.le_refl _⟩, ⟨by repeat (first | (with_reducible first | exact HB.out | apply s1 | apply s2 | apply s3) | exact HB.out)⟩⟩
      · rw [if_neg c5] at H
        have c5b0 : decide (a1 < 0) = false := decide_eq_false c5
        clear c5
        have H' := Aside0.mk H
        clear H
        go_wp2
        go_meet
        case rel => exact ⟨_, (decide (a1 > 110)), (by first | rfl | (simp; done) | (simp [*]; done)), H', ⟨by first | omega | exact Nat.le_refl _⟩, ⟨by repeat (first | (with_reducible first | exact HB.out | apply s1 | apply s2 | apply s3) | exact HB.out)⟩⟩
  case rest =>
    clear HC3
    try clear p2
    try clear c4
    try clear c4b0
    try clear c4b1
    try clear c5
    try clear c5b0
    obtain ⟨kq, x21_2, rfl, HA, HJ2, HB⟩ := hcut
    cases kq with
    | zero => exact absurd HA.out (by simp [dolmenlaw29_ScriptCrash.j0])
    | succ kj2 =>
      have H := HA.out
      clear HA
      simp only [dolmenlaw29_ScriptCrash.j0] at H
      by_cases c6 : x21_2 = true
      · subst c6
        have H1 : ((dolmenlaw29_awake.f).bind fun t451 => (some t451)) = some r := by rw [if_pos rfl] at H; exact H
        clear H
        have H := H1
        clear H1
        replace H := Option.bind_eq_some_iff.mp H
        obtain ⟨t451, A70, H⟩ := H
        replace H : (some t451) = some r := H
        have A7 := Aside0.mk A70
        clear A70
        obtain rfl := Option.some.inj H
        go_wp2_with (first | ((with_reducible refine gate_callee (f := 21) rfl ?_); refine goesL_ (some 22) rfl rfl Tryz.func21 (by kernel_rfl) rfl #[] rfl (by (try simp only [List.map_toArray, List.map_cons, List.map_nil]); first | done | rfl | (simp only [List.length_drop, List.length_take]; rfl)) ?_; (with_reducible refine (dolmenlaw29_awake.calls  t451 _ A7.out ?hT_).mono ?_); (case hT_ => exact Tabs.after HT.out (by repeat (first | (with_reducible first | exact HB.out | apply s1 | apply s2 | apply s3) | exact HB.out))); rintro e w8 ⟨rfl, hb⟩; refine ⟨_, rfl, ?_⟩; have n0_ := Aside0.mk (below_step (by repeat (first | (with_reducible first | exact HB.out | apply s1 | apply s2 | apply s3) | exact HB.out)) hb); clear HB; have HB := n0_; clear n0_; (try clear hb); (try clear hb2); (try clear hk); (try clear hi)))
        go_ret
        exact ⟨by first | rfl | (simp [errW_none, errW_some] <;> rfl) | (simp [*, errW_none, errW_some] <;> rfl), by repeat (first | (with_reducible first | exact HB.out | apply s1 | apply s2 | apply s3) | exact HB.out)⟩
      · replace c6 := Bool.eq_false_iff.mpr c6
        subst c6
        have H1 : (dolmenlaw29_ScriptCrash.l0 kj2 l0 a1 0) = some r := by rw [if_neg (show ¬ (false = true) by decide)] at H; exact H
        clear H
        have H := H1
        clear H1
        have H' := Aside0.mk H
        clear H
        go_wp2
        go_loopg [5] kj2 (fun kq v5 w' => ∃ (x5_2 : Int), v5 = .int .i64 x5_2 ∧ Aside0 (dolmenlaw29_ScriptCrash.l0 kq l0 a1 x5_2 = some r) ∧ Aside0 (kq ≤ kj2) ∧ Aside0 (Below w.heap.size w w'))
        case atStart => exact ⟨(0), (by first | rfl | (simp; done) | (simp [*]; done)), H', ⟨Nat.le_refl _⟩, ⟨by repeat (first | (with_reducible first | exact HB.out | apply s1 | apply s2 | apply s3) | exact HB.out)⟩⟩
        case round =>
          clear H'
          try clear c2
          try clear p2
          try clear c4
          try clear c4b0
          try clear c4b1
          try clear c5
          try clear c5b0
          try clear c6
          try clear c7
          try clear p2
          obtain ⟨x5_2, rfl, HA, HK2, HB⟩ := hrel
          cases gk with
          | zero => exact absurd HA.out (by simp [dolmenlaw29_ScriptCrash.l0])
          | succ k2 =>
            have H := HA.out
            clear HA
            simp only [dolmenlaw29_ScriptCrash.l0] at H
            by_cases c9 : x5_2 < (l0.length : Int)
            · rw [if_pos c9] at H
              have c9b0 : decide (x5_2 < (l0.length : Int)) = true := decide_eq_true c9
              clear c9
              have HC10 := Aside0.mk H
              clear H
              go_upto_region 6 with (fail)
              go_cut [40] (fun v40 wc => ∃ (kq : Nat) (x40_9 : Bool), v40 = .bool x40_9 ∧ Aside0 (dolmenlaw29_ScriptCrash.j2 kq l0 a1 x5_2 x40_9 = some r) ∧ Aside0 (kq ≤ k2) ∧ Aside0 (Below w.heap.size w wc))
              case first =>
                have H := HC10.out
                clear HC10
                by_cases c11 : 0 ≤ x5_2
                · rw [if_pos c11] at H
                  have c11b0 : decide (0 ≤ x5_2) = true := decide_eq_true c11
                  clear c11
                  (first | rw [c11b0] | (simp only [i64_w, i32_w]; rw [c11b0]) | skip)
                  by_cases c12 : (rd l0 x5_2) < 0
                  · rw [if_pos c12] at H
                    have c12b0 : decide ((rd l0 x5_2) < 0) = true := decide_eq_true c12
                    clear c12
                    have H' := Aside0.mk H
                    clear H
                    have p452 : 0 ≤ (x5_2 : Int) := of_decide_eq_true (by first | (with_reducible assumption) | assumption)
                    have q452 : x5_2 < (l0.length : Int) := of_decide_eq_true (by first | (with_reducible assumption) | assumption)
                    obtain ⟨ad452, e452, hx452_0⟩ := Kd.at_int HR0.out x5_2 p452 q452
                    cases e452
                    replace hx452_0 := (HB.out.cell (World.block_lt_of_cell? w _ hx452_0)).trans hx452_0
                    replace p452 := eq_true p452
                    replace q452 := eq_true q452
                    go_wp2
                    go_meet
                    case rel => exact ⟨_, (true), (by first | rfl | (simp; done) | (simp [*]; done)), H', ⟨by have := HJ2.out; have := HK2.out; first | omega | exact Nat.le_refl _⟩, ⟨by repeat (first | (with_reducible first | exact HB.out | apply s1 | apply s2 | apply s3) | exact HB.out)⟩⟩
                  · rw [if_neg c12] at H
                    have c12b0 : decide ((rd l0 x5_2) < 0) = false := decide_eq_false c12
                    clear c12
                    have H' := Aside0.mk H
                    clear H
                    have p452 : 0 ≤ (x5_2 : Int) := of_decide_eq_true (by first | (with_reducible assumption) | assumption)
                    have q452 : x5_2 < (l0.length : Int) := of_decide_eq_true (by first | (with_reducible assumption) | assumption)
                    obtain ⟨ad452, e452, hx452_0⟩ := Kd.at_int HR0.out x5_2 p452 q452
                    cases e452
                    replace hx452_0 := (HB.out.cell (World.block_lt_of_cell? w _ hx452_0)).trans hx452_0
                    replace p452 := eq_true p452
                    replace q452 := eq_true q452
                    have p453 : 0 ≤ (x5_2 : Int) := of_decide_eq_true (by first | (with_reducible assumption) | assumption)
                    have q453 : x5_2 < (l0.length : Int) := of_decide_eq_true (by first | (with_reducible assumption) | assumption)
                    obtain ⟨ad453, e453, hx453_0⟩ := Kd.at_int HR0.out x5_2 p453 q453
                    obtain rfl : ad452 = ad453 := (by injection e453)
                    replace hx453_0 := (HB.out.cell (World.block_lt_of_cell? w _ hx453_0)).trans hx453_0
                    replace p453 := eq_true p453
                    replace q453 := eq_true q453
                    go_wp2
                    go_meet
                    case rel => exact ⟨_, (decide ((rd l0 x5_2) > 1099511627776)), (by first | rfl | (simp; done) | (simp [*]; done)), H', ⟨by have := HJ2.out; have := HK2.out; first | omega | exact Nat.le_refl _⟩, ⟨by repeat (first | (with_reducible first | exact HB.out | apply s1 | apply s2 | apply s3) | exact HB.out)⟩⟩
                · rw [if_neg c11] at H
                  exact absurd H (by simp)
              case rest =>
                clear HC10
                try clear c1
                try clear c2
                try clear p2
                try clear c4
                try clear c4b0
                try clear c4b1
                try clear p4
                try clear q4
                try clear hx4
                try clear c5
                try clear c5b0
                try clear c6
                try clear c7
                try clear c9
                try clear c9b0
                try clear c11
                try clear c11b0
                try clear c12
                try clear c12b0
                try clear hx452_0
                try clear hx453_0
                try clear p2
                try clear p452
                try clear p453
                try clear q452
                try clear q453
                obtain ⟨kq, x40_9, rfl, HA, HJ9, HB⟩ := hcut
                cases kq with
                | zero => exact absurd HA.out (by simp [dolmenlaw29_ScriptCrash.j2])
                | succ kj9 =>
                  have H := HA.out
                  clear HA
                  simp only [dolmenlaw29_ScriptCrash.j2] at H
                  by_cases c13 : x40_9 = true
                  · subst c13
                    have H1 : ((script_Text.f 5 0 0 0 (⟨#[]⟩ : ByteArray) (⟨#[]⟩ : ByteArray) 0 0 ([] : List Int) 0 l0).bind fun t454 => (if t454.toList = ([] : List UInt8) then ((dolmenlaw29_awake.f).bind fun t455 => (some t455)) else (some false))) = some r := by rw [if_pos rfl] at H; exact H
                    clear H
                    have H := H1
                    clear H1
                    replace H := Option.bind_eq_some_iff.mp H
                    obtain ⟨t454, A140, H⟩ := H
                    replace H : (if t454.toList = ([] : List UInt8) then ((dolmenlaw29_awake.f).bind fun t455 => (some t455)) else (some false)) = some r := H
                    have A14 := Aside0.mk A140
                    clear A140
                    by_cases c15 : t454.toList = ([] : List UInt8)
                    · rw [if_pos c15] at H
                      have c15b0 : (t454.toList == ([] : List UInt8)) = true := beq_iff_eq.mpr c15
                      have c15b1 : (t454.toList != ([] : List UInt8)) = false := bne_eq_false_iff_eq.mpr c15
                      clear c15
                      replace H := Option.bind_eq_some_iff.mp H
                      obtain ⟨t455, A160, H⟩ := H
                      replace H : (some t455) = some r := H
                      have A16 := Aside0.mk A160
                      clear A160
                      obtain rfl := Option.some.inj H
                      go_wp2_with (first | ((with_reducible refine gate_callee (f := 22) rfl ?_); refine goesL_ (some 43) rfl rfl Tryz.func22 (by kernel_rfl) rfl #[.agg #[.int .i64 5, .int .i64 0, .int .i64 0, .int .i64 0, .string ⟨#[]⟩, .string ⟨#[]⟩, .int .i64 0, .int .i64 0, .slice none 0 0, .int .i64 0, .slice A0 l0.length c0]] rfl (by (try simp only [List.map_toArray, List.map_cons, List.map_nil]); first | done | rfl | (simp only [List.length_drop, List.length_take]; rfl)) ?_; (refine (script_Text.calls 5 0 0 0 (⟨#[]⟩ : ByteArray) (⟨#[]⟩ : ByteArray) 0 0 _ _ ([] : List Int) 0 _ _ l0 t454 _ ?side1 ?side2 ?side3 ?side4 A14.out ?hT_).mono ?_); (case hT_ => exact Tabs.after HT.out (by repeat (first | (with_reducible first | exact HB.out | apply s1 | apply s2 | apply s3) | exact HB.out))); (case side1 => exact Kd.C_nil _ _); (case side2 => exact Nat.le_refl _); (case side3 => repeat (first | exact (Kd.C_below HR0.out HB.out) | (with_reducible refine Kd.C_alloc ?_ _) | (with_reducible refine Kd.C_drewN ?_ _) | (with_reducible refine Kd.C_drew ?_))); (case side4 => exact HC0.out); rintro e w17 ⟨rfl, hb⟩; refine ⟨_, rfl, ?_⟩; have n0_ := Aside0.mk (below_step (by repeat (first | (with_reducible first | exact HB.out | apply s1 | apply s2 | apply s3) | exact HB.out)) hb); clear HB; have HB := n0_; clear n0_; (try clear hb); (try clear hb2); (try clear hk); (try clear hi)) | (go_at_call 21; (with_reducible refine (dolmenlaw29_awake.calls  t455 _ A16.out ?hT_).mono ?_); (case hT_ => exact Tabs.after HT.out (by repeat (first | (with_reducible first | exact HB.out | apply s1 | apply s2 | apply s3) | exact HB.out))); rintro e w18 ⟨rfl, hb⟩; have n0_ := Aside0.mk (below_step (by repeat (first | (with_reducible first | exact HB.out | apply s1 | apply s2 | apply s3) | exact HB.out)) hb); clear HB; have HB := n0_; clear n0_; (try clear hb); (try clear hb2); (try clear hk); (try clear hi)))
                      go_ret
                      exact ⟨by first | rfl | (simp [errW_none, errW_some] <;> rfl) | (simp [*, errW_none, errW_some] <;> rfl), by repeat (first | (with_reducible first | exact HB.out | apply s1 | apply s2 | apply s3) | exact HB.out)⟩
                    · rw [if_neg c15] at H
                      have c15b0 : (t454.toList == ([] : List UInt8)) = false := beq_eq_false_iff_ne.mpr c15
                      have c15b1 : (t454.toList != ([] : List UInt8)) = true := bne_iff_ne.mpr c15
                      exact absurd (Option.some.inj H) (by rw [hr_]; decide)
                  · replace c13 := Bool.eq_false_iff.mpr c13
                    subst c13
                    have H1 : (dolmenlaw29_ScriptCrash.l0 kj9 l0 a1 (wrap64 (x5_2 + 1))) = some r := by rw [if_neg (show ¬ (false = true) by decide)] at H; exact H
                    clear H
                    have H := H1
                    clear H1
                    have H' := Aside0.mk H
                    clear H
                    go_wp2
                    go_roundg kj9
                    case measure => have := HJ2.out; have := HK2.out; have := HJ9.out; omega
                    case rel => exact ⟨(wrap64 (x5_2 + 1)), (by first | rfl | (simp; done) | (simp [*]; done)), H', ⟨by have := HJ2.out; have := HK2.out; have := HJ9.out; omega⟩, ⟨by repeat (first | (with_reducible first | exact HB.out | apply s1 | apply s2 | apply s3) | exact HB.out)⟩⟩
            · rw [if_neg c9] at H
              have c9b0 : decide (x5_2 < (l0.length : Int)) = false := decide_eq_false c9
              clear c9
              replace H := Option.bind_eq_some_iff.mp H
              obtain ⟨t456, A200, H⟩ := H
              replace H : ((script_Parse.f k2 t456).bind fun bt457 => (if 0 ≤ a1 then (if (a1 : Int).toNat ≤ 35184372088832 then ((script_Text.f 5 0 0 0 (⟨#[]⟩ : ByteArray) (⟨#[]⟩ : ByteArray) 0 0 ([] : List Int) 0 (List.replicate (a1 : Int).toNat 0)).bind fun t477 => (if bt457.2.2.2.2.2.2.2.2.2.2.2.isNone = true then (if bt457.1 = 5 then ((dolmenref5_Ints.f k2 bt457.2.2.2.2.2.2.2.2.2.2.1 l0).bind fun t479 => (if t479 = true then (if (l0.length : Int) > 0 then (if ((t477.toList == ([] : List UInt8)) == (decide (a1 > 100))) = true then ((dolmenlaw29_awake.f).bind fun t480 => (some t480)) else (some false)) else (if t456.toList = ([99, 114, 97, 115, 104] : List UInt8) then (if ((t477.toList == ([] : List UInt8)) == (decide (a1 > 100))) = true then ((dolmenlaw29_awake.f).bind fun t481 => (some t481)) else (some false)) else (some false))) else (some false))) else (some false)) else (some false))) else (none)) else (none))) = some r := H
              have A20 := Aside0.mk A200
              clear A200
              replace H := Option.bind_eq_some_iff.mp H
              obtain ⟨⟨t457, t458, t459, t460, t461, t462, t463, t464, t465, t468, t469, t472⟩, A210, H⟩ := H
              replace H : (if 0 ≤ a1 then (if (a1 : Int).toNat ≤ 35184372088832 then ((script_Text.f 5 0 0 0 (⟨#[]⟩ : ByteArray) (⟨#[]⟩ : ByteArray) 0 0 ([] : List Int) 0 (List.replicate (a1 : Int).toNat 0)).bind fun t477 => (if t472.isNone = true then (if t457 = 5 then ((dolmenref5_Ints.f k2 t469 l0).bind fun t479 => (if t479 = true then (if (l0.length : Int) > 0 then (if ((t477.toList == ([] : List UInt8)) == (decide (a1 > 100))) = true then ((dolmenlaw29_awake.f).bind fun t480 => (some t480)) else (some false)) else (if t456.toList = ([99, 114, 97, 115, 104] : List UInt8) then (if ((t477.toList == ([] : List UInt8)) == (decide (a1 > 100))) = true then ((dolmenlaw29_awake.f).bind fun t481 => (some t481)) else (some false)) else (some false))) else (some false))) else (some false)) else (some false))) else (none)) else (none)) = some r := H
              have A21 := Aside0.mk A210
              clear A210
              by_cases c22 : 0 ≤ a1
              · rw [if_pos c22] at H
                have c22b0 := eq_true c22
                have c22b1 : decide (0 ≤ a1) = true := decide_eq_true c22
                clear c22
                by_cases c23 : (a1 : Int).toNat ≤ 35184372088832
                · rw [if_pos c23] at H
                  have c23b0 := eq_true c23
                  have c23b1 : decide ((a1 : Int).toNat ≤ 35184372088832) = true := decide_eq_true c23
                  clear c23
                  obtain ⟨y474, hy474⟩ : ∃ y_ : List Int, y_ = (List.replicate (a1 : Int).toNat 0) := ⟨_, rfl⟩
                  replace H : ((script_Text.f 5 0 0 0 (⟨#[]⟩ : ByteArray) (⟨#[]⟩ : ByteArray) 0 0 ([] : List Int) 0 y474).bind fun t477 => (if t472.isNone = true then (if t457 = 5 then ((dolmenref5_Ints.f k2 t469 l0).bind fun t479 => (if t479 = true then (if (l0.length : Int) > 0 then (if ((t477.toList == ([] : List UInt8)) == (decide (a1 > 100))) = true then ((dolmenlaw29_awake.f).bind fun t480 => (some t480)) else (some false)) else (if t456.toList = ([99, 114, 97, 115, 104] : List UInt8) then (if ((t477.toList == ([] : List UInt8)) == (decide (a1 > 100))) = true then ((dolmenlaw29_awake.f).bind fun t481 => (some t481)) else (some false)) else (some false))) else (some false))) else (some false)) else (some false))) = some r := by first | (rw [hy474]; with_reducible exact H) | (have H2_ := (Option.bind_some _ _).symm.trans H; rw [hy474]; with_reducible exact H2_) | (have H2_ := (Option.bind_some _ _).symm.trans H; with_reducible exact H2_) | with_reducible exact H | (rw [hy474]; exact H) | exact H
                  have Ny474 := Aside0.mk hy474
                  clear hy474
                  replace H := Option.bind_eq_some_iff.mp H
                  obtain ⟨t477, A240, H⟩ := H
                  replace H : (if t472.isNone = true then (if t457 = 5 then ((dolmenref5_Ints.f k2 t469 l0).bind fun t479 => (if t479 = true then (if (l0.length : Int) > 0 then (if ((t477.toList == ([] : List UInt8)) == (decide (a1 > 100))) = true then ((dolmenlaw29_awake.f).bind fun t480 => (some t480)) else (some false)) else (if t456.toList = ([99, 114, 97, 115, 104] : List UInt8) then (if ((t477.toList == ([] : List UInt8)) == (decide (a1 > 100))) = true then ((dolmenlaw29_awake.f).bind fun t481 => (some t481)) else (some false)) else (some false))) else (some false))) else (some false)) else (some false)) = some r := H
                  have A24 := Aside0.mk A240
                  clear A240
                  rcases t472 with _ | q478
                  · have H1 : (if t457 = 5 then ((dolmenref5_Ints.f k2 t469 l0).bind fun t479 => (if t479 = true then (if (l0.length : Int) > 0 then (if ((t477.toList == ([] : List UInt8)) == (decide (a1 > 100))) = true then ((dolmenlaw29_awake.f).bind fun t480 => (some t480)) else (some false)) else (if t456.toList = ([99, 114, 97, 115, 104] : List UInt8) then (if ((t477.toList == ([] : List UInt8)) == (decide (a1 > 100))) = true then ((dolmenlaw29_awake.f).bind fun t481 => (some t481)) else (some false)) else (some false))) else (some false))) else (some false)) = some r := by rw [if_pos (show (none : Option Int).isNone = true by rfl)] at H; exact H
                    clear H
                    have H := H1
                    clear H1
                    try simp only [errW_none, errW_some]
                    by_cases c25 : t457 = 5
                    · rw [if_pos c25] at H
                      have c25b0 : (t457 == 5) = true := beq_iff_eq.mpr c25
                      have c25b1 : (t457 != 5) = false := bne_eq_false_iff_eq.mpr c25
                      clear c25
                      replace H := Option.bind_eq_some_iff.mp H
                      obtain ⟨t479, A260, H⟩ := H
                      replace H : (if t479 = true then (if (l0.length : Int) > 0 then (if ((t477.toList == ([] : List UInt8)) == (decide (a1 > 100))) = true then ((dolmenlaw29_awake.f).bind fun t480 => (some t480)) else (some false)) else (if t456.toList = ([99, 114, 97, 115, 104] : List UInt8) then (if ((t477.toList == ([] : List UInt8)) == (decide (a1 > 100))) = true then ((dolmenlaw29_awake.f).bind fun t481 => (some t481)) else (some false)) else (some false))) else (some false)) = some r := H
                      have A26 := Aside0.mk A260
                      clear A260
                      by_cases c27 : t479 = true
                      · subst c27
                        have H1 : (if (l0.length : Int) > 0 then (if ((t477.toList == ([] : List UInt8)) == (decide (a1 > 100))) = true then ((dolmenlaw29_awake.f).bind fun t480 => (some t480)) else (some false)) else (if t456.toList = ([99, 114, 97, 115, 104] : List UInt8) then (if ((t477.toList == ([] : List UInt8)) == (decide (a1 > 100))) = true then ((dolmenlaw29_awake.f).bind fun t481 => (some t481)) else (some false)) else (some false))) = some r := by rw [if_pos rfl] at H; exact H
                        clear H
                        have H := H1
                        clear H1
                        by_cases c28 : (l0.length : Int) > 0
                        · rw [if_pos c28] at H
                          have c28b0 : decide (0 < (l0.length : Int)) = true := decide_eq_true c28
                          have c28b1 : decide (0 < l0.length) = true := decide_eq_true (by omega)
                          clear c28
                          by_cases c29 : ((t477.toList == ([] : List UInt8)) == (decide (a1 > 100))) = true
                          · rw [if_pos c29] at H
                            have c29b0 : ((t477.toList == ([] : List UInt8)) == (decide (a1 > 100))) = true := c29
                            (try (have c29b1 : decide ((t477.toList == ([] : List UInt8)) = (decide (a1 > 100))) = true := by simpa using c29))
                            (try (have c29b2 : ((t477.toList == ([] : List UInt8)) == (decide (a1 > 100))) = true := by simpa using c29))
                            (try (have c29b5 : t477.toList.isEmpty = decide (100 < a1) := by simpa using c29b1))
                            clear c29
                            replace H := Option.bind_eq_some_iff.mp H
                            obtain ⟨t480, A300, H⟩ := H
                            replace H : (some t480) = some r := H
                            have A30 := Aside0.mk A300
                            clear A300
                            obtain rfl := Option.some.inj H
                            go_wp2_with (first | ((with_reducible refine gate_callee (f := 22) rfl ?_); refine goesL_ (some 50) rfl rfl Tryz.func22 (by kernel_rfl) rfl #[.agg #[.int .i64 5, .int .i64 0, .int .i64 0, .int .i64 0, .string ⟨#[]⟩, .string ⟨#[]⟩, .int .i64 0, .int .i64 0, .slice none 0 0, .int .i64 0, .slice A0 l0.length c0]] rfl (by (try simp only [List.map_toArray, List.map_cons, List.map_nil]); first | done | rfl | (simp only [List.length_drop, List.length_take]; rfl)) ?_; (refine (script_Text.calls 5 0 0 0 (⟨#[]⟩ : ByteArray) (⟨#[]⟩ : ByteArray) 0 0 _ _ ([] : List Int) 0 _ _ l0 t456 _ ?side1 ?side2 ?side3 ?side4 A20.out ?hT_).mono ?_); (case hT_ => exact Tabs.after HT.out (by repeat (first | (with_reducible first | exact HB.out | apply s1 | apply s2 | apply s3) | exact HB.out))); (case side1 => exact Kd.C_nil _ _); (case side2 => exact Nat.le_refl _); (case side3 => repeat (first | exact (Kd.C_below HR0.out HB.out) | (with_reducible refine Kd.C_alloc ?_ _) | (with_reducible refine Kd.C_drewN ?_ _) | (with_reducible refine Kd.C_drew ?_))); (case side4 => exact HC0.out); rintro e w31 ⟨rfl, hb⟩; refine ⟨_, rfl, ?_⟩; have n0_ := Aside0.mk (below_step (by repeat (first | (with_reducible first | exact HB.out | apply s1 | apply s2 | apply s3) | exact HB.out)) hb); clear HB; have HB := n0_; clear n0_; (try clear hb); (try clear hb2); (try clear hk); (try clear hi)) | ((with_reducible refine gate_callee (f := 25) rfl ?_); refine goesL_ (some 53) rfl rfl Tryz.func25 (by kernel_rfl) rfl #[.string t456] rfl (by (try simp only [List.map_toArray, List.map_cons, List.map_nil]); first | done | rfl | (simp only [List.length_drop, List.length_take]; rfl)) ?_; (with_reducible refine (script_Parse.calls k2 t456 t457 t458 t459 t460 t461 t462 t463 t464 t465 t468 t469 none _ A21.out ?hT_).mono ?_); (case hT_ => exact Tabs.after HT.out (by repeat (first | (with_reducible first | exact HB.out | apply s1 | apply s2 | apply s3) | exact HB.out))); rintro e w32 ⟨v466, v470, rfl, ho0, ho1, hb⟩; refine ⟨_, rfl, ?_⟩; have n0_ := Aside0.mk (Kd.R_lower ho0 (below_size (by repeat (first | (with_reducible first | exact HB.out | apply s1 | apply s2 | apply s3) | exact HB.out)))); have n1_ := Aside0.mk (Kd.R_lower ho1 (below_size (by repeat (first | (with_reducible first | exact HB.out | apply s1 | apply s2 | apply s3) | exact HB.out)))); have n2_ := Aside0.mk (below_step (by repeat (first | (with_reducible first | exact HB.out | apply s1 | apply s2 | apply s3) | exact HB.out)) hb); clear HB; have HO467 := n0_; have HO471 := n1_; have HB := n2_; clear n0_ n1_ n2_; (try clear hb); (try clear hb2); (try clear hk); (try clear hi); (try clear ho0); (try clear ho1); (try simp only [errW_none, errW_some])) | ((with_reducible refine gate_dst (N := 7) rfl ?_); (try (refine gate_guard (by rfl) ?_; dsimp only)); refine box_event ?hg (N := 7) ?hd (cs := #[.int .i64 0, .int .i64 0, .int .i64 0, .int .i64 0, .string ⟨#[]⟩, .string ⟨#[]⟩, .int .i64 0, .int .i64 0, .slice none 0 0, .int .i64 0, .slice none 0 0]) (t := 52) ?hr ?_; (case hd => rfl); (case hg => rfl); (case hr => first | (go_simp; done) | (go_simp; rfl)); intro gb473 hg w33 hbox hb; have n0_ := Aside0.mk (Kd.R_below (by (with_reducible repeat first | apply r1 | apply r2 | apply r3); exact HO467.out) hb); have n1_ := Aside0.mk (Kd.R_below (by (with_reducible repeat first | apply r1 | apply r2 | apply r3); exact HO471.out) hb); have n2_ := Aside0.mk (below_step (by repeat (first | (with_reducible first | exact HB.out | apply s1 | apply s2 | apply s3) | exact HB.out)) hb); have n3_ := Aside0.mk (hbox); have n4_ := Aside0.mk ((by rw [hg]; exact (below_size (by repeat (first | (with_reducible first | exact HB.out | apply s1 | apply s2 | apply s3) | exact HB.out))) : w.heap.size ≤ gb473)); have n5_ := Aside0.mk ((by rw [hg]; exact (below_size (by repeat (first | (with_reducible first | exact HB.out | apply s1 | apply s2 | apply s3) | exact HB.out))) : w.heap.size ≤ gb473)); clear HO467; clear HO471; clear HB; have HO467 := n0_; have HO471 := n1_; have HB := n2_; have BK473 := n3_; have GW473 := n4_; have GE473 := n5_; clear n0_ n1_ n2_ n3_ n4_ n5_; clear hb hbox hg; have hcz34_0 : w33.cell? ⟨gb473, 0, none⟩ = some (.int .i64 0) := (blk_cell BK473.out 0).trans rfl; have hcz34_1 : w33.cell? ⟨gb473, 1, none⟩ = some (.int .i64 0) := (blk_cell BK473.out 1).trans rfl; have hcz34_2 : w33.cell? ⟨gb473, 2, none⟩ = some (.int .i64 0) := (blk_cell BK473.out 2).trans rfl; have hcz34_3 : w33.cell? ⟨gb473, 3, none⟩ = some (.int .i64 0) := (blk_cell BK473.out 3).trans rfl; have hcz34_4 : w33.cell? ⟨gb473, 4, none⟩ = some (.string ⟨#[]⟩) := (blk_cell BK473.out 4).trans rfl; have hcz34_5 : w33.cell? ⟨gb473, 5, none⟩ = some (.string ⟨#[]⟩) := (blk_cell BK473.out 5).trans rfl; have hcz34_6 : w33.cell? ⟨gb473, 6, none⟩ = some (.int .i64 0) := (blk_cell BK473.out 6).trans rfl; have hcz34_7 : w33.cell? ⟨gb473, 7, none⟩ = some (.int .i64 0) := (blk_cell BK473.out 7).trans rfl; have hcz34_8 : w33.cell? ⟨gb473, 8, none⟩ = some (.slice none 0 0) := (blk_cell BK473.out 8).trans rfl; have hcz34_9 : w33.cell? ⟨gb473, 9, none⟩ = some (.int .i64 0) := (blk_cell BK473.out 9).trans rfl; have hcz34_10 : w33.cell? ⟨gb473, 10, none⟩ = some (.slice none 0 0) := (blk_cell BK473.out 10).trans rfl; have hfz34_0 := blk_frozen BK473.out 0; have hfz34_1 := blk_frozen BK473.out 1; have hfz34_2 := blk_frozen BK473.out 2; have hfz34_3 := blk_frozen BK473.out 3; have hfz34_4 := blk_frozen BK473.out 4; have hfz34_5 := blk_frozen BK473.out 5; have hfz34_6 := blk_frozen BK473.out 6; have hfz34_7 := blk_frozen BK473.out 7; have hfz34_8 := blk_frozen BK473.out 8; have hfz34_9 := blk_frozen BK473.out 9; have hfz34_10 := blk_frozen BK473.out 10; obtain ⟨Ao35, co35, eo35⟩ := Kd.R_slice HO467.out; subst eo35; obtain ⟨Ao36, co36, eo36⟩ := Kd.R_slice HO471.out; subst eo36) | ((with_reducible refine gate_dst (N := 57) rfl ?_); (try (refine gate_guard (by rfl) ?_; dsimp only)); refine Kd.R_make (Kd.int .i64) _ 3 rfl (N := 57) rfl 39 _ _ rfl a1 rfl rfl Tryz.underlying39 (.int .i64 0) 8 info3 rfl (by decide) (by omega) 0 (ok := fun _ => True) (okp := fun _ => True) rfl (fun _ hk => hk) trivial (of_decide_eq_true (by first | (with_reducible assumption) | assumption)) (Nat.le_trans (Nat.mul_le_mul_right _ (of_decide_eq_true (by first | (with_reducible assumption) | assumption) : a1.toNat ≤ 35184372088832)) (by omega)) (Below.refl _ _) (Nat.le_refl _) ?_; intro v475 w37 ho38 hb hg_ hnew_; clear hg_ hnew_; (first | rw [← Ny474.out] at ho38 | (simp only [Int.reduceToNat] at ho38; rw [← Ny474.out] at ho38)); have n0_ := Aside0.mk (Kd.R_below (by (with_reducible repeat first | apply r1 | apply r2 | apply r3); exact (Kd.R_mono (Kd.R_far (p := ⟨gb473, 10, none⟩) (Kd.R_far (p := ⟨gb473, 9, none⟩) (Kd.R_far (p := ⟨gb473, 8, none⟩) (Kd.R_far (p := ⟨gb473, 7, none⟩) (Kd.R_far (p := ⟨gb473, 6, none⟩) (Kd.R_far (p := ⟨gb473, 5, none⟩) (Kd.R_far (p := ⟨gb473, 4, none⟩) (Kd.R_far (p := ⟨gb473, 3, none⟩) (Kd.R_far (p := ⟨gb473, 2, none⟩) (Kd.R_far (p := ⟨gb473, 1, none⟩) (Kd.R_far (p := ⟨gb473, 0, none⟩) (Kd.R_types HO467.out BK473.out (by decide)) (fun _ hk => hk.2) (.int .i64 t457)) (fun _ hk => hk.2) (.int .i64 t458)) (fun _ hk => hk.2) (.int .i64 t459)) (fun _ hk => hk.2) (.int .i64 t460)) (fun _ hk => hk.2) (.string t461)) (fun _ hk => hk.2) (.string t462)) (fun _ hk => hk.2) (.int .i64 t463)) (fun _ hk => hk.2) (.int .i64 t464)) (fun _ hk => hk.2) (.slice Ao35 t465.length co35)) (fun _ hk => hk.2) (.int .i64 t468)) (fun _ hk => hk.2) (.slice Ao36 t469.length co36)) (fun _ h_ => h_.1))) hb); have n1_ := Aside0.mk (Kd.R_elder' (by (with_reducible repeat first | apply r1 | apply r2 | apply r3); exact (Kd.R_mono (Kd.R_far (p := ⟨gb473, 10, none⟩) (Kd.R_far (p := ⟨gb473, 9, none⟩) (Kd.R_far (p := ⟨gb473, 8, none⟩) (Kd.R_far (p := ⟨gb473, 7, none⟩) (Kd.R_far (p := ⟨gb473, 6, none⟩) (Kd.R_far (p := ⟨gb473, 5, none⟩) (Kd.R_far (p := ⟨gb473, 4, none⟩) (Kd.R_far (p := ⟨gb473, 3, none⟩) (Kd.R_far (p := ⟨gb473, 2, none⟩) (Kd.R_far (p := ⟨gb473, 1, none⟩) (Kd.R_far (p := ⟨gb473, 0, none⟩) (Kd.R_types HO471.out BK473.out (by decide)) (fun _ hk => hk.2) (.int .i64 t457)) (fun _ hk => hk.2) (.int .i64 t458)) (fun _ hk => hk.2) (.int .i64 t459)) (fun _ hk => hk.2) (.int .i64 t460)) (fun _ hk => hk.2) (.string t461)) (fun _ hk => hk.2) (.string t462)) (fun _ hk => hk.2) (.int .i64 t463)) (fun _ hk => hk.2) (.int .i64 t464)) (fun _ hk => hk.2) (.slice Ao35 t465.length co35)) (fun _ hk => hk.2) (.int .i64 t468)) (fun _ hk => hk.2) (.slice Ao36 t469.length co36)) (fun _ h_ => h_.1))) (Kd.R_base ho38) hb); have n2_ := Aside0.mk (Kd.R_lower (Kd.R_new' ho38 (Kd.R_lt (by (with_reducible repeat first | apply r1 | apply r2 | apply r3); exact (Kd.R_mono (Kd.R_far (p := ⟨gb473, 10, none⟩) (Kd.R_far (p := ⟨gb473, 9, none⟩) (Kd.R_far (p := ⟨gb473, 8, none⟩) (Kd.R_far (p := ⟨gb473, 7, none⟩) (Kd.R_far (p := ⟨gb473, 6, none⟩) (Kd.R_far (p := ⟨gb473, 5, none⟩) (Kd.R_far (p := ⟨gb473, 4, none⟩) (Kd.R_far (p := ⟨gb473, 3, none⟩) (Kd.R_far (p := ⟨gb473, 2, none⟩) (Kd.R_far (p := ⟨gb473, 1, none⟩) (Kd.R_far (p := ⟨gb473, 0, none⟩) (Kd.R_types HO471.out BK473.out (by decide)) (fun _ hk => hk.2) (.int .i64 t457)) (fun _ hk => hk.2) (.int .i64 t458)) (fun _ hk => hk.2) (.int .i64 t459)) (fun _ hk => hk.2) (.int .i64 t460)) (fun _ hk => hk.2) (.string t461)) (fun _ hk => hk.2) (.string t462)) (fun _ hk => hk.2) (.int .i64 t463)) (fun _ hk => hk.2) (.int .i64 t464)) (fun _ hk => hk.2) (.slice Ao35 t465.length co35)) (fun _ hk => hk.2) (.int .i64 t468)) (fun _ hk => hk.2) (.slice Ao36 t469.length co36)) (fun _ h_ => h_.1))))) (below_size (by repeat (first | (with_reducible first | exact HB.out | apply s1 | apply s2 | apply s3 | refine s4 ?_ GE473.out) | exact HB.out)))); have n3_ := Aside0.mk (blk_below (g := gb473) (o := .cells #[.int .i64 t457, .int .i64 t458, .int .i64 t459, .int .i64 t460, .string t461, .string t462, .int .i64 t463, .int .i64 t464, .slice Ao35 t465.length co35, .int .i64 t468, .slice Ao36 t469.length co36] 52 (0, 0)) (by (with_reducible repeat first | apply q1 | apply q2 | apply q3); refine blk_put (cs := #[.int .i64 t457, .int .i64 t458, .int .i64 t459, .int .i64 t460, .string t461, .string t462, .int .i64 t463, .int .i64 t464, .slice Ao35 t465.length co35, .int .i64 t468, .slice none 0 0]) ?_ 10 _ rfl; (with_reducible repeat first | apply q1 | apply q2 | apply q3); refine blk_put (cs := #[.int .i64 t457, .int .i64 t458, .int .i64 t459, .int .i64 t460, .string t461, .string t462, .int .i64 t463, .int .i64 t464, .slice Ao35 t465.length co35, .int .i64 0, .slice none 0 0]) ?_ 9 _ rfl; (with_reducible repeat first | apply q1 | apply q2 | apply q3); refine blk_put (cs := #[.int .i64 t457, .int .i64 t458, .int .i64 t459, .int .i64 t460, .string t461, .string t462, .int .i64 t463, .int .i64 t464, .slice none 0 0, .int .i64 0, .slice none 0 0]) ?_ 8 _ rfl; (with_reducible repeat first | apply q1 | apply q2 | apply q3); refine blk_put (cs := #[.int .i64 t457, .int .i64 t458, .int .i64 t459, .int .i64 t460, .string t461, .string t462, .int .i64 t463, .int .i64 0, .slice none 0 0, .int .i64 0, .slice none 0 0]) ?_ 7 _ rfl; (with_reducible repeat first | apply q1 | apply q2 | apply q3); refine blk_put (cs := #[.int .i64 t457, .int .i64 t458, .int .i64 t459, .int .i64 t460, .string t461, .string t462, .int .i64 0, .int .i64 0, .slice none 0 0, .int .i64 0, .slice none 0 0]) ?_ 6 _ rfl; (with_reducible repeat first | apply q1 | apply q2 | apply q3); refine blk_put (cs := #[.int .i64 t457, .int .i64 t458, .int .i64 t459, .int .i64 t460, .string t461, .string ⟨#[]⟩, .int .i64 0, .int .i64 0, .slice none 0 0, .int .i64 0, .slice none 0 0]) ?_ 5 _ rfl; (with_reducible repeat first | apply q1 | apply q2 | apply q3); refine blk_put (cs := #[.int .i64 t457, .int .i64 t458, .int .i64 t459, .int .i64 t460, .string ⟨#[]⟩, .string ⟨#[]⟩, .int .i64 0, .int .i64 0, .slice none 0 0, .int .i64 0, .slice none 0 0]) ?_ 4 _ rfl; (with_reducible repeat first | apply q1 | apply q2 | apply q3); refine blk_put (cs := #[.int .i64 t457, .int .i64 t458, .int .i64 t459, .int .i64 0, .string ⟨#[]⟩, .string ⟨#[]⟩, .int .i64 0, .int .i64 0, .slice none 0 0, .int .i64 0, .slice none 0 0]) ?_ 3 _ rfl; (with_reducible repeat first | apply q1 | apply q2 | apply q3); refine blk_put (cs := #[.int .i64 t457, .int .i64 t458, .int .i64 0, .int .i64 0, .string ⟨#[]⟩, .string ⟨#[]⟩, .int .i64 0, .int .i64 0, .slice none 0 0, .int .i64 0, .slice none 0 0]) ?_ 2 _ rfl; (with_reducible repeat first | apply q1 | apply q2 | apply q3); refine blk_put (cs := #[.int .i64 t457, .int .i64 0, .int .i64 0, .int .i64 0, .string ⟨#[]⟩, .string ⟨#[]⟩, .int .i64 0, .int .i64 0, .slice none 0 0, .int .i64 0, .slice none 0 0]) ?_ 1 _ rfl; (with_reducible repeat first | apply q1 | apply q2 | apply q3); refine blk_put (cs := #[.int .i64 0, .int .i64 0, .int .i64 0, .int .i64 0, .string ⟨#[]⟩, .string ⟨#[]⟩, .int .i64 0, .int .i64 0, .slice none 0 0, .int .i64 0, .slice none 0 0]) ?_ 0 _ rfl; (with_reducible repeat first | apply q1 | apply q2 | apply q3); exact BK473.out) hb); have n4_ := Aside0.mk (below_step (by repeat (first | (with_reducible first | exact HB.out | apply s1 | apply s2 | apply s3 | refine s4 ?_ GE473.out) | exact HB.out)) hb); clear HO467; clear HO471; clear BK473; clear HB; have HO467 := n0_; have HO471 := n1_; have HO476 := n2_; have BK473 := n3_; have HB := n4_; clear n0_ n1_ n2_ n3_ n4_; clear hb ho38; obtain ⟨Ao39, co39, eo39⟩ := Kd.R_slice HO476.out; subst eo39) | ((with_reducible refine gate_callee (f := 22) rfl ?_); refine goesL_ (some 60) rfl rfl Tryz.func22 (by kernel_rfl) rfl #[.agg #[.int .i64 5, .int .i64 0, .int .i64 0, .int .i64 0, .string ⟨#[]⟩, .string ⟨#[]⟩, .int .i64 0, .int .i64 0, .slice none 0 0, .int .i64 0, .slice Ao39 y474.length co39]] rfl (by (try simp only [List.map_toArray, List.map_cons, List.map_nil]); first | done | rfl | (simp only [List.length_drop, List.length_take]; rfl)) ?_; (refine (script_Text.calls 5 0 0 0 (⟨#[]⟩ : ByteArray) (⟨#[]⟩ : ByteArray) 0 0 _ _ ([] : List Int) 0 _ _ y474 t477 _ ?side1 ?side2 ?side3 ?side4 A24.out ?hT_).mono ?_); (case hT_ => exact Tabs.after HT.out (by repeat (first | (with_reducible first | exact HB.out | apply s1 | apply s2 | apply s3 | refine s4 ?_ GE473.out) | exact HB.out))); (case side1 => exact Kd.C_nil _ _); (case side2 => exact Nat.le_refl _); (case side3 => repeat (first | exact (Kd.R_reads' HO476.out).2.2 | (with_reducible refine Kd.C_alloc ?_ _) | (with_reducible refine Kd.C_drewN ?_ _) | (with_reducible refine Kd.C_drew ?_))); (case side4 => exact (Kd.R_reads' HO476.out).2.1); rintro e w40 ⟨rfl, hb⟩; refine ⟨_, rfl, ?_⟩; have n0_ := Aside0.mk (Kd.R_below (by (with_reducible repeat first | apply r1 | apply r2 | apply r3); exact HO467.out) hb); have n1_ := Aside0.mk (Kd.R_below (by (with_reducible repeat first | apply r1 | apply r2 | apply r3); exact HO471.out) hb); have n2_ := Aside0.mk (Kd.R_below (by (with_reducible repeat first | apply r1 | apply r2 | apply r3); exact HO476.out) hb); have n3_ := Aside0.mk (blk_below (g := gb473) (o := .cells #[.int .i64 t457, .int .i64 t458, .int .i64 t459, .int .i64 t460, .string t461, .string t462, .int .i64 t463, .int .i64 t464, .slice Ao35 t465.length co35, .int .i64 t468, .slice Ao36 t469.length co36] 52 (0, 0)) (by (with_reducible repeat first | apply q1 | apply q2 | apply q3); exact BK473.out) hb); have n4_ := Aside0.mk (below_step (by repeat (first | (with_reducible first | exact HB.out | apply s1 | apply s2 | apply s3 | refine s4 ?_ GE473.out) | exact HB.out)) hb); clear HO467; clear HO471; clear HO476; clear BK473; clear HB; have HO467 := n0_; have HO471 := n1_; have HO476 := n2_; have BK473 := n3_; have HB := n4_; clear n0_ n1_ n2_ n3_ n4_; (try clear hb); (try clear hb2); (try clear hk); (try clear hi); have hcz41_0 : w40.cell? ⟨gb473, 0, none⟩ = some (.int .i64 t457) := (blk_cell BK473.out 0).trans rfl; have hcz41_1 : w40.cell? ⟨gb473, 1, none⟩ = some (.int .i64 t458) := (blk_cell BK473.out 1).trans rfl; have hcz41_2 : w40.cell? ⟨gb473, 2, none⟩ = some (.int .i64 t459) := (blk_cell BK473.out 2).trans rfl; have hcz41_3 : w40.cell? ⟨gb473, 3, none⟩ = some (.int .i64 t460) := (blk_cell BK473.out 3).trans rfl; have hcz41_4 : w40.cell? ⟨gb473, 4, none⟩ = some (.string t461) := (blk_cell BK473.out 4).trans rfl; have hcz41_5 : w40.cell? ⟨gb473, 5, none⟩ = some (.string t462) := (blk_cell BK473.out 5).trans rfl; have hcz41_6 : w40.cell? ⟨gb473, 6, none⟩ = some (.int .i64 t463) := (blk_cell BK473.out 6).trans rfl; have hcz41_7 : w40.cell? ⟨gb473, 7, none⟩ = some (.int .i64 t464) := (blk_cell BK473.out 7).trans rfl; have hcz41_8 : w40.cell? ⟨gb473, 8, none⟩ = some (.slice Ao35 t465.length co35) := (blk_cell BK473.out 8).trans rfl; have hcz41_9 : w40.cell? ⟨gb473, 9, none⟩ = some (.int .i64 t468) := (blk_cell BK473.out 9).trans rfl; have hcz41_10 : w40.cell? ⟨gb473, 10, none⟩ = some (.slice Ao36 t469.length co36) := (blk_cell BK473.out 10).trans rfl; have hfz41_0 := blk_frozen BK473.out 0; have hfz41_1 := blk_frozen BK473.out 1; have hfz41_2 := blk_frozen BK473.out 2; have hfz41_3 := blk_frozen BK473.out 3; have hfz41_4 := blk_frozen BK473.out 4; have hfz41_5 := blk_frozen BK473.out 5; have hfz41_6 := blk_frozen BK473.out 6; have hfz41_7 := blk_frozen BK473.out 7; have hfz41_8 := blk_frozen BK473.out 8; have hfz41_9 := blk_frozen BK473.out 9; have hfz41_10 := blk_frozen BK473.out 10) | (go_at_call 27; (with_reducible refine (dolmenref5_Ints.calls k2 _ _ t469 _ _ l0 true _ ?side1 ?side2 ?side3 ?side4 A26.out).mono ?_); (case side1 => repeat (first | exact (Kd.R_reads' HO471.out).2.2 | (with_reducible refine Kd.C_alloc ?_ _) | (with_reducible refine Kd.C_drewN ?_ _) | (with_reducible refine Kd.C_drew ?_))); (case side2 => exact (Kd.R_reads' HO471.out).2.1); (case side3 => repeat (first | exact (Kd.C_below HR0.out HB.out) | (with_reducible refine Kd.C_alloc ?_ _) | (with_reducible refine Kd.C_drewN ?_ _) | (with_reducible refine Kd.C_drew ?_))); (case side4 => exact HC0.out); rintro e w' ⟨rfl, ⟨nd, rfl⟩⟩) | (go_at_call 21; (with_reducible refine (dolmenlaw29_awake.calls  t480 _ A30.out ?hT_).mono ?_); (case hT_ => exact Tabs.after HT.out (by repeat (first | (with_reducible first | exact HB.out | apply s1 | apply s2 | apply s3 | refine s4 ?_ GE473.out) | exact HB.out))); rintro e w42 ⟨rfl, hb⟩; have n0_ := Aside0.mk (Kd.R_below (by (with_reducible repeat first | apply r1 | apply r2 | apply r3); exact HO467.out) hb); have n1_ := Aside0.mk (Kd.R_below (by (with_reducible repeat first | apply r1 | apply r2 | apply r3); exact HO471.out) hb); have n2_ := Aside0.mk (Kd.R_below (by (with_reducible repeat first | apply r1 | apply r2 | apply r3); exact HO476.out) hb); have n3_ := Aside0.mk (blk_below (g := gb473) (o := .cells #[.int .i64 t457, .int .i64 t458, .int .i64 t459, .int .i64 t460, .string t461, .string t462, .int .i64 t463, .int .i64 t464, .slice Ao35 t465.length co35, .int .i64 t468, .slice Ao36 t469.length co36] 52 (0, 0)) (by (with_reducible repeat first | apply q1 | apply q2 | apply q3); exact BK473.out) hb); have n4_ := Aside0.mk (below_step (by repeat (first | (with_reducible first | exact HB.out | apply s1 | apply s2 | apply s3 | refine s4 ?_ GE473.out) | exact HB.out)) hb); clear HO467; clear HO471; clear HO476; clear BK473; clear HB; have HO467 := n0_; have HO471 := n1_; have HO476 := n2_; have BK473 := n3_; have HB := n4_; clear n0_ n1_ n2_ n3_ n4_; (try clear hb); (try clear hb2); (try clear hk); (try clear hi)))
                            go_ret
                            exact ⟨by first | rfl | (simp [errW_none, errW_some] <;> rfl) | (simp [*, errW_none, errW_some] <;> rfl), by repeat (first | (with_reducible first | exact HB.out | apply s1 | apply s2 | apply s3 | refine s4 ?_ GE473.out) | exact HB.out)⟩
                          · rw [if_neg c29] at H
                            have c29b0 : ((t477.toList == ([] : List UInt8)) == (decide (a1 > 100))) = false := by simpa using c29
                            (try (have c29b1 : decide ((t477.toList == ([] : List UInt8)) = (decide (a1 > 100))) = false := by simpa using c29))
                            (try (have c29b2 : ((t477.toList == ([] : List UInt8)) == (decide (a1 > 100))) = false := by simpa using c29))
                            (try (have c29b3 : ¬ ((t477.toList == ([] : List UInt8)) = (decide (a1 > 100))) := by simpa using c29))
                            clear c29
                            exact absurd (Option.some.inj H) (by rw [hr_]; decide)
                        · rw [if_neg c28] at H
                          have c28b0 : decide (0 < (l0.length : Int)) = false := decide_eq_false c28
                          have c28b1 : decide (0 < l0.length) = false := decide_eq_false (by omega)
                          clear c28
                          by_cases c54 : t456.toList = ([99, 114, 97, 115, 104] : List UInt8)
                          · rw [if_pos c54] at H
                            have c54b0 : (t456.toList == ([99, 114, 97, 115, 104] : List UInt8)) = true := beq_iff_eq.mpr c54
                            have c54b1 : (t456.toList != ([99, 114, 97, 115, 104] : List UInt8)) = false := bne_eq_false_iff_eq.mpr c54
                            clear c54
                            by_cases c55 : ((t477.toList == ([] : List UInt8)) == (decide (a1 > 100))) = true
                            · rw [if_pos c55] at H
                              have c55b0 : ((t477.toList == ([] : List UInt8)) == (decide (a1 > 100))) = true := c55
                              (try (have c55b1 : decide ((t477.toList == ([] : List UInt8)) = (decide (a1 > 100))) = true := by simpa using c55))
                              (try (have c55b2 : ((t477.toList == ([] : List UInt8)) == (decide (a1 > 100))) = true := by simpa using c55))
                              (try (have c55b5 : t477.toList.isEmpty = decide (100 < a1) := by simpa using c55b1))
                              clear c55
                              replace H := Option.bind_eq_some_iff.mp H
                              obtain ⟨t481, A560, H⟩ := H
                              replace H : (some t481) = some r := H
                              have A56 := Aside0.mk A560
                              clear A560
                              obtain rfl := Option.some.inj H
                              go_wp2_with (first | ((with_reducible refine gate_callee (f := 22) rfl ?_); refine goesL_ (some 50) rfl rfl Tryz.func22 (by kernel_rfl) rfl #[.agg #[.int .i64 5, .int .i64 0, .int .i64 0, .int .i64 0, .string ⟨#[]⟩, .string ⟨#[]⟩, .int .i64 0, .int .i64 0, .slice none 0 0, .int .i64 0, .slice A0 l0.length c0]] rfl (by (try simp only [List.map_toArray, List.map_cons, List.map_nil]); first | done | rfl | (simp only [List.length_drop, List.length_take]; rfl)) ?_; (refine (script_Text.calls 5 0 0 0 (⟨#[]⟩ : ByteArray) (⟨#[]⟩ : ByteArray) 0 0 _ _ ([] : List Int) 0 _ _ l0 t456 _ ?side1 ?side2 ?side3 ?side4 A20.out ?hT_).mono ?_); (case hT_ => exact Tabs.after HT.out (by repeat (first | (with_reducible first | exact HB.out | apply s1 | apply s2 | apply s3) | exact HB.out))); (case side1 => exact Kd.C_nil _ _); (case side2 => exact Nat.le_refl _); (case side3 => repeat (first | exact (Kd.C_below HR0.out HB.out) | (with_reducible refine Kd.C_alloc ?_ _) | (with_reducible refine Kd.C_drewN ?_ _) | (with_reducible refine Kd.C_drew ?_))); (case side4 => exact HC0.out); rintro e w57 ⟨rfl, hb⟩; refine ⟨_, rfl, ?_⟩; have n0_ := Aside0.mk (below_step (by repeat (first | (with_reducible first | exact HB.out | apply s1 | apply s2 | apply s3) | exact HB.out)) hb); clear HB; have HB := n0_; clear n0_; (try clear hb); (try clear hb2); (try clear hk); (try clear hi)) | ((with_reducible refine gate_callee (f := 25) rfl ?_); refine goesL_ (some 53) rfl rfl Tryz.func25 (by kernel_rfl) rfl #[.string t456] rfl (by (try simp only [List.map_toArray, List.map_cons, List.map_nil]); first | done | rfl | (simp only [List.length_drop, List.length_take]; rfl)) ?_; (with_reducible refine (script_Parse.calls k2 t456 t457 t458 t459 t460 t461 t462 t463 t464 t465 t468 t469 none _ A21.out ?hT_).mono ?_); (case hT_ => exact Tabs.after HT.out (by repeat (first | (with_reducible first | exact HB.out | apply s1 | apply s2 | apply s3) | exact HB.out))); rintro e w58 ⟨v466, v470, rfl, ho0, ho1, hb⟩; refine ⟨_, rfl, ?_⟩; have n0_ := Aside0.mk (Kd.R_lower ho0 (below_size (by repeat (first | (with_reducible first | exact HB.out | apply s1 | apply s2 | apply s3) | exact HB.out)))); have n1_ := Aside0.mk (Kd.R_lower ho1 (below_size (by repeat (first | (with_reducible first | exact HB.out | apply s1 | apply s2 | apply s3) | exact HB.out)))); have n2_ := Aside0.mk (below_step (by repeat (first | (with_reducible first | exact HB.out | apply s1 | apply s2 | apply s3) | exact HB.out)) hb); clear HB; have HO467 := n0_; have HO471 := n1_; have HB := n2_; clear n0_ n1_ n2_; (try clear hb); (try clear hb2); (try clear hk); (try clear hi); (try clear ho0); (try clear ho1); (try simp only [errW_none, errW_some])) | ((with_reducible refine gate_dst (N := 7) rfl ?_); (try (refine gate_guard (by rfl) ?_; dsimp only)); refine box_event ?hg (N := 7) ?hd (cs := #[.int .i64 0, .int .i64 0, .int .i64 0, .int .i64 0, .string ⟨#[]⟩, .string ⟨#[]⟩, .int .i64 0, .int .i64 0, .slice none 0 0, .int .i64 0, .slice none 0 0]) (t := 52) ?hr ?_; (case hd => rfl); (case hg => rfl); (case hr => first | (go_simp; done) | (go_simp; rfl)); intro gb473 hg w59 hbox hb; have n0_ := Aside0.mk (Kd.R_below (by (with_reducible repeat first | apply r1 | apply r2 | apply r3); exact HO467.out) hb); have n1_ := Aside0.mk (Kd.R_below (by (with_reducible repeat first | apply r1 | apply r2 | apply r3); exact HO471.out) hb); have n2_ := Aside0.mk (below_step (by repeat (first | (with_reducible first | exact HB.out | apply s1 | apply s2 | apply s3) | exact HB.out)) hb); have n3_ := Aside0.mk (hbox); have n4_ := Aside0.mk ((by rw [hg]; exact (below_size (by repeat (first | (with_reducible first | exact HB.out | apply s1 | apply s2 | apply s3) | exact HB.out))) : w.heap.size ≤ gb473)); have n5_ := Aside0.mk ((by rw [hg]; exact (below_size (by repeat (first | (with_reducible first | exact HB.out | apply s1 | apply s2 | apply s3) | exact HB.out))) : w.heap.size ≤ gb473)); clear HO467; clear HO471; clear HB; have HO467 := n0_; have HO471 := n1_; have HB := n2_; have BK473 := n3_; have GW473 := n4_; have GE473 := n5_; clear n0_ n1_ n2_ n3_ n4_ n5_; clear hb hbox hg; have hcz60_0 : w59.cell? ⟨gb473, 0, none⟩ = some (.int .i64 0) := (blk_cell BK473.out 0).trans rfl; have hcz60_1 : w59.cell? ⟨gb473, 1, none⟩ = some (.int .i64 0) := (blk_cell BK473.out 1).trans rfl; have hcz60_2 : w59.cell? ⟨gb473, 2, none⟩ = some (.int .i64 0) := (blk_cell BK473.out 2).trans rfl; have hcz60_3 : w59.cell? ⟨gb473, 3, none⟩ = some (.int .i64 0) := (blk_cell BK473.out 3).trans rfl; have hcz60_4 : w59.cell? ⟨gb473, 4, none⟩ = some (.string ⟨#[]⟩) := (blk_cell BK473.out 4).trans rfl; have hcz60_5 : w59.cell? ⟨gb473, 5, none⟩ = some (.string ⟨#[]⟩) := (blk_cell BK473.out 5).trans rfl; have hcz60_6 : w59.cell? ⟨gb473, 6, none⟩ = some (.int .i64 0) := (blk_cell BK473.out 6).trans rfl; have hcz60_7 : w59.cell? ⟨gb473, 7, none⟩ = some (.int .i64 0) := (blk_cell BK473.out 7).trans rfl; have hcz60_8 : w59.cell? ⟨gb473, 8, none⟩ = some (.slice none 0 0) := (blk_cell BK473.out 8).trans rfl; have hcz60_9 : w59.cell? ⟨gb473, 9, none⟩ = some (.int .i64 0) := (blk_cell BK473.out 9).trans rfl; have hcz60_10 : w59.cell? ⟨gb473, 10, none⟩ = some (.slice none 0 0) := (blk_cell BK473.out 10).trans rfl; have hfz60_0 := blk_frozen BK473.out 0; have hfz60_1 := blk_frozen BK473.out 1; have hfz60_2 := blk_frozen BK473.out 2; have hfz60_3 := blk_frozen BK473.out 3; have hfz60_4 := blk_frozen BK473.out 4; have hfz60_5 := blk_frozen BK473.out 5; have hfz60_6 := blk_frozen BK473.out 6; have hfz60_7 := blk_frozen BK473.out 7; have hfz60_8 := blk_frozen BK473.out 8; have hfz60_9 := blk_frozen BK473.out 9; have hfz60_10 := blk_frozen BK473.out 10; obtain ⟨Ao61, co61, eo61⟩ := Kd.R_slice HO467.out; subst eo61; obtain ⟨Ao62, co62, eo62⟩ := Kd.R_slice HO471.out; subst eo62) | ((with_reducible refine gate_dst (N := 57) rfl ?_); (try (refine gate_guard (by rfl) ?_; dsimp only)); refine Kd.R_make (Kd.int .i64) _ 3 rfl (N := 57) rfl 39 _ _ rfl a1 rfl rfl Tryz.underlying39 (.int .i64 0) 8 info3 rfl (by decide) (by omega) 0 (ok := fun _ => True) (okp := fun _ => True) rfl (fun _ hk => hk) trivial (of_decide_eq_true (by first | (with_reducible assumption) | assumption)) (Nat.le_trans (Nat.mul_le_mul_right _ (of_decide_eq_true (by first | (with_reducible assumption) | assumption) : a1.toNat ≤ 35184372088832)) (by omega)) (Below.refl _ _) (Nat.le_refl _) ?_; intro v475 w63 ho64 hb hg_ hnew_; clear hg_ hnew_; (first | rw [← Ny474.out] at ho64 | (simp only [Int.reduceToNat] at ho64; rw [← Ny474.out] at ho64)); have n0_ := Aside0.mk (Kd.R_below (by (with_reducible repeat first | apply r1 | apply r2 | apply r3); exact (Kd.R_mono (Kd.R_far (p := ⟨gb473, 10, none⟩) (Kd.R_far (p := ⟨gb473, 9, none⟩) (Kd.R_far (p := ⟨gb473, 8, none⟩) (Kd.R_far (p := ⟨gb473, 7, none⟩) (Kd.R_far (p := ⟨gb473, 6, none⟩) (Kd.R_far (p := ⟨gb473, 5, none⟩) (Kd.R_far (p := ⟨gb473, 4, none⟩) (Kd.R_far (p := ⟨gb473, 3, none⟩) (Kd.R_far (p := ⟨gb473, 2, none⟩) (Kd.R_far (p := ⟨gb473, 1, none⟩) (Kd.R_far (p := ⟨gb473, 0, none⟩) (Kd.R_types HO467.out BK473.out (by decide)) (fun _ hk => hk.2) (.int .i64 t457)) (fun _ hk => hk.2) (.int .i64 t458)) (fun _ hk => hk.2) (.int .i64 t459)) (fun _ hk => hk.2) (.int .i64 t460)) (fun _ hk => hk.2) (.string t461)) (fun _ hk => hk.2) (.string t462)) (fun _ hk => hk.2) (.int .i64 t463)) (fun _ hk => hk.2) (.int .i64 t464)) (fun _ hk => hk.2) (.slice Ao61 t465.length co61)) (fun _ hk => hk.2) (.int .i64 t468)) (fun _ hk => hk.2) (.slice Ao62 t469.length co62)) (fun _ h_ => h_.1))) hb); have n1_ := Aside0.mk (Kd.R_elder' (by (with_reducible repeat first | apply r1 | apply r2 | apply r3); exact (Kd.R_mono (Kd.R_far (p := ⟨gb473, 10, none⟩) (Kd.R_far (p := ⟨gb473, 9, none⟩) (Kd.R_far (p := ⟨gb473, 8, none⟩) (Kd.R_far (p := ⟨gb473, 7, none⟩) (Kd.R_far (p := ⟨gb473, 6, none⟩) (Kd.R_far (p := ⟨gb473, 5, none⟩) (Kd.R_far (p := ⟨gb473, 4, none⟩) (Kd.R_far (p := ⟨gb473, 3, none⟩) (Kd.R_far (p := ⟨gb473, 2, none⟩) (Kd.R_far (p := ⟨gb473, 1, none⟩) (Kd.R_far (p := ⟨gb473, 0, none⟩) (Kd.R_types HO471.out BK473.out (by decide)) (fun _ hk => hk.2) (.int .i64 t457)) (fun _ hk => hk.2) (.int .i64 t458)) (fun _ hk => hk.2) (.int .i64 t459)) (fun _ hk => hk.2) (.int .i64 t460)) (fun _ hk => hk.2) (.string t461)) (fun _ hk => hk.2) (.string t462)) (fun _ hk => hk.2) (.int .i64 t463)) (fun _ hk => hk.2) (.int .i64 t464)) (fun _ hk => hk.2) (.slice Ao61 t465.length co61)) (fun _ hk => hk.2) (.int .i64 t468)) (fun _ hk => hk.2) (.slice Ao62 t469.length co62)) (fun _ h_ => h_.1))) (Kd.R_base ho64) hb); have n2_ := Aside0.mk (Kd.R_lower (Kd.R_new' ho64 (Kd.R_lt (by (with_reducible repeat first | apply r1 | apply r2 | apply r3); exact (Kd.R_mono (Kd.R_far (p := ⟨gb473, 10, none⟩) (Kd.R_far (p := ⟨gb473, 9, none⟩) (Kd.R_far (p := ⟨gb473, 8, none⟩) (Kd.R_far (p := ⟨gb473, 7, none⟩) (Kd.R_far (p := ⟨gb473, 6, none⟩) (Kd.R_far (p := ⟨gb473, 5, none⟩) (Kd.R_far (p := ⟨gb473, 4, none⟩) (Kd.R_far (p := ⟨gb473, 3, none⟩) (Kd.R_far (p := ⟨gb473, 2, none⟩) (Kd.R_far (p := ⟨gb473, 1, none⟩) (Kd.R_far (p := ⟨gb473, 0, none⟩) (Kd.R_types HO471.out BK473.out (by decide)) (fun _ hk => hk.2) (.int .i64 t457)) (fun _ hk => hk.2) (.int .i64 t458)) (fun _ hk => hk.2) (.int .i64 t459)) (fun _ hk => hk.2) (.int .i64 t460)) (fun _ hk => hk.2) (.string t461)) (fun _ hk => hk.2) (.string t462)) (fun _ hk => hk.2) (.int .i64 t463)) (fun _ hk => hk.2) (.int .i64 t464)) (fun _ hk => hk.2) (.slice Ao61 t465.length co61)) (fun _ hk => hk.2) (.int .i64 t468)) (fun _ hk => hk.2) (.slice Ao62 t469.length co62)) (fun _ h_ => h_.1))))) (below_size (by repeat (first | (with_reducible first | exact HB.out | apply s1 | apply s2 | apply s3 | refine s4 ?_ GE473.out) | exact HB.out)))); have n3_ := Aside0.mk (blk_below (g := gb473) (o := .cells #[.int .i64 t457, .int .i64 t458, .int .i64 t459, .int .i64 t460, .string t461, .string t462, .int .i64 t463, .int .i64 t464, .slice Ao61 t465.length co61, .int .i64 t468, .slice Ao62 t469.length co62] 52 (0, 0)) (by (with_reducible repeat first | apply q1 | apply q2 | apply q3); refine blk_put (cs := #[.int .i64 t457, .int .i64 t458, .int .i64 t459, .int .i64 t460, .string t461, .string t462, .int .i64 t463, .int .i64 t464, .slice Ao61 t465.length co61, .int .i64 t468, .slice none 0 0]) ?_ 10 _ rfl; (with_reducible repeat first | apply q1 | apply q2 | apply q3); refine blk_put (cs := #[.int .i64 t457, .int .i64 t458, .int .i64 t459, .int .i64 t460, .string t461, .string t462, .int .i64 t463, .int .i64 t464, .slice Ao61 t465.length co61, .int .i64 0, .slice none 0 0]) ?_ 9 _ rfl; (with_reducible repeat first | apply q1 | apply q2 | apply q3); refine blk_put (cs := #[.int .i64 t457, .int .i64 t458, .int .i64 t459, .int .i64 t460, .string t461, .string t462, .int .i64 t463, .int .i64 t464, .slice none 0 0, .int .i64 0, .slice none 0 0]) ?_ 8 _ rfl; (with_reducible repeat first | apply q1 | apply q2 | apply q3); refine blk_put (cs := #[.int .i64 t457, .int .i64 t458, .int .i64 t459, .int .i64 t460, .string t461, .string t462, .int .i64 t463, .int .i64 0, .slice none 0 0, .int .i64 0, .slice none 0 0]) ?_ 7 _ rfl; (with_reducible repeat first | apply q1 | apply q2 | apply q3); refine blk_put (cs := #[.int .i64 t457, .int .i64 t458, .int .i64 t459, .int .i64 t460, .string t461, .string t462, .int .i64 0, .int .i64 0, .slice none 0 0, .int .i64 0, .slice none 0 0]) ?_ 6 _ rfl; (with_reducible repeat first | apply q1 | apply q2 | apply q3); refine blk_put (cs := #[.int .i64 t457, .int .i64 t458, .int .i64 t459, .int .i64 t460, .string t461, .string ⟨#[]⟩, .int .i64 0, .int .i64 0, .slice none 0 0, .int .i64 0, .slice none 0 0]) ?_ 5 _ rfl; (with_reducible repeat first | apply q1 | apply q2 | apply q3); refine blk_put (cs := #[.int .i64 t457, .int .i64 t458, .int .i64 t459, .int .i64 t460, .string ⟨#[]⟩, .string ⟨#[]⟩, .int .i64 0, .int .i64 0, .slice none 0 0, .int .i64 0, .slice none 0 0]) ?_ 4 _ rfl; (with_reducible repeat first | apply q1 | apply q2 | apply q3); refine blk_put (cs := #[.int .i64 t457, .int .i64 t458, .int .i64 t459, .int .i64 0, .string ⟨#[]⟩, .string ⟨#[]⟩, .int .i64 0, .int .i64 0, .slice none 0 0, .int .i64 0, .slice none 0 0]) ?_ 3 _ rfl; (with_reducible repeat first | apply q1 | apply q2 | apply q3); refine blk_put (cs := #[.int .i64 t457, .int .i64 t458, .int .i64 0, .int .i64 0, .string ⟨#[]⟩, .string ⟨#[]⟩, .int .i64 0, .int .i64 0, .slice none 0 0, .int .i64 0, .slice none 0 0]) ?_ 2 _ rfl; (with_reducible repeat first | apply q1 | apply q2 | apply q3); refine blk_put (cs := #[.int .i64 t457, .int .i64 0, .int .i64 0, .int .i64 0, .string ⟨#[]⟩, .string ⟨#[]⟩, .int .i64 0, .int .i64 0, .slice none 0 0, .int .i64 0, .slice none 0 0]) ?_ 1 _ rfl; (with_reducible repeat first | apply q1 | apply q2 | apply q3); refine blk_put (cs := #[.int .i64 0, .int .i64 0, .int .i64 0, .int .i64 0, .string ⟨#[]⟩, .string ⟨#[]⟩, .int .i64 0, .int .i64 0, .slice none 0 0, .int .i64 0, .slice none 0 0]) ?_ 0 _ rfl; (with_reducible repeat first | apply q1 | apply q2 | apply q3); exact BK473.out) hb); have n4_ := Aside0.mk (below_step (by repeat (first | (with_reducible first | exact HB.out | apply s1 | apply s2 | apply s3 | refine s4 ?_ GE473.out) | exact HB.out)) hb); clear HO467; clear HO471; clear BK473; clear HB; have HO467 := n0_; have HO471 := n1_; have HO476 := n2_; have BK473 := n3_; have HB := n4_; clear n0_ n1_ n2_ n3_ n4_; clear hb ho64; obtain ⟨Ao65, co65, eo65⟩ := Kd.R_slice HO476.out; subst eo65) | ((with_reducible refine gate_callee (f := 22) rfl ?_); refine goesL_ (some 60) rfl rfl Tryz.func22 (by kernel_rfl) rfl #[.agg #[.int .i64 5, .int .i64 0, .int .i64 0, .int .i64 0, .string ⟨#[]⟩, .string ⟨#[]⟩, .int .i64 0, .int .i64 0, .slice none 0 0, .int .i64 0, .slice Ao65 y474.length co65]] rfl (by (try simp only [List.map_toArray, List.map_cons, List.map_nil]); first | done | rfl | (simp only [List.length_drop, List.length_take]; rfl)) ?_; (refine (script_Text.calls 5 0 0 0 (⟨#[]⟩ : ByteArray) (⟨#[]⟩ : ByteArray) 0 0 _ _ ([] : List Int) 0 _ _ y474 t477 _ ?side1 ?side2 ?side3 ?side4 A24.out ?hT_).mono ?_); (case hT_ => exact Tabs.after HT.out (by repeat (first | (with_reducible first | exact HB.out | apply s1 | apply s2 | apply s3 | refine s4 ?_ GE473.out) | exact HB.out))); (case side1 => exact Kd.C_nil _ _); (case side2 => exact Nat.le_refl _); (case side3 => repeat (first | exact (Kd.R_reads' HO476.out).2.2 | (with_reducible refine Kd.C_alloc ?_ _) | (with_reducible refine Kd.C_drewN ?_ _) | (with_reducible refine Kd.C_drew ?_))); (case side4 => exact (Kd.R_reads' HO476.out).2.1); rintro e w66 ⟨rfl, hb⟩; refine ⟨_, rfl, ?_⟩; have n0_ := Aside0.mk (Kd.R_below (by (with_reducible repeat first | apply r1 | apply r2 | apply r3); exact HO467.out) hb); have n1_ := Aside0.mk (Kd.R_below (by (with_reducible repeat first | apply r1 | apply r2 | apply r3); exact HO471.out) hb); have n2_ := Aside0.mk (Kd.R_below (by (with_reducible repeat first | apply r1 | apply r2 | apply r3); exact HO476.out) hb); have n3_ := Aside0.mk (blk_below (g := gb473) (o := .cells #[.int .i64 t457, .int .i64 t458, .int .i64 t459, .int .i64 t460, .string t461, .string t462, .int .i64 t463, .int .i64 t464, .slice Ao61 t465.length co61, .int .i64 t468, .slice Ao62 t469.length co62] 52 (0, 0)) (by (with_reducible repeat first | apply q1 | apply q2 | apply q3); exact BK473.out) hb); have n4_ := Aside0.mk (below_step (by repeat (first | (with_reducible first | exact HB.out | apply s1 | apply s2 | apply s3 | refine s4 ?_ GE473.out) | exact HB.out)) hb); clear HO467; clear HO471; clear HO476; clear BK473; clear HB; have HO467 := n0_; have HO471 := n1_; have HO476 := n2_; have BK473 := n3_; have HB := n4_; clear n0_ n1_ n2_ n3_ n4_; (try clear hb); (try clear hb2); (try clear hk); (try clear hi); have hcz67_0 : w66.cell? ⟨gb473, 0, none⟩ = some (.int .i64 t457) := (blk_cell BK473.out 0).trans rfl; have hcz67_1 : w66.cell? ⟨gb473, 1, none⟩ = some (.int .i64 t458) := (blk_cell BK473.out 1).trans rfl; have hcz67_2 : w66.cell? ⟨gb473, 2, none⟩ = some (.int .i64 t459) := (blk_cell BK473.out 2).trans rfl; have hcz67_3 : w66.cell? ⟨gb473, 3, none⟩ = some (.int .i64 t460) := (blk_cell BK473.out 3).trans rfl; have hcz67_4 : w66.cell? ⟨gb473, 4, none⟩ = some (.string t461) := (blk_cell BK473.out 4).trans rfl; have hcz67_5 : w66.cell? ⟨gb473, 5, none⟩ = some (.string t462) := (blk_cell BK473.out 5).trans rfl; have hcz67_6 : w66.cell? ⟨gb473, 6, none⟩ = some (.int .i64 t463) := (blk_cell BK473.out 6).trans rfl; have hcz67_7 : w66.cell? ⟨gb473, 7, none⟩ = some (.int .i64 t464) := (blk_cell BK473.out 7).trans rfl; have hcz67_8 : w66.cell? ⟨gb473, 8, none⟩ = some (.slice Ao61 t465.length co61) := (blk_cell BK473.out 8).trans rfl; have hcz67_9 : w66.cell? ⟨gb473, 9, none⟩ = some (.int .i64 t468) := (blk_cell BK473.out 9).trans rfl; have hcz67_10 : w66.cell? ⟨gb473, 10, none⟩ = some (.slice Ao62 t469.length co62) := (blk_cell BK473.out 10).trans rfl; have hfz67_0 := blk_frozen BK473.out 0; have hfz67_1 := blk_frozen BK473.out 1; have hfz67_2 := blk_frozen BK473.out 2; have hfz67_3 := blk_frozen BK473.out 3; have hfz67_4 := blk_frozen BK473.out 4; have hfz67_5 := blk_frozen BK473.out 5; have hfz67_6 := blk_frozen BK473.out 6; have hfz67_7 := blk_frozen BK473.out 7; have hfz67_8 := blk_frozen BK473.out 8; have hfz67_9 := blk_frozen BK473.out 9; have hfz67_10 := blk_frozen BK473.out 10) | (go_at_call 27; (with_reducible refine (dolmenref5_Ints.calls k2 _ _ t469 _ _ l0 true _ ?side1 ?side2 ?side3 ?side4 A26.out).mono ?_); (case side1 => repeat (first | exact (Kd.R_reads' HO471.out).2.2 | (with_reducible refine Kd.C_alloc ?_ _) | (with_reducible refine Kd.C_drewN ?_ _) | (with_reducible refine Kd.C_drew ?_))); (case side2 => exact (Kd.R_reads' HO471.out).2.1); (case side3 => repeat (first | exact (Kd.C_below HR0.out HB.out) | (with_reducible refine Kd.C_alloc ?_ _) | (with_reducible refine Kd.C_drewN ?_ _) | (with_reducible refine Kd.C_drew ?_))); (case side4 => exact HC0.out); rintro e w' ⟨rfl, ⟨nd, rfl⟩⟩) | (go_at_call 21; (with_reducible refine (dolmenlaw29_awake.calls  t481 _ A56.out ?hT_).mono ?_); (case hT_ => exact Tabs.after HT.out (by repeat (first | (with_reducible first | exact HB.out | apply s1 | apply s2 | apply s3 | refine s4 ?_ GE473.out) | exact HB.out))); rintro e w68 ⟨rfl, hb⟩; have n0_ := Aside0.mk (Kd.R_below (by (with_reducible repeat first | apply r1 | apply r2 | apply r3); exact HO467.out) hb); have n1_ := Aside0.mk (Kd.R_below (by (with_reducible repeat first | apply r1 | apply r2 | apply r3); exact HO471.out) hb); have n2_ := Aside0.mk (Kd.R_below (by (with_reducible repeat first | apply r1 | apply r2 | apply r3); exact HO476.out) hb); have n3_ := Aside0.mk (blk_below (g := gb473) (o := .cells #[.int .i64 t457, .int .i64 t458, .int .i64 t459, .int .i64 t460, .string t461, .string t462, .int .i64 t463, .int .i64 t464, .slice Ao61 t465.length co61, .int .i64 t468, .slice Ao62 t469.length co62] 52 (0, 0)) (by (with_reducible repeat first | apply q1 | apply q2 | apply q3); exact BK473.out) hb); have n4_ := Aside0.mk (below_step (by repeat (first | (with_reducible first | exact HB.out | apply s1 | apply s2 | apply s3 | refine s4 ?_ GE473.out) | exact HB.out)) hb); clear HO467; clear HO471; clear HO476; clear BK473; clear HB; have HO467 := n0_; have HO471 := n1_; have HO476 := n2_; have BK473 := n3_; have HB := n4_; clear n0_ n1_ n2_ n3_ n4_; (try clear hb); (try clear hb2); (try clear hk); (try clear hi)))
                              go_ret
                              exact ⟨by first | rfl | (simp [errW_none, errW_some] <;> rfl) | (simp [*, errW_none, errW_some] <;> rfl), by repeat (first | (with_reducible first | exact HB.out | apply s1 | apply s2 | apply s3 | refine s4 ?_ GE473.out) | exact HB.out)⟩
                            · rw [if_neg c55] at H
                              have c55b0 : ((t477.toList == ([] : List UInt8)) == (decide (a1 > 100))) = false := by simpa using c55
                              (try (have c55b1 : decide ((t477.toList == ([] : List UInt8)) = (decide (a1 > 100))) = false := by simpa using c55))
                              (try (have c55b2 : ((t477.toList == ([] : List UInt8)) == (decide (a1 > 100))) = false := by simpa using c55))
                              (try (have c55b3 : ¬ ((t477.toList == ([] : List UInt8)) = (decide (a1 > 100))) := by simpa using c55))
                              clear c55
                              exact absurd (Option.some.inj H) (by rw [hr_]; decide)
                          · rw [if_neg c54] at H
                            have c54b0 : (t456.toList == ([99, 114, 97, 115, 104] : List UInt8)) = false := beq_eq_false_iff_ne.mpr c54
                            have c54b1 : (t456.toList != ([99, 114, 97, 115, 104] : List UInt8)) = true := bne_iff_ne.mpr c54
                            exact absurd (Option.some.inj H) (by rw [hr_]; decide)
                      · replace c27 := Bool.eq_false_iff.mpr c27
                        subst c27
                        have H1 : (some false) = some r := by rw [if_neg (show ¬ (false = true) by decide)] at H; exact H
                        clear H
                        have H := H1
                        clear H1
                        exact absurd (Option.some.inj H) (by rw [hr_]; decide)
                    · rw [if_neg c25] at H
                      have c25b0 : (t457 == 5) = false := beq_eq_false_iff_ne.mpr c25
                      have c25b1 : (t457 != 5) = true := bne_iff_ne.mpr c25
                      exact absurd (Option.some.inj H) (by rw [hr_]; decide)
                  · have H1 : (some false) = some r := by rw [if_neg (show ¬ (some q478).isNone = true by simp)] at H; exact H
                    clear H
                    have H := H1
                    clear H1
                    try simp only [errW_none, errW_some]
                    exact absurd (Option.some.inj H) (by rw [hr_]; decide)
                · rw [if_neg c23] at H
                  exact absurd H (by simp)
              · rw [if_neg c22] at H
                exact absurd H (by simp)

/-- THE ONE PURE STATEMENT of dolmenlaw29_ScriptCrash: yours. -/
def dolmenlaw29_ScriptCrash.Pure : Prop := ∀ (l0 : List Int) (a1 : Int), l0.length ≤ maxLen → l0.length * 8 ≤ 140737488351232 → (∀ x ∈ l0, (Lit.int .i64 x).wf = true) → (Lit.int .i64 a1).wf = true → ∃ k, dolmenlaw29_ScriptCrash.f k l0 a1 = some true
end Go.Proofs.YtcbmbjapcpbnnaaGreatDoor.G
