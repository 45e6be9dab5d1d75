-- WRITTEN BY a program of this session (wip/gprint.py) out of the translation
import Derived.Test.YtcbmbjapcpbnnaaGreatDoorG0
namespace Go.Proofs.YtcbmbjapcpbnnaaGreatDoor.G
open Go.RowKit Go.Proofs.YtcbmbjapcpbnnaaGreatDoorW.PrintWords Go.Proofs.YtcbmbjapcpbnnaaGreatDoorW.PrintLast Go.Proofs.YtcbmbjapcpbnnaaGreatDoorW.PrintMore
attribute [local go_sem] max2_int min2_int max_two min_two max_three min_three max_four min_four   -- for this text's walks alone
set_option linter.unusedVariables false
set_option linter.unusedSimpArgs false

/-! ### names_letter: function 91 -/
mutual
def names_letter.j0 : Nat → Int → Bool → Option (Bool)
  | 0, _, _ => none
  | k + 1, x0, x3 => if x3 = true then (some true) else (if x0 ≥ 65 then (names_letter.j1 k x0 (decide (x0 ≤ 90))) else (names_letter.j1 k x0 false))
def names_letter.j1 : Nat → Int → Bool → Option (Bool)
  | 0, _, _ => none
  | k + 1, x0, x10 => if x10 = true then (some true) else (if x0 ≥ 48 then (if x0 ≤ 57 then (some true) else (if x0 = 46 then (some true) else (if x0 = 95 then (some true) else (some (x0 == 45))))) else (if x0 = 46 then (some true) else (if x0 = 95 then (some true) else (some (x0 == 45)))))
end
def names_letter.f (k : Nat) (a0 : Int) : Option (Bool) := if a0 ≥ 97 then (names_letter.j0 k a0 (decide (a0 ≤ 122))) else (names_letter.j0 k a0 false)
theorem names_letter.mono_l : ∀ k, (∀ y0 y1, LeO (names_letter.j0 k y0 y1) (names_letter.j0 (k + 1) y0 y1)) ∧ (∀ y0 y1, LeO (names_letter.j1 k y0 y1) (names_letter.j1 (k + 1) y0 y1))
  | 0 => ⟨fun _ _ r h => by simp [names_letter.j0] at h, fun _ _ r h => by simp [names_letter.j1] at h⟩
  | k + 1 => by
    obtain ⟨ih0, ih1⟩ := names_letter.mono_l k
    refine ⟨?_, ?_⟩
    · intro y0 y1
      unfold names_letter.j0
      repeat' first
      | (with_reducible exact ih0 _ _)
      | (with_reducible exact ih1 _ _)
      | (with_reducible exact LeO.refl _)
      | (with_reducible exact LeO.none _)
      | (with_reducible refine LeO.ite ?_ ?_)
      | (with_reducible refine LeO.bind ?_ (fun _ => ?_))
      | exact ih0 _ _
      | exact ih1 _ _
      | exact LeO.none _
      | refine LeO.ite ?_ ?_
      | refine LeO.bind ?_ (fun _ => ?_)
    · intro y0 y1
      unfold names_letter.j1
      repeat' first
      | (with_reducible exact ih0 _ _)
      | (with_reducible exact ih1 _ _)
      | (with_reducible exact LeO.refl _)
      | (with_reducible exact LeO.none _)
      | (with_reducible refine LeO.ite ?_ ?_)
      | (with_reducible refine LeO.bind ?_ (fun _ => ?_))
      | exact ih0 _ _
      | exact ih1 _ _
      | exact LeO.none _
      | refine LeO.ite ?_ ?_
      | refine LeO.bind ?_ (fun _ => ?_)
theorem names_letter.mono : ∀ a0 k, LeO (names_letter.f k a0) (names_letter.f (k + 1) a0) := by
  intro a0 k
  obtain ⟨ih0, ih1⟩ := names_letter.mono_l k
  unfold names_letter.f
  repeat' first
      | (with_reducible exact ih0 _ _)
      | (with_reducible exact ih1 _ _)
      | (with_reducible exact LeO.refl _)
      | (with_reducible exact LeO.none _)
      | (with_reducible refine LeO.ite ?_ ?_)
      | (with_reducible refine LeO.bind ?_ (fun _ => ?_))
      | exact ih0 _ _
      | exact ih1 _ _
      | exact LeO.none _
      | refine LeO.ite ?_ ?_
      | refine LeO.bind ?_ (fun _ => ?_)
set_option maxHeartbeats 8000000 in
set_option maxRecDepth 100000 in
theorem names_letter.calls (k : Nat) (a0 : Int) (r : Bool) (w : World) (h : names_letter.f k a0 = some r) :
    Calls Tryz.prog 91 #[.int .u8 a0] w fun e w' => e = .returned (.bool r) ∧ Drawn0 w w' := by
  have H : (if a0 ≥ 97 then (names_letter.j0 k a0 (decide (a0 ≤ 122))) else (names_letter.j0 k a0 false)) = some r := h
  clear h
  have HC2 := Aside0.mk H
  clear H
  go_enter Tryz.func91, Tryz.ntmps91
  go_upto_region 1 with (fail)
  go_cut [3] (fun v3 wc => ∃ (kq : Nat) (x3_1 : Bool), v3 = .bool x3_1 ∧ Aside0 (names_letter.j0 kq a0 x3_1 = some r) ∧ Aside0 (kq ≤ k) ∧ Drawn0 w wc)
  case first =>
    have H := HC2.out
    clear HC2
    by_cases c3 : a0 ≥ 97
    · rw [if_pos c3] at H
      have c3b0 : decide (97 ≤ a0) = true := decide_eq_true c3
      clear c3
      (first | rw [c3b0] | (simp only [i64_w, i32_w]; rw [c3b0]) | skip)
      have H' := Aside0.mk H
      clear H
      go_wp2
      go_meet
      case rel => exact ⟨_, (decide (a0 ≤ 122)), (by first | rfl | (simp; done) | (simp [*]; done)), H', ⟨by first | omega | exact Nat.le_refl _⟩, by repeat (first | exact Drawn0.refl _ | apply Drawn0.step)⟩
    · rw [if_neg c3] at H
      have c3b0 : decide (97 ≤ a0) = false := decide_eq_false c3
      clear c3
      (first | rw [c3b0] | (simp only [i64_w, i32_w]; rw [c3b0]) | skip)
      have H' := Aside0.mk H
      clear H
      go_wp2
      go_meet
      case rel => exact ⟨_, (false), (by first | rfl | (simp; done) | (simp [*]; done)), H', ⟨by first | omega | exact Nat.le_refl _⟩, by repeat (first | exact Drawn0.refl _ | apply Drawn0.step)⟩
  case rest =>
    clear HC2
    try clear p2
    try clear c3
    try clear c3b0
    obtain ⟨kq, x3_1, rfl, HA, HJ1, ⟨mc1, rfl⟩⟩ := hcut
    cases kq with
    | zero => exact absurd HA.out (by simp [names_letter.j0])
    | succ kj1 =>
      have H := HA.out
      clear HA
      simp only [names_letter.j0] at H
      by_cases c4 : x3_1 = true
      · subst c4
        have H1 : (some true) = some r := by rw [if_pos rfl] at H; exact H
        clear H
        have H := H1
        clear H1
        obtain rfl := Option.some.inj H
        go_wp2
        go_ret
        exact ⟨by first | rfl | (simp; done) | (simp [*]; done), by repeat (first | exact Drawn0.refl _ | apply Drawn0.step)⟩
      · replace c4 := Bool.eq_false_iff.mpr c4
        subst c4
        have H1 : (if a0 ≥ 65 then (names_letter.j1 kj1 a0 (decide (a0 ≤ 90))) else (names_letter.j1 kj1 a0 false)) = some r := by rw [if_neg (show ¬ (false = true) by decide)] at H; exact H
        clear H
        have H := H1
        clear H1
        have HC5 := Aside0.mk H
        clear H
        go_upto_region 2 with (fail)
        go_cut [10] (fun v10 wc => ∃ (kq : Nat) (x10_4 : Bool), v10 = .bool x10_4 ∧ Aside0 (names_letter.j1 kq a0 x10_4 = some r) ∧ Aside0 (kq ≤ kj1) ∧ Drawn0 w wc)
        case first =>
          have H := HC5.out
          clear HC5
          by_cases c6 : a0 ≥ 65
          · rw [if_pos c6] at H
            have c6b0 : decide (65 ≤ a0) = true := decide_eq_true c6
            clear c6
            (first | rw [c6b0] | (simp only [i64_w, i32_w]; rw [c6b0]) | skip)
            have H' := Aside0.mk H
            clear H
            go_wp2
            go_meet
            case rel => exact ⟨_, (decide (a0 ≤ 90)), (by first | rfl | (simp; done) | (simp [*]; done)), H', ⟨by have := HJ1.out; first | omega | exact Nat.le_refl _⟩, by repeat (first | exact Drawn0.refl _ | apply Drawn0.step)⟩
          · rw [if_neg c6] at H
            have c6b0 : decide (65 ≤ a0) = false := decide_eq_false c6
            clear c6
            (first | rw [c6b0] | (simp only [i64_w, i32_w]; rw [c6b0]) | skip)
            have H' := Aside0.mk H
            clear H
            go_wp2
            go_meet
            case rel => exact ⟨_, (false), (by first | rfl | (simp; done) | (simp [*]; done)), H', ⟨by have := HJ1.out; first | omega | exact Nat.le_refl _⟩, by repeat (first | exact Drawn0.refl _ | apply Drawn0.step)⟩
        case rest =>
          clear HC5
          try clear c1
          try clear p2
          try clear c3
          try clear c3b0
          try clear c4
          try clear c6
          try clear c6b0
          try clear p2
          obtain ⟨kq, x10_4, rfl, HA, HJ4, ⟨mc4, rfl⟩⟩ := hcut
          cases kq with
          | zero => exact absurd HA.out (by simp [names_letter.j1])
          | succ kj4 =>
            have H := HA.out
            clear HA
            simp only [names_letter.j1] at H
            by_cases c7 : x10_4 = true
            · subst c7
              have H1 : (some true) = some r := by rw [if_pos rfl] at H; exact H
              clear H
              have H := H1
              clear H1
              obtain rfl := Option.some.inj H
              go_wp2
              go_ret
              exact ⟨by first | rfl | (simp; done) | (simp [*]; done), by repeat (first | exact Drawn0.refl _ | apply Drawn0.step)⟩
            · replace c7 := Bool.eq_false_iff.mpr c7
              subst c7
              have H1 : (if a0 ≥ 48 then (if a0 ≤ 57 then (some true) else (if a0 = 46 then (some true) else (if a0 = 95 then (some true) else (some (a0 == 45))))) else (if a0 = 46 then (some true) else (if a0 = 95 then (some true) else (some (a0 == 45))))) = some r := by rw [if_neg (show ¬ (false = true) by decide)] at H; exact H
              clear H
              have H := H1
              clear H1
              by_cases c8 : a0 ≥ 48
              · rw [if_pos c8] at H
                have c8b0 : decide (48 ≤ a0) = true := decide_eq_true c8
                clear c8
                by_cases c9 : a0 ≤ 57
                · rw [if_pos c9] at H
                  have c9b0 : decide (a0 ≤ 57) = true := decide_eq_true c9
                  clear c9
                  obtain rfl := Option.some.inj H
                  go_wp2
                  go_ret
                  exact ⟨by first | rfl | (simp; done) | (simp [*]; done), by repeat (first | exact Drawn0.refl _ | apply Drawn0.step)⟩
                · rw [if_neg c9] at H
                  have c9b0 : decide (a0 ≤ 57) = false := decide_eq_false c9
                  clear c9
                  by_cases c10 : a0 = 46
                  · rw [if_pos c10] at H
                    have c10b0 : (a0 == 46) = true := beq_iff_eq.mpr c10
                    have c10b1 : (a0 != 46) = false := bne_eq_false_iff_eq.mpr c10
                    clear c10
                    obtain rfl := Option.some.inj H
                    go_wp2
                    go_ret
                    exact ⟨by first | rfl | (simp; done) | (simp [*]; done), by repeat (first | exact Drawn0.refl _ | apply Drawn0.step)⟩
                  · rw [if_neg c10] at H
                    have c10b0 : (a0 == 46) = false := beq_eq_false_iff_ne.mpr c10
                    have c10b1 : (a0 != 46) = true := bne_iff_ne.mpr c10
                    by_cases c11 : a0 = 95
                    · rw [if_pos c11] at H
                      have c11b0 : (a0 == 95) = true := beq_iff_eq.mpr c11
                      have c11b1 : (a0 != 95) = false := bne_eq_false_iff_eq.mpr c11
                      clear c11
                      obtain rfl := Option.some.inj H
                      go_wp2
                      go_ret
                      exact ⟨by first | rfl | (simp; done) | (simp [*]; done), by repeat (first | exact Drawn0.refl _ | apply Drawn0.step)⟩
                    · rw [if_neg c11] at H
                      have c11b0 : (a0 == 95) = false := beq_eq_false_iff_ne.mpr c11
                      have c11b1 : (a0 != 95) = true := bne_iff_ne.mpr c11
                      obtain rfl := Option.some.inj H
                      go_wp2
                      go_ret
                      exact ⟨by first | rfl | (simp; done) | (simp [*]; done), by repeat (first | exact Drawn0.refl _ | apply Drawn0.step)⟩
              · rw [if_neg c8] at H
                have c8b0 : decide (48 ≤ a0) = false := decide_eq_false c8
                clear c8
                by_cases c12 : a0 = 46
                · rw [if_pos c12] at H
                  have c12b0 : (a0 == 46) = true := beq_iff_eq.mpr c12
                  have c12b1 : (a0 != 46) = false := bne_eq_false_iff_eq.mpr c12
                  clear c12
                  obtain rfl := Option.some.inj H
                  go_wp2
                  go_ret
                  exact ⟨by first | rfl | (simp; done) | (simp [*]; done), by repeat (first | exact Drawn0.refl _ | apply Drawn0.step)⟩
                · rw [if_neg c12] at H
                  have c12b0 : (a0 == 46) = false := beq_eq_false_iff_ne.mpr c12
                  have c12b1 : (a0 != 46) = true := bne_iff_ne.mpr c12
                  by_cases c13 : a0 = 95
                  · rw [if_pos c13] at H
                    have c13b0 : (a0 == 95) = true := beq_iff_eq.mpr c13
                    have c13b1 : (a0 != 95) = false := bne_eq_false_iff_eq.mpr c13
                    clear c13
                    obtain rfl := Option.some.inj H
                    go_wp2
                    go_ret
                    exact ⟨by first | rfl | (simp; done) | (simp [*]; done), by repeat (first | exact Drawn0.refl _ | apply Drawn0.step)⟩
                  · rw [if_neg c13] at H
                    have c13b0 : (a0 == 95) = false := beq_eq_false_iff_ne.mpr c13
                    have c13b1 : (a0 != 95) = true := bne_iff_ne.mpr c13
                    obtain rfl := Option.some.inj H
                    go_wp2
                    go_ret
                    exact ⟨by first | rfl | (simp; done) | (simp [*]; done), by repeat (first | exact Drawn0.refl _ | apply Drawn0.step)⟩

/-! ### names_Name: function 75 -/
def names_Name.l0 : Nat → ByteArray → Int → Int → Option (Bool)
  | 0, _, _, _ => none
  | k + 1, x0, x5, x6 => if x6 < x5 then (if 0 ≤ x6 then (if x6 < (x0.size : Int) then ((names_letter.f k (bt x0 x6)).bind fun t101 => (if t101 = true then (names_Name.l0 k x0 x5 (wrap64 (x6 + 1))) else (some false))) else (none)) else (none)) else (if x0.toList = ([] : List UInt8) then (some false) else (if x0.toList = ([46] : List UInt8) then (some false) else (some (x0.toList != ([46, 46] : List UInt8)))))
def names_Name.f (k : Nat) (a0 : ByteArray) : Option (Bool) := names_Name.l0 k a0 (a0.size : Int) 0
theorem names_Name.mono_l : ∀ k, (∀ y0 y1 y2, LeO (names_Name.l0 k y0 y1 y2) (names_Name.l0 (k + 1) y0 y1 y2))
  | 0 => fun _ _ _ r h => by simp [names_Name.l0] at h
  | k + 1 => by
    have ih0 := names_Name.mono_l k
    · intro y0 y1 y2
      unfold names_Name.l0
      repeat' first
      | (with_reducible exact ih0 _ _ _)
      | (with_reducible exact names_letter.mono _ _)
      | (with_reducible exact LeO.refl _)
      | (with_reducible exact LeO.none _)
      | (with_reducible refine LeO.ite ?_ ?_)
      | (with_reducible refine LeO.bind ?_ (fun _ => ?_))
      | exact ih0 _ _ _
      | exact names_letter.mono _ _
      | exact LeO.none _
      | refine LeO.ite ?_ ?_
      | refine LeO.bind ?_ (fun _ => ?_)
theorem names_Name.mono : ∀ a0 k, LeO (names_Name.f k a0) (names_Name.f (k + 1) a0) := by
  intro a0 k
  have ih0 := names_Name.mono_l k
  unfold names_Name.f
  repeat' first
      | (with_reducible exact ih0 _ _ _)
      | (with_reducible exact names_letter.mono _ _)
      | (with_reducible exact LeO.refl _)
      | (with_reducible exact LeO.none _)
      | (with_reducible refine LeO.ite ?_ ?_)
      | (with_reducible refine LeO.bind ?_ (fun _ => ?_))
      | exact ih0 _ _ _
      | exact names_letter.mono _ _
      | exact LeO.none _
      | refine LeO.ite ?_ ?_
      | refine LeO.bind ?_ (fun _ => ?_)
set_option maxHeartbeats 8000000 in
set_option maxRecDepth 100000 in
theorem names_Name.calls (k : Nat) (a0 : ByteArray) (r : Bool) (w : World) (h : names_Name.f k a0 = some r) :
    Calls Tryz.prog 75 #[.string a0] w fun e w' => e = .returned (.bool r) ∧ Drawn0 w w' := by
  have H : (names_Name.l0 k a0 (a0.size : Int) 0) = some r := h
  clear h
  have H' := Aside0.mk H
  clear H
  go_enter Tryz.func75, Tryz.ntmps75
  go_wp2
  go_loopg [6] k (fun kq v6 w' => ∃ (x6_1 : Int), v6 = .int .i64 x6_1 ∧ Aside0 (names_Name.l0 kq a0 (a0.size : Int) x6_1 = some r) ∧ Aside0 (kq ≤ k) ∧ Drawn0 w w')
  case atStart => exact ⟨(0), (by first | rfl | (simp; done) | (simp [*]; done)), H', ⟨Nat.le_refl _⟩, by repeat (first | exact Drawn0.refl _ | apply Drawn0.step)⟩
  case round =>
    clear H'
    obtain ⟨x6_1, rfl, HA, HK1, ⟨m1, rfl⟩⟩ := hrel
    cases gk with
    | zero => exact absurd HA.out (by simp [names_Name.l0])
    | succ k1 =>
      have H := HA.out
      clear HA
      simp only [names_Name.l0] at H
      by_cases c2 : x6_1 < (a0.size : Int)
      · rw [if_pos c2] at H
        have c2b0 : decide (x6_1 < (a0.size : Int)) = true := decide_eq_true c2
        clear c2
        by_cases c3 : 0 ≤ x6_1
        · rw [if_pos c3] at H
          have c3b0 : decide (0 ≤ x6_1) = true := decide_eq_true c3
          clear c3
          by_cases c4 : x6_1 < (a0.size : Int)
          · rw [if_pos c4] at H
            have c4b0 : decide (x6_1 < (a0.size : Int)) = true := decide_eq_true c4
            clear c4
            replace H := Option.bind_eq_some_iff.mp H
            obtain ⟨t101, A60, H⟩ := H
            replace H : (if t101 = true then (names_Name.l0 k1 a0 (a0.size : Int) (wrap64 (x6_1 + 1))) else (some false)) = some r := H
            have A6 := Aside0.mk A60
            clear A60
            by_cases c7 : t101 = true
            · subst c7
              have H1 : (names_Name.l0 k1 a0 (a0.size : Int) (wrap64 (x6_1 + 1))) = some r := by rw [if_pos rfl] at H; exact H
              clear H
              have H := H1
              clear H1
              have H' := Aside0.mk H
              clear H
              have p5 : 0 ≤ (x6_1 : Int) := of_decide_eq_true (by first | (with_reducible assumption) | assumption)
              have q5 : x6_1 < (a0.size : Int) := of_decide_eq_true (by first | (with_reducible assumption) | assumption)
              have hx5 := bt_at a0 x6_1
              replace p5 := eq_true p5
              replace q5 := eq_true q5
              go_wp2_with (first | ((with_reducible refine gate_callee (f := 91) rfl ?_); refine goesL_ (some 12) rfl rfl Tryz.func91 (by kernel_rfl) rfl #[.int .u8 (bt a0 x6_1)] rfl (by (try simp only [List.map_toArray, List.map_cons, List.map_nil]); first | done | rfl | (simp only [List.length_drop, List.length_take]; rfl)) ?_; (with_reducible refine (names_letter.calls k1 (bt a0 x6_1) true _ A6.out).mono ?_); rintro e w' ⟨rfl, ⟨nd, rfl⟩⟩; refine ⟨_, rfl, ?_⟩))
              go_roundg k1
              case measure => have := HK1.out; omega
              case rel => exact ⟨(wrap64 (x6_1 + 1)), (by first | rfl | (simp; done) | (simp [*]; done)), H', ⟨by have := HK1.out; omega⟩, by repeat (first | exact Drawn0.refl _ | apply Drawn0.step)⟩
            · replace c7 := Bool.eq_false_iff.mpr c7
              subst c7
              have H1 : (some false) = some r := by rw [if_neg (show ¬ (false = true) by decide)] at H; exact H
              clear H
              have H := H1
              clear H1
              obtain rfl := Option.some.inj H
              have p5 : 0 ≤ (x6_1 : Int) := of_decide_eq_true (by first | (with_reducible assumption) | assumption)
              have q5 : x6_1 < (a0.size : Int) := of_decide_eq_true (by first | (with_reducible assumption) | assumption)
              have hx5 := bt_at a0 x6_1
              replace p5 := eq_true p5
              replace q5 := eq_true q5
              go_wp2_with (first | ((with_reducible refine gate_callee (f := 91) rfl ?_); refine goesL_ (some 12) rfl rfl Tryz.func91 (by kernel_rfl) rfl #[.int .u8 (bt a0 x6_1)] rfl (by (try simp only [List.map_toArray, List.map_cons, List.map_nil]); first | done | rfl | (simp only [List.length_drop, List.length_take]; rfl)) ?_; (with_reducible refine (names_letter.calls k1 (bt a0 x6_1) false _ A6.out).mono ?_); rintro e w' ⟨rfl, ⟨nd, rfl⟩⟩; refine ⟨_, rfl, ?_⟩))
              go_ret
              exact ⟨by first | rfl | (simp; done) | (simp [*]; done), by repeat (first | exact Drawn0.refl _ | apply Drawn0.step)⟩
          · rw [if_neg c4] at H
            exact absurd H (by simp)
        · rw [if_neg c3] at H
          exact absurd H (by simp)
      · rw [if_neg c2] at H
        have c2b0 : decide (x6_1 < (a0.size : Int)) = false := decide_eq_false c2
        clear c2
        by_cases c8 : a0.toList = ([] : List UInt8)
        · rw [if_pos c8] at H
          have c8b0 : (a0.toList == ([] : List UInt8)) = true := beq_iff_eq.mpr c8
          have c8b1 : (a0.toList != ([] : List UInt8)) = false := bne_eq_false_iff_eq.mpr c8
          clear c8
          obtain rfl := Option.some.inj H
          go_wp2
          go_ret
          exact ⟨by first | rfl | (simp; done) | (simp [*]; done), by repeat (first | exact Drawn0.refl _ | apply Drawn0.step)⟩
        · rw [if_neg c8] at H
          have c8b0 : (a0.toList == ([] : List UInt8)) = false := beq_eq_false_iff_ne.mpr c8
          have c8b1 : (a0.toList != ([] : List UInt8)) = true := bne_iff_ne.mpr c8
          by_cases c9 : a0.toList = ([46] : List UInt8)
          · rw [if_pos c9] at H
            have c9b0 : (a0.toList == ([46] : List UInt8)) = true := beq_iff_eq.mpr c9
            have c9b1 : (a0.toList != ([46] : List UInt8)) = false := bne_eq_false_iff_eq.mpr c9
            clear c9
            obtain rfl := Option.some.inj H
            go_wp2
            go_ret
            exact ⟨by first | rfl | (simp; done) | (simp [*]; done), by repeat (first | exact Drawn0.refl _ | apply Drawn0.step)⟩
          · rw [if_neg c9] at H
            have c9b0 : (a0.toList == ([46] : List UInt8)) = false := beq_eq_false_iff_ne.mpr c9
            have c9b1 : (a0.toList != ([46] : List UInt8)) = true := bne_iff_ne.mpr c9
            obtain rfl := Option.some.inj H
            go_wp2
            go_ret
            exact ⟨by first | rfl | (simp; done) | (simp [*]; done), by repeat (first | exact Drawn0.refl _ | apply Drawn0.step)⟩

/-! ### stringslite_HasPrefix: function 89 -/
def stringslite_HasPrefix.f (a0 : ByteArray) (a1 : ByteArray) : Option (Bool) := if (a0.size : Int) ≥ (a1.size : Int) then (if 0 ≤ (a1.size : Int) then (if (a1.size : Int) ≤ (a0.size : Int) then (some ((a0.extract 0 ((a1.size : Int) : Int).toNat).toList == a1.toList)) else (none)) else (none)) else (some false)
set_option maxHeartbeats 8000000 in
set_option maxRecDepth 100000 in
theorem stringslite_HasPrefix.calls (a0 : ByteArray) (a1 : ByteArray) (r : Bool) (w : World) (h : stringslite_HasPrefix.f a0 a1 = some r) :
    Calls Tryz.prog 89 #[.string a0, .string a1] w fun e w' => e = .returned (.bool r) ∧ Drawn0 w w' := by
  have H : (if (a0.size : Int) ≥ (a1.size : Int) then (if 0 ≤ (a1.size : Int) then (if (a1.size : Int) ≤ (a0.size : Int) then (some ((a0.extract 0 ((a1.size : Int) : Int).toNat).toList == a1.toList)) else (none)) else (none)) else (some false)) = some r := h
  clear h
  by_cases c3 : (a0.size : Int) ≥ (a1.size : Int)
  · rw [if_pos c3] at H
    have c3b0 : decide ((a1.size : Int) ≤ (a0.size : Int)) = true := decide_eq_true c3
    have c3b1 : decide (a1.size ≤ a0.size) = true := decide_eq_true (Int.ofNat_le.mp c3)
    clear c3
    by_cases c4 : 0 ≤ (a1.size : Int)
    · rw [if_pos c4] at H
      have c4b0 := eq_true c4
      have c4b1 : decide (0 ≤ (a1.size : Int)) = true := decide_eq_true c4
      clear c4
      by_cases c5 : (a1.size : Int) ≤ (a0.size : Int)
      · rw [if_pos c5] at H
        have c5b0 := eq_true c5
        have c5b1 : decide ((a1.size : Int) ≤ (a0.size : Int)) = true := decide_eq_true c5
        clear c5
        obtain rfl := Option.some.inj H
        go_enter Tryz.func89, Tryz.ntmps89
        go_wp2
        go_ret
        exact ⟨by first | rfl | (simp; done) | (simp [*]; done), by repeat (first | exact Drawn0.refl _ | apply Drawn0.step)⟩
      · rw [if_neg c5] at H
        exact absurd H (by simp)
    · rw [if_neg c4] at H
      exact absurd H (by simp)
  · rw [if_neg c3] at H
    have c3b0 : decide ((a1.size : Int) ≤ (a0.size : Int)) = false := decide_eq_false c3
    have c3b1 : decide (a1.size ≤ a0.size) = false := decide_eq_false (fun h => c3 (Int.ofNat_le.mpr h))
    clear c3
    obtain rfl := Option.some.inj H
    go_enter Tryz.func89, Tryz.ntmps89
    go_wp2
    go_ret
    exact ⟨by first | rfl | (simp; done) | (simp [*]; done), by repeat (first | exact Drawn0.refl _ | apply Drawn0.step)⟩

/-! ### strings_HasPrefix: function 71 -/
def strings_HasPrefix.f (a0 : ByteArray) (a1 : ByteArray) : Option (Bool) := (stringslite_HasPrefix.f a0 a1).bind fun t102 => (some t102)
set_option maxHeartbeats 8000000 in
set_option maxRecDepth 100000 in
theorem strings_HasPrefix.calls (a0 : ByteArray) (a1 : ByteArray) (r : Bool) (w : World) (h : strings_HasPrefix.f a0 a1 = some r) :
    Calls Tryz.prog 71 #[.string a0, .string a1] w fun e w' => e = .returned (.bool r) ∧ Drawn0 w w' := by
  have H : ((stringslite_HasPrefix.f a0 a1).bind fun t102 => (some t102)) = some r := h
  clear h
  replace H := Option.bind_eq_some_iff.mp H
  obtain ⟨t102, A30, H⟩ := H
  replace H : (some t102) = some r := H
  have A3 := Aside0.mk A30
  clear A30
  obtain rfl := Option.some.inj H
  go_enter Tryz.func71, Tryz.ntmps71
  go_wp2_with (first | ((with_reducible refine gate_callee (f := 89) rfl ?_); refine goesL_ (some 7) rfl rfl Tryz.func89 (by kernel_rfl) rfl #[.string a0, .string a1] rfl (by (try simp only [List.map_toArray, List.map_cons, List.map_nil]); first | done | rfl | (simp only [List.length_drop, List.length_take]; rfl)) ?_; (with_reducible refine (stringslite_HasPrefix.calls a0 a1 t102 _ A3.out).mono ?_); rintro e w' ⟨rfl, ⟨nd, rfl⟩⟩; refine ⟨_, rfl, ?_⟩))
  go_ret
  exact ⟨by first | rfl | (simp; done) | (simp [*]; done), by repeat (first | exact Drawn0.refl _ | apply Drawn0.step)⟩

/-! ### hist_word: function 32 -/
def hist_word.f (a0 : Int) : Option (ByteArray) := (some (([(⟨#[]⟩ : ByteArray), (⟨#[99, 114, 101, 97, 116, 101]⟩ : ByteArray), (⟨#[109, 107, 100, 105, 114]⟩ : ByteArray), (⟨#[117, 110, 108, 105, 110, 107]⟩ : ByteArray), (⟨#[114, 109, 100, 105, 114]⟩ : ByteArray), (⟨#[114, 101, 110, 97, 109, 101]⟩ : ByteArray), (⟨#[108, 105, 110, 107]⟩ : ByteArray), (⟨#[114, 101, 97, 100]⟩ : ByteArray), (⟨#[119, 114, 105, 116, 101]⟩ : ByteArray), (⟨#[116, 114, 117, 110, 99, 97, 116, 101]⟩ : ByteArray), (⟨#[115, 116, 97, 116]⟩ : ByteArray), (⟨#[114, 101, 97, 100, 100, 105, 114]⟩ : ByteArray), (⟨#[115, 110, 97, 112]⟩ : ByteArray), (⟨#[117, 110, 115, 110, 97, 112]⟩ : ByteArray), (⟨#[115, 110, 97, 112, 115]⟩ : ByteArray)] : List ByteArray) : List ByteArray)).bind fun y103 => (if a0 < 1 then (some (⟨#[]⟩ : ByteArray)) else (if a0 ≥ (y103.length : Int) then (some (⟨#[]⟩ : ByteArray)) else (if 0 ≤ a0 then (if a0 < (y103.length : Int) then (some (rdOf ByteArray.empty y103 a0)) else (none)) else (none))))
set_option maxHeartbeats 8000000 in
set_option maxRecDepth 100000 in
theorem hist_word.calls (a0 : Int) (r : ByteArray) (w : World) (h : hist_word.f a0 = some r) :
    Calls Tryz.prog 32 #[.int .i64 a0] w fun e w' => e = .returned (.string r) ∧ Below w.heap.size w w' := by
  have HB := Aside0.mk (Below.refl w.heap.size w)
  have H : ((some (([(⟨#[]⟩ : ByteArray), (⟨#[99, 114, 101, 97, 116, 101]⟩ : ByteArray), (⟨#[109, 107, 100, 105, 114]⟩ : ByteArray), (⟨#[117, 110, 108, 105, 110, 107]⟩ : ByteArray), (⟨#[114, 109, 100, 105, 114]⟩ : ByteArray), (⟨#[114, 101, 110, 97, 109, 101]⟩ : ByteArray), (⟨#[108, 105, 110, 107]⟩ : ByteArray), (⟨#[114, 101, 97, 100]⟩ : ByteArray), (⟨#[119, 114, 105, 116, 101]⟩ : ByteArray), (⟨#[116, 114, 117, 110, 99, 97, 116, 101]⟩ : ByteArray), (⟨#[115, 116, 97, 116]⟩ : ByteArray), (⟨#[114, 101, 97, 100, 100, 105, 114]⟩ : ByteArray), (⟨#[115, 110, 97, 112]⟩ : ByteArray), (⟨#[117, 110, 115, 110, 97, 112]⟩ : ByteArray), (⟨#[115, 110, 97, 112, 115]⟩ : ByteArray)] : List ByteArray) : List ByteArray)).bind fun y103 => (if a0 < 1 then (some (⟨#[]⟩ : ByteArray)) else (if a0 ≥ (y103.length : Int) then (some (⟨#[]⟩ : ByteArray)) else (if 0 ≤ a0 then (if a0 < (y103.length : Int) then (some (rdOf ByteArray.empty y103 a0)) else (none)) else (none))))) = some r := h
  clear h
  obtain ⟨y103, hy103⟩ : ∃ y_ : List ByteArray, y_ = (([(⟨#[]⟩ : ByteArray), (⟨#[99, 114, 101, 97, 116, 101]⟩ : ByteArray), (⟨#[109, 107, 100, 105, 114]⟩ : ByteArray), (⟨#[117, 110, 108, 105, 110, 107]⟩ : ByteArray), (⟨#[114, 109, 100, 105, 114]⟩ : ByteArray), (⟨#[114, 101, 110, 97, 109, 101]⟩ : ByteArray), (⟨#[108, 105, 110, 107]⟩ : ByteArray), (⟨#[114, 101, 97, 100]⟩ : ByteArray), (⟨#[119, 114, 105, 116, 101]⟩ : ByteArray), (⟨#[116, 114, 117, 110, 99, 97, 116, 101]⟩ : ByteArray), (⟨#[115, 116, 97, 116]⟩ : ByteArray), (⟨#[114, 101, 97, 100, 100, 105, 114]⟩ : ByteArray), (⟨#[115, 110, 97, 112]⟩ : ByteArray), (⟨#[117, 110, 115, 110, 97, 112]⟩ : ByteArray), (⟨#[115, 110, 97, 112, 115]⟩ : ByteArray)] : List ByteArray)) := ⟨_, rfl⟩
  replace H : (if a0 < 1 then (some (⟨#[]⟩ : ByteArray)) else (if a0 ≥ (y103.length : Int) then (some (⟨#[]⟩ : ByteArray)) else (if 0 ≤ a0 then (if a0 < (y103.length : Int) then (some (rdOf ByteArray.empty y103 a0)) else (none)) else (none)))) = some r := by first | (rw [hy103]; with_reducible exact H) | (have H2_ := (Option.bind_some _ _).symm.trans H; rw [hy103]; with_reducible exact H2_) | (have H2_ := (Option.bind_some _ _).symm.trans H; with_reducible exact H2_) | with_reducible exact H | (rw [hy103]; exact H) | exact H
  have Ny103 := Aside0.mk hy103
  clear hy103
  by_cases c2 : a0 < 1
  · rw [if_pos c2] at H
    have c2b0 : decide (a0 < 1) = true := decide_eq_true c2
    clear c2
    obtain rfl := Option.some.inj H
    go_enter Tryz.func32, Tryz.ntmps32
    go_wp2_with (first | ((with_reducible refine gate_dst (N := 4) rfl ?_); (try (refine gate_guard (by rfl) ?_; dsimp only)); refine Kd.R_lit Kd.string _ 9 ?hg (N := 4) ?hd (xs := ([(⟨#[]⟩ : ByteArray), (⟨#[99, 114, 101, 97, 116, 101]⟩ : ByteArray), (⟨#[109, 107, 100, 105, 114]⟩ : ByteArray), (⟨#[117, 110, 108, 105, 110, 107]⟩ : ByteArray), (⟨#[114, 109, 100, 105, 114]⟩ : ByteArray), (⟨#[114, 101, 110, 97, 109, 101]⟩ : ByteArray), (⟨#[108, 105, 110, 107]⟩ : ByteArray), (⟨#[114, 101, 97, 100]⟩ : ByteArray), (⟨#[119, 114, 105, 116, 101]⟩ : ByteArray), (⟨#[116, 114, 117, 110, 99, 97, 116, 101]⟩ : ByteArray), (⟨#[115, 116, 97, 116]⟩ : ByteArray), (⟨#[114, 101, 97, 100, 100, 105, 114]⟩ : ByteArray), (⟨#[115, 110, 97, 112]⟩ : ByteArray), (⟨#[117, 110, 115, 110, 97, 112]⟩ : ByteArray), (⟨#[115, 110, 97, 112, 115]⟩ : ByteArray)] : List ByteArray)) (inner := [.string ⟨#[]⟩, .string (⟨#[99, 114, 101, 97, 116, 101]⟩ : ByteArray), .string (⟨#[109, 107, 100, 105, 114]⟩ : ByteArray), .string (⟨#[117, 110, 108, 105, 110, 107]⟩ : ByteArray), .string (⟨#[114, 109, 100, 105, 114]⟩ : ByteArray), .string (⟨#[114, 101, 110, 97, 109, 101]⟩ : ByteArray), .string (⟨#[108, 105, 110, 107]⟩ : ByteArray), .string (⟨#[114, 101, 97, 100]⟩ : ByteArray), .string (⟨#[119, 114, 105, 116, 101]⟩ : ByteArray), .string (⟨#[116, 114, 117, 110, 99, 97, 116, 101]⟩ : ByteArray), .string (⟨#[115, 116, 97, 116]⟩ : ByteArray), .string (⟨#[114, 101, 97, 100, 100, 105, 114]⟩ : ByteArray), .string (⟨#[115, 110, 97, 112]⟩ : ByteArray), .string (⟨#[117, 110, 115, 110, 97, 112]⟩ : ByteArray), .string (⟨#[115, 110, 97, 112, 115]⟩ : ByteArray)]) (ok := fun _ => True) (okp := fun _ => True) ?hr ?hp (fun _ hk => hk) trivial (Below.refl _ _) (Nat.le_refl _) (by simp) ?_; (case hd => rfl); (case hg => rfl); (case hr => first | (go_simp; done) | (go_simp; rfl)); (case hp => exact (Reps.one (show Kd.M Kd.string _ _ _ (⟨#[]⟩ : ByteArray) [.string ⟨#[]⟩] from rfl) (Reps.one (show Kd.M Kd.string _ _ _ (⟨#[99, 114, 101, 97, 116, 101]⟩ : ByteArray) [.string (⟨#[99, 114, 101, 97, 116, 101]⟩ : ByteArray)] from rfl) (Reps.one (show Kd.M Kd.string _ _ _ (⟨#[109, 107, 100, 105, 114]⟩ : ByteArray) [.string (⟨#[109, 107, 100, 105, 114]⟩ : ByteArray)] from rfl) (Reps.one (show Kd.M Kd.string _ _ _ (⟨#[117, 110, 108, 105, 110, 107]⟩ : ByteArray) [.string (⟨#[117, 110, 108, 105, 110, 107]⟩ : ByteArray)] from rfl) (Reps.one (show Kd.M Kd.string _ _ _ (⟨#[114, 109, 100, 105, 114]⟩ : ByteArray) [.string (⟨#[114, 109, 100, 105, 114]⟩ : ByteArray)] from rfl) (Reps.one (show Kd.M Kd.string _ _ _ (⟨#[114, 101, 110, 97, 109, 101]⟩ : ByteArray) [.string (⟨#[114, 101, 110, 97, 109, 101]⟩ : ByteArray)] from rfl) (Reps.one (show Kd.M Kd.string _ _ _ (⟨#[108, 105, 110, 107]⟩ : ByteArray) [.string (⟨#[108, 105, 110, 107]⟩ : ByteArray)] from rfl) (Reps.one (show Kd.M Kd.string _ _ _ (⟨#[114, 101, 97, 100]⟩ : ByteArray) [.string (⟨#[114, 101, 97, 100]⟩ : ByteArray)] from rfl) (Reps.one (show Kd.M Kd.string _ _ _ (⟨#[119, 114, 105, 116, 101]⟩ : ByteArray) [.string (⟨#[119, 114, 105, 116, 101]⟩ : ByteArray)] from rfl) (Reps.one (show Kd.M Kd.string _ _ _ (⟨#[116, 114, 117, 110, 99, 97, 116, 101]⟩ : ByteArray) [.string (⟨#[116, 114, 117, 110, 99, 97, 116, 101]⟩ : ByteArray)] from rfl) (Reps.one (show Kd.M Kd.string _ _ _ (⟨#[115, 116, 97, 116]⟩ : ByteArray) [.string (⟨#[115, 116, 97, 116]⟩ : ByteArray)] from rfl) (Reps.one (show Kd.M Kd.string _ _ _ (⟨#[114, 101, 97, 100, 100, 105, 114]⟩ : ByteArray) [.string (⟨#[114, 101, 97, 100, 100, 105, 114]⟩ : ByteArray)] from rfl) (Reps.one (show Kd.M Kd.string _ _ _ (⟨#[115, 110, 97, 112]⟩ : ByteArray) [.string (⟨#[115, 110, 97, 112]⟩ : ByteArray)] from rfl) (Reps.one (show Kd.M Kd.string _ _ _ (⟨#[117, 110, 115, 110, 97, 112]⟩ : ByteArray) [.string (⟨#[117, 110, 115, 110, 97, 112]⟩ : ByteArray)] from rfl) (Reps.one (show Kd.M Kd.string _ _ _ (⟨#[115, 110, 97, 112, 115]⟩ : ByteArray) [.string (⟨#[115, 110, 97, 112, 115]⟩ : ByteArray)] from rfl) (Reps.none _ _))))))))))))))))); intro v104 w3 ho4 hb hg_ hnew_; clear hg_ hnew_; (first | rw [← Ny103.out] at ho4 | (simp only [Int.reduceToNat] at ho4; rw [← Ny103.out] at ho4)); have n0_ := Aside0.mk (Kd.R_lower ho4 (below_size (by repeat (first | (with_reducible first | exact HB.out | apply s1 | apply s2 | apply s3) | exact HB.out)))); have n1_ := Aside0.mk (below_step (by repeat (first | (with_reducible first | exact HB.out | apply s1 | apply s2 | apply s3) | exact HB.out)) hb); clear HB; have HO105 := n0_; have HB := n1_; clear n0_ n1_; clear hb ho4))
    go_ret
    exact ⟨by first | rfl | (simp [errW_none, errW_some] <;> rfl) | (simp [*, errW_none, errW_some] <;> rfl), by repeat (first | (with_reducible first | exact HB.out | apply s1 | apply s2 | apply s3) | exact HB.out)⟩
  · rw [if_neg c2] at H
    have c2b0 : decide (a0 < 1) = false := decide_eq_false c2
    clear c2
    by_cases c5 : a0 ≥ (y103.length : Int)
    · rw [if_pos c5] at H
      have c5b0 : decide ((y103.length : Int) ≤ a0) = true := decide_eq_true c5
      clear c5
      obtain rfl := Option.some.inj H
      go_enter Tryz.func32, Tryz.ntmps32
      go_wp2_with (first | ((with_reducible refine gate_dst (N := 4) rfl ?_); (try (refine gate_guard (by rfl) ?_; dsimp only)); refine Kd.R_lit Kd.string _ 9 ?hg (N := 4) ?hd (xs := ([(⟨#[]⟩ : ByteArray), (⟨#[99, 114, 101, 97, 116, 101]⟩ : ByteArray), (⟨#[109, 107, 100, 105, 114]⟩ : ByteArray), (⟨#[117, 110, 108, 105, 110, 107]⟩ : ByteArray), (⟨#[114, 109, 100, 105, 114]⟩ : ByteArray), (⟨#[114, 101, 110, 97, 109, 101]⟩ : ByteArray), (⟨#[108, 105, 110, 107]⟩ : ByteArray), (⟨#[114, 101, 97, 100]⟩ : ByteArray), (⟨#[119, 114, 105, 116, 101]⟩ : ByteArray), (⟨#[116, 114, 117, 110, 99, 97, 116, 101]⟩ : ByteArray), (⟨#[115, 116, 97, 116]⟩ : ByteArray), (⟨#[114, 101, 97, 100, 100, 105, 114]⟩ : ByteArray), (⟨#[115, 110, 97, 112]⟩ : ByteArray), (⟨#[117, 110, 115, 110, 97, 112]⟩ : ByteArray), (⟨#[115, 110, 97, 112, 115]⟩ : ByteArray)] : List ByteArray)) (inner := [.string ⟨#[]⟩, .string (⟨#[99, 114, 101, 97, 116, 101]⟩ : ByteArray), .string (⟨#[109, 107, 100, 105, 114]⟩ : ByteArray), .string (⟨#[117, 110, 108, 105, 110, 107]⟩ : ByteArray), .string (⟨#[114, 109, 100, 105, 114]⟩ : ByteArray), .string (⟨#[114, 101, 110, 97, 109, 101]⟩ : ByteArray), .string (⟨#[108, 105, 110, 107]⟩ : ByteArray), .string (⟨#[114, 101, 97, 100]⟩ : ByteArray), .string (⟨#[119, 114, 105, 116, 101]⟩ : ByteArray), .string (⟨#[116, 114, 117, 110, 99, 97, 116, 101]⟩ : ByteArray), .string (⟨#[115, 116, 97, 116]⟩ : ByteArray), .string (⟨#[114, 101, 97, 100, 100, 105, 114]⟩ : ByteArray), .string (⟨#[115, 110, 97, 112]⟩ : ByteArray), .string (⟨#[117, 110, 115, 110, 97, 112]⟩ : ByteArray), .string (⟨#[115, 110, 97, 112, 115]⟩ : ByteArray)]) (ok := fun _ => True) (okp := fun _ => True) ?hr ?hp (fun _ hk => hk) trivial (Below.refl _ _) (Nat.le_refl _) (by simp) ?_; (case hd => rfl); (case hg => rfl); (case hr => first | (go_simp; done) | (go_simp; rfl)); (case hp => exact (Reps.one (show Kd.M Kd.string _ _ _ (⟨#[]⟩ : ByteArray) [.string ⟨#[]⟩] from rfl) (Reps.one (show Kd.M Kd.string _ _ _ (⟨#[99, 114, 101, 97, 116, 101]⟩ : ByteArray) [.string (⟨#[99, 114, 101, 97, 116, 101]⟩ : ByteArray)] from rfl) (Reps.one (show Kd.M Kd.string _ _ _ (⟨#[109, 107, 100, 105, 114]⟩ : ByteArray) [.string (⟨#[109, 107, 100, 105, 114]⟩ : ByteArray)] from rfl) (Reps.one (show Kd.M Kd.string _ _ _ (⟨#[117, 110, 108, 105, 110, 107]⟩ : ByteArray) [.string (⟨#[117, 110, 108, 105, 110, 107]⟩ : ByteArray)] from rfl) (Reps.one (show Kd.M Kd.string _ _ _ (⟨#[114, 109, 100, 105, 114]⟩ : ByteArray) [.string (⟨#[114, 109, 100, 105, 114]⟩ : ByteArray)] from rfl) (Reps.one (show Kd.M Kd.string _ _ _ (⟨#[114, 101, 110, 97, 109, 101]⟩ : ByteArray) [.string (⟨#[114, 101, 110, 97, 109, 101]⟩ : ByteArray)] from rfl) (Reps.one (show Kd.M Kd.string _ _ _ (⟨#[108, 105, 110, 107]⟩ : ByteArray) [.string (⟨#[108, 105, 110, 107]⟩ : ByteArray)] from rfl) (Reps.one (show Kd.M Kd.string _ _ _ (⟨#[114, 101, 97, 100]⟩ : ByteArray) [.string (⟨#[114, 101, 97, 100]⟩ : ByteArray)] from rfl) (Reps.one (show Kd.M Kd.string _ _ _ (⟨#[119, 114, 105, 116, 101]⟩ : ByteArray) [.string (⟨#[119, 114, 105, 116, 101]⟩ : ByteArray)] from rfl) (Reps.one (show Kd.M Kd.string _ _ _ (⟨#[116, 114, 117, 110, 99, 97, 116, 101]⟩ : ByteArray) [.string (⟨#[116, 114, 117, 110, 99, 97, 116, 101]⟩ : ByteArray)] from rfl) (Reps.one (show Kd.M Kd.string _ _ _ (⟨#[115, 116, 97, 116]⟩ : ByteArray) [.string (⟨#[115, 116, 97, 116]⟩ : ByteArray)] from rfl) (Reps.one (show Kd.M Kd.string _ _ _ (⟨#[114, 101, 97, 100, 100, 105, 114]⟩ : ByteArray) [.string (⟨#[114, 101, 97, 100, 100, 105, 114]⟩ : ByteArray)] from rfl) (Reps.one (show Kd.M Kd.string _ _ _ (⟨#[115, 110, 97, 112]⟩ : ByteArray) [.string (⟨#[115, 110, 97, 112]⟩ : ByteArray)] from rfl) (Reps.one (show Kd.M Kd.string _ _ _ (⟨#[117, 110, 115, 110, 97, 112]⟩ : ByteArray) [.string (⟨#[117, 110, 115, 110, 97, 112]⟩ : ByteArray)] from rfl) (Reps.one (show Kd.M Kd.string _ _ _ (⟨#[115, 110, 97, 112, 115]⟩ : ByteArray) [.string (⟨#[115, 110, 97, 112, 115]⟩ : ByteArray)] from rfl) (Reps.none _ _))))))))))))))))); intro v104 w6 ho7 hb hg_ hnew_; clear hg_ hnew_; (first | rw [← Ny103.out] at ho7 | (simp only [Int.reduceToNat] at ho7; rw [← Ny103.out] at ho7)); have n0_ := Aside0.mk (Kd.R_lower ho7 (below_size (by repeat (first | (with_reducible first | exact HB.out | apply s1 | apply s2 | apply s3) | exact HB.out)))); have n1_ := Aside0.mk (below_step (by repeat (first | (with_reducible first | exact HB.out | apply s1 | apply s2 | apply s3) | exact HB.out)) hb); clear HB; have HO105 := n0_; have HB := n1_; clear n0_ n1_; clear hb ho7; obtain ⟨Ao8, co8, eo8⟩ := Kd.R_slice HO105.out; subst eo8))
      go_ret
      exact ⟨by first | rfl | (simp [errW_none, errW_some] <;> rfl) | (simp [*, errW_none, errW_some] <;> rfl), by repeat (first | (with_reducible first | exact HB.out | apply s1 | apply s2 | apply s3) | exact HB.out)⟩
    · rw [if_neg c5] at H
      have c5b0 : decide ((y103.length : Int) ≤ a0) = false := decide_eq_false c5
      clear c5
      by_cases c9 : 0 ≤ a0
      · rw [if_pos c9] at H
        have c9b0 : decide (0 ≤ a0) = true := decide_eq_true c9
        clear c9
        by_cases c10 : a0 < (y103.length : Int)
        · rw [if_pos c10] at H
          have c10b0 : decide (a0 < (y103.length : Int)) = true := decide_eq_true c10
          clear c10
          obtain rfl := Option.some.inj H
          go_enter Tryz.func32, Tryz.ntmps32
          go_wp2_with (first | ((with_reducible refine gate_dst (N := 4) rfl ?_); (try (refine gate_guard (by rfl) ?_; dsimp only)); refine Kd.R_lit Kd.string _ 9 ?hg (N := 4) ?hd (xs := ([(⟨#[]⟩ : ByteArray), (⟨#[99, 114, 101, 97, 116, 101]⟩ : ByteArray), (⟨#[109, 107, 100, 105, 114]⟩ : ByteArray), (⟨#[117, 110, 108, 105, 110, 107]⟩ : ByteArray), (⟨#[114, 109, 100, 105, 114]⟩ : ByteArray), (⟨#[114, 101, 110, 97, 109, 101]⟩ : ByteArray), (⟨#[108, 105, 110, 107]⟩ : ByteArray), (⟨#[114, 101, 97, 100]⟩ : ByteArray), (⟨#[119, 114, 105, 116, 101]⟩ : ByteArray), (⟨#[116, 114, 117, 110, 99, 97, 116, 101]⟩ : ByteArray), (⟨#[115, 116, 97, 116]⟩ : ByteArray), (⟨#[114, 101, 97, 100, 100, 105, 114]⟩ : ByteArray), (⟨#[115, 110, 97, 112]⟩ : ByteArray), (⟨#[117, 110, 115, 110, 97, 112]⟩ : ByteArray), (⟨#[115, 110, 97, 112, 115]⟩ : ByteArray)] : List ByteArray)) (inner := [.string ⟨#[]⟩, .string (⟨#[99, 114, 101, 97, 116, 101]⟩ : ByteArray), .string (⟨#[109, 107, 100, 105, 114]⟩ : ByteArray), .string (⟨#[117, 110, 108, 105, 110, 107]⟩ : ByteArray), .string (⟨#[114, 109, 100, 105, 114]⟩ : ByteArray), .string (⟨#[114, 101, 110, 97, 109, 101]⟩ : ByteArray), .string (⟨#[108, 105, 110, 107]⟩ : ByteArray), .string (⟨#[114, 101, 97, 100]⟩ : ByteArray), .string (⟨#[119, 114, 105, 116, 101]⟩ : ByteArray), .string (⟨#[116, 114, 117, 110, 99, 97, 116, 101]⟩ : ByteArray), .string (⟨#[115, 116, 97, 116]⟩ : ByteArray), .string (⟨#[114, 101, 97, 100, 100, 105, 114]⟩ : ByteArray), .string (⟨#[115, 110, 97, 112]⟩ : ByteArray), .string (⟨#[117, 110, 115, 110, 97, 112]⟩ : ByteArray), .string (⟨#[115, 110, 97, 112, 115]⟩ : ByteArray)]) (ok := fun _ => True) (okp := fun _ => True) ?hr ?hp (fun _ hk => hk) trivial (Below.refl _ _) (Nat.le_refl _) (by simp) ?_; (case hd => rfl); (case hg => rfl); (case hr => first | (go_simp; done) | (go_simp; rfl)); (case hp => exact (Reps.one (show Kd.M Kd.string _ _ _ (⟨#[]⟩ : ByteArray) [.string ⟨#[]⟩] from rfl) (Reps.one (show Kd.M Kd.string _ _ _ (⟨#[99, 114, 101, 97, 116, 101]⟩ : ByteArray) [.string (⟨#[99, 114, 101, 97, 116, 101]⟩ : ByteArray)] from rfl) (Reps.one (show Kd.M Kd.string _ _ _ (⟨#[109, 107, 100, 105, 114]⟩ : ByteArray) [.string (⟨#[109, 107, 100, 105, 114]⟩ : ByteArray)] from rfl) (Reps.one (show Kd.M Kd.string _ _ _ (⟨#[117, 110, 108, 105, 110, 107]⟩ : ByteArray) [.string (⟨#[117, 110, 108, 105, 110, 107]⟩ : ByteArray)] from rfl) (Reps.one (show Kd.M Kd.string _ _ _ (⟨#[114, 109, 100, 105, 114]⟩ : ByteArray) [.string (⟨#[114, 109, 100, 105, 114]⟩ : ByteArray)] from rfl) (Reps.one (show Kd.M Kd.string _ _ _ (⟨#[114, 101, 110, 97, 109, 101]⟩ : ByteArray) [.string (⟨#[114, 101, 110, 97, 109, 101]⟩ : ByteArray)] from rfl) (Reps.one (show Kd.M Kd.string _ _ _ (⟨#[108, 105, 110, 107]⟩ : ByteArray) [.string (⟨#[108, 105, 110, 107]⟩ : ByteArray)] from rfl) (Reps.one (show Kd.M Kd.string _ _ _ (⟨#[114, 101, 97, 100]⟩ : ByteArray) [.string (⟨#[114, 101, 97, 100]⟩ : ByteArray)] from rfl) (Reps.one (show Kd.M Kd.string _ _ _ (⟨#[119, 114, 105, 116, 101]⟩ : ByteArray) [.string (⟨#[119, 114, 105, 116, 101]⟩ : ByteArray)] from rfl) (Reps.one (show Kd.M Kd.string _ _ _ (⟨#[116, 114, 117, 110, 99, 97, 116, 101]⟩ : ByteArray) [.string (⟨#[116, 114, 117, 110, 99, 97, 116, 101]⟩ : ByteArray)] from rfl) (Reps.one (show Kd.M Kd.string _ _ _ (⟨#[115, 116, 97, 116]⟩ : ByteArray) [.string (⟨#[115, 116, 97, 116]⟩ : ByteArray)] from rfl) (Reps.one (show Kd.M Kd.string _ _ _ (⟨#[114, 101, 97, 100, 100, 105, 114]⟩ : ByteArray) [.string (⟨#[114, 101, 97, 100, 100, 105, 114]⟩ : ByteArray)] from rfl) (Reps.one (show Kd.M Kd.string _ _ _ (⟨#[115, 110, 97, 112]⟩ : ByteArray) [.string (⟨#[115, 110, 97, 112]⟩ : ByteArray)] from rfl) (Reps.one (show Kd.M Kd.string _ _ _ (⟨#[117, 110, 115, 110, 97, 112]⟩ : ByteArray) [.string (⟨#[117, 110, 115, 110, 97, 112]⟩ : ByteArray)] from rfl) (Reps.one (show Kd.M Kd.string _ _ _ (⟨#[115, 110, 97, 112, 115]⟩ : ByteArray) [.string (⟨#[115, 110, 97, 112, 115]⟩ : ByteArray)] from rfl) (Reps.none _ _))))))))))))))))); intro v104 w11 ho12 hb hg_ hnew_; clear hg_ hnew_; (first | rw [← Ny103.out] at ho12 | (simp only [Int.reduceToNat] at ho12; rw [← Ny103.out] at ho12)); have n0_ := Aside0.mk (Kd.R_lower ho12 (below_size (by repeat (first | (with_reducible first | exact HB.out | apply s1 | apply s2 | apply s3) | exact HB.out)))); have n1_ := Aside0.mk (below_step (by repeat (first | (with_reducible first | exact HB.out | apply s1 | apply s2 | apply s3) | exact HB.out)) hb); clear HB; have HO105 := n0_; have HB := n1_; clear n0_ n1_; clear hb ho12; obtain ⟨Ao13, co13, eo13⟩ := Kd.R_slice HO105.out; subst eo13; have p106 : 0 ≤ (a0 : Int) := of_decide_eq_true (by first | (with_reducible assumption) | assumption); have q106 : a0 < (y103.length : Int) := of_decide_eq_true (by first | (with_reducible assumption) | assumption); obtain ⟨ad106, e106, hx106_0⟩ := Kd.at_string (Kd.R_reads' HO105.out).2.2 a0 p106 q106; cases e106; replace p106 := eq_true p106; replace q106 := eq_true q106))
          go_ret
          exact ⟨by first | rfl | (simp [errW_none, errW_some] <;> rfl) | (simp [*, errW_none, errW_some] <;> rfl), by repeat (first | (with_reducible first | exact HB.out | apply s1 | apply s2 | apply s3) | exact HB.out)⟩
        · rw [if_neg c10] at H
          exact absurd H (by simp)
      · rw [if_neg c9] at H
        exact absurd H (by simp)

end Go.Proofs.YtcbmbjapcpbnnaaGreatDoor.G
