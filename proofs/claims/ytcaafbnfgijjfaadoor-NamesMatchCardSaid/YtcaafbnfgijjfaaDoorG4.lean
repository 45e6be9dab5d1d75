-- WRITTEN BY a program of this session (wip/gprint.py) out of the translation
import Derived.Test.YtcaafbnfgijjfaaDoorG0
import Derived.Test.YtcaafbnfgijjfaaDoorG2
import Derived.Test.YtcaafbnfgijjfaaDoorG3
namespace Go.Proofs.YtcaafbnfgijjfaaDoor.G
open Go.RowKit Go.Proofs.YtcaafbnfgijjfaaDoorW.PrintWords Go.Proofs.YtcaafbnfgijjfaaDoorW.PrintLast Go.Proofs.YtcaafbnfgijjfaaDoorW.PrintMore
attribute [local go_sem] max2_int min2_int max_two min_two max_three min_three max_four min_four   -- for this text's walks alone
set_option linter.unusedVariables false
set_option linter.unusedSimpArgs false

/-! ### dolmenlaw4_NamesMatch: function 3 -/
mutual
def dolmenlaw4_NamesMatch.j0 : Nat → ByteArray → ByteArray → Bool → Option (Bool)
  | 0, _, _, _ => none
  | k + 1, x0, x1, x14 => if x14 = true then ((dolmenlaw4_awake.f k).bind fun t138 => (some t138)) else (dolmenlaw4_NamesMatch.l0 k x0 x1 false 0)
def dolmenlaw4_NamesMatch.l0 : Nat → ByteArray → ByteArray → Bool → Int → Option (Bool)
  | 0, _, _, _, _ => none
  | k + 1, x0, x1, x5, x6 => if x6 < (x0.size : Int) then (if x5 = true then (dolmenlaw4_NamesMatch.l0 k x0 x1 true (wrap64 (x6 + 1))) else (if 0 ≤ x6 then (if (bt x0 x6) = 42 then (dolmenlaw4_NamesMatch.l0 k x0 x1 true (wrap64 (x6 + 1))) else (dolmenlaw4_NamesMatch.l0 k x0 x1 ((bt x0 x6) == 63) (wrap64 (x6 + 1)))) else (none))) else ((names_Match.f k (⟨#[42]⟩ : ByteArray) x1).bind fun t139 => (if t139 = true then (if x0.size + 1 ≤ 9223372036854775807 then (if x0.size + x1.size ≤ 9223372036854775807 then ((names_Match.f k (x0 ++ (⟨#[42]⟩ : ByteArray)) (x0 ++ x1)).bind fun t140 => (if t140 = true then (if 1 + x1.size ≤ 9223372036854775807 then ((names_Match.f k ((⟨#[42]⟩ : ByteArray) ++ x1) (x0 ++ x1)).bind fun t141 => (if t141 = true then ((names_Match.f k x0 x0).bind fun t142 => (if t142 = true then (if x5 = true then ((names_Match.f k (⟨#[63]⟩ : ByteArray) x1).bind fun t143 => (if (((x1.size : Int) == 1) == t143) = true then ((dolmenlaw4_awake.f k).bind fun t144 => (some t144)) else (some false))) else ((names_Match.f k x0 x1).bind fun t145 => (if (t145 == (x0.toList == x1.toList)) = true then ((names_Match.f k (⟨#[63]⟩ : ByteArray) x1).bind fun t146 => (if (((x1.size : Int) == 1) == t146) = true then ((dolmenlaw4_awake.f k).bind fun t147 => (some t147)) else (some false))) else (some false)))) else (some false))) else (some false))) else (none)) else (some false))) else (none)) else (none)) else (some false)))
end
def dolmenlaw4_NamesMatch.f (k : Nat) (a0 : ByteArray) (a1 : ByteArray) : Option (Bool) := if (a0.size : Int) > 18 then (dolmenlaw4_NamesMatch.j0 k a0 a1 true) else (dolmenlaw4_NamesMatch.j0 k a0 a1 (decide ((a1.size : Int) > 18)))
theorem dolmenlaw4_NamesMatch.mono_l : ∀ k, (∀ y0 y1 y2, LeO (dolmenlaw4_NamesMatch.j0 k y0 y1 y2) (dolmenlaw4_NamesMatch.j0 (k + 1) y0 y1 y2)) ∧ (∀ y0 y1 y2 y3, LeO (dolmenlaw4_NamesMatch.l0 k y0 y1 y2 y3) (dolmenlaw4_NamesMatch.l0 (k + 1) y0 y1 y2 y3))
  | 0 => ⟨fun _ _ _ r h => by simp [dolmenlaw4_NamesMatch.j0] at h, fun _ _ _ _ r h => by simp [dolmenlaw4_NamesMatch.l0] at h⟩
  | k + 1 => by
    obtain ⟨ih0, ih1⟩ := dolmenlaw4_NamesMatch.mono_l k
    refine ⟨?_, ?_⟩
    · intro y0 y1 y2
      unfold dolmenlaw4_NamesMatch.j0
      repeat' first
      | (with_reducible exact ih0 _ _ _)
      | (with_reducible exact ih1 _ _ _ _)
      | (with_reducible exact dolmenlaw4_awake.mono _)
      | (with_reducible exact names_Match.mono _ _ _)
      | (with_reducible exact LeO.refl _)
      | (with_reducible exact LeO.none _)
      | (with_reducible refine LeO.ite ?_ ?_)
      | (with_reducible refine LeO.bind ?_ (fun _ => ?_))
      | exact ih0 _ _ _
      | exact ih1 _ _ _ _
      | exact dolmenlaw4_awake.mono _
      | exact names_Match.mono _ _ _
      | exact LeO.none _
      | refine LeO.ite ?_ ?_
      | refine LeO.bind ?_ (fun _ => ?_)
    · intro y0 y1 y2 y3
      unfold dolmenlaw4_NamesMatch.l0
      repeat' first
      | (with_reducible exact ih0 _ _ _)
      | (with_reducible exact ih1 _ _ _ _)
      | (with_reducible exact dolmenlaw4_awake.mono _)
      | (with_reducible exact names_Match.mono _ _ _)
      | (with_reducible exact LeO.refl _)
      | (with_reducible exact LeO.none _)
      | (with_reducible refine LeO.ite ?_ ?_)
      | (with_reducible refine LeO.bind ?_ (fun _ => ?_))
      | exact ih0 _ _ _
      | exact ih1 _ _ _ _
      | exact dolmenlaw4_awake.mono _
      | exact names_Match.mono _ _ _
      | exact LeO.none _
      | refine LeO.ite ?_ ?_
      | refine LeO.bind ?_ (fun _ => ?_)
theorem dolmenlaw4_NamesMatch.mono : ∀ a0 a1 k, LeO (dolmenlaw4_NamesMatch.f k a0 a1) (dolmenlaw4_NamesMatch.f (k + 1) a0 a1) := by
  intro a0 a1 k
  obtain ⟨ih0, ih1⟩ := dolmenlaw4_NamesMatch.mono_l k
  unfold dolmenlaw4_NamesMatch.f
  repeat' first
      | (with_reducible exact ih0 _ _ _)
      | (with_reducible exact ih1 _ _ _ _)
      | (with_reducible exact dolmenlaw4_awake.mono _)
      | (with_reducible exact names_Match.mono _ _ _)
      | (with_reducible exact LeO.refl _)
      | (with_reducible exact LeO.none _)
      | (with_reducible refine LeO.ite ?_ ?_)
      | (with_reducible refine LeO.bind ?_ (fun _ => ?_))
      | exact ih0 _ _ _
      | exact ih1 _ _ _ _
      | exact dolmenlaw4_awake.mono _
      | exact names_Match.mono _ _ _
      | exact LeO.none _
      | refine LeO.ite ?_ ?_
      | refine LeO.bind ?_ (fun _ => ?_)
set_option maxHeartbeats 8000000 in
set_option maxRecDepth 100000 in
theorem dolmenlaw4_NamesMatch.calls (k : Nat) (a0 : ByteArray) (a1 : ByteArray) (r : Bool) (w : World) (h : dolmenlaw4_NamesMatch.f k a0 a1 = some r) :
    Calls Tryd.prog 3 #[.string a0, .string a1] w fun e w' => e = .returned (.bool r) ∧ Below w.heap.size w w' := by
  have HB := Aside0.mk (Below.refl w.heap.size w)
  have H : (if (a0.size : Int) > 18 then (dolmenlaw4_NamesMatch.j0 k a0 a1 true) else (dolmenlaw4_NamesMatch.j0 k a0 a1 (decide ((a1.size : Int) > 18)))) = some r := h
  clear h
  have HC3 := Aside0.mk H
  clear H
  go_enter Tryd.func3, Tryd.ntmps3
  go_upto_region 1 with (fail)
  go_cut [14] (fun v14 wc => ∃ (kq : Nat) (x14_2 : Bool), v14 = .bool x14_2 ∧ Aside0 (dolmenlaw4_NamesMatch.j0 kq a0 a1 x14_2 = some r) ∧ Aside0 (kq ≤ k) ∧ Aside0 (Below w.heap.size w wc))
  case first =>
    have H := HC3.out
    clear HC3
    by_cases c4 : (a0.size : Int) > 18
    · rw [if_pos c4] at H
      have c4b0 : decide (18 < (a0.size : Int)) = true := decide_eq_true c4
      have c4b1 : decide (18 < a0.size) = true := decide_eq_true (by omega)
      clear c4
      (first | rw [c4b0] | (simp only [i64_w, i32_w]; rw [c4b0]) | skip)
      have H' := Aside0.mk H
      clear H
      go_wp2
      go_meet
      case rel => exact ⟨_, (true), (by first | rfl | (simp; done) | (simp [*]; done)), H', ⟨by first | omega | exact Nat.le_refl _⟩, ⟨by repeat (first | (with_reducible first | exact HB.out | apply below_alloc | apply pw_below_drewN | apply below_drew1) | exact HB.out)⟩⟩
    · rw [if_neg c4] at H
      have c4b0 : decide (18 < (a0.size : Int)) = false := decide_eq_false c4
      have c4b1 : decide (18 < a0.size) = false := decide_eq_false (by omega)
      clear c4
      (first | rw [c4b0] | (simp only [i64_w, i32_w]; rw [c4b0]) | skip)
      have H' := Aside0.mk H
      clear H
      go_wp2
      go_meet
      case rel => exact ⟨_, (decide ((a1.size : Int) > 18)), (by first | rfl | (simp; done) | (simp [*]; done)), H', ⟨by first | omega | exact Nat.le_refl _⟩, ⟨by repeat (first | (with_reducible first | exact HB.out | apply below_alloc | apply pw_below_drewN | apply below_drew1) | exact HB.out)⟩⟩
  case rest =>
    clear HC3
    try clear p2
    try clear c3
    try clear c4
    try clear c4b0
    try clear c4b1
    obtain ⟨kq, x14_2, rfl, HA, HJ2, HB⟩ := hcut
    cases kq with
    | zero => exact absurd HA.out (by simp [dolmenlaw4_NamesMatch.j0])
    | succ kj2 =>
      have H := HA.out
      clear HA
      simp only [dolmenlaw4_NamesMatch.j0] at H
      by_cases c5 : x14_2 = true
      · subst c5
        have H1 : ((dolmenlaw4_awake.f kj2).bind fun t138 => (some t138)) = some r := by rw [if_pos rfl] at H; exact H
        clear H
        have H := H1
        clear H1
        replace H := Option.bind_eq_some_iff.mp H
        obtain ⟨t138, A60, H⟩ := H
        replace H : (some t138) = some r := H
        have A6 := Aside0.mk A60
        clear A60
        obtain rfl := Option.some.inj H
        go_wp2_with (first | ((with_reducible refine gate_callee (f := 10) rfl ?_); refine goesL_ (some 15) rfl rfl Tryd.func10 (by kernel_rfl) rfl #[] rfl (by (try simp only [List.map_toArray, List.map_cons, List.map_nil]); first | done | rfl | (simp only [List.length_drop, List.length_take]; rfl)) ?_; (with_reducible refine (dolmenlaw4_awake.calls kj2  t138 _ A6.out).mono ?_); rintro e w7 ⟨rfl, hb⟩; refine ⟨_, rfl, ?_⟩; have n0_ := Aside0.mk (below_step (by repeat (first | (with_reducible first | exact HB.out | apply below_alloc | apply pw_below_drewN | apply below_drew1) | exact HB.out)) hb); clear HB; have HB := n0_; clear n0_; (try clear hb); (try clear hb2); (try clear hk); (try clear hi)))
        go_ret
        exact ⟨by first | rfl | (simp [errW_none, errW_some] <;> rfl) | (simp [*, errW_none, errW_some] <;> rfl), by repeat (first | (with_reducible first | exact HB.out | apply below_alloc | apply pw_below_drewN | apply below_drew1) | exact HB.out)⟩
      · replace c5 := Bool.eq_false_iff.mpr c5
        subst c5
        have H1 : (dolmenlaw4_NamesMatch.l0 kj2 a0 a1 false 0) = some r := by rw [if_neg (show ¬ (false = true) by decide)] at H; exact H
        clear H
        have H := H1
        clear H1
        have H' := Aside0.mk H
        clear H
        go_wp2
        go_loopg [5, 6] kj2 (fun kq v5 v6 w' => ∃ (x5_2 : Bool) (x6_2 : Int), v5 = .bool x5_2 ∧ v6 = .int .i64 x6_2 ∧ Aside0 (dolmenlaw4_NamesMatch.l0 kq a0 a1 x5_2 x6_2 = some r) ∧ Aside0 (kq ≤ kj2) ∧ Aside0 (Below w.heap.size w w'))
        case atStart => exact ⟨(false), (0), (by first | rfl | (simp; done) | (simp [*]; done)), (by first | rfl | (simp; done) | (simp [*]; done)), H', ⟨Nat.le_refl _⟩, ⟨by repeat (first | (with_reducible first | exact HB.out | apply below_alloc | apply pw_below_drewN | apply below_drew1) | exact HB.out)⟩⟩
        case round =>
          clear H'
          try clear c1
          try clear p2
          try clear c3
          try clear c4
          try clear c4b0
          try clear c4b1
          try clear c5
          try clear p2
          obtain ⟨x5_2, x6_2, rfl, rfl, HA, HK2, HB⟩ := hrel
          cases gk with
          | zero => exact absurd HA.out (by simp [dolmenlaw4_NamesMatch.l0])
          | succ k2 =>
            have H := HA.out
            clear HA
            simp only [dolmenlaw4_NamesMatch.l0] at H
            by_cases c8 : x6_2 < (a0.size : Int)
            · rw [if_pos c8] at H
              have c8b0 : decide (x6_2 < (a0.size : Int)) = true := decide_eq_true c8
              clear c8
              by_cases c9 : x5_2 = true
              · subst c9
                have H1 : (dolmenlaw4_NamesMatch.l0 k2 a0 a1 true (wrap64 (x6_2 + 1))) = some r := by rw [if_pos rfl] at H; exact H
                clear H
                have H := H1
                clear H1
                have H' := Aside0.mk H
                clear H
                go_wp2
                go_roundg k2
                case measure => have := HJ2.out; have := HK2.out; omega
                case rel => exact ⟨(true), (wrap64 (x6_2 + 1)), (by first | rfl | (simp; done) | (simp [*]; done)), (by first | rfl | (simp; done) | (simp [*]; done)), H', ⟨by have := HJ2.out; have := HK2.out; omega⟩, ⟨by repeat (first | (with_reducible first | exact HB.out | apply below_alloc | apply pw_below_drewN | apply below_drew1) | exact HB.out)⟩⟩
              · replace c9 := Bool.eq_false_iff.mpr c9
                subst c9
                have H1 : (if 0 ≤ x6_2 then (if (bt a0 x6_2) = 42 then (dolmenlaw4_NamesMatch.l0 k2 a0 a1 true (wrap64 (x6_2 + 1))) else (dolmenlaw4_NamesMatch.l0 k2 a0 a1 ((bt a0 x6_2) == 63) (wrap64 (x6_2 + 1)))) else (none)) = some r := by rw [if_neg (show ¬ (false = true) by decide)] at H; exact H
                clear H
                have H := H1
                clear H1
                by_cases c10 : 0 ≤ x6_2
                · rw [if_pos c10] at H
                  have c10b0 : decide (0 ≤ x6_2) = true := decide_eq_true c10
                  clear c10
                  by_cases c12 : (bt a0 x6_2) = 42
                  · rw [if_pos c12] at H
                    have c12b0 : ((bt a0 x6_2) == 42) = true := beq_iff_eq.mpr c12
                    have c12b1 : ((bt a0 x6_2) != 42) = false := bne_eq_false_iff_eq.mpr c12
                    clear c12
                    have H' := Aside0.mk H
                    clear H
                    have p11 : 0 ≤ (x6_2 : Int) := of_decide_eq_true (by first | (with_reducible assumption) | assumption)
                    have q11 : x6_2 < (a0.size : Int) := of_decide_eq_true (by first | (with_reducible assumption) | assumption)
                    have hx11 := bt_at a0 x6_2
                    replace p11 := eq_true p11
                    replace q11 := eq_true q11
                    go_wp2
                    go_roundg k2
                    case measure => have := HJ2.out; have := HK2.out; omega
                    case rel => exact ⟨(true), (wrap64 (x6_2 + 1)), (by first | rfl | (simp; done) | (simp [*]; done)), (by first | rfl | (simp; done) | (simp [*]; done)), H', ⟨by have := HJ2.out; have := HK2.out; omega⟩, ⟨by repeat (first | (with_reducible first | exact HB.out | apply below_alloc | apply pw_below_drewN | apply below_drew1) | exact HB.out)⟩⟩
                  · rw [if_neg c12] at H
                    have c12b0 : ((bt a0 x6_2) == 42) = false := beq_eq_false_iff_ne.mpr c12
                    have c12b1 : ((bt a0 x6_2) != 42) = true := bne_iff_ne.mpr c12
                    have H' := Aside0.mk H
                    clear H
                    have p11 : 0 ≤ (x6_2 : Int) := of_decide_eq_true (by first | (with_reducible assumption) | assumption)
                    have q11 : x6_2 < (a0.size : Int) := of_decide_eq_true (by first | (with_reducible assumption) | assumption)
                    have hx11 := bt_at a0 x6_2
                    replace p11 := eq_true p11
                    replace q11 := eq_true q11
                    have p13 : 0 ≤ (x6_2 : Int) := of_decide_eq_true (by first | (with_reducible assumption) | assumption)
                    have q13 : x6_2 < (a0.size : Int) := of_decide_eq_true (by first | (with_reducible assumption) | assumption)
                    have hx13 := bt_at a0 x6_2
                    replace p13 := eq_true p13
                    replace q13 := eq_true q13
                    go_wp2
                    go_roundg k2
                    case measure => have := HJ2.out; have := HK2.out; omega
                    case rel => exact ⟨(((bt a0 x6_2) == 63)), (wrap64 (x6_2 + 1)), (by first | rfl | (simp; done) | (simp [*]; done)), (by first | rfl | (simp; done) | (simp [*]; done)), H', ⟨by have := HJ2.out; have := HK2.out; omega⟩, ⟨by repeat (first | (with_reducible first | exact HB.out | apply below_alloc | apply pw_below_drewN | apply below_drew1) | exact HB.out)⟩⟩
                · rw [if_neg c10] at H
                  exact absurd H (by simp)
            · rw [if_neg c8] at H
              have c8b0 : decide (x6_2 < (a0.size : Int)) = false := decide_eq_false c8
              clear c8
              replace H := Option.bind_eq_some_iff.mp H
              obtain ⟨t139, A140, H⟩ := H
              replace H : (if t139 = true then (if a0.size + 1 ≤ 9223372036854775807 then (if a0.size + a1.size ≤ 9223372036854775807 then ((names_Match.f k2 (a0 ++ (⟨#[42]⟩ : ByteArray)) (a0 ++ a1)).bind fun t140 => (if t140 = true then (if 1 + a1.size ≤ 9223372036854775807 then ((names_Match.f k2 ((⟨#[42]⟩ : ByteArray) ++ a1) (a0 ++ a1)).bind fun t141 => (if t141 = true then ((names_Match.f k2 a0 a0).bind fun t142 => (if t142 = true then (if x5_2 = true then ((names_Match.f k2 (⟨#[63]⟩ : ByteArray) a1).bind fun t143 => (if (((a1.size : Int) == 1) == t143) = true then ((dolmenlaw4_awake.f k2).bind fun t144 => (some t144)) else (some false))) else ((names_Match.f k2 a0 a1).bind fun t145 => (if (t145 == (a0.toList == a1.toList)) = true then ((names_Match.f k2 (⟨#[63]⟩ : ByteArray) a1).bind fun t146 => (if (((a1.size : Int) == 1) == t146) = true then ((dolmenlaw4_awake.f k2).bind fun t147 => (some t147)) else (some false))) else (some false)))) else (some false))) else (some false))) else (none)) else (some false))) else (none)) else (none)) else (some false)) = some r := H
              have A14 := Aside0.mk A140
              clear A140
              by_cases c15 : t139 = true
              · subst c15
                have H1 : (if a0.size + 1 ≤ 9223372036854775807 then (if a0.size + a1.size ≤ 9223372036854775807 then ((names_Match.f k2 (a0 ++ (⟨#[42]⟩ : ByteArray)) (a0 ++ a1)).bind fun t140 => (if t140 = true then (if 1 + a1.size ≤ 9223372036854775807 then ((names_Match.f k2 ((⟨#[42]⟩ : ByteArray) ++ a1) (a0 ++ a1)).bind fun t141 => (if t141 = true then ((names_Match.f k2 a0 a0).bind fun t142 => (if t142 = true then (if x5_2 = true then ((names_Match.f k2 (⟨#[63]⟩ : ByteArray) a1).bind fun t143 => (if (((a1.size : Int) == 1) == t143) = true then ((dolmenlaw4_awake.f k2).bind fun t144 => (some t144)) else (some false))) else ((names_Match.f k2 a0 a1).bind fun t145 => (if (t145 == (a0.toList == a1.toList)) = true then ((names_Match.f k2 (⟨#[63]⟩ : ByteArray) a1).bind fun t146 => (if (((a1.size : Int) == 1) == t146) = true then ((dolmenlaw4_awake.f k2).bind fun t147 => (some t147)) else (some false))) else (some false)))) else (some false))) else (some false))) else (none)) else (some false))) else (none)) else (none)) = some r := by rw [if_pos rfl] at H; exact H
                clear H
                have H := H1
                clear H1
                by_cases c16 : a0.size + 1 ≤ 9223372036854775807
                · rw [if_pos c16] at H
                  have c16b0 := eq_true c16
                  have c16b1 : decide (a0.size + 1 ≤ 9223372036854775807) = true := decide_eq_true c16
                  try have c16b2 : (9223372036854775807 < a0.size + 1) = False := eq_false (Nat.not_lt.2 c16)
                  by_cases c17 : a0.size + a1.size ≤ 9223372036854775807
                  · rw [if_pos c17] at H
                    have c17b0 := eq_true c17
                    have c17b1 : decide (a0.size + a1.size ≤ 9223372036854775807) = true := decide_eq_true c17
                    try have c17b2 : (9223372036854775807 < a0.size + a1.size) = False := eq_false (Nat.not_lt.2 c17)
                    replace H := Option.bind_eq_some_iff.mp H
                    obtain ⟨t140, A180, H⟩ := H
                    replace H : (if t140 = true then (if 1 + a1.size ≤ 9223372036854775807 then ((names_Match.f k2 ((⟨#[42]⟩ : ByteArray) ++ a1) (a0 ++ a1)).bind fun t141 => (if t141 = true then ((names_Match.f k2 a0 a0).bind fun t142 => (if t142 = true then (if x5_2 = true then ((names_Match.f k2 (⟨#[63]⟩ : ByteArray) a1).bind fun t143 => (if (((a1.size : Int) == 1) == t143) = true then ((dolmenlaw4_awake.f k2).bind fun t144 => (some t144)) else (some false))) else ((names_Match.f k2 a0 a1).bind fun t145 => (if (t145 == (a0.toList == a1.toList)) = true then ((names_Match.f k2 (⟨#[63]⟩ : ByteArray) a1).bind fun t146 => (if (((a1.size : Int) == 1) == t146) = true then ((dolmenlaw4_awake.f k2).bind fun t147 => (some t147)) else (some false))) else (some false)))) else (some false))) else (some false))) else (none)) else (some false)) = some r := H
                    have A18 := Aside0.mk A180
                    clear A180
                    by_cases c19 : t140 = true
                    · subst c19
                      have H1 : (if 1 + a1.size ≤ 9223372036854775807 then ((names_Match.f k2 ((⟨#[42]⟩ : ByteArray) ++ a1) (a0 ++ a1)).bind fun t141 => (if t141 = true then ((names_Match.f k2 a0 a0).bind fun t142 => (if t142 = true then (if x5_2 = true then ((names_Match.f k2 (⟨#[63]⟩ : ByteArray) a1).bind fun t143 => (if (((a1.size : Int) == 1) == t143) = true then ((dolmenlaw4_awake.f k2).bind fun t144 => (some t144)) else (some false))) else ((names_Match.f k2 a0 a1).bind fun t145 => (if (t145 == (a0.toList == a1.toList)) = true then ((names_Match.f k2 (⟨#[63]⟩ : ByteArray) a1).bind fun t146 => (if (((a1.size : Int) == 1) == t146) = true then ((dolmenlaw4_awake.f k2).bind fun t147 => (some t147)) else (some false))) else (some false)))) else (some false))) else (some false))) else (none)) = some r := by rw [if_pos rfl] at H; exact H
                      clear H
                      have H := H1
                      clear H1
                      by_cases c20 : 1 + a1.size ≤ 9223372036854775807
                      · rw [if_pos c20] at H
                        have c20b0 := eq_true c20
                        have c20b1 : decide (1 + a1.size ≤ 9223372036854775807) = true := decide_eq_true c20
                        try have c20b2 : (9223372036854775807 < 1 + a1.size) = False := eq_false (Nat.not_lt.2 c20)
                        replace H := Option.bind_eq_some_iff.mp H
                        obtain ⟨t141, A210, H⟩ := H
                        replace H : (if t141 = true then ((names_Match.f k2 a0 a0).bind fun t142 => (if t142 = true then (if x5_2 = true then ((names_Match.f k2 (⟨#[63]⟩ : ByteArray) a1).bind fun t143 => (if (((a1.size : Int) == 1) == t143) = true then ((dolmenlaw4_awake.f k2).bind fun t144 => (some t144)) else (some false))) else ((names_Match.f k2 a0 a1).bind fun t145 => (if (t145 == (a0.toList == a1.toList)) = true then ((names_Match.f k2 (⟨#[63]⟩ : ByteArray) a1).bind fun t146 => (if (((a1.size : Int) == 1) == t146) = true then ((dolmenlaw4_awake.f k2).bind fun t147 => (some t147)) else (some false))) else (some false)))) else (some false))) else (some false)) = some r := H
                        have A21 := Aside0.mk A210
                        clear A210
                        by_cases c22 : t141 = true
                        · subst c22
                          have H1 : ((names_Match.f k2 a0 a0).bind fun t142 => (if t142 = true then (if x5_2 = true then ((names_Match.f k2 (⟨#[63]⟩ : ByteArray) a1).bind fun t143 => (if (((a1.size : Int) == 1) == t143) = true then ((dolmenlaw4_awake.f k2).bind fun t144 => (some t144)) else (some false))) else ((names_Match.f k2 a0 a1).bind fun t145 => (if (t145 == (a0.toList == a1.toList)) = true then ((names_Match.f k2 (⟨#[63]⟩ : ByteArray) a1).bind fun t146 => (if (((a1.size : Int) == 1) == t146) = true then ((dolmenlaw4_awake.f k2).bind fun t147 => (some t147)) else (some false))) else (some false)))) else (some false))) = some r := by rw [if_pos rfl] at H; exact H
                          clear H
                          have H := H1
                          clear H1
                          replace H := Option.bind_eq_some_iff.mp H
                          obtain ⟨t142, A230, H⟩ := H
                          replace H : (if t142 = true then (if x5_2 = true then ((names_Match.f k2 (⟨#[63]⟩ : ByteArray) a1).bind fun t143 => (if (((a1.size : Int) == 1) == t143) = true then ((dolmenlaw4_awake.f k2).bind fun t144 => (some t144)) else (some false))) else ((names_Match.f k2 a0 a1).bind fun t145 => (if (t145 == (a0.toList == a1.toList)) = true then ((names_Match.f k2 (⟨#[63]⟩ : ByteArray) a1).bind fun t146 => (if (((a1.size : Int) == 1) == t146) = true then ((dolmenlaw4_awake.f k2).bind fun t147 => (some t147)) else (some false))) else (some false)))) else (some false)) = some r := H
                          have A23 := Aside0.mk A230
                          clear A230
                          by_cases c24 : t142 = true
                          · subst c24
                            have H1 : (if x5_2 = true then ((names_Match.f k2 (⟨#[63]⟩ : ByteArray) a1).bind fun t143 => (if (((a1.size : Int) == 1) == t143) = true then ((dolmenlaw4_awake.f k2).bind fun t144 => (some t144)) else (some false))) else ((names_Match.f k2 a0 a1).bind fun t145 => (if (t145 == (a0.toList == a1.toList)) = true then ((names_Match.f k2 (⟨#[63]⟩ : ByteArray) a1).bind fun t146 => (if (((a1.size : Int) == 1) == t146) = true then ((dolmenlaw4_awake.f k2).bind fun t147 => (some t147)) else (some false))) else (some false)))) = some r := by rw [if_pos rfl] at H; exact H
                            clear H
                            have H := H1
                            clear H1
                            by_cases c25 : x5_2 = true
                            · subst c25
                              have H1 : ((names_Match.f k2 (⟨#[63]⟩ : ByteArray) a1).bind fun t143 => (if (((a1.size : Int) == 1) == t143) = true then ((dolmenlaw4_awake.f k2).bind fun t144 => (some t144)) else (some false))) = some r := by rw [if_pos rfl] at H; exact H
                              clear H
                              have H := H1
                              clear H1
                              replace H := Option.bind_eq_some_iff.mp H
                              obtain ⟨t143, A260, H⟩ := H
                              replace H : (if (((a1.size : Int) == 1) == t143) = true then ((dolmenlaw4_awake.f k2).bind fun t144 => (some t144)) else (some false)) = some r := H
                              have A26 := Aside0.mk A260
                              clear A260
                              by_cases c27 : (((a1.size : Int) == 1) == t143) = true
                              · rw [if_pos c27] at H
                                have c27b0 : (((a1.size : Int) == 1) == t143) = true := c27
                                (try (have c27b1 : decide (((a1.size : Int) == 1) = t143) = true := by simpa using c27))
                                (try (have c27b2 : (((a1.size : Int) == 1) == t143) = true := by simpa using c27))
                                clear c27
                                replace H := Option.bind_eq_some_iff.mp H
                                obtain ⟨t144, A280, H⟩ := H
                                replace H : (some t144) = some r := H
                                have A28 := Aside0.mk A280
                                clear A280
                                obtain rfl := Option.some.inj H
                                go_wp2_with (first | ((with_reducible refine gate_callee (f := 11) rfl ?_); refine goesL_ (some 36) rfl rfl Tryd.func11 (by kernel_rfl) rfl #[.string (⟨#[42]⟩ : ByteArray), .string a1] rfl (by (try simp only [List.map_toArray, List.map_cons, List.map_nil]); first | done | rfl | (simp only [List.length_drop, List.length_take]; rfl)) ?_; (with_reducible refine (names_Match.calls k2 (⟨#[42]⟩ : ByteArray) a1 true _ A14.out).mono ?_); rintro e w29 ⟨rfl, hb⟩; refine ⟨_, rfl, ?_⟩; have n0_ := Aside0.mk (below_step (by repeat (first | (with_reducible first | exact HB.out | apply below_alloc | apply pw_below_drewN | apply below_drew1) | exact HB.out)) hb); clear HB; have HB := n0_; clear n0_; (try clear hb); (try clear hb2); (try clear hk); (try clear hi)) | (go_at_call 11; (with_reducible refine (names_Match.calls k2 (a0 ++ (⟨#[42]⟩ : ByteArray)) (a0 ++ a1) true _ A18.out).mono ?_); rintro e w30 ⟨rfl, hb⟩; have n0_ := Aside0.mk (below_step (by repeat (first | (with_reducible first | exact HB.out | apply below_alloc | apply pw_below_drewN | apply below_drew1) | exact HB.out)) hb); clear HB; have HB := n0_; clear n0_; (try clear hb); (try clear hb2); (try clear hk); (try clear hi)) | (go_at_call 11; (with_reducible refine (names_Match.calls k2 ((⟨#[42]⟩ : ByteArray) ++ a1) (a0 ++ a1) true _ A21.out).mono ?_); rintro e w31 ⟨rfl, hb⟩; have n0_ := Aside0.mk (below_step (by repeat (first | (with_reducible first | exact HB.out | apply below_alloc | apply pw_below_drewN | apply below_drew1) | exact HB.out)) hb); clear HB; have HB := n0_; clear n0_; (try clear hb); (try clear hb2); (try clear hk); (try clear hi)) | (go_at_call 11; (with_reducible refine (names_Match.calls k2 a0 a0 true _ A23.out).mono ?_); rintro e w32 ⟨rfl, hb⟩; have n0_ := Aside0.mk (below_step (by repeat (first | (with_reducible first | exact HB.out | apply below_alloc | apply pw_below_drewN | apply below_drew1) | exact HB.out)) hb); clear HB; have HB := n0_; clear n0_; (try clear hb); (try clear hb2); (try clear hk); (try clear hi)) | (go_at_call 11; (with_reducible refine (names_Match.calls k2 (⟨#[63]⟩ : ByteArray) a1 t143 _ A26.out).mono ?_); rintro e w33 ⟨rfl, hb⟩; have n0_ := Aside0.mk (below_step (by repeat (first | (with_reducible first | exact HB.out | apply below_alloc | apply pw_below_drewN | apply below_drew1) | exact HB.out)) hb); clear HB; have HB := n0_; clear n0_; (try clear hb); (try clear hb2); (try clear hk); (try clear hi)) | (go_at_call 10; (with_reducible refine (dolmenlaw4_awake.calls k2  t144 _ A28.out).mono ?_); rintro e w34 ⟨rfl, hb⟩; have n0_ := Aside0.mk (below_step (by repeat (first | (with_reducible first | exact HB.out | apply below_alloc | apply pw_below_drewN | apply below_drew1) | exact HB.out)) hb); clear HB; have HB := n0_; clear n0_; (try clear hb); (try clear hb2); (try clear hk); (try clear hi)))
                                go_ret
                                exact ⟨by first | rfl | (simp [errW_none, errW_some] <;> rfl) | (simp [*, errW_none, errW_some] <;> rfl), by repeat (first | (with_reducible first | exact HB.out | apply below_alloc | apply pw_below_drewN | apply below_drew1) | exact HB.out)⟩
                              · rw [if_neg c27] at H
                                have c27b0 : (((a1.size : Int) == 1) == t143) = false := by simpa using c27
                                (try (have c27b1 : decide (((a1.size : Int) == 1) = t143) = false := by simpa using c27))
                                (try (have c27b2 : (((a1.size : Int) == 1) == t143) = false := by simpa using c27))
                                (try (have c27b3 : ¬ (((a1.size : Int) == 1) = t143) := by simpa using c27))
                                clear c27
                                obtain rfl := Option.some.inj H
                                go_wp2_with (first | ((with_reducible refine gate_callee (f := 11) rfl ?_); refine goesL_ (some 36) rfl rfl Tryd.func11 (by kernel_rfl) rfl #[.string (⟨#[42]⟩ : ByteArray), .string a1] rfl (by (try simp only [List.map_toArray, List.map_cons, List.map_nil]); first | done | rfl | (simp only [List.length_drop, List.length_take]; rfl)) ?_; (with_reducible refine (names_Match.calls k2 (⟨#[42]⟩ : ByteArray) a1 true _ A14.out).mono ?_); rintro e w35 ⟨rfl, hb⟩; refine ⟨_, rfl, ?_⟩; have n0_ := Aside0.mk (below_step (by repeat (first | (with_reducible first | exact HB.out | apply below_alloc | apply pw_below_drewN | apply below_drew1) | exact HB.out)) hb); clear HB; have HB := n0_; clear n0_; (try clear hb); (try clear hb2); (try clear hk); (try clear hi)) | (go_at_call 11; (with_reducible refine (names_Match.calls k2 (a0 ++ (⟨#[42]⟩ : ByteArray)) (a0 ++ a1) true _ A18.out).mono ?_); rintro e w36 ⟨rfl, hb⟩; have n0_ := Aside0.mk (below_step (by repeat (first | (with_reducible first | exact HB.out | apply below_alloc | apply pw_below_drewN | apply below_drew1) | exact HB.out)) hb); clear HB; have HB := n0_; clear n0_; (try clear hb); (try clear hb2); (try clear hk); (try clear hi)) | (go_at_call 11; (with_reducible refine (names_Match.calls k2 ((⟨#[42]⟩ : ByteArray) ++ a1) (a0 ++ a1) true _ A21.out).mono ?_); rintro e w37 ⟨rfl, hb⟩; have n0_ := Aside0.mk (below_step (by repeat (first | (with_reducible first | exact HB.out | apply below_alloc | apply pw_below_drewN | apply below_drew1) | exact HB.out)) hb); clear HB; have HB := n0_; clear n0_; (try clear hb); (try clear hb2); (try clear hk); (try clear hi)) | (go_at_call 11; (with_reducible refine (names_Match.calls k2 a0 a0 true _ A23.out).mono ?_); rintro e w38 ⟨rfl, hb⟩; have n0_ := Aside0.mk (below_step (by repeat (first | (with_reducible first | exact HB.out | apply below_alloc | apply pw_below_drewN | apply below_drew1) | exact HB.out)) hb); clear HB; have HB := n0_; clear n0_; (try clear hb); (try clear hb2); (try clear hk); (try clear hi)) | (go_at_call 11; (with_reducible refine (names_Match.calls k2 (⟨#[63]⟩ : ByteArray) a1 t143 _ A26.out).mono ?_); rintro e w39 ⟨rfl, hb⟩; have n0_ := Aside0.mk (below_step (by repeat (first | (with_reducible first | exact HB.out | apply below_alloc | apply pw_below_drewN | apply below_drew1) | exact HB.out)) hb); clear HB; have HB := n0_; clear n0_; (try clear hb); (try clear hb2); (try clear hk); (try clear hi)))
                                go_ret
                                exact ⟨by first | rfl | (simp [errW_none, errW_some] <;> rfl) | (simp [*, errW_none, errW_some] <;> rfl), by repeat (first | (with_reducible first | exact HB.out | apply below_alloc | apply pw_below_drewN | apply below_drew1) | exact HB.out)⟩
                            · replace c25 := Bool.eq_false_iff.mpr c25
                              subst c25
                              have H1 : ((names_Match.f k2 a0 a1).bind fun t145 => (if (t145 == (a0.toList == a1.toList)) = true then ((names_Match.f k2 (⟨#[63]⟩ : ByteArray) a1).bind fun t146 => (if (((a1.size : Int) == 1) == t146) = true then ((dolmenlaw4_awake.f k2).bind fun t147 => (some t147)) else (some false))) else (some false))) = some r := by rw [if_neg (show ¬ (false = true) by decide)] at H; exact H
                              clear H
                              have H := H1
                              clear H1
                              replace H := Option.bind_eq_some_iff.mp H
                              obtain ⟨t145, A400, H⟩ := H
                              replace H : (if (t145 == (a0.toList == a1.toList)) = true then ((names_Match.f k2 (⟨#[63]⟩ : ByteArray) a1).bind fun t146 => (if (((a1.size : Int) == 1) == t146) = true then ((dolmenlaw4_awake.f k2).bind fun t147 => (some t147)) else (some false))) else (some false)) = some r := H
                              have A40 := Aside0.mk A400
                              clear A400
                              by_cases c41 : (t145 == (a0.toList == a1.toList)) = true
                              · rw [if_pos c41] at H
                                have c41b0 : (t145 == (a0.toList == a1.toList)) = true := c41
                                (try (have c41b1 : decide (t145 = (a0.toList == a1.toList)) = true := by simpa using c41))
                                (try (have c41b2 : (t145 == (a0.toList == a1.toList)) = true := by simpa using c41))
                                clear c41
                                replace H := Option.bind_eq_some_iff.mp H
                                obtain ⟨t146, A420, H⟩ := H
                                replace H : (if (((a1.size : Int) == 1) == t146) = true then ((dolmenlaw4_awake.f k2).bind fun t147 => (some t147)) else (some false)) = some r := H
                                have A42 := Aside0.mk A420
                                clear A420
                                by_cases c43 : (((a1.size : Int) == 1) == t146) = true
                                · rw [if_pos c43] at H
                                  have c43b0 : (((a1.size : Int) == 1) == t146) = true := c43
                                  (try (have c43b1 : decide (((a1.size : Int) == 1) = t146) = true := by simpa using c43))
                                  (try (have c43b2 : (((a1.size : Int) == 1) == t146) = true := by simpa using c43))
                                  clear c43
                                  replace H := Option.bind_eq_some_iff.mp H
                                  obtain ⟨t147, A440, H⟩ := H
                                  replace H : (some t147) = some r := H
                                  have A44 := Aside0.mk A440
                                  clear A440
                                  obtain rfl := Option.some.inj H
                                  go_wp2_with (first | ((with_reducible refine gate_callee (f := 11) rfl ?_); refine goesL_ (some 36) rfl rfl Tryd.func11 (by kernel_rfl) rfl #[.string (⟨#[42]⟩ : ByteArray), .string a1] rfl (by (try simp only [List.map_toArray, List.map_cons, List.map_nil]); first | done | rfl | (simp only [List.length_drop, List.length_take]; rfl)) ?_; (with_reducible refine (names_Match.calls k2 (⟨#[42]⟩ : ByteArray) a1 true _ A14.out).mono ?_); rintro e w45 ⟨rfl, hb⟩; refine ⟨_, rfl, ?_⟩; have n0_ := Aside0.mk (below_step (by repeat (first | (with_reducible first | exact HB.out | apply below_alloc | apply pw_below_drewN | apply below_drew1) | exact HB.out)) hb); clear HB; have HB := n0_; clear n0_; (try clear hb); (try clear hb2); (try clear hk); (try clear hi)) | (go_at_call 11; (with_reducible refine (names_Match.calls k2 (a0 ++ (⟨#[42]⟩ : ByteArray)) (a0 ++ a1) true _ A18.out).mono ?_); rintro e w46 ⟨rfl, hb⟩; have n0_ := Aside0.mk (below_step (by repeat (first | (with_reducible first | exact HB.out | apply below_alloc | apply pw_below_drewN | apply below_drew1) | exact HB.out)) hb); clear HB; have HB := n0_; clear n0_; (try clear hb); (try clear hb2); (try clear hk); (try clear hi)) | (go_at_call 11; (with_reducible refine (names_Match.calls k2 ((⟨#[42]⟩ : ByteArray) ++ a1) (a0 ++ a1) true _ A21.out).mono ?_); rintro e w47 ⟨rfl, hb⟩; have n0_ := Aside0.mk (below_step (by repeat (first | (with_reducible first | exact HB.out | apply below_alloc | apply pw_below_drewN | apply below_drew1) | exact HB.out)) hb); clear HB; have HB := n0_; clear n0_; (try clear hb); (try clear hb2); (try clear hk); (try clear hi)) | (go_at_call 11; (with_reducible refine (names_Match.calls k2 a0 a0 true _ A23.out).mono ?_); rintro e w48 ⟨rfl, hb⟩; have n0_ := Aside0.mk (below_step (by repeat (first | (with_reducible first | exact HB.out | apply below_alloc | apply pw_below_drewN | apply below_drew1) | exact HB.out)) hb); clear HB; have HB := n0_; clear n0_; (try clear hb); (try clear hb2); (try clear hk); (try clear hi)) | (go_at_call 11; (with_reducible refine (names_Match.calls k2 a0 a1 t145 _ A40.out).mono ?_); rintro e w49 ⟨rfl, hb⟩; have n0_ := Aside0.mk (below_step (by repeat (first | (with_reducible first | exact HB.out | apply below_alloc | apply pw_below_drewN | apply below_drew1) | exact HB.out)) hb); clear HB; have HB := n0_; clear n0_; (try clear hb); (try clear hb2); (try clear hk); (try clear hi)) | (go_at_call 11; (with_reducible refine (names_Match.calls k2 (⟨#[63]⟩ : ByteArray) a1 t146 _ A42.out).mono ?_); rintro e w50 ⟨rfl, hb⟩; have n0_ := Aside0.mk (below_step (by repeat (first | (with_reducible first | exact HB.out | apply below_alloc | apply pw_below_drewN | apply below_drew1) | exact HB.out)) hb); clear HB; have HB := n0_; clear n0_; (try clear hb); (try clear hb2); (try clear hk); (try clear hi)) | (go_at_call 10; (with_reducible refine (dolmenlaw4_awake.calls k2  t147 _ A44.out).mono ?_); rintro e w51 ⟨rfl, hb⟩; have n0_ := Aside0.mk (below_step (by repeat (first | (with_reducible first | exact HB.out | apply below_alloc | apply pw_below_drewN | apply below_drew1) | exact HB.out)) hb); clear HB; have HB := n0_; clear n0_; (try clear hb); (try clear hb2); (try clear hk); (try clear hi)))
                                  go_ret
                                  exact ⟨by first | rfl | (simp [errW_none, errW_some] <;> rfl) | (simp [*, errW_none, errW_some] <;> rfl), by repeat (first | (with_reducible first | exact HB.out | apply below_alloc | apply pw_below_drewN | apply below_drew1) | exact HB.out)⟩
                                · rw [if_neg c43] at H
                                  have c43b0 : (((a1.size : Int) == 1) == t146) = false := by simpa using c43
                                  (try (have c43b1 : decide (((a1.size : Int) == 1) = t146) = false := by simpa using c43))
                                  (try (have c43b2 : (((a1.size : Int) == 1) == t146) = false := by simpa using c43))
                                  (try (have c43b3 : ¬ (((a1.size : Int) == 1) = t146) := by simpa using c43))
                                  clear c43
                                  obtain rfl := Option.some.inj H
                                  go_wp2_with (first | ((with_reducible refine gate_callee (f := 11) rfl ?_); refine goesL_ (some 36) rfl rfl Tryd.func11 (by kernel_rfl) rfl #[.string (⟨#[42]⟩ : ByteArray), .string a1] rfl (by (try simp only [List.map_toArray, List.map_cons, List.map_nil]); first | done | rfl | (simp only [List.length_drop, List.length_take]; rfl)) ?_; (with_reducible refine (names_Match.calls k2 (⟨#[42]⟩ : ByteArray) a1 true _ A14.out).mono ?_); rintro e w52 ⟨rfl, hb⟩; refine ⟨_, rfl, ?_⟩; have n0_ := Aside0.mk (below_step (by repeat (first | (with_reducible first | exact HB.out | apply below_alloc | apply pw_below_drewN | apply below_drew1) | exact HB.out)) hb); clear HB; have HB := n0_; clear n0_; (try clear hb); (try clear hb2); (try clear hk); (try clear hi)) | (go_at_call 11; (with_reducible refine (names_Match.calls k2 (a0 ++ (⟨#[42]⟩ : ByteArray)) (a0 ++ a1) true _ A18.out).mono ?_); rintro e w53 ⟨rfl, hb⟩; have n0_ := Aside0.mk (below_step (by repeat (first | (with_reducible first | exact HB.out | apply below_alloc | apply pw_below_drewN | apply below_drew1) | exact HB.out)) hb); clear HB; have HB := n0_; clear n0_; (try clear hb); (try clear hb2); (try clear hk); (try clear hi)) | (go_at_call 11; (with_reducible refine (names_Match.calls k2 ((⟨#[42]⟩ : ByteArray) ++ a1) (a0 ++ a1) true _ A21.out).mono ?_); rintro e w54 ⟨rfl, hb⟩; have n0_ := Aside0.mk (below_step (by repeat (first | (with_reducible first | exact HB.out | apply below_alloc | apply pw_below_drewN | apply below_drew1) | exact HB.out)) hb); clear HB; have HB := n0_; clear n0_; (try clear hb); (try clear hb2); (try clear hk); (try clear hi)) | (go_at_call 11; (with_reducible refine (names_Match.calls k2 a0 a0 true _ A23.out).mono ?_); rintro e w55 ⟨rfl, hb⟩; have n0_ := Aside0.mk (below_step (by repeat (first | (with_reducible first | exact HB.out | apply below_alloc | apply pw_below_drewN | apply below_drew1) | exact HB.out)) hb); clear HB; have HB := n0_; clear n0_; (try clear hb); (try clear hb2); (try clear hk); (try clear hi)) | (go_at_call 11; (with_reducible refine (names_Match.calls k2 a0 a1 t145 _ A40.out).mono ?_); rintro e w56 ⟨rfl, hb⟩; have n0_ := Aside0.mk (below_step (by repeat (first | (with_reducible first | exact HB.out | apply below_alloc | apply pw_below_drewN | apply below_drew1) | exact HB.out)) hb); clear HB; have HB := n0_; clear n0_; (try clear hb); (try clear hb2); (try clear hk); (try clear hi)) | (go_at_call 11; (with_reducible refine (names_Match.calls k2 (⟨#[63]⟩ : ByteArray) a1 t146 _ A42.out).mono ?_); rintro e w57 ⟨rfl, hb⟩; have n0_ := Aside0.mk (below_step (by repeat (first | (with_reducible first | exact HB.out | apply below_alloc | apply pw_below_drewN | apply below_drew1) | exact HB.out)) hb); clear HB; have HB := n0_; clear n0_; (try clear hb); (try clear hb2); (try clear hk); (try clear hi)))
                                  go_ret
                                  exact ⟨by first | rfl | (simp [errW_none, errW_some] <;> rfl) | (simp [*, errW_none, errW_some] <;> rfl), by repeat (first | (with_reducible first | exact HB.out | apply below_alloc | apply pw_below_drewN | apply below_drew1) | exact HB.out)⟩
                              · rw [if_neg c41] at H
                                have c41b0 : (t145 == (a0.toList == a1.toList)) = false := by simpa using c41
                                (try (have c41b1 : decide (t145 = (a0.toList == a1.toList)) = false := by simpa using c41))
                                (try (have c41b2 : (t145 == (a0.toList == a1.toList)) = false := by simpa using c41))
                                (try (have c41b3 : ¬ (t145 = (a0.toList == a1.toList)) := by simpa using c41))
                                clear c41
                                obtain rfl := Option.some.inj H
                                go_wp2_with (first | ((with_reducible refine gate_callee (f := 11) rfl ?_); refine goesL_ (some 36) rfl rfl Tryd.func11 (by kernel_rfl) rfl #[.string (⟨#[42]⟩ : ByteArray), .string a1] rfl (by (try simp only [List.map_toArray, List.map_cons, List.map_nil]); first | done | rfl | (simp only [List.length_drop, List.length_take]; rfl)) ?_; (with_reducible refine (names_Match.calls k2 (⟨#[42]⟩ : ByteArray) a1 true _ A14.out).mono ?_); rintro e w58 ⟨rfl, hb⟩; refine ⟨_, rfl, ?_⟩; have n0_ := Aside0.mk (below_step (by repeat (first | (with_reducible first | exact HB.out | apply below_alloc | apply pw_below_drewN | apply below_drew1) | exact HB.out)) hb); clear HB; have HB := n0_; clear n0_; (try clear hb); (try clear hb2); (try clear hk); (try clear hi)) | (go_at_call 11; (with_reducible refine (names_Match.calls k2 (a0 ++ (⟨#[42]⟩ : ByteArray)) (a0 ++ a1) true _ A18.out).mono ?_); rintro e w59 ⟨rfl, hb⟩; have n0_ := Aside0.mk (below_step (by repeat (first | (with_reducible first | exact HB.out | apply below_alloc | apply pw_below_drewN | apply below_drew1) | exact HB.out)) hb); clear HB; have HB := n0_; clear n0_; (try clear hb); (try clear hb2); (try clear hk); (try clear hi)) | (go_at_call 11; (with_reducible refine (names_Match.calls k2 ((⟨#[42]⟩ : ByteArray) ++ a1) (a0 ++ a1) true _ A21.out).mono ?_); rintro e w60 ⟨rfl, hb⟩; have n0_ := Aside0.mk (below_step (by repeat (first | (with_reducible first | exact HB.out | apply below_alloc | apply pw_below_drewN | apply below_drew1) | exact HB.out)) hb); clear HB; have HB := n0_; clear n0_; (try clear hb); (try clear hb2); (try clear hk); (try clear hi)) | (go_at_call 11; (with_reducible refine (names_Match.calls k2 a0 a0 true _ A23.out).mono ?_); rintro e w61 ⟨rfl, hb⟩; have n0_ := Aside0.mk (below_step (by repeat (first | (with_reducible first | exact HB.out | apply below_alloc | apply pw_below_drewN | apply below_drew1) | exact HB.out)) hb); clear HB; have HB := n0_; clear n0_; (try clear hb); (try clear hb2); (try clear hk); (try clear hi)) | (go_at_call 11; (with_reducible refine (names_Match.calls k2 a0 a1 t145 _ A40.out).mono ?_); rintro e w62 ⟨rfl, hb⟩; have n0_ := Aside0.mk (below_step (by repeat (first | (with_reducible first | exact HB.out | apply below_alloc | apply pw_below_drewN | apply below_drew1) | exact HB.out)) hb); clear HB; have HB := n0_; clear n0_; (try clear hb); (try clear hb2); (try clear hk); (try clear hi)))
                                go_ret
                                exact ⟨by first | rfl | (simp [errW_none, errW_some] <;> rfl) | (simp [*, errW_none, errW_some] <;> rfl), by repeat (first | (with_reducible first | exact HB.out | apply below_alloc | apply pw_below_drewN | apply below_drew1) | exact HB.out)⟩
                          · replace c24 := Bool.eq_false_iff.mpr c24
                            subst c24
                            have H1 : (some false) = some r := by rw [if_neg (show ¬ (false = true) by decide)] at H; exact H
                            clear H
                            have H := H1
                            clear H1
                            obtain rfl := Option.some.inj H
                            go_wp2_with (first | ((with_reducible refine gate_callee (f := 11) rfl ?_); refine goesL_ (some 36) rfl rfl Tryd.func11 (by kernel_rfl) rfl #[.string (⟨#[42]⟩ : ByteArray), .string a1] rfl (by (try simp only [List.map_toArray, List.map_cons, List.map_nil]); first | done | rfl | (simp only [List.length_drop, List.length_take]; rfl)) ?_; (with_reducible refine (names_Match.calls k2 (⟨#[42]⟩ : ByteArray) a1 true _ A14.out).mono ?_); rintro e w63 ⟨rfl, hb⟩; refine ⟨_, rfl, ?_⟩; have n0_ := Aside0.mk (below_step (by repeat (first | (with_reducible first | exact HB.out | apply below_alloc | apply pw_below_drewN | apply below_drew1) | exact HB.out)) hb); clear HB; have HB := n0_; clear n0_; (try clear hb); (try clear hb2); (try clear hk); (try clear hi)) | (go_at_call 11; (with_reducible refine (names_Match.calls k2 (a0 ++ (⟨#[42]⟩ : ByteArray)) (a0 ++ a1) true _ A18.out).mono ?_); rintro e w64 ⟨rfl, hb⟩; have n0_ := Aside0.mk (below_step (by repeat (first | (with_reducible first | exact HB.out | apply below_alloc | apply pw_below_drewN | apply below_drew1) | exact HB.out)) hb); clear HB; have HB := n0_; clear n0_; (try clear hb); (try clear hb2); (try clear hk); (try clear hi)) | (go_at_call 11; (with_reducible refine (names_Match.calls k2 ((⟨#[42]⟩ : ByteArray) ++ a1) (a0 ++ a1) true _ A21.out).mono ?_); rintro e w65 ⟨rfl, hb⟩; have n0_ := Aside0.mk (below_step (by repeat (first | (with_reducible first | exact HB.out | apply below_alloc | apply pw_below_drewN | apply below_drew1) | exact HB.out)) hb); clear HB; have HB := n0_; clear n0_; (try clear hb); (try clear hb2); (try clear hk); (try clear hi)) | (go_at_call 11; (with_reducible refine (names_Match.calls k2 a0 a0 false _ A23.out).mono ?_); rintro e w66 ⟨rfl, hb⟩; have n0_ := Aside0.mk (below_step (by repeat (first | (with_reducible first | exact HB.out | apply below_alloc | apply pw_below_drewN | apply below_drew1) | exact HB.out)) hb); clear HB; have HB := n0_; clear n0_; (try clear hb); (try clear hb2); (try clear hk); (try clear hi)))
                            go_ret
                            exact ⟨by first | rfl | (simp [errW_none, errW_some] <;> rfl) | (simp [*, errW_none, errW_some] <;> rfl), by repeat (first | (with_reducible first | exact HB.out | apply below_alloc | apply pw_below_drewN | apply below_drew1) | exact HB.out)⟩
                        · replace c22 := Bool.eq_false_iff.mpr c22
                          subst c22
                          have H1 : (some false) = some r := by rw [if_neg (show ¬ (false = true) by decide)] at H; exact H
                          clear H
                          have H := H1
                          clear H1
                          obtain rfl := Option.some.inj H
                          go_wp2_with (first | ((with_reducible refine gate_callee (f := 11) rfl ?_); refine goesL_ (some 36) rfl rfl Tryd.func11 (by kernel_rfl) rfl #[.string (⟨#[42]⟩ : ByteArray), .string a1] rfl (by (try simp only [List.map_toArray, List.map_cons, List.map_nil]); first | done | rfl | (simp only [List.length_drop, List.length_take]; rfl)) ?_; (with_reducible refine (names_Match.calls k2 (⟨#[42]⟩ : ByteArray) a1 true _ A14.out).mono ?_); rintro e w67 ⟨rfl, hb⟩; refine ⟨_, rfl, ?_⟩; have n0_ := Aside0.mk (below_step (by repeat (first | (with_reducible first | exact HB.out | apply below_alloc | apply pw_below_drewN | apply below_drew1) | exact HB.out)) hb); clear HB; have HB := n0_; clear n0_; (try clear hb); (try clear hb2); (try clear hk); (try clear hi)) | (go_at_call 11; (with_reducible refine (names_Match.calls k2 (a0 ++ (⟨#[42]⟩ : ByteArray)) (a0 ++ a1) true _ A18.out).mono ?_); rintro e w68 ⟨rfl, hb⟩; have n0_ := Aside0.mk (below_step (by repeat (first | (with_reducible first | exact HB.out | apply below_alloc | apply pw_below_drewN | apply below_drew1) | exact HB.out)) hb); clear HB; have HB := n0_; clear n0_; (try clear hb); (try clear hb2); (try clear hk); (try clear hi)) | (go_at_call 11; (with_reducible refine (names_Match.calls k2 ((⟨#[42]⟩ : ByteArray) ++ a1) (a0 ++ a1) false _ A21.out).mono ?_); rintro e w69 ⟨rfl, hb⟩; have n0_ := Aside0.mk (below_step (by repeat (first | (with_reducible first | exact HB.out | apply below_alloc | apply pw_below_drewN | apply below_drew1) | exact HB.out)) hb); clear HB; have HB := n0_; clear n0_; (try clear hb); (try clear hb2); (try clear hk); (try clear hi)))
                          go_ret
                          exact ⟨by first | rfl | (simp [errW_none, errW_some] <;> rfl) | (simp [*, errW_none, errW_some] <;> rfl), by repeat (first | (with_reducible first | exact HB.out | apply below_alloc | apply pw_below_drewN | apply below_drew1) | exact HB.out)⟩
                      · rw [if_neg c20] at H
                        exact absurd H (by simp)
                    · replace c19 := Bool.eq_false_iff.mpr c19
                      subst c19
                      have H1 : (some false) = some r := by rw [if_neg (show ¬ (false = true) by decide)] at H; exact H
                      clear H
                      have H := H1
                      clear H1
                      obtain rfl := Option.some.inj H
                      go_wp2_with (first | ((with_reducible refine gate_callee (f := 11) rfl ?_); refine goesL_ (some 36) rfl rfl Tryd.func11 (by kernel_rfl) rfl #[.string (⟨#[42]⟩ : ByteArray), .string a1] rfl (by (try simp only [List.map_toArray, List.map_cons, List.map_nil]); first | done | rfl | (simp only [List.length_drop, List.length_take]; rfl)) ?_; (with_reducible refine (names_Match.calls k2 (⟨#[42]⟩ : ByteArray) a1 true _ A14.out).mono ?_); rintro e w70 ⟨rfl, hb⟩; refine ⟨_, rfl, ?_⟩; have n0_ := Aside0.mk (below_step (by repeat (first | (with_reducible first | exact HB.out | apply below_alloc | apply pw_below_drewN | apply below_drew1) | exact HB.out)) hb); clear HB; have HB := n0_; clear n0_; (try clear hb); (try clear hb2); (try clear hk); (try clear hi)) | (go_at_call 11; (with_reducible refine (names_Match.calls k2 (a0 ++ (⟨#[42]⟩ : ByteArray)) (a0 ++ a1) false _ A18.out).mono ?_); rintro e w71 ⟨rfl, hb⟩; have n0_ := Aside0.mk (below_step (by repeat (first | (with_reducible first | exact HB.out | apply below_alloc | apply pw_below_drewN | apply below_drew1) | exact HB.out)) hb); clear HB; have HB := n0_; clear n0_; (try clear hb); (try clear hb2); (try clear hk); (try clear hi)))
                      go_ret
                      exact ⟨by first | rfl | (simp [errW_none, errW_some] <;> rfl) | (simp [*, errW_none, errW_some] <;> rfl), by repeat (first | (with_reducible first | exact HB.out | apply below_alloc | apply pw_below_drewN | apply below_drew1) | exact HB.out)⟩
                  · rw [if_neg c17] at H
                    exact absurd H (by simp)
                · rw [if_neg c16] at H
                  exact absurd H (by simp)
              · replace c15 := Bool.eq_false_iff.mpr c15
                subst c15
                have H1 : (some false) = some r := by rw [if_neg (show ¬ (false = true) by decide)] at H; exact H
                clear H
                have H := H1
                clear H1
                obtain rfl := Option.some.inj H
                go_wp2_with (first | ((with_reducible refine gate_callee (f := 11) rfl ?_); refine goesL_ (some 36) rfl rfl Tryd.func11 (by kernel_rfl) rfl #[.string (⟨#[42]⟩ : ByteArray), .string a1] rfl (by (try simp only [List.map_toArray, List.map_cons, List.map_nil]); first | done | rfl | (simp only [List.length_drop, List.length_take]; rfl)) ?_; (with_reducible refine (names_Match.calls k2 (⟨#[42]⟩ : ByteArray) a1 false _ A14.out).mono ?_); rintro e w72 ⟨rfl, hb⟩; refine ⟨_, rfl, ?_⟩; have n0_ := Aside0.mk (below_step (by repeat (first | (with_reducible first | exact HB.out | apply below_alloc | apply pw_below_drewN | apply below_drew1) | exact HB.out)) hb); clear HB; have HB := n0_; clear n0_; (try clear hb); (try clear hb2); (try clear hk); (try clear hi)))
                go_ret
                exact ⟨by first | rfl | (simp [errW_none, errW_some] <;> rfl) | (simp [*, errW_none, errW_some] <;> rfl), by repeat (first | (with_reducible first | exact HB.out | apply below_alloc | apply pw_below_drewN | apply below_drew1) | exact HB.out)⟩

/-- THE ONE PURE STATEMENT of dolmenlaw4_NamesMatch: yours. -/
def dolmenlaw4_NamesMatch.Pure : Prop := ∀ (a0 : ByteArray) (a1 : ByteArray), a0.size ≤ 140737488351232 → a1.size ≤ 140737488351232 → ∃ k, dolmenlaw4_NamesMatch.f k a0 a1 = some true
theorem dolmenlaw4_NamesMatch.walk (P : dolmenlaw4_NamesMatch.Pure) (a0 : ByteArray) (a1 : ByteArray) (w : World) (w0 : a0.size ≤ 140737488351232) (w1 : a1.size ≤ 140737488351232) :
    Calls Tryd.prog 3 #[.string a0, .string a1] w fun e w' => e = .returned (.bool true) ∧ Below w.heap.size w w' := by
  obtain ⟨k, h⟩ := P a0 a1 w0 w1
  refine (dolmenlaw4_NamesMatch.calls k a0 a1 true w h).mono ?_
  rintro e w' ⟨rfl, hd⟩
  exact ⟨rfl, hd⟩

end Go.Proofs.YtcaafbnfgijjfaaDoor.G
