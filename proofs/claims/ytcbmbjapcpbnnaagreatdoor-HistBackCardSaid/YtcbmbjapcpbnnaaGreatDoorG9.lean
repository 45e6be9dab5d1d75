-- WRITTEN BY a program of this session (wip/gprint.py) out of the translation
import Derived.Test.YtcbmbjapcpbnnaaGreatDoorG0
import Derived.Test.YtcbmbjapcpbnnaaGreatDoorG7
import Derived.Test.YtcbmbjapcpbnnaaGreatDoorG8
namespace Go.Proofs.YtcbmbjapcpbnnaaGreatDoor.G
open Go.RowKit Go.Proofs.YtcbmbjapcpbnnaaGreatDoorW.PrintWords Go.Proofs.YtcbmbjapcpbnnaaGreatDoorW.PrintLast Go.Proofs.YtcbmbjapcpbnnaaGreatDoorW.PrintMore
attribute [local go_sem] max2_int min2_int max_two min_two max_three min_three max_four min_four   -- for this text's walks alone
set_option linter.unusedVariables false
set_option linter.unusedSimpArgs false

/-! ### dolmenref1_Split: function 60 -/
mutual
def dolmenref1_Split.j0 : Nat → ByteArray → Bool → Option (List ByteArray × Int)
  | 0, _, _ => none
  | k + 1, x0, x21 => if x21 = true then (some (([] : List ByteArray), 2)) else (if 1 ≤ (x0.size : Int) then ((dolmenref1_Cut.f k (x0.extract 1 x0.size) 47).bind fun t218 => (dolmenref1_Split.l0 k t218 false 0)) else (none))
def dolmenref1_Split.l0 : Nat → List ByteArray → Bool → Int → Option (List ByteArray × Int)
  | 0, _, _, _ => none
  | k + 1, x4, x5, x6 => if x6 < (x4.length : Int) then (if 0 ≤ x6 then (if (rdOf ByteArray.empty x4 x6).toList = ([] : List UInt8) then (dolmenref1_Split.j2 k x4 x5 x6 true) else (if (rdOf ByteArray.empty x4 x6).toList = ([46] : List UInt8) then (dolmenref1_Split.j2 k x4 x5 x6 true) else (dolmenref1_Split.j2 k x4 x5 x6 ((rdOf ByteArray.empty x4 x6).toList == ([46, 46] : List UInt8))))) else (none)) else (if x5 = true then (some (([] : List ByteArray), 3)) else (if (x4.length : Int) > 6 then (some (([] : List ByteArray), 4)) else (some (x4, 0))))
def dolmenref1_Split.j2 : Nat → List ByteArray → Bool → Int → Bool → Option (List ByteArray × Int)
  | 0, _, _, _, _ => none
  | k + 1, x4, x5, x6, x49 => if x49 = true then (some (([] : List ByteArray), 2)) else (dolmenref1_Split.l1 k x4 x5 x6 0)
def dolmenref1_Split.l1 : Nat → List ByteArray → Bool → Int → Int → Option (List ByteArray × Int)
  | 0, _, _, _, _ => none
  | k + 1, x4, x5, x6, x7 => if 0 ≤ x6 then (if x6 < (x4.length : Int) then (if x7 < ((rdOf ByteArray.empty x4 x6).size : Int) then (if 0 ≤ x7 then ((dolmenref1_letter.f (bt (rdOf ByteArray.empty x4 x6) x7)).bind fun t226 => (if t226 = true then (dolmenref1_Split.l1 k x4 x5 x6 (wrap64 (x7 + 1))) else (some (([] : List ByteArray), 2)))) else (none)) else (if x5 = true then (dolmenref1_Split.l0 k x4 true (wrap64 (x6 + 1))) else (dolmenref1_Split.l0 k x4 (decide (((rdOf ByteArray.empty x4 x6).size : Int) > 12)) (wrap64 (x6 + 1))))) else (none)) else (none)
end
def dolmenref1_Split.f (k : Nat) (a0 : ByteArray) : Option (List ByteArray × Int) := if a0.toList = ([47] : List UInt8) then (some (([] : List ByteArray), 0)) else (if a0.toList = ([] : List UInt8) then (dolmenref1_Split.j0 k a0 true) else (if (a0.size : Int) > 200 then (dolmenref1_Split.j0 k a0 true) else (if 0 < (a0.size : Int) then (dolmenref1_Split.j0 k a0 ((bt a0 0) != 47)) else (none))))
theorem dolmenref1_Split.mono_l : ∀ k, (∀ y0 y1, LeO (dolmenref1_Split.j0 k y0 y1) (dolmenref1_Split.j0 (k + 1) y0 y1)) ∧ (∀ y0 y1 y2, LeO (dolmenref1_Split.l0 k y0 y1 y2) (dolmenref1_Split.l0 (k + 1) y0 y1 y2)) ∧ (∀ y0 y1 y2 y3, LeO (dolmenref1_Split.j2 k y0 y1 y2 y3) (dolmenref1_Split.j2 (k + 1) y0 y1 y2 y3)) ∧ (∀ y0 y1 y2 y3, LeO (dolmenref1_Split.l1 k y0 y1 y2 y3) (dolmenref1_Split.l1 (k + 1) y0 y1 y2 y3))
  | 0 => ⟨fun _ _ r h => by simp [dolmenref1_Split.j0] at h, fun _ _ _ r h => by simp [dolmenref1_Split.l0] at h, fun _ _ _ _ r h => by simp [dolmenref1_Split.j2] at h, fun _ _ _ _ r h => by simp [dolmenref1_Split.l1] at h⟩
  | k + 1 => by
    obtain ⟨ih0, ih1, ih2, ih3⟩ := dolmenref1_Split.mono_l k
    refine ⟨?_, ?_, ?_, ?_⟩
    · intro y0 y1
      unfold dolmenref1_Split.j0
      repeat' first
      | (with_reducible exact ih0 _ _)
      | (with_reducible exact ih1 _ _ _)
      | (with_reducible exact ih2 _ _ _ _)
      | (with_reducible exact ih3 _ _ _ _)
      | (with_reducible exact dolmenref1_Cut.mono _ _ _)
      | (with_reducible exact LeO.refl _)
      | (with_reducible exact LeO.none _)
      | (with_reducible refine LeO.ite ?_ ?_)
      | (with_reducible refine LeO.bind ?_ (fun _ => ?_))
      | exact ih0 _ _
      | exact ih1 _ _ _
      | exact ih2 _ _ _ _
      | exact ih3 _ _ _ _
      | exact dolmenref1_Cut.mono _ _ _
      | exact LeO.none _
      | refine LeO.ite ?_ ?_
      | refine LeO.bind ?_ (fun _ => ?_)
    · intro y0 y1 y2
      unfold dolmenref1_Split.l0
      repeat' first
      | (with_reducible exact ih0 _ _)
      | (with_reducible exact ih1 _ _ _)
      | (with_reducible exact ih2 _ _ _ _)
      | (with_reducible exact ih3 _ _ _ _)
      | (with_reducible exact dolmenref1_Cut.mono _ _ _)
      | (with_reducible exact LeO.refl _)
      | (with_reducible exact LeO.none _)
      | (with_reducible refine LeO.ite ?_ ?_)
      | (with_reducible refine LeO.bind ?_ (fun _ => ?_))
      | exact ih0 _ _
      | exact ih1 _ _ _
      | exact ih2 _ _ _ _
      | exact ih3 _ _ _ _
      | exact dolmenref1_Cut.mono _ _ _
      | exact LeO.none _
      | refine LeO.ite ?_ ?_
      | refine LeO.bind ?_ (fun _ => ?_)
    · intro y0 y1 y2 y3
      unfold dolmenref1_Split.j2
      repeat' first
      | (with_reducible exact ih0 _ _)
      | (with_reducible exact ih1 _ _ _)
      | (with_reducible exact ih2 _ _ _ _)
      | (with_reducible exact ih3 _ _ _ _)
      | (with_reducible exact dolmenref1_Cut.mono _ _ _)
      | (with_reducible exact LeO.refl _)
      | (with_reducible exact LeO.none _)
      | (with_reducible refine LeO.ite ?_ ?_)
      | (with_reducible refine LeO.bind ?_ (fun _ => ?_))
      | exact ih0 _ _
      | exact ih1 _ _ _
      | exact ih2 _ _ _ _
      | exact ih3 _ _ _ _
      | exact dolmenref1_Cut.mono _ _ _
      | exact LeO.none _
      | refine LeO.ite ?_ ?_
      | refine LeO.bind ?_ (fun _ => ?_)
    · intro y0 y1 y2 y3
      unfold dolmenref1_Split.l1
      repeat' first
      | (with_reducible exact ih0 _ _)
      | (with_reducible exact ih1 _ _ _)
      | (with_reducible exact ih2 _ _ _ _)
      | (with_reducible exact ih3 _ _ _ _)
      | (with_reducible exact dolmenref1_Cut.mono _ _ _)
      | (with_reducible exact LeO.refl _)
      | (with_reducible exact LeO.none _)
      | (with_reducible refine LeO.ite ?_ ?_)
      | (with_reducible refine LeO.bind ?_ (fun _ => ?_))
      | exact ih0 _ _
      | exact ih1 _ _ _
      | exact ih2 _ _ _ _
      | exact ih3 _ _ _ _
      | exact dolmenref1_Cut.mono _ _ _
      | exact LeO.none _
      | refine LeO.ite ?_ ?_
      | refine LeO.bind ?_ (fun _ => ?_)
theorem dolmenref1_Split.mono : ∀ a0 k, LeO (dolmenref1_Split.f k a0) (dolmenref1_Split.f (k + 1) a0) := by
  intro a0 k
  obtain ⟨ih0, ih1, ih2, ih3⟩ := dolmenref1_Split.mono_l k
  unfold dolmenref1_Split.f
  repeat' first
      | (with_reducible exact ih0 _ _)
      | (with_reducible exact ih1 _ _ _)
      | (with_reducible exact ih2 _ _ _ _)
      | (with_reducible exact ih3 _ _ _ _)
      | (with_reducible exact dolmenref1_Cut.mono _ _ _)
      | (with_reducible exact LeO.refl _)
      | (with_reducible exact LeO.none _)
      | (with_reducible refine LeO.ite ?_ ?_)
      | (with_reducible refine LeO.bind ?_ (fun _ => ?_))
      | exact ih0 _ _
      | exact ih1 _ _ _
      | exact ih2 _ _ _ _
      | exact ih3 _ _ _ _
      | exact dolmenref1_Cut.mono _ _ _
      | exact LeO.none _
      | refine LeO.ite ?_ ?_
      | refine LeO.bind ?_ (fun _ => ?_)
set_option maxHeartbeats 8000000 in
set_option maxRecDepth 100000 in
theorem dolmenref1_Split.calls (k : Nat) (a0 : ByteArray) (r1 : List ByteArray) (r2 : Int) (w : World) (h : dolmenref1_Split.f k a0 = some (r1, r2)) :
    Calls Tryz.prog 60 #[.string a0] w fun e w' => ∃ v0_ : Value, e = .returned (.tuple #[v0_, .int .i64 r2]) ∧ Kd.R Kd.string 9 w' w.heap.size (fun _ => True) v0_ r1 ∧ Below w.heap.size w w' := by
  have HB := Aside0.mk (Below.refl w.heap.size w)
  have H : (if a0.toList = ([47] : List UInt8) then (some (([] : List ByteArray), 0)) else (if a0.toList = ([] : List UInt8) then (dolmenref1_Split.j0 k a0 true) else (if (a0.size : Int) > 200 then (dolmenref1_Split.j0 k a0 true) else (if 0 < (a0.size : Int) then (dolmenref1_Split.j0 k a0 ((bt a0 0) != 47)) else (none))))) = some (r1, r2) := h
  clear h
  by_cases c2 : a0.toList = ([47] : List UInt8)
  · rw [if_pos c2] at H
    have c2b0 : (a0.toList == ([47] : List UInt8)) = true := beq_iff_eq.mpr c2
    have c2b1 : (a0.toList != ([47] : List UInt8)) = false := bne_eq_false_iff_eq.mpr c2
    clear c2
    simp only [Option.some.injEq, Prod.mk.injEq] at H
    obtain ⟨rfl, rfl⟩ := H
    go_enter Tryz.func60, Tryz.ntmps60
    go_wp2
    go_ret2
    exact ⟨_, by first | rfl | (simp [errW_none, errW_some] <;> rfl) | (simp [*, errW_none, errW_some] <;> rfl), by first | exact Kd.R_nil _ _ _ _ _ | exact Kd.N_nil _ _ _ _ _ | exact Kd.V_nil _ _ _ _ _ | exact Kd.Q_nil _ _ _ _ _ | exact Kd.S_nil _ _ _ _ _, by repeat (first | (with_reducible first | exact HB.out | apply below_alloc | apply pw_below_drewN | apply below_drew1) | exact HB.out)⟩
  · rw [if_neg c2] at H
    have c2b0 : (a0.toList == ([47] : List UInt8)) = false := beq_eq_false_iff_ne.mpr c2
    have c2b1 : (a0.toList != ([47] : List UInt8)) = true := bne_iff_ne.mpr c2
    have HC3 := Aside0.mk H
    clear H
    go_enter Tryz.func60, Tryz.ntmps60
    go_upto_region 3 with (fail)
    go_cut [21] (fun v21 wc => ∃ (kq : Nat) (x21_2 : Bool), v21 = .bool x21_2 ∧ Aside0 (dolmenref1_Split.j0 kq a0 x21_2 = some (r1, r2)) ∧ Aside0 (kq ≤ k) ∧ Aside0 (Below w.heap.size w wc))
    case first =>
      have H := HC3.out
      clear HC3
      by_cases c4 : a0.toList = ([] : List UInt8)
      · rw [if_pos c4] at H
        have c4b0 : (a0.toList == ([] : List UInt8)) = true := beq_iff_eq.mpr c4
        have c4b1 : (a0.toList != ([] : List UInt8)) = false := bne_eq_false_iff_eq.mpr c4
        clear c4
        (first | rw [c4b0] | (simp only [i64_w, i32_w]; rw [c4b0]) | skip)
        have H' := Aside0.mk H
        clear H
        go_wp2
        go_meet
        case rel => exact ⟨_, (true), (by first | rfl | (simp; done) | (simp [*]; done)), H', ⟨by first | omega | exact Nat.le_refl _⟩, ⟨by repeat (first | (with_reducible first | exact HB.out | apply below_alloc | apply pw_below_drewN | apply below_drew1) | exact HB.out)⟩⟩
      · rw [if_neg c4] at H
        have c4b0 : (a0.toList == ([] : List UInt8)) = false := beq_eq_false_iff_ne.mpr c4
        have c4b1 : (a0.toList != ([] : List UInt8)) = true := bne_iff_ne.mpr c4
        (first | rw [c4b0] | (simp only [i64_w, i32_w]; rw [c4b0]) | skip)
        by_cases c5 : (a0.size : Int) > 200
        · rw [if_pos c5] at H
          have c5b0 : decide (200 < (a0.size : Int)) = true := decide_eq_true c5
          have c5b1 : decide (200 < a0.size) = true := decide_eq_true (by omega)
          clear c5
          have H' := Aside0.mk H
          clear H
          go_wp2
          go_meet
          case rel => exact ⟨_, (true), (by first | rfl | (simp; done) | (simp [*]; done)), H', ⟨by first | omega | exact Nat.le_refl _⟩, ⟨by repeat (first | (with_reducible first | exact HB.out | apply below_alloc | apply pw_below_drewN | apply below_drew1) | exact HB.out)⟩⟩
        · rw [if_neg c5] at H
          have c5b0 : decide (200 < (a0.size : Int)) = false := decide_eq_false c5
          have c5b1 : decide (200 < a0.size) = false := decide_eq_false (by omega)
          clear c5
          by_cases c6 : 0 < (a0.size : Int)
          · rw [if_pos c6] at H
            have c6b0 : decide (0 < (a0.size : Int)) = true := decide_eq_true c6
            have c6b1 : decide (0 < a0.size) = true := decide_eq_true (by omega)
            clear c6
            have H' := Aside0.mk H
            clear H
            have p7 : 0 ≤ (0 : Int) := (by omega)
            have q7 : 0 < a0.size := (by have : (0 : Int) < (a0.size : Int) := of_decide_eq_true (by first | (with_reducible assumption) | assumption); omega)
            have hx7 : ∀ h : 0 < a0.size, ((a0[0]'h).toNat : Int) = bt a0 0 := bt_at a0 0
            clear p7
            have qi7 : (0 < (a0.size : Int)) = True := eq_true (of_decide_eq_true (by first | (with_reducible assumption) | assumption))
            replace q7 := eq_true q7
            go_wp2
            go_meet
            case rel => exact ⟨_, (((bt a0 0) != 47)), (by first | rfl | (simp; done) | (simp [*]; done)), H', ⟨by first | omega | exact Nat.le_refl _⟩, ⟨by repeat (first | (with_reducible first | exact HB.out | apply below_alloc | apply pw_below_drewN | apply below_drew1) | exact HB.out)⟩⟩
          · rw [if_neg c6] at H
            exact absurd H (by simp)
    case rest =>
      clear HC3
      try clear c2
      try clear c2b0
      try clear c2b1
      try clear p2
      try clear c4
      try clear c4b0
      try clear c4b1
      try clear c5
      try clear c5b0
      try clear c5b1
      try clear c6
      try clear c6b0
      try clear c6b1
      try clear p7
      try clear q7
      try clear hx7
      try clear qi7
      try clear p7
      try clear q7
      obtain ⟨kq, x21_2, rfl, HA, HJ2, HB⟩ := hcut
      cases kq with
      | zero => exact absurd HA.out (by simp [dolmenref1_Split.j0])
      | succ kj2 =>
        have H := HA.out
        clear HA
        simp only [dolmenref1_Split.j0] at H
        by_cases c8 : x21_2 = true
        · subst c8
          have H1 : (some (([] : List ByteArray), 2)) = some (r1, r2) := by rw [if_pos rfl] at H; exact H
          clear H
          have H := H1
          clear H1
          simp only [Option.some.injEq, Prod.mk.injEq] at H
          obtain ⟨rfl, rfl⟩ := H
          go_wp2
          go_ret2
          exact ⟨_, by first | rfl | (simp [errW_none, errW_some] <;> rfl) | (simp [*, errW_none, errW_some] <;> rfl), by first | exact Kd.R_nil _ _ _ _ _ | exact Kd.N_nil _ _ _ _ _ | exact Kd.V_nil _ _ _ _ _ | exact Kd.Q_nil _ _ _ _ _ | exact Kd.S_nil _ _ _ _ _, by repeat (first | (with_reducible first | exact HB.out | apply below_alloc | apply pw_below_drewN | apply below_drew1) | exact HB.out)⟩
        · replace c8 := Bool.eq_false_iff.mpr c8
          subst c8
          have H1 : (if 1 ≤ (a0.size : Int) then ((dolmenref1_Cut.f kj2 (a0.extract 1 a0.size) 47).bind fun t218 => (dolmenref1_Split.l0 kj2 t218 false 0)) else (none)) = some (r1, r2) := by rw [if_neg (show ¬ (false = true) by decide)] at H; exact H
          clear H
          have H := H1
          clear H1
          by_cases c9 : 1 ≤ (a0.size : Int)
          · rw [if_pos c9] at H
            have c9b0 := eq_true c9
            have c9b1 : decide (1 ≤ (a0.size : Int)) = true := decide_eq_true c9
            clear c9
            replace H := Option.bind_eq_some_iff.mp H
            obtain ⟨t218, A100, H⟩ := H
            replace H : (dolmenref1_Split.l0 kj2 t218 false 0) = some (r1, r2) := H
            have A10 := Aside0.mk A100
            clear A100
            have H' := Aside0.mk H
            clear H
            go_wp2_with (first | ((with_reducible refine gate_callee (f := 78) rfl ?_); refine goesL_ (some 24) rfl rfl Tryz.func78 (by kernel_rfl) rfl #[.string (a0.extract 1 a0.size), .int .u8 47] rfl (by (try simp only [List.map_toArray, List.map_cons, List.map_nil]); first | done | rfl | (simp only [List.length_drop, List.length_take]; rfl)) ?_; (with_reducible refine (dolmenref1_Cut.calls kj2 (a0.extract 1 a0.size) 47 t218 _ A10.out).mono ?_); rintro e w11 ⟨v219, rfl, ho0, hb⟩; refine ⟨_, rfl, ?_⟩; have n0_ := Aside0.mk (Kd.R_lower ho0 (below_size (by repeat (first | (with_reducible first | exact HB.out | apply below_alloc | apply pw_below_drewN | apply below_drew1) | exact HB.out)))); have n1_ := Aside0.mk (below_step (by repeat (first | (with_reducible first | exact HB.out | apply below_alloc | apply pw_below_drewN | apply below_drew1) | exact HB.out)) hb); clear HB; have HO220 := n0_; have HB := n1_; clear n0_ n1_; (try clear hb); (try clear hb2); (try clear hk); (try clear hi); (try clear ho0)))
            go_loopg [5, 6] kj2 (fun kq v5 v6 w' => ∃ (x5_2 : Bool) (x6_2 : Int), v5 = .bool x5_2 ∧ v6 = .int .i64 x6_2 ∧ Aside0 (dolmenref1_Split.l0 kq t218 x5_2 x6_2 = some (r1, r2)) ∧ Aside0 (kq ≤ kj2) ∧ Aside0 (Kd.R Kd.string 9 w' w.heap.size (fun _ => True) v219 t218) ∧ Aside0 (Below w.heap.size w w'))
            case atStart => exact ⟨(false), (0), (by first | rfl | (simp; done) | (simp [*]; done)), (by first | rfl | (simp; done) | (simp [*]; done)), H', ⟨Nat.le_refl _⟩, ⟨by (with_reducible repeat (first | apply Kd.R_alloc | apply Kd.R_drewN | apply Kd.R_drew)); exact HO220.out⟩, ⟨by repeat (first | (with_reducible first | exact HB.out | apply below_alloc | apply pw_below_drewN | apply below_drew1) | exact HB.out)⟩⟩
            case round =>
              clear H'
              try clear c2
              try clear c2b0
              try clear c2b1
              try clear p2
              try clear c4
              try clear c4b0
              try clear c4b1
              try clear c5
              try clear c5b0
              try clear c5b1
              try clear c6
              try clear c6b0
              try clear c6b1
              try clear c7
              try clear p7
              try clear q7
              try clear hx7
              try clear qi7
              try clear c8
              try clear c9
              try clear c9b0
              try clear c9b1
              try clear p2
              try clear p7
              try clear q7
              obtain ⟨x5_2, x6_2, rfl, rfl, HA, HK2, HO_4, HB⟩ := hrel
              cases gk with
              | zero => exact absurd HA.out (by simp [dolmenref1_Split.l0])
              | succ k2 =>
                have H := HA.out
                clear HA
                simp only [dolmenref1_Split.l0] at H
                by_cases c12 : x6_2 < (t218.length : Int)
                · rw [if_pos c12] at H
                  have c12b0 : decide (x6_2 < (t218.length : Int)) = true := decide_eq_true c12
                  clear c12
                  have HC13 := Aside0.mk H
                  clear H
                  obtain ⟨Ao14, co14, eo14⟩ := Kd.R_slice HO_4.out
                  subst eo14
                  go_upto_region 10 with (fail)
                  go_cut [49] (fun v49 wc => ∃ (kq : Nat) (x49_12 : Bool), v49 = .bool x49_12 ∧ Aside0 (dolmenref1_Split.j2 kq t218 x5_2 x6_2 x49_12 = some (r1, r2)) ∧ Aside0 (kq ≤ k2) ∧ Aside0 (Kd.R Kd.string 9 wc w.heap.size (fun _ => True) (.slice Ao14 t218.length co14) t218) ∧ Aside0 (Below w.heap.size w wc))
                  case first =>
                    have H := HC13.out
                    clear HC13
                    by_cases c15 : 0 ≤ x6_2
                    · rw [if_pos c15] at H
                      have c15b0 : decide (0 ≤ x6_2) = true := decide_eq_true c15
                      clear c15
                      (first | rw [c15b0] | (simp only [i64_w, i32_w]; rw [c15b0]) | skip)
                      by_cases c16 : (rdOf ByteArray.empty t218 x6_2).toList = ([] : List UInt8)
                      · rw [if_pos c16] at H
                        have c16b0 : ((rdOf ByteArray.empty t218 x6_2).toList == ([] : List UInt8)) = true := beq_iff_eq.mpr c16
                        have c16b1 : ((rdOf ByteArray.empty t218 x6_2).toList != ([] : List UInt8)) = false := bne_eq_false_iff_eq.mpr c16
                        clear c16
                        have H' := Aside0.mk H
                        clear H
                        have p221 : 0 ≤ (x6_2 : Int) := of_decide_eq_true (by first | (with_reducible assumption) | assumption)
                        have q221 : x6_2 < (t218.length : Int) := of_decide_eq_true (by first | (with_reducible assumption) | assumption)
                        obtain ⟨ad221, e221, hx221_0⟩ := Kd.at_string (Kd.R_reads' HO_4.out).2.2 x6_2 p221 q221
                        cases e221
                        replace p221 := eq_true p221
                        replace q221 := eq_true q221
                        go_wp2
                        go_meet
                        case rel => exact ⟨_, (true), (by first | rfl | (simp; done) | (simp [*]; done)), H', ⟨by have := HJ2.out; have := HK2.out; first | omega | exact Nat.le_refl _⟩, ⟨by (with_reducible repeat (first | apply Kd.R_alloc | apply Kd.R_drewN | apply Kd.R_drew)); exact HO_4.out⟩, ⟨by repeat (first | (with_reducible first | exact HB.out | apply below_alloc | apply pw_below_drewN | apply below_drew1) | exact HB.out)⟩⟩
                      · rw [if_neg c16] at H
                        have c16b0 : ((rdOf ByteArray.empty t218 x6_2).toList == ([] : List UInt8)) = false := beq_eq_false_iff_ne.mpr c16
                        have c16b1 : ((rdOf ByteArray.empty t218 x6_2).toList != ([] : List UInt8)) = true := bne_iff_ne.mpr c16
                        by_cases c17 : (rdOf ByteArray.empty t218 x6_2).toList = ([46] : List UInt8)
                        · rw [if_pos c17] at H
                          have c17b0 : ((rdOf ByteArray.empty t218 x6_2).toList == ([46] : List UInt8)) = true := beq_iff_eq.mpr c17
                          have c17b1 : ((rdOf ByteArray.empty t218 x6_2).toList != ([46] : List UInt8)) = false := bne_eq_false_iff_eq.mpr c17
                          clear c17
                          have H' := Aside0.mk H
                          clear H
                          have p221 : 0 ≤ (x6_2 : Int) := of_decide_eq_true (by first | (with_reducible assumption) | assumption)
                          have q221 : x6_2 < (t218.length : Int) := of_decide_eq_true (by first | (with_reducible assumption) | assumption)
                          obtain ⟨ad221, e221, hx221_0⟩ := Kd.at_string (Kd.R_reads' HO_4.out).2.2 x6_2 p221 q221
                          cases e221
                          replace p221 := eq_true p221
                          replace q221 := eq_true q221
                          have p222 : 0 ≤ (x6_2 : Int) := of_decide_eq_true (by first | (with_reducible assumption) | assumption)
                          have q222 : x6_2 < (t218.length : Int) := of_decide_eq_true (by first | (with_reducible assumption) | assumption)
                          obtain ⟨ad222, e222, hx222_0⟩ := Kd.at_string (Kd.R_reads' HO_4.out).2.2 x6_2 p222 q222
                          obtain rfl : ad221 = ad222 := (by injection e222)
                          replace p222 := eq_true p222
                          replace q222 := eq_true q222
                          go_wp2
                          go_meet
                          case rel => exact ⟨_, (true), (by first | rfl | (simp; done) | (simp [*]; done)), H', ⟨by have := HJ2.out; have := HK2.out; first | omega | exact Nat.le_refl _⟩, ⟨by (with_reducible repeat (first | apply Kd.R_alloc | apply Kd.R_drewN | apply Kd.R_drew)); exact HO_4.out⟩, ⟨by repeat (first | (with_reducible first | exact HB.out | apply below_alloc | apply pw_below_drewN | apply below_drew1) | exact HB.out)⟩⟩
                        · rw [if_neg c17] at H
                          have c17b0 : ((rdOf ByteArray.empty t218 x6_2).toList == ([46] : List UInt8)) = false := beq_eq_false_iff_ne.mpr c17
                          have c17b1 : ((rdOf ByteArray.empty t218 x6_2).toList != ([46] : List UInt8)) = true := bne_iff_ne.mpr c17
                          have H' := Aside0.mk H
                          clear H
                          have p221 : 0 ≤ (x6_2 : Int) := of_decide_eq_true (by first | (with_reducible assumption) | assumption)
                          have q221 : x6_2 < (t218.length : Int) := of_decide_eq_true (by first | (with_reducible assumption) | assumption)
                          obtain ⟨ad221, e221, hx221_0⟩ := Kd.at_string (Kd.R_reads' HO_4.out).2.2 x6_2 p221 q221
                          cases e221
                          replace p221 := eq_true p221
                          replace q221 := eq_true q221
                          have p222 : 0 ≤ (x6_2 : Int) := of_decide_eq_true (by first | (with_reducible assumption) | assumption)
                          have q222 : x6_2 < (t218.length : Int) := of_decide_eq_true (by first | (with_reducible assumption) | assumption)
                          obtain ⟨ad222, e222, hx222_0⟩ := Kd.at_string (Kd.R_reads' HO_4.out).2.2 x6_2 p222 q222
                          obtain rfl : ad221 = ad222 := (by injection e222)
                          replace p222 := eq_true p222
                          replace q222 := eq_true q222
                          have p223 : 0 ≤ (x6_2 : Int) := of_decide_eq_true (by first | (with_reducible assumption) | assumption)
                          have q223 : x6_2 < (t218.length : Int) := of_decide_eq_true (by first | (with_reducible assumption) | assumption)
                          obtain ⟨ad223, e223, hx223_0⟩ := Kd.at_string (Kd.R_reads' HO_4.out).2.2 x6_2 p223 q223
                          obtain rfl : ad221 = ad223 := (by injection e223)
                          replace p223 := eq_true p223
                          replace q223 := eq_true q223
                          go_wp2
                          go_meet
                          case rel => exact ⟨_, (((rdOf ByteArray.empty t218 x6_2).toList == ([46, 46] : List UInt8))), (by first | rfl | (simp; done) | (simp [*]; done)), H', ⟨by have := HJ2.out; have := HK2.out; first | omega | exact Nat.le_refl _⟩, ⟨by (with_reducible repeat (first | apply Kd.R_alloc | apply Kd.R_drewN | apply Kd.R_drew)); exact HO_4.out⟩, ⟨by repeat (first | (with_reducible first | exact HB.out | apply below_alloc | apply pw_below_drewN | apply below_drew1) | exact HB.out)⟩⟩
                    · rw [if_neg c15] at H
                      exact absurd H (by simp)
                  case rest =>
                    clear HC13
                    try clear c1
                    try clear c2
                    try clear c2b0
                    try clear c2b1
                    try clear p2
                    try clear q2
                    try clear hx2
                    try clear c4
                    try clear c4b0
                    try clear c4b1
                    try clear c5
                    try clear c5b0
                    try clear c5b1
                    try clear c6
                    try clear c6b0
                    try clear c6b1
                    try clear c7
                    try clear p7
                    try clear q7
                    try clear hx7
                    try clear qi7
                    try clear c8
                    try clear c9
                    try clear c9b0
                    try clear c9b1
                    try clear c12
                    try clear c12b0
                    try clear c15
                    try clear c15b0
                    try clear c16
                    try clear c16b0
                    try clear c16b1
                    try clear c17
                    try clear c17b0
                    try clear c17b1
                    try clear hx221_0
                    try clear hx222_0
                    try clear hx223_0
                    try clear p2
                    try clear p221
                    try clear p222
                    try clear p223
                    try clear p7
                    try clear q221
                    try clear q222
                    try clear q223
                    try clear q7
                    obtain ⟨kq, x49_12, rfl, HA, HJ12, HO_4, HB⟩ := hcut
                    cases kq with
                    | zero => exact absurd HA.out (by simp [dolmenref1_Split.j2])
                    | succ kj12 =>
                      have H := HA.out
                      clear HA
                      simp only [dolmenref1_Split.j2] at H
                      by_cases c18 : x49_12 = true
                      · subst c18
                        have H1 : (some (([] : List ByteArray), 2)) = some (r1, r2) := by rw [if_pos rfl] at H; exact H
                        clear H
                        have H := H1
                        clear H1
                        simp only [Option.some.injEq, Prod.mk.injEq] at H
                        obtain ⟨rfl, rfl⟩ := H
                        go_wp2
                        go_ret2
                        exact ⟨_, by first | rfl | (simp [errW_none, errW_some] <;> rfl) | (simp [*, errW_none, errW_some] <;> rfl), by first | exact Kd.R_nil _ _ _ _ _ | exact Kd.N_nil _ _ _ _ _ | exact Kd.V_nil _ _ _ _ _ | exact Kd.Q_nil _ _ _ _ _ | exact Kd.S_nil _ _ _ _ _, by repeat (first | (with_reducible first | exact HB.out | apply below_alloc | apply pw_below_drewN | apply below_drew1) | exact HB.out)⟩
                      · replace c18 := Bool.eq_false_iff.mpr c18
                        subst c18
                        have H1 : (dolmenref1_Split.l1 kj12 t218 x5_2 x6_2 0) = some (r1, r2) := by rw [if_neg (show ¬ (false = true) by decide)] at H; exact H
                        clear H
                        have H := H1
                        clear H1
                        have H' := Aside0.mk H
                        clear H
                        go_wp2
                        go_loopg [7] kj12 (fun kq v7 w' => ∃ (x7_4 : Int), v7 = .int .i64 x7_4 ∧ Aside0 (dolmenref1_Split.l1 kq t218 x5_2 x6_2 x7_4 = some (r1, r2)) ∧ Aside0 (kq ≤ kj12) ∧ Aside0 (Kd.R Kd.string 9 w' w.heap.size (fun _ => True) (.slice Ao14 t218.length co14) t218) ∧ Aside0 (Below w.heap.size w w'))
                        case atStart => exact ⟨(0), (by first | rfl | (simp; done) | (simp [*]; done)), H', ⟨Nat.le_refl _⟩, ⟨by (with_reducible repeat (first | apply Kd.R_alloc | apply Kd.R_drewN | apply Kd.R_drew)); exact HO_4.out⟩, ⟨by repeat (first | (with_reducible first | exact HB.out | apply below_alloc | apply pw_below_drewN | apply below_drew1) | exact HB.out)⟩⟩
                        case round =>
                          clear H'
                          try clear c1
                          try clear c2
                          try clear c2b0
                          try clear c2b1
                          try clear p2
                          try clear q2
                          try clear hx2
                          try clear c4
                          try clear c4b0
                          try clear c4b1
                          try clear c5
                          try clear c5b0
                          try clear c5b1
                          try clear c6
                          try clear c6b0
                          try clear c6b1
                          try clear c7
                          try clear p7
                          try clear q7
                          try clear hx7
                          try clear qi7
                          try clear c8
                          try clear c9
                          try clear c9b0
                          try clear c9b1
                          try clear c12
                          try clear c12b0
                          try clear c15
                          try clear c15b0
                          try clear c16
                          try clear c16b0
                          try clear c16b1
                          try clear c17
                          try clear c17b0
                          try clear c17b1
                          try clear c18
                          try clear hx221_0
                          try clear hx222_0
                          try clear hx223_0
                          try clear p2
                          try clear p221
                          try clear p222
                          try clear p223
                          try clear p7
                          try clear q2
                          try clear q221
                          try clear q222
                          try clear q223
                          try clear q7
                          obtain ⟨x7_4, rfl, HA, HK4, HO_4, HB⟩ := hrel
                          cases gk with
                          | zero => exact absurd HA.out (by simp [dolmenref1_Split.l1])
                          | succ k4 =>
                            have H := HA.out
                            clear HA
                            simp only [dolmenref1_Split.l1] at H
                            by_cases c19 : 0 ≤ x6_2
                            · rw [if_pos c19] at H
                              have c19b0 : decide (0 ≤ x6_2) = true := decide_eq_true c19
                              clear c19
                              by_cases c20 : x6_2 < (t218.length : Int)
                              · rw [if_pos c20] at H
                                have c20b0 : decide (x6_2 < (t218.length : Int)) = true := decide_eq_true c20
                                clear c20
                                by_cases c21 : x7_4 < ((rdOf ByteArray.empty t218 x6_2).size : Int)
                                · rw [if_pos c21] at H
                                  have c21b0 : decide (x7_4 < ((rdOf ByteArray.empty t218 x6_2).size : Int)) = true := decide_eq_true c21
                                  clear c21
                                  by_cases c22 : 0 ≤ x7_4
                                  · rw [if_pos c22] at H
                                    have c22b0 : decide (0 ≤ x7_4) = true := decide_eq_true c22
                                    clear c22
                                    replace H := Option.bind_eq_some_iff.mp H
                                    obtain ⟨t226, A240, H⟩ := H
                                    replace H : (if t226 = true then (dolmenref1_Split.l1 k4 t218 x5_2 x6_2 (wrap64 (x7_4 + 1))) else (some (([] : List ByteArray), 2))) = some (r1, r2) := H
                                    have A24 := Aside0.mk A240
                                    clear A240
                                    by_cases c25 : t226 = true
                                    · subst c25
                                      have H1 : (dolmenref1_Split.l1 k4 t218 x5_2 x6_2 (wrap64 (x7_4 + 1))) = some (r1, r2) := by rw [if_pos rfl] at H; exact H
                                      clear H
                                      have H := H1
                                      clear H1
                                      have H' := Aside0.mk H
                                      clear H
                                      have p224 : 0 ≤ (x6_2 : Int) := of_decide_eq_true (by first | (with_reducible assumption) | assumption)
                                      have q224 : x6_2 < (t218.length : Int) := of_decide_eq_true (by first | (with_reducible assumption) | assumption)
                                      obtain ⟨ad224, e224, hx224_0⟩ := Kd.at_string (Kd.R_reads' HO_4.out).2.2 x6_2 p224 q224
                                      cases e224
                                      replace p224 := eq_true p224
                                      replace q224 := eq_true q224
                                      have p225 : 0 ≤ (x6_2 : Int) := of_decide_eq_true (by first | (with_reducible assumption) | assumption)
                                      have q225 : x6_2 < (t218.length : Int) := of_decide_eq_true (by first | (with_reducible assumption) | assumption)
                                      obtain ⟨ad225, e225, hx225_0⟩ := Kd.at_string (Kd.R_reads' HO_4.out).2.2 x6_2 p225 q225
                                      obtain rfl : ad224 = ad225 := (by injection e225)
                                      replace p225 := eq_true p225
                                      replace q225 := eq_true q225
                                      have p23 : 0 ≤ (x7_4 : Int) := of_decide_eq_true (by first | (with_reducible assumption) | assumption)
                                      have q23 : x7_4 < ((rdOf ByteArray.empty t218 x6_2).size : Int) := of_decide_eq_true (by first | (with_reducible assumption) | assumption)
                                      have hx23 := bt_at (rdOf ByteArray.empty t218 x6_2) x7_4
                                      replace p23 := eq_true p23
                                      replace q23 := eq_true q23
                                      go_wp2_with (first | ((with_reducible refine gate_callee (f := 79) rfl ?_); refine goesL_ (some 65) rfl rfl Tryz.func79 (by kernel_rfl) rfl #[.int .u8 (bt (rdOf ByteArray.empty t218 x6_2) x7_4)] rfl (by (try simp only [List.map_toArray, List.map_cons, List.map_nil]); first | done | rfl | (simp only [List.length_drop, List.length_take]; rfl)) ?_; (with_reducible refine (dolmenref1_letter.calls (bt (rdOf ByteArray.empty t218 x6_2) x7_4) true _ A24.out).mono ?_); rintro e w' ⟨rfl, ⟨nd, rfl⟩⟩; refine ⟨_, rfl, ?_⟩))
                                      go_roundg k4
                                      case measure => have := HJ2.out; have := HK2.out; have := HJ12.out; have := HK4.out; omega
                                      case rel => exact ⟨(wrap64 (x7_4 + 1)), (by first | rfl | (simp; done) | (simp [*]; done)), H', ⟨by have := HJ2.out; have := HK2.out; have := HJ12.out; have := HK4.out; omega⟩, ⟨by (with_reducible repeat (first | apply Kd.R_alloc | apply Kd.R_drewN | apply Kd.R_drew)); exact HO_4.out⟩, ⟨by repeat (first | (with_reducible first | exact HB.out | apply below_alloc | apply pw_below_drewN | apply below_drew1) | exact HB.out)⟩⟩
                                    · replace c25 := Bool.eq_false_iff.mpr c25
                                      subst c25
                                      have H1 : (some (([] : List ByteArray), 2)) = some (r1, r2) := by rw [if_neg (show ¬ (false = true) by decide)] at H; exact H
                                      clear H
                                      have H := H1
                                      clear H1
                                      simp only [Option.some.injEq, Prod.mk.injEq] at H
                                      obtain ⟨rfl, rfl⟩ := H
                                      have p224 : 0 ≤ (x6_2 : Int) := of_decide_eq_true (by first | (with_reducible assumption) | assumption)
                                      have q224 : x6_2 < (t218.length : Int) := of_decide_eq_true (by first | (with_reducible assumption) | assumption)
                                      obtain ⟨ad224, e224, hx224_0⟩ := Kd.at_string (Kd.R_reads' HO_4.out).2.2 x6_2 p224 q224
                                      cases e224
                                      replace p224 := eq_true p224
                                      replace q224 := eq_true q224
                                      have p225 : 0 ≤ (x6_2 : Int) := of_decide_eq_true (by first | (with_reducible assumption) | assumption)
                                      have q225 : x6_2 < (t218.length : Int) := of_decide_eq_true (by first | (with_reducible assumption) | assumption)
                                      obtain ⟨ad225, e225, hx225_0⟩ := Kd.at_string (Kd.R_reads' HO_4.out).2.2 x6_2 p225 q225
                                      obtain rfl : ad224 = ad225 := (by injection e225)
                                      replace p225 := eq_true p225
                                      replace q225 := eq_true q225
                                      have p23 : 0 ≤ (x7_4 : Int) := of_decide_eq_true (by first | (with_reducible assumption) | assumption)
                                      have q23 : x7_4 < ((rdOf ByteArray.empty t218 x6_2).size : Int) := of_decide_eq_true (by first | (with_reducible assumption) | assumption)
                                      have hx23 := bt_at (rdOf ByteArray.empty t218 x6_2) x7_4
                                      replace p23 := eq_true p23
                                      replace q23 := eq_true q23
                                      go_wp2_with (first | ((with_reducible refine gate_callee (f := 79) rfl ?_); refine goesL_ (some 65) rfl rfl Tryz.func79 (by kernel_rfl) rfl #[.int .u8 (bt (rdOf ByteArray.empty t218 x6_2) x7_4)] rfl (by (try simp only [List.map_toArray, List.map_cons, List.map_nil]); first | done | rfl | (simp only [List.length_drop, List.length_take]; rfl)) ?_; (with_reducible refine (dolmenref1_letter.calls (bt (rdOf ByteArray.empty t218 x6_2) x7_4) false _ A24.out).mono ?_); rintro e w' ⟨rfl, ⟨nd, rfl⟩⟩; refine ⟨_, rfl, ?_⟩))
                                      go_ret2
                                      exact ⟨_, by first | rfl | (simp [errW_none, errW_some] <;> rfl) | (simp [*, errW_none, errW_some] <;> rfl), by first | exact Kd.R_nil _ _ _ _ _ | exact Kd.N_nil _ _ _ _ _ | exact Kd.V_nil _ _ _ _ _ | exact Kd.Q_nil _ _ _ _ _ | exact Kd.S_nil _ _ _ _ _, by repeat (first | (with_reducible first | exact HB.out | apply below_alloc | apply pw_below_drewN | apply below_drew1) | exact HB.out)⟩
                                  · rw [if_neg c22] at H
                                    exact absurd H (by simp)
                                · rw [if_neg c21] at H
                                  have c21b0 : decide (x7_4 < ((rdOf ByteArray.empty t218 x6_2).size : Int)) = false := decide_eq_false c21
                                  clear c21
                                  by_cases c26 : x5_2 = true
                                  · subst c26
                                    have H1 : (dolmenref1_Split.l0 k4 t218 true (wrap64 (x6_2 + 1))) = some (r1, r2) := by rw [if_pos rfl] at H; exact H
                                    clear H
                                    have H := H1
                                    clear H1
                                    have H' := Aside0.mk H
                                    clear H
                                    have p224 : 0 ≤ (x6_2 : Int) := of_decide_eq_true (by first | (with_reducible assumption) | assumption)
                                    have q224 : x6_2 < (t218.length : Int) := of_decide_eq_true (by first | (with_reducible assumption) | assumption)
                                    obtain ⟨ad224, e224, hx224_0⟩ := Kd.at_string (Kd.R_reads' HO_4.out).2.2 x6_2 p224 q224
                                    cases e224
                                    replace p224 := eq_true p224
                                    replace q224 := eq_true q224
                                    go_wp2
                                    go_roundg k4
                                    case measure => have := HJ2.out; have := HK2.out; have := HJ12.out; have := HK4.out; omega
                                    case rel => exact ⟨(true), (wrap64 (x6_2 + 1)), (by first | rfl | (simp; done) | (simp [*]; done)), (by first | rfl | (simp; done) | (simp [*]; done)), H', ⟨by have := HJ2.out; have := HK2.out; have := HJ12.out; have := HK4.out; omega⟩, ⟨by (with_reducible repeat (first | apply Kd.R_alloc | apply Kd.R_drewN | apply Kd.R_drew)); exact HO_4.out⟩, ⟨by repeat (first | (with_reducible first | exact HB.out | apply below_alloc | apply pw_below_drewN | apply below_drew1) | exact HB.out)⟩⟩
                                  · replace c26 := Bool.eq_false_iff.mpr c26
                                    subst c26
                                    have H1 : (dolmenref1_Split.l0 k4 t218 (decide (((rdOf ByteArray.empty t218 x6_2).size : Int) > 12)) (wrap64 (x6_2 + 1))) = some (r1, r2) := by rw [if_neg (show ¬ (false = true) by decide)] at H; exact H
                                    clear H
                                    have H := H1
                                    clear H1
                                    have H' := Aside0.mk H
                                    clear H
                                    have p224 : 0 ≤ (x6_2 : Int) := of_decide_eq_true (by first | (with_reducible assumption) | assumption)
                                    have q224 : x6_2 < (t218.length : Int) := of_decide_eq_true (by first | (with_reducible assumption) | assumption)
                                    obtain ⟨ad224, e224, hx224_0⟩ := Kd.at_string (Kd.R_reads' HO_4.out).2.2 x6_2 p224 q224
                                    cases e224
                                    replace p224 := eq_true p224
                                    replace q224 := eq_true q224
                                    have p227 : 0 ≤ (x6_2 : Int) := of_decide_eq_true (by first | (with_reducible assumption) | assumption)
                                    have q227 : x6_2 < (t218.length : Int) := of_decide_eq_true (by first | (with_reducible assumption) | assumption)
                                    obtain ⟨ad227, e227, hx227_0⟩ := Kd.at_string (Kd.R_reads' HO_4.out).2.2 x6_2 p227 q227
                                    obtain rfl : ad224 = ad227 := (by injection e227)
                                    replace p227 := eq_true p227
                                    replace q227 := eq_true q227
                                    go_wp2
                                    go_roundg k4
                                    case measure => have := HJ2.out; have := HK2.out; have := HJ12.out; have := HK4.out; omega
                                    case rel => exact ⟨(decide (((rdOf ByteArray.empty t218 x6_2).size : Int) > 12)), (wrap64 (x6_2 + 1)), (by first | rfl | (simp; done) | (simp [*]; done)), (by first | rfl | (simp; done) | (simp [*]; done)), H', ⟨by have := HJ2.out; have := HK2.out; have := HJ12.out; have := HK4.out; omega⟩, ⟨by (with_reducible repeat (first | apply Kd.R_alloc | apply Kd.R_drewN | apply Kd.R_drew)); exact HO_4.out⟩, ⟨by repeat (first | (with_reducible first | exact HB.out | apply below_alloc | apply pw_below_drewN | apply below_drew1) | exact HB.out)⟩⟩
                              · rw [if_neg c20] at H
                                exact absurd H (by simp)
                            · rw [if_neg c19] at H
                              exact absurd H (by simp)
                · rw [if_neg c12] at H
                  have c12b0 : decide (x6_2 < (t218.length : Int)) = false := decide_eq_false c12
                  clear c12
                  by_cases c27 : x5_2 = true
                  · subst c27
                    have H1 : (some (([] : List ByteArray), 3)) = some (r1, r2) := by rw [if_pos rfl] at H; exact H
                    clear H
                    have H := H1
                    clear H1
                    simp only [Option.some.injEq, Prod.mk.injEq] at H
                    obtain ⟨rfl, rfl⟩ := H
                    obtain ⟨Ao28, co28, eo28⟩ := Kd.R_slice HO_4.out
                    subst eo28
                    go_wp2
                    go_ret2
                    exact ⟨_, by first | rfl | (simp [errW_none, errW_some] <;> rfl) | (simp [*, errW_none, errW_some] <;> rfl), by first | exact Kd.R_nil _ _ _ _ _ | exact Kd.N_nil _ _ _ _ _ | exact Kd.V_nil _ _ _ _ _ | exact Kd.Q_nil _ _ _ _ _ | exact Kd.S_nil _ _ _ _ _, by repeat (first | (with_reducible first | exact HB.out | apply below_alloc | apply pw_below_drewN | apply below_drew1) | exact HB.out)⟩
                  · replace c27 := Bool.eq_false_iff.mpr c27
                    subst c27
                    have H1 : (if (t218.length : Int) > 6 then (some (([] : List ByteArray), 4)) else (some (t218, 0))) = some (r1, r2) := by rw [if_neg (show ¬ (false = true) by decide)] at H; exact H
                    clear H
                    have H := H1
                    clear H1
                    by_cases c29 : (t218.length : Int) > 6
                    · rw [if_pos c29] at H
                      have c29b0 : decide (6 < (t218.length : Int)) = true := decide_eq_true c29
                      have c29b1 : decide (6 < t218.length) = true := decide_eq_true (by omega)
                      clear c29
                      simp only [Option.some.injEq, Prod.mk.injEq] at H
                      obtain ⟨rfl, rfl⟩ := H
                      obtain ⟨Ao30, co30, eo30⟩ := Kd.R_slice HO_4.out
                      subst eo30
                      go_wp2
                      go_ret2
                      exact ⟨_, by first | rfl | (simp [errW_none, errW_some] <;> rfl) | (simp [*, errW_none, errW_some] <;> rfl), by first | exact Kd.R_nil _ _ _ _ _ | exact Kd.N_nil _ _ _ _ _ | exact Kd.V_nil _ _ _ _ _ | exact Kd.Q_nil _ _ _ _ _ | exact Kd.S_nil _ _ _ _ _, by repeat (first | (with_reducible first | exact HB.out | apply below_alloc | apply pw_below_drewN | apply below_drew1) | exact HB.out)⟩
                    · rw [if_neg c29] at H
                      have c29b0 : decide (6 < (t218.length : Int)) = false := decide_eq_false c29
                      have c29b1 : decide (6 < t218.length) = false := decide_eq_false (by omega)
                      clear c29
                      simp only [Option.some.injEq, Prod.mk.injEq] at H
                      obtain ⟨rfl, rfl⟩ := H
                      obtain ⟨Ao31, co31, eo31⟩ := Kd.R_slice HO_4.out
                      subst eo31
                      go_wp2
                      go_ret2
                      exact ⟨_, by first | rfl | (simp [errW_none, errW_some] <;> rfl) | (simp [*, errW_none, errW_some] <;> rfl), by (with_reducible repeat (first | apply Kd.R_alloc | apply Kd.R_drewN | apply Kd.R_drew)); exact HO_4.out, by repeat (first | (with_reducible first | exact HB.out | apply below_alloc | apply pw_below_drewN | apply below_drew1) | exact HB.out)⟩
          · rw [if_neg c9] at H
            exact absurd H (by simp)

end Go.Proofs.YtcbmbjapcpbnnaaGreatDoor.G
