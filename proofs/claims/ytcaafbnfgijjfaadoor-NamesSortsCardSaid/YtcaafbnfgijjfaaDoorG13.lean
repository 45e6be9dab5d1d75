-- WRITTEN BY a program of this session (wip/gprint.py) out of the translation
import Derived.Test.YtcaafbnfgijjfaaDoorOps
import Derived.Test.YtcaafbnfgijjfaaDoorG0
namespace Go.Proofs.YtcaafbnfgijjfaaDoor.G
open Go.RowKit Go.Proofs.YtcaafbnfgijjfaaDoorW.PrintWords Go.Proofs.YtcaafbnfgijjfaaDoorW.PrintLast Go.Proofs.YtcaafbnfgijjfaaDoorW.PrintMore
attribute [local go_sem] max2_int min2_int max_two min_two max_three min_three max_four min_four   -- for this text's walks alone
set_option linter.unusedVariables false
set_option linter.unusedSimpArgs false

/-! ### dolmenref1_Sorted: function 24 -/
mutual
def dolmenref1_Sorted.l0 : Nat → List ByteArray → List ByteArray → Int → Option (List ByteArray)
  | 0, _, _, _ => none
  | k + 1, x0, x3, x4 => if x4 < (x0.length : Int) then (dolmenref1_Sorted.l1 k x0 x3 x4 (x3.length : Int)) else (some x3)
def dolmenref1_Sorted.j2 : Nat → List ByteArray → List ByteArray → Int → Int → Option (List ByteArray)
  | 0, _, _, _, _ => none
  | k + 1, x0, x3, x4, x5 => if x5 > 0 then (if 0 ≤ (wrap64 (x5 - 1)) then (if (wrap64 (x5 - 1)) < (x3.length : Int) then (if 0 ≤ x4 then (if x4 < (x0.length : Int) then (dolmenref1_Sorted.j3 k x0 x3 x4 x5 ((rdOf ByteArray.empty x3 (wrap64 (x5 - 1))).toList == (rdOf ByteArray.empty x0 x4).toList)) else (none)) else (none)) else (none)) else (none)) else (dolmenref1_Sorted.j3 k x0 x3 x4 x5 false)
def dolmenref1_Sorted.j3 : Nat → List ByteArray → List ByteArray → Int → Int → Bool → Option (List ByteArray)
  | 0, _, _, _, _, _ => none
  | k + 1, x0, x3, x4, x5, x44 => if x44 = true then (dolmenref1_Sorted.l0 k x0 x3 (wrap64 (x4 + 1))) else (if x3.length < 8796093022208 then ((some (x3 ++ [(⟨#[]⟩ : ByteArray)] : List ByteArray)).bind fun y322 => (dolmenref1_Sorted.l2 k x0 y322 x4 x5 (wrap64 ((y322.length : Int) - 1)))) else (none))
def dolmenref1_Sorted.l2 : Nat → List ByteArray → List ByteArray → Int → Int → Int → Option (List ByteArray)
  | 0, _, _, _, _, _ => none
  | k + 1, x0, x3, x4, x5, x6 => if x6 > x5 then (if 0 ≤ (wrap64 (x6 - 1)) then (if (wrap64 (x6 - 1)) < (x3.length : Int) then (if 0 ≤ x6 then (if x6 < (x3.length : Int) then (dolmenref1_Sorted.l2 k x0 (x3.set (x6 : Int).toNat (rdOf ByteArray.empty x3 (wrap64 (x6 - 1)))) x4 x5 (wrap64 (x6 - 1))) else (none)) else (none)) else (none)) else (none)) else (if 0 ≤ x4 then (if x4 < (x0.length : Int) then (if 0 ≤ x5 then (if x5 < (x3.length : Int) then (dolmenref1_Sorted.l0 k x0 (x3.set (x5 : Int).toNat (rdOf ByteArray.empty x0 x4)) (wrap64 (x4 + 1))) else (none)) else (none)) else (none)) else (none))
def dolmenref1_Sorted.l1 : Nat → List ByteArray → List ByteArray → Int → Int → Option (List ByteArray)
  | 0, _, _, _, _ => none
  | k + 1, x0, x3, x4, x5 => if x5 > 0 then (if 0 ≤ (wrap64 (x5 - 1)) then (if (wrap64 (x5 - 1)) < (x3.length : Int) then (if 0 ≤ x4 then (if x4 < (x0.length : Int) then (if (Op.bytesLess ((rdOf ByteArray.empty x0 x4).toList) ((rdOf ByteArray.empty x3 (wrap64 (x5 - 1))).toList)) = true then (dolmenref1_Sorted.l1 k x0 x3 x4 (wrap64 (x5 - 1))) else (dolmenref1_Sorted.j2 k x0 x3 x4 x5)) else (none)) else (none)) else (none)) else (none)) else (dolmenref1_Sorted.j2 k x0 x3 x4 x5)
end
def dolmenref1_Sorted.f (k : Nat) (l0 : List ByteArray) : Option (List ByteArray) := dolmenref1_Sorted.l0 k l0 ([] : List ByteArray) 0
theorem dolmenref1_Sorted.mono_l : ∀ k, (∀ y0 y1 y2, LeO (dolmenref1_Sorted.l0 k y0 y1 y2) (dolmenref1_Sorted.l0 (k + 1) y0 y1 y2)) ∧ (∀ y0 y1 y2 y3, LeO (dolmenref1_Sorted.j2 k y0 y1 y2 y3) (dolmenref1_Sorted.j2 (k + 1) y0 y1 y2 y3)) ∧ (∀ y0 y1 y2 y3 y4, LeO (dolmenref1_Sorted.j3 k y0 y1 y2 y3 y4) (dolmenref1_Sorted.j3 (k + 1) y0 y1 y2 y3 y4)) ∧ (∀ y0 y1 y2 y3 y4, LeO (dolmenref1_Sorted.l2 k y0 y1 y2 y3 y4) (dolmenref1_Sorted.l2 (k + 1) y0 y1 y2 y3 y4)) ∧ (∀ y0 y1 y2 y3, LeO (dolmenref1_Sorted.l1 k y0 y1 y2 y3) (dolmenref1_Sorted.l1 (k + 1) y0 y1 y2 y3))
  | 0 => ⟨fun _ _ _ r h => by simp [dolmenref1_Sorted.l0] at h, fun _ _ _ _ r h => by simp [dolmenref1_Sorted.j2] at h, fun _ _ _ _ _ r h => by simp [dolmenref1_Sorted.j3] at h, fun _ _ _ _ _ r h => by simp [dolmenref1_Sorted.l2] at h, fun _ _ _ _ r h => by simp [dolmenref1_Sorted.l1] at h⟩
  | k + 1 => by
    obtain ⟨ih0, ih1, ih2, ih3, ih4⟩ := dolmenref1_Sorted.mono_l k
    refine ⟨?_, ?_, ?_, ?_, ?_⟩
    · intro y0 y1 y2
      unfold dolmenref1_Sorted.l0
      repeat' first
      | (with_reducible exact ih0 _ _ _)
      | (with_reducible exact ih1 _ _ _ _)
      | (with_reducible exact ih2 _ _ _ _ _)
      | (with_reducible exact ih3 _ _ _ _ _)
      | (with_reducible exact ih4 _ _ _ _)
      | (with_reducible exact LeO.refl _)
      | (with_reducible exact LeO.none _)
      | (with_reducible refine LeO.ite ?_ ?_)
      | (with_reducible refine LeO.bind ?_ (fun _ => ?_))
      | exact ih0 _ _ _
      | exact ih1 _ _ _ _
      | exact ih2 _ _ _ _ _
      | exact ih3 _ _ _ _ _
      | exact ih4 _ _ _ _
      | exact LeO.none _
      | refine LeO.ite ?_ ?_
      | refine LeO.bind ?_ (fun _ => ?_)
    · intro y0 y1 y2 y3
      unfold dolmenref1_Sorted.j2
      repeat' first
      | (with_reducible exact ih0 _ _ _)
      | (with_reducible exact ih1 _ _ _ _)
      | (with_reducible exact ih2 _ _ _ _ _)
      | (with_reducible exact ih3 _ _ _ _ _)
      | (with_reducible exact ih4 _ _ _ _)
      | (with_reducible exact LeO.refl _)
      | (with_reducible exact LeO.none _)
      | (with_reducible refine LeO.ite ?_ ?_)
      | (with_reducible refine LeO.bind ?_ (fun _ => ?_))
      | exact ih0 _ _ _
      | exact ih1 _ _ _ _
      | exact ih2 _ _ _ _ _
      | exact ih3 _ _ _ _ _
      | exact ih4 _ _ _ _
      | exact LeO.none _
      | refine LeO.ite ?_ ?_
      | refine LeO.bind ?_ (fun _ => ?_)
    · intro y0 y1 y2 y3 y4
      unfold dolmenref1_Sorted.j3
      repeat' first
      | (with_reducible exact ih0 _ _ _)
      | (with_reducible exact ih1 _ _ _ _)
      | (with_reducible exact ih2 _ _ _ _ _)
      | (with_reducible exact ih3 _ _ _ _ _)
      | (with_reducible exact ih4 _ _ _ _)
      | (with_reducible exact LeO.refl _)
      | (with_reducible exact LeO.none _)
      | (with_reducible refine LeO.ite ?_ ?_)
      | (with_reducible refine LeO.bind ?_ (fun _ => ?_))
      | exact ih0 _ _ _
      | exact ih1 _ _ _ _
      | exact ih2 _ _ _ _ _
      | exact ih3 _ _ _ _ _
      | exact ih4 _ _ _ _
      | exact LeO.none _
      | refine LeO.ite ?_ ?_
      | refine LeO.bind ?_ (fun _ => ?_)
    · intro y0 y1 y2 y3 y4
      unfold dolmenref1_Sorted.l2
      repeat' first
      | (with_reducible exact ih0 _ _ _)
      | (with_reducible exact ih1 _ _ _ _)
      | (with_reducible exact ih2 _ _ _ _ _)
      | (with_reducible exact ih3 _ _ _ _ _)
      | (with_reducible exact ih4 _ _ _ _)
      | (with_reducible exact LeO.refl _)
      | (with_reducible exact LeO.none _)
      | (with_reducible refine LeO.ite ?_ ?_)
      | (with_reducible refine LeO.bind ?_ (fun _ => ?_))
      | exact ih0 _ _ _
      | exact ih1 _ _ _ _
      | exact ih2 _ _ _ _ _
      | exact ih3 _ _ _ _ _
      | exact ih4 _ _ _ _
      | exact LeO.none _
      | refine LeO.ite ?_ ?_
      | refine LeO.bind ?_ (fun _ => ?_)
    · intro y0 y1 y2 y3
      unfold dolmenref1_Sorted.l1
      repeat' first
      | (with_reducible exact ih0 _ _ _)
      | (with_reducible exact ih1 _ _ _ _)
      | (with_reducible exact ih2 _ _ _ _ _)
      | (with_reducible exact ih3 _ _ _ _ _)
      | (with_reducible exact ih4 _ _ _ _)
      | (with_reducible exact LeO.refl _)
      | (with_reducible exact LeO.none _)
      | (with_reducible refine LeO.ite ?_ ?_)
      | (with_reducible refine LeO.bind ?_ (fun _ => ?_))
      | exact ih0 _ _ _
      | exact ih1 _ _ _ _
      | exact ih2 _ _ _ _ _
      | exact ih3 _ _ _ _ _
      | exact ih4 _ _ _ _
      | exact LeO.none _
      | refine LeO.ite ?_ ?_
      | refine LeO.bind ?_ (fun _ => ?_)
theorem dolmenref1_Sorted.mono : ∀ a0 k, LeO (dolmenref1_Sorted.f k a0) (dolmenref1_Sorted.f (k + 1) a0) := by
  intro a0 k
  obtain ⟨ih0, ih1, ih2, ih3, ih4⟩ := dolmenref1_Sorted.mono_l k
  unfold dolmenref1_Sorted.f
  repeat' first
      | (with_reducible exact ih0 _ _ _)
      | (with_reducible exact ih1 _ _ _ _)
      | (with_reducible exact ih2 _ _ _ _ _)
      | (with_reducible exact ih3 _ _ _ _ _)
      | (with_reducible exact ih4 _ _ _ _)
      | (with_reducible exact LeO.refl _)
      | (with_reducible exact LeO.none _)
      | (with_reducible refine LeO.ite ?_ ?_)
      | (with_reducible refine LeO.bind ?_ (fun _ => ?_))
      | exact ih0 _ _ _
      | exact ih1 _ _ _ _
      | exact ih2 _ _ _ _ _
      | exact ih3 _ _ _ _ _
      | exact ih4 _ _ _ _
      | exact LeO.none _
      | refine LeO.ite ?_ ?_
      | refine LeO.bind ?_ (fun _ => ?_)
set_option maxHeartbeats 8000000 in
set_option maxRecDepth 100000 in
theorem dolmenref1_Sorted.calls (k : Nat) (A0 : Option Addr) (c0 : Nat) (l0 : List ByteArray) (r : List ByteArray) (w : World) (hr0 : Kd.C Kd.string w A0 l0.length l0) (hc0 : l0.length ≤ c0) (h : dolmenref1_Sorted.f k l0 = some r) :
    Calls Tryd.prog 24 #[.slice A0 l0.length c0] w fun e w' => ∃ v0_ : Value, e = .returned (v0_) ∧ Kd.R Kd.string 9 w' w.heap.size (fun _ => True) v0_ r ∧ Below w.heap.size w w' := by
  have HR0 := Aside0.mk hr0
  have HC0 := Aside0.mk hc0
  clear hr0 hc0
  have HB := Aside0.mk (Below.refl w.heap.size w)
  have H : (dolmenref1_Sorted.l0 k l0 ([] : List ByteArray) 0) = some r := h
  clear h
  have H' := Aside0.mk H
  clear H
  go_enter Tryd.func24, Tryd.ntmps24
  go_wp2
  repeat (go_quiet (fail); try go_wp2)
  go_loopg [3, 4] k (fun kq v3 v4 w' => ∃ (x3_1 : List ByteArray) (x4_1 : Int), v4 = .int .i64 x4_1 ∧ Aside0 (dolmenref1_Sorted.l0 kq l0 x3_1 x4_1 = some r) ∧ Aside0 (kq ≤ k) ∧ Aside0 (Kd.R Kd.string 9 w' w.heap.size (fun _ => True) v3 x3_1) ∧ Aside0 (Below w.heap.size w w'))
  case atStart => exact ⟨(([] : List ByteArray)), (0), (by first | rfl | (simp; done) | (simp [*]; done)), H', ⟨Nat.le_refl _⟩, ⟨by first | exact Kd.R_nil _ _ _ _ _ | exact Kd.N_nil _ _ _ _ _ | exact Kd.V_nil _ _ _ _ _ | exact Kd.Q_nil _ _ _ _ _ | exact Kd.S_nil _ _ _ _ _⟩, ⟨by repeat (first | (with_reducible first | exact HB.out | apply below_alloc | apply pw_below_drewN | apply below_drew1) | exact HB.out)⟩⟩
  case round =>
    clear H'
    obtain ⟨x3_1, x4_1, rfl, HA, HK1, HO_3, HB⟩ := hrel
    cases gk with
    | zero => exact absurd HA.out (by simp [dolmenref1_Sorted.l0])
    | succ k1 =>
      have H := HA.out
      clear HA
      simp only [dolmenref1_Sorted.l0] at H
      by_cases c2 : x4_1 < (l0.length : Int)
      · rw [if_pos c2] at H
        have c2b0 : decide (x4_1 < (l0.length : Int)) = true := decide_eq_true c2
        clear c2
        have HC3 := Aside0.mk H
        clear H
        obtain ⟨Ao4, co4, eo4⟩ := Kd.R_slice HO_3.out
        subst eo4
        go_upto_block 2 with (fail)
        repeat (go_quiet (fail); go_upto_block 2 with (fail))
        go_cut [5] (fun v5 wc => ∃ (kq : Nat) (x5_2 : Int), v5 = .int .i64 x5_2 ∧ Aside0 (dolmenref1_Sorted.j2 kq l0 x3_1 x4_1 x5_2 = some r) ∧ Aside0 (kq ≤ k1) ∧ Aside0 (Kd.R Kd.string 9 wc w.heap.size (fun _ => True) (.slice Ao4 x3_1.length co4) x3_1) ∧ Aside0 (Below w.heap.size w wc))
        case first =>
          have H := HC3.out
          clear HC3
          have H' := Aside0.mk H
          clear H
          go_wp2
          repeat (go_quiet (fail); try go_wp2)
          go_loopg [5] k1 (fun kq v5 w' => ∃ (x5_2 : Int), v5 = .int .i64 x5_2 ∧ Aside0 (dolmenref1_Sorted.l1 kq l0 x3_1 x4_1 x5_2 = some r) ∧ Aside0 (kq ≤ k1) ∧ Aside0 (Kd.R Kd.string 9 w' w.heap.size (fun _ => True) (.slice Ao4 x3_1.length co4) x3_1) ∧ Aside0 (Below w.heap.size w w'))
          case atStart => exact ⟨((x3_1.length : Int)), (by first | rfl | (simp; done) | (simp [*]; done)), H', ⟨Nat.le_refl _⟩, ⟨by (with_reducible repeat (first | apply Kd.R_alloc | apply Kd.R_drewN | apply Kd.R_drew)); exact HO_3.out⟩, ⟨by repeat (first | (with_reducible first | exact HB.out | apply below_alloc | apply pw_below_drewN | apply below_drew1) | exact HB.out)⟩⟩
          case round =>
            clear H'
            try clear c2
            try clear c2b0
            try clear p2
            obtain ⟨x5_2, rfl, HA, HK2, HO_3, HB⟩ := hrel
            cases gk with
            | zero => exact absurd HA.out (by simp [dolmenref1_Sorted.l1])
            | succ k2 =>
              have H := HA.out
              clear HA
              simp only [dolmenref1_Sorted.l1] at H
              by_cases c5 : x5_2 > 0
              · rw [if_pos c5] at H
                have c5b0 : decide (0 < x5_2) = true := decide_eq_true c5
                clear c5
                (first | rw [c5b0] | (simp only [i64_w, i32_w]; rw [c5b0]) | skip)
                obtain ⟨ji6, hji6⟩ : ∃ j_ : Int, (wrap64 (x5_2 - 1)) = j_ := ⟨_, rfl⟩
                replace H : (if 0 ≤ (ji6) then (if (ji6) < (x3_1.length : Int) then (if 0 ≤ x4_1 then (if x4_1 < (l0.length : Int) then (if (Op.bytesLess ((rdOf ByteArray.empty l0 x4_1).toList) ((rdOf ByteArray.empty x3_1 (ji6)).toList)) = true then (dolmenref1_Sorted.l1 k2 l0 x3_1 x4_1 ji6) else (dolmenref1_Sorted.j2 k2 l0 x3_1 x4_1 x5_2)) else (none)) else (none)) else (none)) else (none)) = some r := by first | (rw [hji6] at H; exact H) | (simp only [hji6] at H ⊢; exact H)
                have hji6w : (IntKind.i64.wrap (x5_2 - 1)) = ji6 := (i64_w _).trans hji6
                by_cases c7 : 0 ≤ (ji6)
                · rw [if_pos c7] at H
                  have c7b0 : decide (0 ≤ (ji6)) = true := decide_eq_true c7
                  clear c7
                  by_cases c8 : (ji6) < (x3_1.length : Int)
                  · rw [if_pos c8] at H
                    have c8b0 : decide ((ji6) < (x3_1.length : Int)) = true := decide_eq_true c8
                    clear c8
                    by_cases c9 : 0 ≤ x4_1
                    · rw [if_pos c9] at H
                      have c9b0 : decide (0 ≤ x4_1) = true := decide_eq_true c9
                      clear c9
                      by_cases c10 : x4_1 < (l0.length : Int)
                      · rw [if_pos c10] at H
                        have c10b0 : decide (x4_1 < (l0.length : Int)) = true := decide_eq_true c10
                        clear c10
                        by_cases c11 : (Op.bytesLess ((rdOf ByteArray.empty l0 x4_1).toList) ((rdOf ByteArray.empty x3_1 (ji6)).toList)) = true
                        · rw [if_pos c11] at H
                          have c11b0 : (Op.bytesLess ((rdOf ByteArray.empty l0 x4_1).toList) ((rdOf ByteArray.empty x3_1 (ji6)).toList)) = true := c11
                          clear c11
                          have H' := Aside0.mk H
                          clear H
                          have p318 : 0 ≤ ((ji6) : Int) := of_decide_eq_true (by first | (with_reducible assumption) | assumption)
                          have q318 : (ji6) < (x3_1.length : Int) := of_decide_eq_true (by first | (with_reducible assumption) | assumption)
                          obtain ⟨ad318, e318, hx318_0⟩ := Kd.at_string (Kd.R_reads' HO_3.out).2.2 (ji6) p318 q318
                          cases e318
                          replace p318 := eq_true p318
                          replace q318 := eq_true q318
                          have p319 : 0 ≤ (x4_1 : Int) := of_decide_eq_true (by first | (with_reducible assumption) | assumption)
                          have q319 : x4_1 < (l0.length : Int) := of_decide_eq_true (by first | (with_reducible assumption) | assumption)
                          obtain ⟨ad319, e319, hx319_0⟩ := Kd.at_string HR0.out x4_1 p319 q319
                          cases e319
                          replace hx319_0 := (HB.out.cell (World.block_lt_of_cell? w _ hx319_0)).trans hx319_0
                          replace p319 := eq_true p319
                          replace q319 := eq_true q319
                          go_wp2
                          repeat (go_quiet (fail); try go_wp2)
                          go_roundg k2
                          case measure => have := HK1.out; have := HK2.out; omega
                          case rel => exact ⟨(ji6), (by first | rfl | (simp; done) | (simp only [← hji6] <;> (first | rfl | simp)) | (simp [*]; done)), H', ⟨by have := HK1.out; have := HK2.out; omega⟩, ⟨by (with_reducible repeat (first | apply Kd.R_alloc | apply Kd.R_drewN | apply Kd.R_drew)); exact HO_3.out⟩, ⟨by repeat (first | (with_reducible first | exact HB.out | apply below_alloc | apply pw_below_drewN | apply below_drew1) | exact HB.out)⟩⟩
                        · rw [if_neg c11] at H
                          have c11b0 : (Op.bytesLess ((rdOf ByteArray.empty l0 x4_1).toList) ((rdOf ByteArray.empty x3_1 (ji6)).toList)) = false := by simpa using c11
                          clear c11
                          have H' := Aside0.mk H
                          clear H
                          have p318 : 0 ≤ ((ji6) : Int) := of_decide_eq_true (by first | (with_reducible assumption) | assumption)
                          have q318 : (ji6) < (x3_1.length : Int) := of_decide_eq_true (by first | (with_reducible assumption) | assumption)
                          obtain ⟨ad318, e318, hx318_0⟩ := Kd.at_string (Kd.R_reads' HO_3.out).2.2 (ji6) p318 q318
                          cases e318
                          replace p318 := eq_true p318
                          replace q318 := eq_true q318
                          have p319 : 0 ≤ (x4_1 : Int) := of_decide_eq_true (by first | (with_reducible assumption) | assumption)
                          have q319 : x4_1 < (l0.length : Int) := of_decide_eq_true (by first | (with_reducible assumption) | assumption)
                          obtain ⟨ad319, e319, hx319_0⟩ := Kd.at_string HR0.out x4_1 p319 q319
                          cases e319
                          replace hx319_0 := (HB.out.cell (World.block_lt_of_cell? w _ hx319_0)).trans hx319_0
                          replace p319 := eq_true p319
                          replace q319 := eq_true q319
                          go_wp2
                          repeat (go_quiet (fail); try go_wp2)
                          go_meet
                          case rel => exact ⟨_, (x5_2), (by first | rfl | (simp; done) | (simp [*]; done)), H', ⟨by have := HK1.out; have := HK2.out; first | omega | exact Nat.le_refl _⟩, ⟨by (with_reducible repeat (first | apply Kd.R_alloc | apply Kd.R_drewN | apply Kd.R_drew)); exact HO_3.out⟩, ⟨by repeat (first | (with_reducible first | exact HB.out | apply below_alloc | apply pw_below_drewN | apply below_drew1) | exact HB.out)⟩⟩
                      · rw [if_neg c10] at H
                        exact absurd H (by simp)
                    · rw [if_neg c9] at H
                      exact absurd H (by simp)
                  · rw [if_neg c8] at H
                    exact absurd H (by simp)
                · rw [if_neg c7] at H
                  exact absurd H (by simp)
              · rw [if_neg c5] at H
                have c5b0 : decide (0 < x5_2) = false := decide_eq_false c5
                clear c5
                (first | rw [c5b0] | (simp only [i64_w, i32_w]; rw [c5b0]) | skip)
                have H' := Aside0.mk H
                clear H
                go_wp2
                repeat (go_quiet (fail); try go_wp2)
                go_meet
                case rel => exact ⟨_, (x5_2), (by first | rfl | (simp; done) | (simp [*]; done)), H', ⟨by have := HK1.out; have := HK2.out; first | omega | exact Nat.le_refl _⟩, ⟨by (with_reducible repeat (first | apply Kd.R_alloc | apply Kd.R_drewN | apply Kd.R_drew)); exact HO_3.out⟩, ⟨by repeat (first | (with_reducible first | exact HB.out | apply below_alloc | apply pw_below_drewN | apply below_drew1) | exact HB.out)⟩⟩
        case rest =>
          clear HC3
          try clear c1
          try clear c2
          try clear c2b0
          try clear p2
          try clear p3
          try clear q3
          try clear hx3
          try clear c5
          try clear c5b0
          try clear p6
          try clear c7
          try clear c7b0
          try clear c8
          try clear c8b0
          try clear c9
          try clear c9b0
          try clear c10
          try clear c10b0
          try clear c11
          try clear c11b0
          try clear hx318_0
          try clear hx319_0
          try clear p2
          try clear p318
          try clear p319
          try clear q318
          try clear q319
          obtain ⟨kq, x5_2, rfl, HA, HJ2, HO_3, HB⟩ := hcut
          cases kq with
          | zero => exact absurd HA.out (by simp [dolmenref1_Sorted.j2])
          | succ kj2 =>
            have H := HA.out
            clear HA
            simp only [dolmenref1_Sorted.j2] at H
            have HC12 := Aside0.mk H
            clear H
            go_upto_region 8 with (fail)
            repeat (go_quiet (fail); go_upto_region 8 with (fail))
            go_cut [44] (fun v44 wc => ∃ (kq : Nat) (x44_11 : Bool), v44 = .bool x44_11 ∧ Aside0 (dolmenref1_Sorted.j3 kq l0 x3_1 x4_1 x5_2 x44_11 = some r) ∧ Aside0 (kq ≤ kj2) ∧ Aside0 (Kd.R Kd.string 9 wc w.heap.size (fun _ => True) (.slice Ao4 x3_1.length co4) x3_1) ∧ Aside0 (Below w.heap.size w wc))
            case first =>
              have H := HC12.out
              clear HC12
              by_cases c13 : x5_2 > 0
              · rw [if_pos c13] at H
                have c13b0 : decide (0 < x5_2) = true := decide_eq_true c13
                clear c13
                (first | rw [c13b0] | (simp only [i64_w, i32_w]; rw [c13b0]) | skip)
                try clear hji6w
                try clear hji6
                obtain ⟨ji14, hji14⟩ : ∃ j_ : Int, (wrap64 (x5_2 - 1)) = j_ := ⟨_, rfl⟩
                replace H : (if 0 ≤ (ji14) then (if (ji14) < (x3_1.length : Int) then (if 0 ≤ x4_1 then (if x4_1 < (l0.length : Int) then (dolmenref1_Sorted.j3 kj2 l0 x3_1 x4_1 x5_2 ((rdOf ByteArray.empty x3_1 (ji14)).toList == (rdOf ByteArray.empty l0 x4_1).toList)) else (none)) else (none)) else (none)) else (none)) = some r := by first | (rw [hji14] at H; exact H) | (simp only [hji14] at H ⊢; exact H)
                have hji14w : (IntKind.i64.wrap (x5_2 - 1)) = ji14 := (i64_w _).trans hji14
                by_cases c15 : 0 ≤ (ji14)
                · rw [if_pos c15] at H
                  have c15b0 : decide (0 ≤ (ji14)) = true := decide_eq_true c15
                  clear c15
                  by_cases c16 : (ji14) < (x3_1.length : Int)
                  · rw [if_pos c16] at H
                    have c16b0 : decide ((ji14) < (x3_1.length : Int)) = true := decide_eq_true c16
                    clear c16
                    by_cases c17 : 0 ≤ x4_1
                    · rw [if_pos c17] at H
                      have c17b0 : decide (0 ≤ x4_1) = true := decide_eq_true c17
                      clear c17
                      by_cases c18 : x4_1 < (l0.length : Int)
                      · rw [if_pos c18] at H
                        have c18b0 : decide (x4_1 < (l0.length : Int)) = true := decide_eq_true c18
                        clear c18
                        have H' := Aside0.mk H
                        clear H
                        have p320 : 0 ≤ ((ji14) : Int) := of_decide_eq_true (by first | (with_reducible assumption) | assumption)
                        have q320 : (ji14) < (x3_1.length : Int) := of_decide_eq_true (by first | (with_reducible assumption) | assumption)
                        obtain ⟨ad320, e320, hx320_0⟩ := Kd.at_string (Kd.R_reads' HO_3.out).2.2 (ji14) p320 q320
                        cases e320
                        replace p320 := eq_true p320
                        replace q320 := eq_true q320
                        have p321 : 0 ≤ (x4_1 : Int) := of_decide_eq_true (by first | (with_reducible assumption) | assumption)
                        have q321 : x4_1 < (l0.length : Int) := of_decide_eq_true (by first | (with_reducible assumption) | assumption)
                        obtain ⟨ad321, e321, hx321_0⟩ := Kd.at_string HR0.out x4_1 p321 q321
                        cases e321
                        replace hx321_0 := (HB.out.cell (World.block_lt_of_cell? w _ hx321_0)).trans hx321_0
                        replace p321 := eq_true p321
                        replace q321 := eq_true q321
                        go_wp2
                        repeat (go_quiet (fail); try go_wp2)
                        go_meet
                        case rel => exact ⟨_, (((rdOf ByteArray.empty x3_1 (ji14)).toList == (rdOf ByteArray.empty l0 x4_1).toList)), (by first | rfl | (simp; done) | (simp only [← hji14] <;> (first | rfl | simp)) | (simp [*]; done)), H', ⟨by have := HK1.out; have := HJ2.out; first | omega | exact Nat.le_refl _⟩, ⟨by (with_reducible repeat (first | apply Kd.R_alloc | apply Kd.R_drewN | apply Kd.R_drew)); exact HO_3.out⟩, ⟨by repeat (first | (with_reducible first | exact HB.out | apply below_alloc | apply pw_below_drewN | apply below_drew1) | exact HB.out)⟩⟩
                      · rw [if_neg c18] at H
                        exact absurd H (by simp)
                    · rw [if_neg c17] at H
                      exact absurd H (by simp)
                  · rw [if_neg c16] at H
                    exact absurd H (by simp)
                · rw [if_neg c15] at H
                  exact absurd H (by simp)
              · rw [if_neg c13] at H
                have c13b0 : decide (0 < x5_2) = false := decide_eq_false c13
                clear c13
                (first | rw [c13b0] | (simp only [i64_w, i32_w]; rw [c13b0]) | skip)
                have H' := Aside0.mk H
                clear H
                go_wp2
                repeat (go_quiet (fail); try go_wp2)
                go_meet
                case rel => exact ⟨_, (false), (by first | rfl | (simp; done) | (simp [*]; done)), H', ⟨by have := HK1.out; have := HJ2.out; first | omega | exact Nat.le_refl _⟩, ⟨by (with_reducible repeat (first | apply Kd.R_alloc | apply Kd.R_drewN | apply Kd.R_drew)); exact HO_3.out⟩, ⟨by repeat (first | (with_reducible first | exact HB.out | apply below_alloc | apply pw_below_drewN | apply below_drew1) | exact HB.out)⟩⟩
            case rest =>
              clear HC12
              try clear c1
              try clear c2
              try clear c2b0
              try clear p2
              try clear p3
              try clear q3
              try clear hx3
              try clear c5
              try clear c5b0
              try clear p6
              try clear c7
              try clear c7b0
              try clear c8
              try clear c8b0
              try clear c9
              try clear c9b0
              try clear c10
              try clear c10b0
              try clear c11
              try clear c11b0
              try clear c13
              try clear c13b0
              try clear c15
              try clear c15b0
              try clear c16
              try clear c16b0
              try clear c17
              try clear c17b0
              try clear c18
              try clear c18b0
              try clear hx318_0
              try clear hx319_0
              try clear hx320_0
              try clear hx321_0
              try clear p2
              try clear p3
              try clear p318
              try clear p319
              try clear p320
              try clear p321
              try clear p6
              try clear q3
              try clear q318
              try clear q319
              try clear q320
              try clear q321
              obtain ⟨kq, x44_11, rfl, HA, HJ11, HO_3, HB⟩ := hcut
              cases kq with
              | zero => exact absurd HA.out (by simp [dolmenref1_Sorted.j3])
              | succ kj11 =>
                have H := HA.out
                clear HA
                simp only [dolmenref1_Sorted.j3] at H
                by_cases c19 : x44_11 = true
                · subst c19
                  have H1 : (dolmenref1_Sorted.l0 kj11 l0 x3_1 (wrap64 (x4_1 + 1))) = some r := by rw [if_pos rfl] at H; exact H
                  clear H
                  have H := H1
                  clear H1
                  have H' := Aside0.mk H
                  clear H
                  go_wp2
                  repeat (go_quiet (fail); try go_wp2)
                  go_roundg kj11
                  case measure => have := HK1.out; have := HJ2.out; have := HJ11.out; omega
                  case rel => exact ⟨(x3_1), (wrap64 (x4_1 + 1)), (by first | rfl | (simp; done) | (simp [*]; done)), H', ⟨by have := HK1.out; have := HJ2.out; have := HJ11.out; omega⟩, ⟨by (with_reducible repeat (first | apply Kd.R_alloc | apply Kd.R_drewN | apply Kd.R_drew)); exact HO_3.out⟩, ⟨by repeat (first | (with_reducible first | exact HB.out | apply below_alloc | apply pw_below_drewN | apply below_drew1) | exact HB.out)⟩⟩
                · replace c19 := Bool.eq_false_iff.mpr c19
                  subst c19
                  have H1 : (if x3_1.length < 8796093022208 then ((some (x3_1 ++ [(⟨#[]⟩ : ByteArray)] : List ByteArray)).bind fun y322 => (dolmenref1_Sorted.l2 kj11 l0 y322 x4_1 x5_2 (wrap64 ((y322.length : Int) - 1)))) else (none)) = some r := by rw [if_neg (show ¬ (false = true) by decide)] at H; exact H
                  clear H
                  have H := H1
                  clear H1
                  by_cases c20 : x3_1.length < 8796093022208
                  · rw [if_pos c20] at H
                    have LMc20 := Aside0.mk c20
                    clear c20
                    obtain ⟨y322, hy322⟩ : ∃ y_ : List ByteArray, y_ = (x3_1 ++ [(⟨#[]⟩ : ByteArray)]) := ⟨_, rfl⟩
                    replace H : (dolmenref1_Sorted.l2 kj11 l0 y322 x4_1 x5_2 (wrap64 ((y322.length : Int) - 1))) = some r := by first | (rw [hy322]; with_reducible exact H) | (have H2_ := (Option.bind_some _ _).symm.trans H; rw [hy322]; with_reducible exact H2_) | (have H2_ := (Option.bind_some _ _).symm.trans H; with_reducible exact H2_) | with_reducible exact H | (rw [hy322]; exact H) | exact H
                    have Ny322 := Aside0.mk hy322
                    clear hy322
                    have H' := Aside0.mk H
                    clear H
                    go_wp2_with (first | ((with_reducible refine gate_builtin (b := .append) (xs := #[.tmp 45, .tmp 46]) rfl ?_); at_builtin; refine Kd.R_append Kd.string (w0 := w) w.heap.size rfl (.tmp 45) (.tmp 46) 24 9 (.string ⟨#[]⟩) 16 rfl Tryd.underlying24 info9 rfl (by decide) (by omega) (.slice Ao4 x3_1.length co4) x3_1 (⟨#[]⟩ : ByteArray) [.string (⟨#[]⟩ : ByteArray)] (fun _ => True) (fun _ => False) rfl rfl ?aP (fun _ hk => hk.elim) ?aF ?aO ?aB ?aS ?aL ?_; (case aP => exact rfl); (case aB => exact (by repeat (first | (with_reducible first | exact HB.out | apply below_alloc | apply pw_below_drewN | apply below_drew1) | exact HB.out))); (case aF => exact (fun _ _ => trivial)); (case aO => exact (by (with_reducible repeat (first | apply Kd.R_alloc | apply Kd.R_drewN | apply Kd.R_drew)); exact HO_3.out)); (case aS => exact (below_size (by repeat (first | (with_reducible first | exact HB.out | apply below_alloc | apply pw_below_drewN | apply below_drew1) | exact HB.out)))); (case aL => have := LMc20.out; omega); intro v323 w21 ho hb hg hat; rw [← Ny322.out] at ho; have n0_ := Aside0.mk (hb); have n1_ := Aside0.mk (ho); clear HB; clear HO_3; have HB := n0_; have HO324 := n1_; clear n0_ n1_; clear ho hb hg hat; obtain ⟨Ao22, co22, eo22⟩ := Kd.R_slice HO324.out; subst eo22))
                    repeat (go_quiet (first | ((with_reducible refine gate_builtin (b := .append) (xs := #[.tmp 45, .tmp 46]) rfl ?_); at_builtin; refine Kd.R_append Kd.string (w0 := w) w.heap.size rfl (.tmp 45) (.tmp 46) 24 9 (.string ⟨#[]⟩) 16 rfl Tryd.underlying24 info9 rfl (by decide) (by omega) (.slice Ao4 x3_1.length co4) x3_1 (⟨#[]⟩ : ByteArray) [.string (⟨#[]⟩ : ByteArray)] (fun _ => True) (fun _ => False) rfl rfl ?aP (fun _ hk => hk.elim) ?aF ?aO ?aB ?aS ?aL ?_; (case aP => exact rfl); (case aB => exact (by repeat (first | (with_reducible first | exact HB.out | apply below_alloc | apply pw_below_drewN | apply below_drew1) | exact HB.out))); (case aF => exact (fun _ _ => trivial)); (case aO => exact (by (with_reducible repeat (first | apply Kd.R_alloc | apply Kd.R_drewN | apply Kd.R_drew)); exact HO_3.out)); (case aS => exact (below_size (by repeat (first | (with_reducible first | exact HB.out | apply below_alloc | apply pw_below_drewN | apply below_drew1) | exact HB.out)))); (case aL => have := LMc20.out; omega); intro v323 w21 ho hb hg hat; rw [← Ny322.out] at ho; have n0_ := Aside0.mk (hb); have n1_ := Aside0.mk (ho); clear HB; clear HO_3; have HB := n0_; have HO324 := n1_; clear n0_ n1_; clear ho hb hg hat; obtain ⟨Ao22, co22, eo22⟩ := Kd.R_slice HO324.out; subst eo22)); try go_wp2_with (first | ((with_reducible refine gate_builtin (b := .append) (xs := #[.tmp 45, .tmp 46]) rfl ?_); at_builtin; refine Kd.R_append Kd.string (w0 := w) w.heap.size rfl (.tmp 45) (.tmp 46) 24 9 (.string ⟨#[]⟩) 16 rfl Tryd.underlying24 info9 rfl (by decide) (by omega) (.slice Ao4 x3_1.length co4) x3_1 (⟨#[]⟩ : ByteArray) [.string (⟨#[]⟩ : ByteArray)] (fun _ => True) (fun _ => False) rfl rfl ?aP (fun _ hk => hk.elim) ?aF ?aO ?aB ?aS ?aL ?_; (case aP => exact rfl); (case aB => exact (by repeat (first | (with_reducible first | exact HB.out | apply below_alloc | apply pw_below_drewN | apply below_drew1) | exact HB.out))); (case aF => exact (fun _ _ => trivial)); (case aO => exact (by (with_reducible repeat (first | apply Kd.R_alloc | apply Kd.R_drewN | apply Kd.R_drew)); exact HO_3.out)); (case aS => exact (below_size (by repeat (first | (with_reducible first | exact HB.out | apply below_alloc | apply pw_below_drewN | apply below_drew1) | exact HB.out)))); (case aL => have := LMc20.out; omega); intro v323 w21 ho hb hg hat; rw [← Ny322.out] at ho; have n0_ := Aside0.mk (hb); have n1_ := Aside0.mk (ho); clear HB; clear HO_3; have HB := n0_; have HO324 := n1_; clear n0_ n1_; clear ho hb hg hat; obtain ⟨Ao22, co22, eo22⟩ := Kd.R_slice HO324.out; subst eo22)))
                    go_loopg [6] kj11 (fun kq v6 w' => ∃ (x3_4 : List ByteArray) (x6_4 : Int), v6 = .int .i64 x6_4 ∧ Aside0 (dolmenref1_Sorted.l2 kq l0 x3_4 x4_1 x5_2 x6_4 = some r) ∧ Aside0 (kq ≤ kj11) ∧ Aside0 (Kd.R Kd.string 9 w' w.heap.size (fun _ => True) (.slice Ao22 y322.length co22) x3_4) ∧ Aside0 (Below w.heap.size w w'))
                    case atStart => exact ⟨(y322), (wrap64 ((y322.length : Int) - 1)), (by first | rfl | (simp; done) | (simp [*]; done)), H', ⟨Nat.le_refl _⟩, ⟨by (with_reducible repeat (first | apply Kd.R_alloc | apply Kd.R_drewN | apply Kd.R_drew)); exact HO324.out⟩, ⟨by repeat (first | (with_reducible first | exact HB.out | apply below_alloc | apply pw_below_drewN | apply below_drew1) | exact HB.out)⟩⟩
                    case round =>
                      clear H'
                      try clear c1
                      try clear c2
                      try clear c2b0
                      try clear p2
                      try clear p3
                      try clear q3
                      try clear hx3
                      try clear c5
                      try clear c5b0
                      try clear p6
                      try clear c7
                      try clear c7b0
                      try clear c8
                      try clear c8b0
                      try clear c9
                      try clear c9b0
                      try clear c10
                      try clear c10b0
                      try clear c11
                      try clear c11b0
                      try clear c13
                      try clear c13b0
                      try clear c15
                      try clear c15b0
                      try clear c16
                      try clear c16b0
                      try clear c17
                      try clear c17b0
                      try clear c18
                      try clear c18b0
                      try clear c19
                      try clear c20
                      try clear hx318_0
                      try clear hx319_0
                      try clear hx320_0
                      try clear hx321_0
                      try clear p2
                      try clear p3
                      try clear p318
                      try clear p319
                      try clear p320
                      try clear p321
                      try clear p6
                      try clear q3
                      try clear q318
                      try clear q319
                      try clear q320
                      try clear q321
                      obtain ⟨x3_4, x6_4, rfl, HA, HK4, HO_3, HB⟩ := hrel
                      have hl3_4 := (Kd.R_reads' HO_3.out).1
                      rw [hl3_4] at HO_3
                      (try simp only [hl3_4])
                      cases gk with
                      | zero => exact absurd HA.out (by simp [dolmenref1_Sorted.l2])
                      | succ k4 =>
                        have H := HA.out
                        clear HA
                        simp only [dolmenref1_Sorted.l2] at H
                        by_cases c23 : x6_4 > x5_2
                        · rw [if_pos c23] at H
                          have c23b0 : decide (x5_2 < x6_4) = true := decide_eq_true c23
                          clear c23
                          obtain ⟨ji24, hji24⟩ : ∃ j_ : Int, (wrap64 (x6_4 - 1)) = j_ := ⟨_, rfl⟩
                          replace H : (if 0 ≤ (ji24) then (if (ji24) < (x3_4.length : Int) then (if 0 ≤ x6_4 then (if x6_4 < (x3_4.length : Int) then (dolmenref1_Sorted.l2 k4 l0 (x3_4.set (x6_4 : Int).toNat (rdOf ByteArray.empty x3_4 (ji24))) x4_1 x5_2 ji24) else (none)) else (none)) else (none)) else (none)) = some r := by first | (rw [hji24] at H; exact H) | (simp only [hji24] at H ⊢; exact H)
                          have hji24w : (IntKind.i64.wrap (x6_4 - 1)) = ji24 := (i64_w _).trans hji24
                          by_cases c25 : 0 ≤ (ji24)
                          · rw [if_pos c25] at H
                            have c25b0 : decide (0 ≤ (ji24)) = true := decide_eq_true c25
                            clear c25
                            by_cases c26 : (ji24) < (x3_4.length : Int)
                            · rw [if_pos c26] at H
                              have c26b0 : decide ((ji24) < (x3_4.length : Int)) = true := decide_eq_true c26
                              (try (have c26b0z := c26b0; simp only [hl3_4] at c26b0z))
                              clear c26
                              by_cases c27 : 0 ≤ x6_4
                              · rw [if_pos c27] at H
                                have c27b0 : decide (0 ≤ x6_4) = true := decide_eq_true c27
                                clear c27
                                by_cases c28 : x6_4 < (x3_4.length : Int)
                                · rw [if_pos c28] at H
                                  have c28b0 : decide (x6_4 < (x3_4.length : Int)) = true := decide_eq_true c28
                                  (try (have c28b0z := c28b0; simp only [hl3_4] at c28b0z))
                                  clear c28
                                  obtain ⟨y326, hy326⟩ : ∃ y_ : List ByteArray, y_ = (x3_4.set (x6_4 : Int).toNat (rdOf ByteArray.empty x3_4 (ji24))) := ⟨_, rfl⟩
                                  replace H : (dolmenref1_Sorted.l2 k4 l0 y326 x4_1 x5_2 ji24) = some r := by first | (rw [hy326]; with_reducible exact H) | (have H2_ := (Option.bind_some _ _).symm.trans H; rw [hy326]; with_reducible exact H2_) | (have H2_ := (Option.bind_some _ _).symm.trans H; with_reducible exact H2_) | with_reducible exact H | (rw [hy326]; exact H) | exact H
                                  have Ny326 := Aside0.mk hy326
                                  clear hy326
                                  have H' := Aside0.mk H
                                  clear H
                                  have p325 : 0 ≤ ((ji24) : Int) := of_decide_eq_true (by first | (with_reducible assumption) | assumption)
                                  have q325 : (ji24) < (x3_4.length : Int) := of_decide_eq_true (by first | (with_reducible assumption) | assumption)
                                  obtain ⟨ad325, e325, hx325_0⟩ := Kd.at_string (Kd.R_reads' HO_3.out).2.2 (ji24) p325 q325
                                  cases e325
                                  replace p325 := eq_true p325
                                  replace q325 := eq_true q325
                                  have p29 : 0 ≤ (x6_4 : Int) := of_decide_eq_true (by first | (with_reducible assumption) | assumption)
                                  have q29 : (x6_4 : Int) < ((x3_4.length : Int) : Int) := of_decide_eq_true (by first | (with_reducible assumption) | assumption)
                                  obtain ⟨go29, co29, eo29, gb29, gl29, cl29, HG29⟩ := Kd.R_form HO_3.out (by omega)
                                  (first | cases eo29 | (injection eo29 with ea_ en_ ec_; (first | subst ea_ | (injection ea_ with ea_; subst ea_)); subst ec_; clear en_))
                                  have GB29 := Aside0.mk gb29
                                  have GG29 := Aside0.mk HG29
                                  clear gb29 gl29 HG29
                                  (first | simp only [add_plain] at hx325_0 | skip)
                                  obtain ⟨hx29_0, hf29_0⟩ := Kd.R_celln (⟨#[]⟩ : ByteArray) HO_3.out (x6_4 : Int) p29 q29
                                  replace p29 := eq_true p29
                                  replace q29 := eq_true q29
                                  have HP30 := Kd.R_putg HO_3.out (x6_4 : Int) (rdOf ByteArray.empty x3_4 (ji24))
                                  go_wp2_with (first | ((with_reducible refine gate_store (t := 9) (p := 63) rfl ?_); (try (rw [drewN_self wr]; generalize hq_ : World.drewN wr _ = wr; have n0_ := Aside0.mk (Kd.R_at hq_ HO_3.out); have n1_ := Aside0.mk (below_at hq_ HB.out); clear hq_ HO_3 HB; have HO_3 := n0_; have HB := n1_; clear n0_ n1_; (try (have HP30 := Kd.R_putg HO_3.out (x6_4 : Int) (rdOf ByteArray.empty x3_4 (ji24)))))); refine store_event (t := 9) (p := 63) (v := ?vo_w31) (w1 := (wr.setCell ⟨go29, (x6_4 : Int).toNat, none⟩ (.string (rdOf ByteArray.empty x3_4 (ji24))))) ?hg ?ho ?hn ?hr ?_; (case ho => rfl); (case hg => rfl); (case hn => rfl); (case hr => first | (go_simp; done) | (go_simp; rfl)); intro w31 hw; have hg : wr.grownBy w31 (some go29) := (by rw [hw]; exact HP30.2); have hp_ : Kd.R Kd.string 9 w31 w.heap.size (fun _ => True) (.slice (some ⟨go29, 0, none⟩) x3_4.length co22) y326 := (by rw [hw, Ny326.out]; exact HP30.1); clear HP30; have n0_ := Aside0.mk (hp_); have n1_ := Aside0.mk ((by rw [hw]; exact below_set (HB.out) GB29.out : Below w.heap.size w w31)); clear HO_3; clear HB; have HO_3 := n0_; have HB := n1_; clear n0_ n1_; clear hg hw hp_))
                                  repeat (go_quiet (first | ((with_reducible refine gate_store (t := 9) (p := 63) rfl ?_); (try (rw [drewN_self wr]; generalize hq_ : World.drewN wr _ = wr; have n0_ := Aside0.mk (Kd.R_at hq_ HO_3.out); have n1_ := Aside0.mk (below_at hq_ HB.out); clear hq_ HO_3 HB; have HO_3 := n0_; have HB := n1_; clear n0_ n1_; (try (have HP30 := Kd.R_putg HO_3.out (x6_4 : Int) (rdOf ByteArray.empty x3_4 (ji24)))))); refine store_event (t := 9) (p := 63) (v := ?vo_w31) (w1 := (wr.setCell ⟨go29, (x6_4 : Int).toNat, none⟩ (.string (rdOf ByteArray.empty x3_4 (ji24))))) ?hg ?ho ?hn ?hr ?_; (case ho => rfl); (case hg => rfl); (case hn => rfl); (case hr => first | (go_simp; done) | (go_simp; rfl)); intro w31 hw; have hg : wr.grownBy w31 (some go29) := (by rw [hw]; exact HP30.2); have hp_ : Kd.R Kd.string 9 w31 w.heap.size (fun _ => True) (.slice (some ⟨go29, 0, none⟩) x3_4.length co22) y326 := (by rw [hw, Ny326.out]; exact HP30.1); clear HP30; have n0_ := Aside0.mk (hp_); have n1_ := Aside0.mk ((by rw [hw]; exact below_set (HB.out) GB29.out : Below w.heap.size w w31)); clear HO_3; clear HB; have HO_3 := n0_; have HB := n1_; clear n0_ n1_; clear hg hw hp_)); try go_wp2_with (first | ((with_reducible refine gate_store (t := 9) (p := 63) rfl ?_); (try (rw [drewN_self wr]; generalize hq_ : World.drewN wr _ = wr; have n0_ := Aside0.mk (Kd.R_at hq_ HO_3.out); have n1_ := Aside0.mk (below_at hq_ HB.out); clear hq_ HO_3 HB; have HO_3 := n0_; have HB := n1_; clear n0_ n1_; (try (have HP30 := Kd.R_putg HO_3.out (x6_4 : Int) (rdOf ByteArray.empty x3_4 (ji24)))))); refine store_event (t := 9) (p := 63) (v := ?vo_w31) (w1 := (wr.setCell ⟨go29, (x6_4 : Int).toNat, none⟩ (.string (rdOf ByteArray.empty x3_4 (ji24))))) ?hg ?ho ?hn ?hr ?_; (case ho => rfl); (case hg => rfl); (case hn => rfl); (case hr => first | (go_simp; done) | (go_simp; rfl)); intro w31 hw; have hg : wr.grownBy w31 (some go29) := (by rw [hw]; exact HP30.2); have hp_ : Kd.R Kd.string 9 w31 w.heap.size (fun _ => True) (.slice (some ⟨go29, 0, none⟩) x3_4.length co22) y326 := (by rw [hw, Ny326.out]; exact HP30.1); clear HP30; have n0_ := Aside0.mk (hp_); have n1_ := Aside0.mk ((by rw [hw]; exact below_set (HB.out) GB29.out : Below w.heap.size w w31)); clear HO_3; clear HB; have HO_3 := n0_; have HB := n1_; clear n0_ n1_; clear hg hw hp_)))
                                  (try simp only [← hl3_4])
                                  go_roundg k4
                                  case measure => have := HK1.out; have := HJ2.out; have := HJ11.out; have := HK4.out; omega
                                  case rel => exact ⟨(y326), (ji24), (by first | rfl | (simp; done) | (simp only [← hji24] <;> (first | rfl | simp)) | (simp [*]; done)), H', ⟨by have := HK1.out; have := HJ2.out; have := HJ11.out; have := HK4.out; omega⟩, ⟨by (try simp only [hl3_4]); (with_reducible repeat (first | apply Kd.R_alloc | apply Kd.R_drewN | apply Kd.R_drew)); exact HO_3.out⟩, ⟨by repeat (first | (with_reducible first | exact HB.out | apply below_alloc | apply pw_below_drewN | apply below_drew1) | exact HB.out)⟩⟩
                                · rw [if_neg c28] at H
                                  exact absurd H (by simp)
                              · rw [if_neg c27] at H
                                exact absurd H (by simp)
                            · rw [if_neg c26] at H
                              exact absurd H (by simp)
                          · rw [if_neg c25] at H
                            exact absurd H (by simp)
                        · rw [if_neg c23] at H
                          have c23b0 : decide (x5_2 < x6_4) = false := decide_eq_false c23
                          clear c23
                          by_cases c32 : 0 ≤ x4_1
                          · rw [if_pos c32] at H
                            have c32b0 : decide (0 ≤ x4_1) = true := decide_eq_true c32
                            clear c32
                            by_cases c33 : x4_1 < (l0.length : Int)
                            · rw [if_pos c33] at H
                              have c33b0 : decide (x4_1 < (l0.length : Int)) = true := decide_eq_true c33
                              (try (have c33b0z := c33b0; simp only [hl3_4] at c33b0z))
                              clear c33
                              by_cases c34 : 0 ≤ x5_2
                              · rw [if_pos c34] at H
                                have c34b0 : decide (0 ≤ x5_2) = true := decide_eq_true c34
                                clear c34
                                by_cases c35 : x5_2 < (x3_4.length : Int)
                                · rw [if_pos c35] at H
                                  have c35b0 : decide (x5_2 < (x3_4.length : Int)) = true := decide_eq_true c35
                                  (try (have c35b0z := c35b0; simp only [hl3_4] at c35b0z))
                                  clear c35
                                  obtain ⟨y328, hy328⟩ : ∃ y_ : List ByteArray, y_ = (x3_4.set (x5_2 : Int).toNat (rdOf ByteArray.empty l0 x4_1)) := ⟨_, rfl⟩
                                  replace H : (dolmenref1_Sorted.l0 k4 l0 y328 (wrap64 (x4_1 + 1))) = some r := by first | (rw [hy328]; with_reducible exact H) | (have H2_ := (Option.bind_some _ _).symm.trans H; rw [hy328]; with_reducible exact H2_) | (have H2_ := (Option.bind_some _ _).symm.trans H; with_reducible exact H2_) | with_reducible exact H | (rw [hy328]; exact H) | exact H
                                  have Ny328 := Aside0.mk hy328
                                  clear hy328
                                  have H' := Aside0.mk H
                                  clear H
                                  have p327 : 0 ≤ (x4_1 : Int) := of_decide_eq_true (by first | (with_reducible assumption) | assumption)
                                  have q327 : x4_1 < (l0.length : Int) := of_decide_eq_true (by first | (with_reducible assumption) | assumption)
                                  obtain ⟨ad327, e327, hx327_0⟩ := Kd.at_string HR0.out x4_1 p327 q327
                                  cases e327
                                  replace hx327_0 := (HB.out.cell (World.block_lt_of_cell? w _ hx327_0)).trans hx327_0
                                  replace p327 := eq_true p327
                                  replace q327 := eq_true q327
                                  have p36 : 0 ≤ (x5_2 : Int) := of_decide_eq_true (by first | (with_reducible assumption) | assumption)
                                  have q36 : (x5_2 : Int) < ((x3_4.length : Int) : Int) := of_decide_eq_true (by first | (with_reducible assumption) | assumption)
                                  obtain ⟨go36, co36, eo36, gb36, gl36, cl36, HG36⟩ := Kd.R_form HO_3.out (by omega)
                                  (first | cases eo36 | (injection eo36 with ea_ en_ ec_; (first | subst ea_ | (injection ea_ with ea_; subst ea_)); subst ec_; clear en_))
                                  have GB36 := Aside0.mk gb36
                                  have GG36 := Aside0.mk HG36
                                  clear gb36 gl36 HG36
                                  obtain ⟨hx36_0, hf36_0⟩ := Kd.R_celln (⟨#[]⟩ : ByteArray) HO_3.out (x5_2 : Int) p36 q36
                                  replace p36 := eq_true p36
                                  replace q36 := eq_true q36
                                  have HP37 := Kd.R_putg HO_3.out (x5_2 : Int) (rdOf ByteArray.empty l0 x4_1)
                                  go_wp2_with (first | ((with_reducible refine gate_store (t := 9) (p := 70) rfl ?_); (try (rw [drewN_self wr]; generalize hq_ : World.drewN wr _ = wr; have n0_ := Aside0.mk (Kd.R_at hq_ HO_3.out); have n1_ := Aside0.mk (below_at hq_ HB.out); clear hq_ HO_3 HB; have HO_3 := n0_; have HB := n1_; clear n0_ n1_; (try (have HP37 := Kd.R_putg HO_3.out (x5_2 : Int) (rdOf ByteArray.empty l0 x4_1))))); refine store_event (t := 9) (p := 70) (v := ?vo_w38) (w1 := (wr.setCell ⟨go36, (x5_2 : Int).toNat, none⟩ (.string (rdOf ByteArray.empty l0 x4_1)))) ?hg ?ho ?hn ?hr ?_; (case ho => rfl); (case hg => rfl); (case hn => rfl); (case hr => first | (go_simp; done) | (go_simp; rfl)); intro w38 hw; have hg : wr.grownBy w38 (some go36) := (by rw [hw]; exact HP37.2); have hp_ : Kd.R Kd.string 9 w38 w.heap.size (fun _ => True) (.slice (some ⟨go36, 0, none⟩) x3_4.length co22) y328 := (by rw [hw, Ny328.out]; exact HP37.1); clear HP37; have n0_ := Aside0.mk (hp_); have n1_ := Aside0.mk ((by rw [hw]; exact below_set (HB.out) GB36.out : Below w.heap.size w w38)); clear HO_3; clear HB; have HO_3 := n0_; have HB := n1_; clear n0_ n1_; clear hg hw hp_))
                                  repeat (go_quiet (first | ((with_reducible refine gate_store (t := 9) (p := 70) rfl ?_); (try (rw [drewN_self wr]; generalize hq_ : World.drewN wr _ = wr; have n0_ := Aside0.mk (Kd.R_at hq_ HO_3.out); have n1_ := Aside0.mk (below_at hq_ HB.out); clear hq_ HO_3 HB; have HO_3 := n0_; have HB := n1_; clear n0_ n1_; (try (have HP37 := Kd.R_putg HO_3.out (x5_2 : Int) (rdOf ByteArray.empty l0 x4_1))))); refine store_event (t := 9) (p := 70) (v := ?vo_w38) (w1 := (wr.setCell ⟨go36, (x5_2 : Int).toNat, none⟩ (.string (rdOf ByteArray.empty l0 x4_1)))) ?hg ?ho ?hn ?hr ?_; (case ho => rfl); (case hg => rfl); (case hn => rfl); (case hr => first | (go_simp; done) | (go_simp; rfl)); intro w38 hw; have hg : wr.grownBy w38 (some go36) := (by rw [hw]; exact HP37.2); have hp_ : Kd.R Kd.string 9 w38 w.heap.size (fun _ => True) (.slice (some ⟨go36, 0, none⟩) x3_4.length co22) y328 := (by rw [hw, Ny328.out]; exact HP37.1); clear HP37; have n0_ := Aside0.mk (hp_); have n1_ := Aside0.mk ((by rw [hw]; exact below_set (HB.out) GB36.out : Below w.heap.size w w38)); clear HO_3; clear HB; have HO_3 := n0_; have HB := n1_; clear n0_ n1_; clear hg hw hp_)); try go_wp2_with (first | ((with_reducible refine gate_store (t := 9) (p := 70) rfl ?_); (try (rw [drewN_self wr]; generalize hq_ : World.drewN wr _ = wr; have n0_ := Aside0.mk (Kd.R_at hq_ HO_3.out); have n1_ := Aside0.mk (below_at hq_ HB.out); clear hq_ HO_3 HB; have HO_3 := n0_; have HB := n1_; clear n0_ n1_; (try (have HP37 := Kd.R_putg HO_3.out (x5_2 : Int) (rdOf ByteArray.empty l0 x4_1))))); refine store_event (t := 9) (p := 70) (v := ?vo_w38) (w1 := (wr.setCell ⟨go36, (x5_2 : Int).toNat, none⟩ (.string (rdOf ByteArray.empty l0 x4_1)))) ?hg ?ho ?hn ?hr ?_; (case ho => rfl); (case hg => rfl); (case hn => rfl); (case hr => first | (go_simp; done) | (go_simp; rfl)); intro w38 hw; have hg : wr.grownBy w38 (some go36) := (by rw [hw]; exact HP37.2); have hp_ : Kd.R Kd.string 9 w38 w.heap.size (fun _ => True) (.slice (some ⟨go36, 0, none⟩) x3_4.length co22) y328 := (by rw [hw, Ny328.out]; exact HP37.1); clear HP37; have n0_ := Aside0.mk (hp_); have n1_ := Aside0.mk ((by rw [hw]; exact below_set (HB.out) GB36.out : Below w.heap.size w w38)); clear HO_3; clear HB; have HO_3 := n0_; have HB := n1_; clear n0_ n1_; clear hg hw hp_)))
                                  (try simp only [← hl3_4])
                                  go_roundg k4
                                  case measure => have := HK1.out; have := HJ2.out; have := HJ11.out; have := HK4.out; omega
                                  case rel => exact ⟨(y328), (wrap64 (x4_1 + 1)), (by first | rfl | (simp; done) | (simp [*]; done)), H', ⟨by have := HK1.out; have := HJ2.out; have := HJ11.out; have := HK4.out; omega⟩, ⟨by (try simp only [hl3_4]); (with_reducible repeat (first | apply Kd.R_alloc | apply Kd.R_drewN | apply Kd.R_drew)); exact HO_3.out⟩, ⟨by repeat (first | (with_reducible first | exact HB.out | apply below_alloc | apply pw_below_drewN | apply below_drew1) | exact HB.out)⟩⟩
                                · rw [if_neg c35] at H
                                  exact absurd H (by simp)
                              · rw [if_neg c34] at H
                                exact absurd H (by simp)
                            · rw [if_neg c33] at H
                              exact absurd H (by simp)
                          · rw [if_neg c32] at H
                            exact absurd H (by simp)
                  · rw [if_neg c20] at H
                    exact absurd H (by simp)
      · rw [if_neg c2] at H
        have c2b0 : decide (x4_1 < (l0.length : Int)) = false := decide_eq_false c2
        clear c2
        obtain rfl := Option.some.inj H
        go_wp2
        repeat (go_quiet (fail); try go_wp2)
        go_ret
        exact ⟨_, by first | rfl | (simp [errW_none, errW_some] <;> rfl) | (simp [*, errW_none, errW_some] <;> rfl), by (with_reducible repeat (first | apply Kd.R_alloc | apply Kd.R_drewN | apply Kd.R_drew)); exact HO_3.out, by repeat (first | (with_reducible first | exact HB.out | apply below_alloc | apply pw_below_drewN | apply below_drew1) | exact HB.out)⟩

end Go.Proofs.YtcaafbnfgijjfaaDoor.G
