-- WRITTEN BY a program of this session (wip/gprint.py) out of the translation
import Derived.Test.YtcaafbnfgijjfaaDoorG0
import Derived.Test.YtcaafbnfgijjfaaDoorG3
import Derived.Test.YtcaafbnfgijjfaaDoorGvCode
import Derived.Test.YtcaafbnfgijjfaaDoorGvSplit
namespace Go.Proofs.YtcaafbnfgijjfaaDoor.G
open Go.RowKit Go.Proofs.YtcaafbnfgijjfaaDoorW.PrintWords Go.Proofs.YtcaafbnfgijjfaaDoorW.PrintLast Go.Proofs.YtcaafbnfgijjfaaDoorW.PrintMore
attribute [local go_sem] max2_int min2_int max_two min_two max_three min_three max_four min_four   -- for this text's walks alone
set_option linter.unusedVariables false
set_option linter.unusedSimpArgs false

/-! ### dolmenlaw4_NamesErrors: function 4 -/
mutual
def dolmenlaw4_NamesErrors.j0 : Nat → Int → Int → Bool → Bool → Option (Bool)
  | 0, _, _, _, _ => none
  | k + 1, x0, x1, x2, x27 => if x27 = true then ((dolmenlaw4_awake.f k).bind fun t148 => (some t148)) else (dolmenlaw4_NamesErrors.l0 k x0 x1 x2 (⟨#[]⟩ : ByteArray) 0)
def dolmenlaw4_NamesErrors.l0 : Nat → Int → Int → Bool → ByteArray → Int → Option (Bool)
  | 0, _, _, _, _, _ => none
  | k + 1, x0, x1, x2, x7, x8 => if x8 < x1 then (if x7.size + 1 ≤ 9223372036854775807 then (dolmenlaw4_NamesErrors.l0 k x0 x1 x2 (x7 ++ (⟨#[120]⟩ : ByteArray)) (wrap64 (x8 + 1))) else (none)) else (if 1 + x7.size ≤ 9223372036854775807 then (dolmenlaw4_NamesErrors.l1 k x0 x1 x2 ((⟨#[47]⟩ : ByteArray) ++ x7) 1) else (none))
def dolmenlaw4_NamesErrors.l1 : Nat → Int → Int → Bool → ByteArray → Int → Option (Bool)
  | 0, _, _, _, _, _ => none
  | k + 1, x0, x1, x2, x9, x10 => if x10 < x0 then (if x9.size + 2 ≤ 9223372036854775807 then (dolmenlaw4_NamesErrors.l1 k x0 x1 x2 (x9 ++ (⟨#[47, 97]⟩ : ByteArray)) (wrap64 (x10 + 1))) else (none)) else (if x2 = true then (if x9.size + 1 ≤ 9223372036854775807 then (dolmenlaw4_NamesErrors.j3 k x0 x1 x2 (x9 ++ (⟨#[33]⟩ : ByteArray))) else (none)) else (dolmenlaw4_NamesErrors.j3 k x0 x1 x2 x9))
def dolmenlaw4_NamesErrors.j3 : Nat → Int → Int → Bool → ByteArray → Option (Bool)
  | 0, _, _, _, _ => none
  | k + 1, x0, x1, x2, x9 => if x2 = true then ((names_Split.f x9).bind fun bt149 => ((dolmenalike_Code.f bt149.2).bind fun t153 => (if t153 = 2 then (if 2 = 0 then (if (bt149.1.length : Int) = x0 then ((dolmenlaw4_awake.f k).bind fun t154 => (some t154)) else (some false)) else ((dolmenlaw4_awake.f k).bind fun t155 => (some t155))) else (some false)))) else (if x1 > 12 then ((names_Split.f x9).bind fun bt156 => ((dolmenalike_Code.f bt156.2).bind fun t160 => (if t160 = 3 then (if 3 = 0 then (if (bt156.1.length : Int) = x0 then ((dolmenlaw4_awake.f k).bind fun t161 => (some t161)) else (some false)) else ((dolmenlaw4_awake.f k).bind fun t162 => (some t162))) else (some false)))) else (if x0 > 6 then ((names_Split.f x9).bind fun bt163 => ((dolmenalike_Code.f bt163.2).bind fun t167 => (if t167 = 4 then (if 4 = 0 then (if (bt163.1.length : Int) = x0 then ((dolmenlaw4_awake.f k).bind fun t168 => (some t168)) else (some false)) else ((dolmenlaw4_awake.f k).bind fun t169 => (some t169))) else (some false)))) else ((names_Split.f x9).bind fun bt170 => ((dolmenalike_Code.f bt170.2).bind fun t174 => (if t174 = 0 then (if 0 = 0 then (if (bt170.1.length : Int) = x0 then ((dolmenlaw4_awake.f k).bind fun t175 => (some t175)) else (some false)) else ((dolmenlaw4_awake.f k).bind fun t176 => (some t176))) else (some false))))))
end
def dolmenlaw4_NamesErrors.f (k : Nat) (a0 : Int) (a1 : Int) (a2 : Bool) : Option (Bool) := if a0 < 1 then (dolmenlaw4_NamesErrors.j0 k a0 a1 a2 true) else (if a0 > 12 then (dolmenlaw4_NamesErrors.j0 k a0 a1 a2 true) else (if a1 < 1 then (dolmenlaw4_NamesErrors.j0 k a0 a1 a2 true) else (dolmenlaw4_NamesErrors.j0 k a0 a1 a2 (decide (a1 > 15)))))
theorem dolmenlaw4_NamesErrors.mono_l : ∀ k, (∀ y0 y1 y2 y3, LeO (dolmenlaw4_NamesErrors.j0 k y0 y1 y2 y3) (dolmenlaw4_NamesErrors.j0 (k + 1) y0 y1 y2 y3)) ∧ (∀ y0 y1 y2 y3 y4, LeO (dolmenlaw4_NamesErrors.l0 k y0 y1 y2 y3 y4) (dolmenlaw4_NamesErrors.l0 (k + 1) y0 y1 y2 y3 y4)) ∧ (∀ y0 y1 y2 y3 y4, LeO (dolmenlaw4_NamesErrors.l1 k y0 y1 y2 y3 y4) (dolmenlaw4_NamesErrors.l1 (k + 1) y0 y1 y2 y3 y4)) ∧ (∀ y0 y1 y2 y3, LeO (dolmenlaw4_NamesErrors.j3 k y0 y1 y2 y3) (dolmenlaw4_NamesErrors.j3 (k + 1) y0 y1 y2 y3))
  | 0 => ⟨fun _ _ _ _ r h => by simp [dolmenlaw4_NamesErrors.j0] at h, fun _ _ _ _ _ r h => by simp [dolmenlaw4_NamesErrors.l0] at h, fun _ _ _ _ _ r h => by simp [dolmenlaw4_NamesErrors.l1] at h, fun _ _ _ _ r h => by simp [dolmenlaw4_NamesErrors.j3] at h⟩
  | k + 1 => by
    obtain ⟨ih0, ih1, ih2, ih3⟩ := dolmenlaw4_NamesErrors.mono_l k
    refine ⟨?_, ?_, ?_, ?_⟩
    · intro y0 y1 y2 y3
      unfold dolmenlaw4_NamesErrors.j0
      repeat' first
      | (with_reducible exact ih0 _ _ _ _)
      | (with_reducible exact ih1 _ _ _ _ _)
      | (with_reducible exact ih2 _ _ _ _ _)
      | (with_reducible exact ih3 _ _ _ _)
      | (with_reducible exact dolmenlaw4_awake.mono _)
      | (with_reducible exact LeO.refl _)
      | (with_reducible exact LeO.none _)
      | (with_reducible refine LeO.ite ?_ ?_)
      | (with_reducible refine LeO.bind ?_ (fun _ => ?_))
      | exact ih0 _ _ _ _
      | exact ih1 _ _ _ _ _
      | exact ih2 _ _ _ _ _
      | exact ih3 _ _ _ _
      | exact dolmenlaw4_awake.mono _
      | exact LeO.none _
      | refine LeO.ite ?_ ?_
      | refine LeO.bind ?_ (fun _ => ?_)
    · intro y0 y1 y2 y3 y4
      unfold dolmenlaw4_NamesErrors.l0
      repeat' first
      | (with_reducible exact ih0 _ _ _ _)
      | (with_reducible exact ih1 _ _ _ _ _)
      | (with_reducible exact ih2 _ _ _ _ _)
      | (with_reducible exact ih3 _ _ _ _)
      | (with_reducible exact dolmenlaw4_awake.mono _)
      | (with_reducible exact LeO.refl _)
      | (with_reducible exact LeO.none _)
      | (with_reducible refine LeO.ite ?_ ?_)
      | (with_reducible refine LeO.bind ?_ (fun _ => ?_))
      | exact ih0 _ _ _ _
      | exact ih1 _ _ _ _ _
      | exact ih2 _ _ _ _ _
      | exact ih3 _ _ _ _
      | exact dolmenlaw4_awake.mono _
      | exact LeO.none _
      | refine LeO.ite ?_ ?_
      | refine LeO.bind ?_ (fun _ => ?_)
    · intro y0 y1 y2 y3 y4
      unfold dolmenlaw4_NamesErrors.l1
      repeat' first
      | (with_reducible exact ih0 _ _ _ _)
      | (with_reducible exact ih1 _ _ _ _ _)
      | (with_reducible exact ih2 _ _ _ _ _)
      | (with_reducible exact ih3 _ _ _ _)
      | (with_reducible exact dolmenlaw4_awake.mono _)
      | (with_reducible exact LeO.refl _)
      | (with_reducible exact LeO.none _)
      | (with_reducible refine LeO.ite ?_ ?_)
      | (with_reducible refine LeO.bind ?_ (fun _ => ?_))
      | exact ih0 _ _ _ _
      | exact ih1 _ _ _ _ _
      | exact ih2 _ _ _ _ _
      | exact ih3 _ _ _ _
      | exact dolmenlaw4_awake.mono _
      | exact LeO.none _
      | refine LeO.ite ?_ ?_
      | refine LeO.bind ?_ (fun _ => ?_)
    · intro y0 y1 y2 y3
      unfold dolmenlaw4_NamesErrors.j3
      repeat' first
      | (with_reducible exact ih0 _ _ _ _)
      | (with_reducible exact ih1 _ _ _ _ _)
      | (with_reducible exact ih2 _ _ _ _ _)
      | (with_reducible exact ih3 _ _ _ _)
      | (with_reducible exact dolmenlaw4_awake.mono _)
      | (with_reducible exact LeO.refl _)
      | (with_reducible exact LeO.none _)
      | (with_reducible refine LeO.ite ?_ ?_)
      | (with_reducible refine LeO.bind ?_ (fun _ => ?_))
      | exact ih0 _ _ _ _
      | exact ih1 _ _ _ _ _
      | exact ih2 _ _ _ _ _
      | exact ih3 _ _ _ _
      | exact dolmenlaw4_awake.mono _
      | exact LeO.none _
      | refine LeO.ite ?_ ?_
      | refine LeO.bind ?_ (fun _ => ?_)
theorem dolmenlaw4_NamesErrors.mono : ∀ a0 a1 a2 k, LeO (dolmenlaw4_NamesErrors.f k a0 a1 a2) (dolmenlaw4_NamesErrors.f (k + 1) a0 a1 a2) := by
  intro a0 a1 a2 k
  obtain ⟨ih0, ih1, ih2, ih3⟩ := dolmenlaw4_NamesErrors.mono_l k
  unfold dolmenlaw4_NamesErrors.f
  repeat' first
      | (with_reducible exact ih0 _ _ _ _)
      | (with_reducible exact ih1 _ _ _ _ _)
      | (with_reducible exact ih2 _ _ _ _ _)
      | (with_reducible exact ih3 _ _ _ _)
      | (with_reducible exact dolmenlaw4_awake.mono _)
      | (with_reducible exact LeO.refl _)
      | (with_reducible exact LeO.none _)
      | (with_reducible refine LeO.ite ?_ ?_)
      | (with_reducible refine LeO.bind ?_ (fun _ => ?_))
      | exact ih0 _ _ _ _
      | exact ih1 _ _ _ _ _
      | exact ih2 _ _ _ _ _
      | exact ih3 _ _ _ _
      | exact dolmenlaw4_awake.mono _
      | exact LeO.none _
      | refine LeO.ite ?_ ?_
      | refine LeO.bind ?_ (fun _ => ?_)
set_option maxHeartbeats 8000000 in
set_option maxRecDepth 100000 in
theorem dolmenlaw4_NamesErrors.calls (k : Nat) (a0 : Int) (a1 : Int) (a2 : Bool) (r : Bool) (w : World) (h : dolmenlaw4_NamesErrors.f k a0 a1 a2 = some r) :
    Calls Tryd.prog 4 #[.int .i64 a0, .int .i64 a1, .bool a2] w fun e w' => e = .returned (.bool r) ∧ Below w.heap.size w w' := by
  have HB := Aside0.mk (Below.refl w.heap.size w)
  have H : (if a0 < 1 then (dolmenlaw4_NamesErrors.j0 k a0 a1 a2 true) else (if a0 > 12 then (dolmenlaw4_NamesErrors.j0 k a0 a1 a2 true) else (if a1 < 1 then (dolmenlaw4_NamesErrors.j0 k a0 a1 a2 true) else (dolmenlaw4_NamesErrors.j0 k a0 a1 a2 (decide (a1 > 15)))))) = some r := h
  clear h
  have HC4 := Aside0.mk H
  clear H
  go_enter Tryd.func4, Tryd.ntmps4
  go_upto_region 1 with (fail)
  go_cut [27] (fun v27 wc => ∃ (kq : Nat) (x27_3 : Bool), v27 = .bool x27_3 ∧ Aside0 (dolmenlaw4_NamesErrors.j0 kq a0 a1 a2 x27_3 = some r) ∧ Aside0 (kq ≤ k) ∧ Aside0 (Below w.heap.size w wc))
  case first =>
    have H := HC4.out
    clear HC4
    by_cases c5 : a0 < 1
    · rw [if_pos c5] at H
      have c5b0 : decide (a0 < 1) = true := decide_eq_true c5
      clear c5
      (first | rw [c5b0] | (simp only [i64_w, i32_w]; rw [c5b0]) | skip)
      have H' := Aside0.mk H
      clear H
      go_wp2
      go_meet
      case rel => exact ⟨_, (true), (by first | rfl | (simp; done) | (simp [*]; done)), H', ⟨by first | omega | exact Nat.le_refl _⟩, ⟨by repeat (first | (with_reducible first | exact HB.out | apply below_alloc | apply pw_below_drewN | apply below_drew1) | exact HB.out)⟩⟩
    · rw [if_neg c5] at H
      have c5b0 : decide (a0 < 1) = false := decide_eq_false c5
      clear c5
      (first | rw [c5b0] | (simp only [i64_w, i32_w]; rw [c5b0]) | skip)
      by_cases c6 : a0 > 12
      · rw [if_pos c6] at H
        have c6b0 : decide (12 < a0) = true := decide_eq_true c6
        clear c6
        have H' := Aside0.mk H
        clear H
        go_wp2
        go_meet
        case rel => exact ⟨_, (true), (by first | rfl | (simp; done) | (simp [*]; done)), H', ⟨by first | omega | exact Nat.le_refl _⟩, ⟨by repeat (first | (with_reducible first | exact HB.out | apply below_alloc | apply pw_below_drewN | apply below_drew1) | exact HB.out)⟩⟩
      · rw [if_neg c6] at H
        have c6b0 : decide (12 < a0) = false := decide_eq_false c6
        clear c6
        by_cases c7 : a1 < 1
        · rw [if_pos c7] at H
          have c7b0 : decide (a1 < 1) = true := decide_eq_true c7
          clear c7
          have H' := Aside0.mk H
          clear H
          go_wp2
          go_meet
          case rel => exact ⟨_, (true), (by first | rfl | (simp; done) | (simp [*]; done)), H', ⟨by first | omega | exact Nat.le_refl _⟩, ⟨by repeat (first | (with_reducible first | exact HB.out | apply below_alloc | apply pw_below_drewN | apply below_drew1) | exact HB.out)⟩⟩
        · rw [if_neg c7] at H
          have c7b0 : decide (a1 < 1) = false := decide_eq_false c7
          clear c7
          have H' := Aside0.mk H
          clear H
          go_wp2
          go_meet
          case rel => exact ⟨_, (decide (a1 > 15)), (by first | rfl | (simp; done) | (simp [*]; done)), H', ⟨by first | omega | exact Nat.le_refl _⟩, ⟨by repeat (first | (with_reducible first | exact HB.out | apply below_alloc | apply pw_below_drewN | apply below_drew1) | exact HB.out)⟩⟩
  case rest =>
    clear HC4
    try clear p2
    try clear c4
    try clear c5
    try clear c5b0
    try clear c6
    try clear c6b0
    try clear c7
    try clear c7b0
    obtain ⟨kq, x27_3, rfl, HA, HJ3, HB⟩ := hcut
    cases kq with
    | zero => exact absurd HA.out (by simp [dolmenlaw4_NamesErrors.j0])
    | succ kj3 =>
      have H := HA.out
      clear HA
      simp only [dolmenlaw4_NamesErrors.j0] at H
      by_cases c8 : x27_3 = true
      · subst c8
        have H1 : ((dolmenlaw4_awake.f kj3).bind fun t148 => (some t148)) = some r := by rw [if_pos rfl] at H; exact H
        clear H
        have H := H1
        clear H1
        replace H := Option.bind_eq_some_iff.mp H
        obtain ⟨t148, A90, H⟩ := H
        replace H : (some t148) = some r := H
        have A9 := Aside0.mk A90
        clear A90
        obtain rfl := Option.some.inj H
        go_wp2_with (first | ((with_reducible refine gate_callee (f := 10) rfl ?_); refine goesL_ (some 28) rfl rfl Tryd.func10 (by kernel_rfl) rfl #[] rfl (by (try simp only [List.map_toArray, List.map_cons, List.map_nil]); first | done | rfl | (simp only [List.length_drop, List.length_take]; rfl)) ?_; (with_reducible refine (dolmenlaw4_awake.calls kj3  t148 _ A9.out).mono ?_); rintro e w10 ⟨rfl, hb⟩; refine ⟨_, rfl, ?_⟩; have n0_ := Aside0.mk (below_step (by repeat (first | (with_reducible first | exact HB.out | apply below_alloc | apply pw_below_drewN | apply below_drew1) | exact HB.out)) hb); clear HB; have HB := n0_; clear n0_; (try clear hb); (try clear hb2); (try clear hk); (try clear hi)))
        go_ret
        exact ⟨by first | rfl | (simp [errW_none, errW_some] <;> rfl) | (simp [*, errW_none, errW_some] <;> rfl), by repeat (first | (with_reducible first | exact HB.out | apply below_alloc | apply pw_below_drewN | apply below_drew1) | exact HB.out)⟩
      · replace c8 := Bool.eq_false_iff.mpr c8
        subst c8
        have H1 : (dolmenlaw4_NamesErrors.l0 kj3 a0 a1 a2 (⟨#[]⟩ : ByteArray) 0) = some r := by rw [if_neg (show ¬ (false = true) by decide)] at H; exact H
        clear H
        have H := H1
        clear H1
        have H' := Aside0.mk H
        clear H
        go_wp2
        go_loopg [7, 8] kj3 (fun kq v7 v8 w' => ∃ (x7_2 : ByteArray) (x8_2 : Int), v7 = .string x7_2 ∧ v8 = .int .i64 x8_2 ∧ Aside0 (dolmenlaw4_NamesErrors.l0 kq a0 a1 a2 x7_2 x8_2 = some r) ∧ Aside0 (kq ≤ kj3) ∧ Aside0 (Below w.heap.size w w'))
        case atStart => exact ⟨((⟨#[]⟩ : ByteArray)), (0), (by first | rfl | (simp; done) | (simp [*]; done)), (by first | rfl | (simp; done) | (simp [*]; done)), H', ⟨Nat.le_refl _⟩, ⟨by repeat (first | (with_reducible first | exact HB.out | apply below_alloc | apply pw_below_drewN | apply below_drew1) | exact HB.out)⟩⟩
        case round =>
          clear H'
          try clear c1
          try clear p2
          try clear c4
          try clear c5
          try clear c5b0
          try clear c6
          try clear c6b0
          try clear c7
          try clear c7b0
          try clear c8
          try clear c10
          try clear p2
          obtain ⟨x7_2, x8_2, rfl, rfl, HA, HK2, HB⟩ := hrel
          cases gk with
          | zero => exact absurd HA.out (by simp [dolmenlaw4_NamesErrors.l0])
          | succ k2 =>
            have H := HA.out
            clear HA
            simp only [dolmenlaw4_NamesErrors.l0] at H
            by_cases c11 : x8_2 < a1
            · rw [if_pos c11] at H
              have c11b0 : decide (x8_2 < a1) = true := decide_eq_true c11
              clear c11
              by_cases c12 : x7_2.size + 1 ≤ 9223372036854775807
              · rw [if_pos c12] at H
                have c12b0 := eq_true c12
                have c12b1 : decide (x7_2.size + 1 ≤ 9223372036854775807) = true := decide_eq_true c12
                try have c12b2 : (9223372036854775807 < x7_2.size + 1) = False := eq_false (Nat.not_lt.2 c12)
                have H' := Aside0.mk H
                clear H
                go_wp2
                go_roundg k2
                case measure => have := HJ3.out; have := HK2.out; omega
                case rel => exact ⟨(x7_2 ++ (⟨#[120]⟩ : ByteArray)), (wrap64 (x8_2 + 1)), (by first | rfl | (simp; done) | (simp [*]; done)), (by first | rfl | (simp; done) | (simp [*]; done)), H', ⟨by have := HJ3.out; have := HK2.out; omega⟩, ⟨by repeat (first | (with_reducible first | exact HB.out | apply below_alloc | apply pw_below_drewN | apply below_drew1) | exact HB.out)⟩⟩
              · rw [if_neg c12] at H
                exact absurd H (by simp)
            · rw [if_neg c11] at H
              have c11b0 : decide (x8_2 < a1) = false := decide_eq_false c11
              clear c11
              by_cases c13 : 1 + x7_2.size ≤ 9223372036854775807
              · rw [if_pos c13] at H
                have c13b0 := eq_true c13
                have c13b1 : decide (1 + x7_2.size ≤ 9223372036854775807) = true := decide_eq_true c13
                try have c13b2 : (9223372036854775807 < 1 + x7_2.size) = False := eq_false (Nat.not_lt.2 c13)
                have H' := Aside0.mk H
                clear H
                go_wp2
                go_loopg [9, 10] k2 (fun kq v9 v10 w' => ∃ (x9_3 : ByteArray) (x10_3 : Int), v9 = .string x9_3 ∧ v10 = .int .i64 x10_3 ∧ Aside0 (dolmenlaw4_NamesErrors.l1 kq a0 a1 a2 x9_3 x10_3 = some r) ∧ Aside0 (kq ≤ k2) ∧ Aside0 (Below w.heap.size w w'))
                case atStart => exact ⟨((⟨#[47]⟩ : ByteArray) ++ x7_2), (1), (by first | rfl | (simp; done) | (simp [*]; done)), (by first | rfl | (simp; done) | (simp [*]; done)), H', ⟨Nat.le_refl _⟩, ⟨by repeat (first | (with_reducible first | exact HB.out | apply below_alloc | apply pw_below_drewN | apply below_drew1) | exact HB.out)⟩⟩
                case round =>
                  clear H'
                  try clear c1
                  try clear p2
                  try clear c4
                  try clear c5
                  try clear c5b0
                  try clear c6
                  try clear c6b0
                  try clear p6
                  try clear c7
                  try clear c7b0
                  try clear c8
                  try clear c10
                  try clear c11
                  try clear c11b0
                  try clear c12
                  try clear c12b0
                  try clear c12b1
                  try clear c12b2
                  try clear c13
                  try clear c13b0
                  try clear c13b1
                  try clear c13b2
                  try clear p2
                  obtain ⟨x9_3, x10_3, rfl, rfl, HA, HK3, HB⟩ := hrel
                  cases gk with
                  | zero => exact absurd HA.out (by simp [dolmenlaw4_NamesErrors.l1])
                  | succ k3 =>
                    have H := HA.out
                    clear HA
                    simp only [dolmenlaw4_NamesErrors.l1] at H
                    by_cases c14 : x10_3 < a0
                    · rw [if_pos c14] at H
                      have c14b0 : decide (x10_3 < a0) = true := decide_eq_true c14
                      clear c14
                      by_cases c15 : x9_3.size + 2 ≤ 9223372036854775807
                      · rw [if_pos c15] at H
                        have c15b0 := eq_true c15
                        have c15b1 : decide (x9_3.size + 2 ≤ 9223372036854775807) = true := decide_eq_true c15
                        try have c15b2 : (9223372036854775807 < x9_3.size + 2) = False := eq_false (Nat.not_lt.2 c15)
                        have H' := Aside0.mk H
                        clear H
                        go_wp2
                        go_roundg k3
                        case measure => have := HJ3.out; have := HK2.out; have := HK3.out; omega
                        case rel => exact ⟨(x9_3 ++ (⟨#[47, 97]⟩ : ByteArray)), (wrap64 (x10_3 + 1)), (by first | rfl | (simp; done) | (simp [*]; done)), (by first | rfl | (simp; done) | (simp [*]; done)), H', ⟨by have := HJ3.out; have := HK2.out; have := HK3.out; omega⟩, ⟨by repeat (first | (with_reducible first | exact HB.out | apply below_alloc | apply pw_below_drewN | apply below_drew1) | exact HB.out)⟩⟩
                      · rw [if_neg c15] at H
                        exact absurd H (by simp)
                    · rw [if_neg c14] at H
                      have c14b0 : decide (x10_3 < a0) = false := decide_eq_false c14
                      clear c14
                      have HC16 := Aside0.mk H
                      clear H
                      go_upto_if 45 with (fail)
                      go_cut [9] (fun v9 wc => ∃ (kq : Nat) (x9_15 : ByteArray), v9 = .string x9_15 ∧ Aside0 (dolmenlaw4_NamesErrors.j3 kq a0 a1 a2 x9_15 = some r) ∧ Aside0 (kq ≤ k3) ∧ Aside0 (Below w.heap.size w wc))
                      case first =>
                        have H := HC16.out
                        clear HC16
                        by_cases c17 : a2 = true
                        · subst c17
                          have H1 : (if x9_3.size + 1 ≤ 9223372036854775807 then (dolmenlaw4_NamesErrors.j3 k3 a0 a1 true (x9_3 ++ (⟨#[33]⟩ : ByteArray))) else (none)) = some r := by rw [if_pos rfl] at H; exact H
                          clear H
                          have H := H1
                          clear H1
                          by_cases c18 : x9_3.size + 1 ≤ 9223372036854775807
                          · rw [if_pos c18] at H
                            have c18b0 := eq_true c18
                            have c18b1 : decide (x9_3.size + 1 ≤ 9223372036854775807) = true := decide_eq_true c18
                            try have c18b2 : (9223372036854775807 < x9_3.size + 1) = False := eq_false (Nat.not_lt.2 c18)
                            have H' := Aside0.mk H
                            clear H
                            go_wp2
                            go_meet
                            case rel => exact ⟨_, (x9_3 ++ (⟨#[33]⟩ : ByteArray)), (by first | rfl | (simp; done) | (simp [*]; done)), H', ⟨by have := HJ3.out; have := HK2.out; have := HK3.out; first | omega | exact Nat.le_refl _⟩, ⟨by repeat (first | (with_reducible first | exact HB.out | apply below_alloc | apply pw_below_drewN | apply below_drew1) | exact HB.out)⟩⟩
                          · rw [if_neg c18] at H
                            exact absurd H (by simp)
                        · replace c17 := Bool.eq_false_iff.mpr c17
                          subst c17
                          have H1 : (dolmenlaw4_NamesErrors.j3 k3 a0 a1 false x9_3) = some r := by rw [if_neg (show ¬ (false = true) by decide)] at H; exact H
                          clear H
                          have H := H1
                          clear H1
                          have H' := Aside0.mk H
                          clear H
                          go_wp2
                          go_meet
                          case rel => exact ⟨_, (x9_3), (by first | rfl | (simp; done) | (simp [*]; done)), H', ⟨by have := HJ3.out; have := HK2.out; have := HK3.out; first | omega | exact Nat.le_refl _⟩, ⟨by repeat (first | (with_reducible first | exact HB.out | apply below_alloc | apply pw_below_drewN | apply below_drew1) | exact HB.out)⟩⟩
                      case rest =>
                        clear HC16
                        try clear c1
                        try clear p2
                        try clear c4
                        try clear c5
                        try clear c5b0
                        try clear c6
                        try clear c6b0
                        try clear p6
                        try clear c7
                        try clear c7b0
                        try clear c8
                        try clear c10
                        try clear c11
                        try clear c11b0
                        try clear c12
                        try clear c12b0
                        try clear c12b1
                        try clear c12b2
                        try clear c13
                        try clear c13b0
                        try clear c13b1
                        try clear c13b2
                        try clear c14
                        try clear c14b0
                        try clear c15
                        try clear c15b0
                        try clear c15b1
                        try clear c15b2
                        try clear c17
                        try clear c18
                        try clear c18b0
                        try clear c18b1
                        try clear c18b2
                        try clear p2
                        try clear p6
                        obtain ⟨kq, x9_15, rfl, HA, HJ15, HB⟩ := hcut
                        cases kq with
                        | zero => exact absurd HA.out (by simp [dolmenlaw4_NamesErrors.j3])
                        | succ kj15 =>
                          have H := HA.out
                          clear HA
                          simp only [dolmenlaw4_NamesErrors.j3] at H
                          by_cases c19 : a2 = true
                          · subst c19
                            have H1 : ((names_Split.f x9_15).bind fun bt149 => ((dolmenalike_Code.f bt149.2).bind fun t153 => (if t153 = 2 then (if 2 = 0 then (if (bt149.1.length : Int) = a0 then ((dolmenlaw4_awake.f kj15).bind fun t154 => (some t154)) else (some false)) else ((dolmenlaw4_awake.f kj15).bind fun t155 => (some t155))) else (some false)))) = some r := by rw [if_pos rfl] at H; exact H
                            clear H
                            have H := H1
                            clear H1
                            replace H := Option.bind_eq_some_iff.mp H
                            obtain ⟨⟨t149, t150⟩, A200, H⟩ := H
                            replace H : ((dolmenalike_Code.f t150).bind fun t153 => (if t153 = 2 then (if 2 = 0 then (if (t149.length : Int) = a0 then ((dolmenlaw4_awake.f kj15).bind fun t154 => (some t154)) else (some false)) else ((dolmenlaw4_awake.f kj15).bind fun t155 => (some t155))) else (some false))) = some r := H
                            have A20 := Aside0.mk A200
                            clear A200
                            replace H := Option.bind_eq_some_iff.mp H
                            obtain ⟨t153, A210, H⟩ := H
                            replace H : (if t153 = 2 then (if 2 = 0 then (if (t149.length : Int) = a0 then ((dolmenlaw4_awake.f kj15).bind fun t154 => (some t154)) else (some false)) else ((dolmenlaw4_awake.f kj15).bind fun t155 => (some t155))) else (some false)) = some r := H
                            have A21 := Aside0.mk A210
                            clear A210
                            by_cases c22 : t153 = 2
                            · rw [if_pos c22] at H
                              have c22b0 : (t153 == 2) = true := beq_iff_eq.mpr c22
                              have c22b1 : (t153 != 2) = false := bne_eq_false_iff_eq.mpr c22
                              clear c22
                              by_cases c23 : 2 = 0
                              · exact absurd c23 (by decide)
                              · rw [if_neg c23] at H
                                have c23b0 : (2 == 0) = false := beq_eq_false_iff_ne.mpr c23
                                have c23b1 : (2 != 0) = true := bne_iff_ne.mpr c23
                                replace H := Option.bind_eq_some_iff.mp H
                                obtain ⟨t155, A310, H⟩ := H
                                replace H : (some t155) = some r := H
                                have A31 := Aside0.mk A310
                                clear A310
                                obtain rfl := Option.some.inj H
                                go_wp2_with (first | ((with_reducible refine gate_callee (f := 12) rfl ?_); refine goesL_ (some 58) rfl rfl Tryd.func12 (by kernel_rfl) rfl #[.string x9_15] rfl (by (try simp only [List.map_toArray, List.map_cons, List.map_nil]); first | done | rfl | (simp only [List.length_drop, List.length_take]; rfl)) ?_; (with_reducible refine (names_Split.calls x9_15 t149 t150 _ A20.out).mono ?_); rintro e w32 ⟨v151, rfl, ho0, hb⟩; refine ⟨_, rfl, ?_⟩; have n0_ := Aside0.mk (Kd.R_lower ho0 (below_size (by repeat (first | (with_reducible first | exact HB.out | apply below_alloc | apply pw_below_drewN | apply below_drew1) | exact HB.out)))); have n1_ := Aside0.mk (below_step (by repeat (first | (with_reducible first | exact HB.out | apply below_alloc | apply pw_below_drewN | apply below_drew1) | exact HB.out)) hb); clear HB; have HO152 := n0_; have HB := n1_; clear n0_ n1_; (try clear hb); (try clear hb2); (try clear hk); (try clear hi); (try clear ho0); (try simp only [errW_none, errW_some]); have CA21 := fun W => dolmenalike_Code.calls t150 t153 W A21.out; try simp only [errW_none, errW_some] at CA21) | (go_at_call 13; (with_reducible refine (CA21 _).mono ?_); rintro e w' ⟨rfl, ⟨nd, rfl⟩⟩) | (go_at_call 10; (with_reducible refine (dolmenlaw4_awake.calls kj15  t155 _ A31.out).mono ?_); rintro e w33 ⟨rfl, hb⟩; have n0_ := Aside0.mk (Kd.R_below (by (with_reducible repeat (first | apply Kd.R_alloc | apply Kd.R_drewN | apply Kd.R_drew)); exact HO152.out) hb); have n1_ := Aside0.mk (below_step (by repeat (first | (with_reducible first | exact HB.out | apply below_alloc | apply pw_below_drewN | apply below_drew1) | exact HB.out)) hb); clear HO152; clear HB; have HO152 := n0_; have HB := n1_; clear n0_ n1_; (try clear hb); (try clear hb2); (try clear hk); (try clear hi)))
                                go_ret
                                exact ⟨by first | rfl | (simp [errW_none, errW_some] <;> rfl) | (simp [*, errW_none, errW_some] <;> rfl), by repeat (first | (with_reducible first | exact HB.out | apply below_alloc | apply pw_below_drewN | apply below_drew1) | exact HB.out)⟩
                            · rw [if_neg c22] at H
                              have c22b0 : (t153 == 2) = false := beq_eq_false_iff_ne.mpr c22
                              have c22b1 : (t153 != 2) = true := bne_iff_ne.mpr c22
                              obtain rfl := Option.some.inj H
                              go_wp2_with (first | ((with_reducible refine gate_callee (f := 12) rfl ?_); refine goesL_ (some 58) rfl rfl Tryd.func12 (by kernel_rfl) rfl #[.string x9_15] rfl (by (try simp only [List.map_toArray, List.map_cons, List.map_nil]); first | done | rfl | (simp only [List.length_drop, List.length_take]; rfl)) ?_; (with_reducible refine (names_Split.calls x9_15 t149 t150 _ A20.out).mono ?_); rintro e w34 ⟨v151, rfl, ho0, hb⟩; refine ⟨_, rfl, ?_⟩; have n0_ := Aside0.mk (Kd.R_lower ho0 (below_size (by repeat (first | (with_reducible first | exact HB.out | apply below_alloc | apply pw_below_drewN | apply below_drew1) | exact HB.out)))); have n1_ := Aside0.mk (below_step (by repeat (first | (with_reducible first | exact HB.out | apply below_alloc | apply pw_below_drewN | apply below_drew1) | exact HB.out)) hb); clear HB; have HO152 := n0_; have HB := n1_; clear n0_ n1_; (try clear hb); (try clear hb2); (try clear hk); (try clear hi); (try clear ho0); (try simp only [errW_none, errW_some]); have CA21 := fun W => dolmenalike_Code.calls t150 t153 W A21.out; try simp only [errW_none, errW_some] at CA21) | (go_at_call 13; (with_reducible refine (CA21 _).mono ?_); rintro e w' ⟨rfl, ⟨nd, rfl⟩⟩))
                              go_ret
                              exact ⟨by first | rfl | (simp [errW_none, errW_some] <;> rfl) | (simp [*, errW_none, errW_some] <;> rfl), by repeat (first | (with_reducible first | exact HB.out | apply below_alloc | apply pw_below_drewN | apply below_drew1) | exact HB.out)⟩
                          · replace c19 := Bool.eq_false_iff.mpr c19
                            subst c19
                            have H1 : (if a1 > 12 then ((names_Split.f x9_15).bind fun bt156 => ((dolmenalike_Code.f bt156.2).bind fun t160 => (if t160 = 3 then (if 3 = 0 then (if (bt156.1.length : Int) = a0 then ((dolmenlaw4_awake.f kj15).bind fun t161 => (some t161)) else (some false)) else ((dolmenlaw4_awake.f kj15).bind fun t162 => (some t162))) else (some false)))) else (if a0 > 6 then ((names_Split.f x9_15).bind fun bt163 => ((dolmenalike_Code.f bt163.2).bind fun t167 => (if t167 = 4 then (if 4 = 0 then (if (bt163.1.length : Int) = a0 then ((dolmenlaw4_awake.f kj15).bind fun t168 => (some t168)) else (some false)) else ((dolmenlaw4_awake.f kj15).bind fun t169 => (some t169))) else (some false)))) else ((names_Split.f x9_15).bind fun bt170 => ((dolmenalike_Code.f bt170.2).bind fun t174 => (if t174 = 0 then (if 0 = 0 then (if (bt170.1.length : Int) = a0 then ((dolmenlaw4_awake.f kj15).bind fun t175 => (some t175)) else (some false)) else ((dolmenlaw4_awake.f kj15).bind fun t176 => (some t176))) else (some false)))))) = some r := by rw [if_neg (show ¬ (false = true) by decide)] at H; exact H
                            clear H
                            have H := H1
                            clear H1
                            by_cases c35 : a1 > 12
                            · rw [if_pos c35] at H
                              have c35b0 : decide (12 < a1) = true := decide_eq_true c35
                              clear c35
                              replace H := Option.bind_eq_some_iff.mp H
                              obtain ⟨⟨t156, t157⟩, A360, H⟩ := H
                              replace H : ((dolmenalike_Code.f t157).bind fun t160 => (if t160 = 3 then (if 3 = 0 then (if (t156.length : Int) = a0 then ((dolmenlaw4_awake.f kj15).bind fun t161 => (some t161)) else (some false)) else ((dolmenlaw4_awake.f kj15).bind fun t162 => (some t162))) else (some false))) = some r := H
                              have A36 := Aside0.mk A360
                              clear A360
                              replace H := Option.bind_eq_some_iff.mp H
                              obtain ⟨t160, A370, H⟩ := H
                              replace H : (if t160 = 3 then (if 3 = 0 then (if (t156.length : Int) = a0 then ((dolmenlaw4_awake.f kj15).bind fun t161 => (some t161)) else (some false)) else ((dolmenlaw4_awake.f kj15).bind fun t162 => (some t162))) else (some false)) = some r := H
                              have A37 := Aside0.mk A370
                              clear A370
                              by_cases c38 : t160 = 3
                              · rw [if_pos c38] at H
                                have c38b0 : (t160 == 3) = true := beq_iff_eq.mpr c38
                                have c38b1 : (t160 != 3) = false := bne_eq_false_iff_eq.mpr c38
                                clear c38
                                by_cases c39 : 3 = 0
                                · exact absurd c39 (by decide)
                                · rw [if_neg c39] at H
                                  have c39b0 : (3 == 0) = false := beq_eq_false_iff_ne.mpr c39
                                  have c39b1 : (3 != 0) = true := bne_iff_ne.mpr c39
                                  replace H := Option.bind_eq_some_iff.mp H
                                  obtain ⟨t162, A470, H⟩ := H
                                  replace H : (some t162) = some r := H
                                  have A47 := Aside0.mk A470
                                  clear A470
                                  obtain rfl := Option.some.inj H
                                  go_wp2_with (first | ((with_reducible refine gate_callee (f := 12) rfl ?_); refine goesL_ (some 58) rfl rfl Tryd.func12 (by kernel_rfl) rfl #[.string x9_15] rfl (by (try simp only [List.map_toArray, List.map_cons, List.map_nil]); first | done | rfl | (simp only [List.length_drop, List.length_take]; rfl)) ?_; (with_reducible refine (names_Split.calls x9_15 t156 t157 _ A36.out).mono ?_); rintro e w48 ⟨v158, rfl, ho0, hb⟩; refine ⟨_, rfl, ?_⟩; have n0_ := Aside0.mk (Kd.R_lower ho0 (below_size (by repeat (first | (with_reducible first | exact HB.out | apply below_alloc | apply pw_below_drewN | apply below_drew1) | exact HB.out)))); have n1_ := Aside0.mk (below_step (by repeat (first | (with_reducible first | exact HB.out | apply below_alloc | apply pw_below_drewN | apply below_drew1) | exact HB.out)) hb); clear HB; have HO159 := n0_; have HB := n1_; clear n0_ n1_; (try clear hb); (try clear hb2); (try clear hk); (try clear hi); (try clear ho0); (try simp only [errW_none, errW_some]); have CA37 := fun W => dolmenalike_Code.calls t157 t160 W A37.out; try simp only [errW_none, errW_some] at CA37) | (go_at_call 13; (with_reducible refine (CA37 _).mono ?_); rintro e w' ⟨rfl, ⟨nd, rfl⟩⟩) | (go_at_call 10; (with_reducible refine (dolmenlaw4_awake.calls kj15  t162 _ A47.out).mono ?_); rintro e w49 ⟨rfl, hb⟩; have n0_ := Aside0.mk (Kd.R_below (by (with_reducible repeat (first | apply Kd.R_alloc | apply Kd.R_drewN | apply Kd.R_drew)); exact HO159.out) hb); have n1_ := Aside0.mk (below_step (by repeat (first | (with_reducible first | exact HB.out | apply below_alloc | apply pw_below_drewN | apply below_drew1) | exact HB.out)) hb); clear HO159; clear HB; have HO159 := n0_; have HB := n1_; clear n0_ n1_; (try clear hb); (try clear hb2); (try clear hk); (try clear hi)))
                                  go_ret
                                  exact ⟨by first | rfl | (simp [errW_none, errW_some] <;> rfl) | (simp [*, errW_none, errW_some] <;> rfl), by repeat (first | (with_reducible first | exact HB.out | apply below_alloc | apply pw_below_drewN | apply below_drew1) | exact HB.out)⟩
                              · rw [if_neg c38] at H
                                have c38b0 : (t160 == 3) = false := beq_eq_false_iff_ne.mpr c38
                                have c38b1 : (t160 != 3) = true := bne_iff_ne.mpr c38
                                obtain rfl := Option.some.inj H
                                go_wp2_with (first | ((with_reducible refine gate_callee (f := 12) rfl ?_); refine goesL_ (some 58) rfl rfl Tryd.func12 (by kernel_rfl) rfl #[.string x9_15] rfl (by (try simp only [List.map_toArray, List.map_cons, List.map_nil]); first | done | rfl | (simp only [List.length_drop, List.length_take]; rfl)) ?_; (with_reducible refine (names_Split.calls x9_15 t156 t157 _ A36.out).mono ?_); rintro e w50 ⟨v158, rfl, ho0, hb⟩; refine ⟨_, rfl, ?_⟩; have n0_ := Aside0.mk (Kd.R_lower ho0 (below_size (by repeat (first | (with_reducible first | exact HB.out | apply below_alloc | apply pw_below_drewN | apply below_drew1) | exact HB.out)))); have n1_ := Aside0.mk (below_step (by repeat (first | (with_reducible first | exact HB.out | apply below_alloc | apply pw_below_drewN | apply below_drew1) | exact HB.out)) hb); clear HB; have HO159 := n0_; have HB := n1_; clear n0_ n1_; (try clear hb); (try clear hb2); (try clear hk); (try clear hi); (try clear ho0); (try simp only [errW_none, errW_some]); have CA37 := fun W => dolmenalike_Code.calls t157 t160 W A37.out; try simp only [errW_none, errW_some] at CA37) | (go_at_call 13; (with_reducible refine (CA37 _).mono ?_); rintro e w' ⟨rfl, ⟨nd, rfl⟩⟩))
                                go_ret
                                exact ⟨by first | rfl | (simp [errW_none, errW_some] <;> rfl) | (simp [*, errW_none, errW_some] <;> rfl), by repeat (first | (with_reducible first | exact HB.out | apply below_alloc | apply pw_below_drewN | apply below_drew1) | exact HB.out)⟩
                            · rw [if_neg c35] at H
                              have c35b0 : decide (12 < a1) = false := decide_eq_false c35
                              clear c35
                              by_cases c51 : a0 > 6
                              · rw [if_pos c51] at H
                                have c51b0 : decide (6 < a0) = true := decide_eq_true c51
                                clear c51
                                replace H := Option.bind_eq_some_iff.mp H
                                obtain ⟨⟨t163, t164⟩, A520, H⟩ := H
                                replace H : ((dolmenalike_Code.f t164).bind fun t167 => (if t167 = 4 then (if 4 = 0 then (if (t163.length : Int) = a0 then ((dolmenlaw4_awake.f kj15).bind fun t168 => (some t168)) else (some false)) else ((dolmenlaw4_awake.f kj15).bind fun t169 => (some t169))) else (some false))) = some r := H
                                have A52 := Aside0.mk A520
                                clear A520
                                replace H := Option.bind_eq_some_iff.mp H
                                obtain ⟨t167, A530, H⟩ := H
                                replace H : (if t167 = 4 then (if 4 = 0 then (if (t163.length : Int) = a0 then ((dolmenlaw4_awake.f kj15).bind fun t168 => (some t168)) else (some false)) else ((dolmenlaw4_awake.f kj15).bind fun t169 => (some t169))) else (some false)) = some r := H
                                have A53 := Aside0.mk A530
                                clear A530
                                by_cases c54 : t167 = 4
                                · rw [if_pos c54] at H
                                  have c54b0 : (t167 == 4) = true := beq_iff_eq.mpr c54
                                  have c54b1 : (t167 != 4) = false := bne_eq_false_iff_eq.mpr c54
                                  clear c54
                                  by_cases c55 : 4 = 0
                                  · exact absurd c55 (by decide)
                                  · rw [if_neg c55] at H
                                    have c55b0 : (4 == 0) = false := beq_eq_false_iff_ne.mpr c55
                                    have c55b1 : (4 != 0) = true := bne_iff_ne.mpr c55
                                    replace H := Option.bind_eq_some_iff.mp H
                                    obtain ⟨t169, A630, H⟩ := H
                                    replace H : (some t169) = some r := H
                                    have A63 := Aside0.mk A630
                                    clear A630
                                    obtain rfl := Option.some.inj H
                                    go_wp2_with (first | ((with_reducible refine gate_callee (f := 12) rfl ?_); refine goesL_ (some 58) rfl rfl Tryd.func12 (by kernel_rfl) rfl #[.string x9_15] rfl (by (try simp only [List.map_toArray, List.map_cons, List.map_nil]); first | done | rfl | (simp only [List.length_drop, List.length_take]; rfl)) ?_; (with_reducible refine (names_Split.calls x9_15 t163 t164 _ A52.out).mono ?_); rintro e w64 ⟨v165, rfl, ho0, hb⟩; refine ⟨_, rfl, ?_⟩; have n0_ := Aside0.mk (Kd.R_lower ho0 (below_size (by repeat (first | (with_reducible first | exact HB.out | apply below_alloc | apply pw_below_drewN | apply below_drew1) | exact HB.out)))); have n1_ := Aside0.mk (below_step (by repeat (first | (with_reducible first | exact HB.out | apply below_alloc | apply pw_below_drewN | apply below_drew1) | exact HB.out)) hb); clear HB; have HO166 := n0_; have HB := n1_; clear n0_ n1_; (try clear hb); (try clear hb2); (try clear hk); (try clear hi); (try clear ho0); (try simp only [errW_none, errW_some]); have CA53 := fun W => dolmenalike_Code.calls t164 t167 W A53.out; try simp only [errW_none, errW_some] at CA53) | (go_at_call 13; (with_reducible refine (CA53 _).mono ?_); rintro e w' ⟨rfl, ⟨nd, rfl⟩⟩) | (go_at_call 10; (with_reducible refine (dolmenlaw4_awake.calls kj15  t169 _ A63.out).mono ?_); rintro e w65 ⟨rfl, hb⟩; have n0_ := Aside0.mk (Kd.R_below (by (with_reducible repeat (first | apply Kd.R_alloc | apply Kd.R_drewN | apply Kd.R_drew)); exact HO166.out) hb); have n1_ := Aside0.mk (below_step (by repeat (first | (with_reducible first | exact HB.out | apply below_alloc | apply pw_below_drewN | apply below_drew1) | exact HB.out)) hb); clear HO166; clear HB; have HO166 := n0_; have HB := n1_; clear n0_ n1_; (try clear hb); (try clear hb2); (try clear hk); (try clear hi)))
                                    go_ret
                                    exact ⟨by first | rfl | (simp [errW_none, errW_some] <;> rfl) | (simp [*, errW_none, errW_some] <;> rfl), by repeat (first | (with_reducible first | exact HB.out | apply below_alloc | apply pw_below_drewN | apply below_drew1) | exact HB.out)⟩
                                · rw [if_neg c54] at H
                                  have c54b0 : (t167 == 4) = false := beq_eq_false_iff_ne.mpr c54
                                  have c54b1 : (t167 != 4) = true := bne_iff_ne.mpr c54
                                  obtain rfl := Option.some.inj H
                                  go_wp2_with (first | ((with_reducible refine gate_callee (f := 12) rfl ?_); refine goesL_ (some 58) rfl rfl Tryd.func12 (by kernel_rfl) rfl #[.string x9_15] rfl (by (try simp only [List.map_toArray, List.map_cons, List.map_nil]); first | done | rfl | (simp only [List.length_drop, List.length_take]; rfl)) ?_; (with_reducible refine (names_Split.calls x9_15 t163 t164 _ A52.out).mono ?_); rintro e w66 ⟨v165, rfl, ho0, hb⟩; refine ⟨_, rfl, ?_⟩; have n0_ := Aside0.mk (Kd.R_lower ho0 (below_size (by repeat (first | (with_reducible first | exact HB.out | apply below_alloc | apply pw_below_drewN | apply below_drew1) | exact HB.out)))); have n1_ := Aside0.mk (below_step (by repeat (first | (with_reducible first | exact HB.out | apply below_alloc | apply pw_below_drewN | apply below_drew1) | exact HB.out)) hb); clear HB; have HO166 := n0_; have HB := n1_; clear n0_ n1_; (try clear hb); (try clear hb2); (try clear hk); (try clear hi); (try clear ho0); (try simp only [errW_none, errW_some]); have CA53 := fun W => dolmenalike_Code.calls t164 t167 W A53.out; try simp only [errW_none, errW_some] at CA53) | (go_at_call 13; (with_reducible refine (CA53 _).mono ?_); rintro e w' ⟨rfl, ⟨nd, rfl⟩⟩))
                                  go_ret
                                  exact ⟨by first | rfl | (simp [errW_none, errW_some] <;> rfl) | (simp [*, errW_none, errW_some] <;> rfl), by repeat (first | (with_reducible first | exact HB.out | apply below_alloc | apply pw_below_drewN | apply below_drew1) | exact HB.out)⟩
                              · rw [if_neg c51] at H
                                have c51b0 : decide (6 < a0) = false := decide_eq_false c51
                                clear c51
                                replace H := Option.bind_eq_some_iff.mp H
                                obtain ⟨⟨t170, t171⟩, A670, H⟩ := H
                                replace H : ((dolmenalike_Code.f t171).bind fun t174 => (if t174 = 0 then (if 0 = 0 then (if (t170.length : Int) = a0 then ((dolmenlaw4_awake.f kj15).bind fun t175 => (some t175)) else (some false)) else ((dolmenlaw4_awake.f kj15).bind fun t176 => (some t176))) else (some false))) = some r := H
                                have A67 := Aside0.mk A670
                                clear A670
                                replace H := Option.bind_eq_some_iff.mp H
                                obtain ⟨t174, A680, H⟩ := H
                                replace H : (if t174 = 0 then (if 0 = 0 then (if (t170.length : Int) = a0 then ((dolmenlaw4_awake.f kj15).bind fun t175 => (some t175)) else (some false)) else ((dolmenlaw4_awake.f kj15).bind fun t176 => (some t176))) else (some false)) = some r := H
                                have A68 := Aside0.mk A680
                                clear A680
                                by_cases c69 : t174 = 0
                                · rw [if_pos c69] at H
                                  have c69b0 : (t174 == 0) = true := beq_iff_eq.mpr c69
                                  have c69b1 : (t174 != 0) = false := bne_eq_false_iff_eq.mpr c69
                                  clear c69
                                  by_cases c70 : 0 = 0
                                  · rw [if_pos c70] at H
                                    have c70b0 : (0 == 0) = true := beq_iff_eq.mpr c70
                                    have c70b1 : (0 != 0) = false := bne_eq_false_iff_eq.mpr c70
                                    clear c70
                                    by_cases c71 : (t170.length : Int) = a0
                                    · rw [if_pos c71] at H
                                      have c71b0 : ((t170.length : Int) == a0) = true := beq_iff_eq.mpr c71
                                      have c71b1 : ((t170.length : Int) != a0) = false := bne_eq_false_iff_eq.mpr c71
                                      clear c71
                                      replace H := Option.bind_eq_some_iff.mp H
                                      obtain ⟨t175, A720, H⟩ := H
                                      replace H : (some t175) = some r := H
                                      have A72 := Aside0.mk A720
                                      clear A720
                                      obtain rfl := Option.some.inj H
                                      go_wp2_with (first | ((with_reducible refine gate_callee (f := 12) rfl ?_); refine goesL_ (some 58) rfl rfl Tryd.func12 (by kernel_rfl) rfl #[.string x9_15] rfl (by (try simp only [List.map_toArray, List.map_cons, List.map_nil]); first | done | rfl | (simp only [List.length_drop, List.length_take]; rfl)) ?_; (with_reducible refine (names_Split.calls x9_15 t170 t171 _ A67.out).mono ?_); rintro e w73 ⟨v172, rfl, ho0, hb⟩; refine ⟨_, rfl, ?_⟩; have n0_ := Aside0.mk (Kd.R_lower ho0 (below_size (by repeat (first | (with_reducible first | exact HB.out | apply below_alloc | apply pw_below_drewN | apply below_drew1) | exact HB.out)))); have n1_ := Aside0.mk (below_step (by repeat (first | (with_reducible first | exact HB.out | apply below_alloc | apply pw_below_drewN | apply below_drew1) | exact HB.out)) hb); clear HB; have HO173 := n0_; have HB := n1_; clear n0_ n1_; (try clear hb); (try clear hb2); (try clear hk); (try clear hi); (try clear ho0); (try simp only [errW_none, errW_some]); have CA68 := fun W => dolmenalike_Code.calls t171 t174 W A68.out; try simp only [errW_none, errW_some] at CA68) | (go_at_call 13; (with_reducible refine (CA68 _).mono ?_); rintro e w' ⟨rfl, ⟨nd, rfl⟩⟩; obtain ⟨Ao74, co74, eo74⟩ := Kd.R_slice HO173.out; subst eo74) | (go_at_call 10; (with_reducible refine (dolmenlaw4_awake.calls kj15  t175 _ A72.out).mono ?_); rintro e w75 ⟨rfl, hb⟩; have n0_ := Aside0.mk (Kd.R_below (by (with_reducible repeat (first | apply Kd.R_alloc | apply Kd.R_drewN | apply Kd.R_drew)); exact HO173.out) hb); have n1_ := Aside0.mk (below_step (by repeat (first | (with_reducible first | exact HB.out | apply below_alloc | apply pw_below_drewN | apply below_drew1) | exact HB.out)) hb); clear HO173; clear HB; have HO173 := n0_; have HB := n1_; clear n0_ n1_; (try clear hb); (try clear hb2); (try clear hk); (try clear hi)))
                                      go_ret
                                      exact ⟨by first | rfl | (simp [errW_none, errW_some] <;> rfl) | (simp [*, errW_none, errW_some] <;> rfl), by repeat (first | (with_reducible first | exact HB.out | apply below_alloc | apply pw_below_drewN | apply below_drew1) | exact HB.out)⟩
                                    · rw [if_neg c71] at H
                                      have c71b0 : ((t170.length : Int) == a0) = false := beq_eq_false_iff_ne.mpr c71
                                      have c71b1 : ((t170.length : Int) != a0) = true := bne_iff_ne.mpr c71
                                      obtain rfl := Option.some.inj H
                                      go_wp2_with (first | ((with_reducible refine gate_callee (f := 12) rfl ?_); refine goesL_ (some 58) rfl rfl Tryd.func12 (by kernel_rfl) rfl #[.string x9_15] rfl (by (try simp only [List.map_toArray, List.map_cons, List.map_nil]); first | done | rfl | (simp only [List.length_drop, List.length_take]; rfl)) ?_; (with_reducible refine (names_Split.calls x9_15 t170 t171 _ A67.out).mono ?_); rintro e w76 ⟨v172, rfl, ho0, hb⟩; refine ⟨_, rfl, ?_⟩; have n0_ := Aside0.mk (Kd.R_lower ho0 (below_size (by repeat (first | (with_reducible first | exact HB.out | apply below_alloc | apply pw_below_drewN | apply below_drew1) | exact HB.out)))); have n1_ := Aside0.mk (below_step (by repeat (first | (with_reducible first | exact HB.out | apply below_alloc | apply pw_below_drewN | apply below_drew1) | exact HB.out)) hb); clear HB; have HO173 := n0_; have HB := n1_; clear n0_ n1_; (try clear hb); (try clear hb2); (try clear hk); (try clear hi); (try clear ho0); (try simp only [errW_none, errW_some]); have CA68 := fun W => dolmenalike_Code.calls t171 t174 W A68.out; try simp only [errW_none, errW_some] at CA68) | (go_at_call 13; (with_reducible refine (CA68 _).mono ?_); rintro e w' ⟨rfl, ⟨nd, rfl⟩⟩; obtain ⟨Ao77, co77, eo77⟩ := Kd.R_slice HO173.out; subst eo77))
                                      go_ret
                                      exact ⟨by first | rfl | (simp [errW_none, errW_some] <;> rfl) | (simp [*, errW_none, errW_some] <;> rfl), by repeat (first | (with_reducible first | exact HB.out | apply below_alloc | apply pw_below_drewN | apply below_drew1) | exact HB.out)⟩
                                  · exact absurd rfl c70
                                · rw [if_neg c69] at H
                                  have c69b0 : (t174 == 0) = false := beq_eq_false_iff_ne.mpr c69
                                  have c69b1 : (t174 != 0) = true := bne_iff_ne.mpr c69
                                  obtain rfl := Option.some.inj H
                                  go_wp2_with (first | ((with_reducible refine gate_callee (f := 12) rfl ?_); refine goesL_ (some 58) rfl rfl Tryd.func12 (by kernel_rfl) rfl #[.string x9_15] rfl (by (try simp only [List.map_toArray, List.map_cons, List.map_nil]); first | done | rfl | (simp only [List.length_drop, List.length_take]; rfl)) ?_; (with_reducible refine (names_Split.calls x9_15 t170 t171 _ A67.out).mono ?_); rintro e w81 ⟨v172, rfl, ho0, hb⟩; refine ⟨_, rfl, ?_⟩; have n0_ := Aside0.mk (Kd.R_lower ho0 (below_size (by repeat (first | (with_reducible first | exact HB.out | apply below_alloc | apply pw_below_drewN | apply below_drew1) | exact HB.out)))); have n1_ := Aside0.mk (below_step (by repeat (first | (with_reducible first | exact HB.out | apply below_alloc | apply pw_below_drewN | apply below_drew1) | exact HB.out)) hb); clear HB; have HO173 := n0_; have HB := n1_; clear n0_ n1_; (try clear hb); (try clear hb2); (try clear hk); (try clear hi); (try clear ho0); (try simp only [errW_none, errW_some]); have CA68 := fun W => dolmenalike_Code.calls t171 t174 W A68.out; try simp only [errW_none, errW_some] at CA68) | (go_at_call 13; (with_reducible refine (CA68 _).mono ?_); rintro e w' ⟨rfl, ⟨nd, rfl⟩⟩))
                                  go_ret
                                  exact ⟨by first | rfl | (simp [errW_none, errW_some] <;> rfl) | (simp [*, errW_none, errW_some] <;> rfl), by repeat (first | (with_reducible first | exact HB.out | apply below_alloc | apply pw_below_drewN | apply below_drew1) | exact HB.out)⟩
              · rw [if_neg c13] at H
                exact absurd H (by simp)

/-- THE ONE PURE STATEMENT of dolmenlaw4_NamesErrors: yours. -/
def dolmenlaw4_NamesErrors.Pure : Prop := ∀ (a0 : Int) (a1 : Int) (a2 : Bool), (Lit.int .i64 a0).wf = true → (Lit.int .i64 a1).wf = true → ∃ k, dolmenlaw4_NamesErrors.f k a0 a1 a2 = some true
theorem dolmenlaw4_NamesErrors.walk (P : dolmenlaw4_NamesErrors.Pure) (a0 : Int) (a1 : Int) (a2 : Bool) (w : World) (w0 : (Lit.int .i64 a0).wf = true) (w1 : (Lit.int .i64 a1).wf = true) :
    Calls Tryd.prog 4 #[.int .i64 a0, .int .i64 a1, .bool a2] w fun e w' => e = .returned (.bool true) ∧ Below w.heap.size w w' := by
  obtain ⟨k, h⟩ := P a0 a1 a2 w0 w1
  refine (dolmenlaw4_NamesErrors.calls k a0 a1 a2 true w h).mono ?_
  rintro e w' ⟨rfl, hd⟩
  exact ⟨rfl, hd⟩

end Go.Proofs.YtcaafbnfgijjfaaDoor.G
