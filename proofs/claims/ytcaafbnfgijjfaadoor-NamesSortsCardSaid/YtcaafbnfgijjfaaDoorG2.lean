-- WRITTEN BY a program of this session (wip/gprint.py) out of the translation
import Derived.Test.YtcaafbnfgijjfaaDoorG0
namespace Go.Proofs.YtcaafbnfgijjfaaDoor.G
open Go.RowKit Go.Proofs.YtcaafbnfgijjfaaDoorW.PrintWords Go.Proofs.YtcaafbnfgijjfaaDoorW.PrintLast Go.Proofs.YtcaafbnfgijjfaaDoorW.PrintMore
attribute [local go_sem] max2_int min2_int max_two min_two max_three min_three max_four min_four   -- for this text's walks alone
set_option linter.unusedVariables false
set_option linter.unusedSimpArgs false

/-! ### names_Match: function 11 -/
mutual
def names_Match.j0 : Nat → ByteArray → ByteArray → Bool → Option (Bool)
  | 0, _, _, _ => none
  | k + 1, x0, x1, x17 => if x17 = true then (some false) else (if 0 ≤ (wrap64 ((x1.size : Int) + 1)) then (if (wrap64 ((x1.size : Int) + 1) : Int).toNat ≤ 281474976710656 then ((some (List.replicate (wrap64 ((x1.size : Int) + 1) : Int).toNat false : List Bool)).bind fun y103 => (if 0 < (y103.length : Int) then (names_Match.l0 k x0 x1 (y103.set (0 : Int).toNat true) (x0.size : Int) 0) else (none))) else (none)) else (none))
def names_Match.l0 : Nat → ByteArray → ByteArray → List Bool → Int → Int → Option (Bool)
  | 0, _, _, _, _, _ => none
  | k + 1, x0, x1, x5, x25, x26 => if x26 < x25 then (if 0 ≤ (wrap64 ((x1.size : Int) + 1)) then (if (wrap64 ((x1.size : Int) + 1) : Int).toNat ≤ 281474976710656 then ((some (List.replicate (wrap64 ((x1.size : Int) + 1) : Int).toNat false : List Bool)).bind fun y108 => (names_Match.l1 k x0 x1 x5 x26 y108 x25 x26 (y108.length : Int) 0)) else (none)) else (none)) else (if 0 ≤ (x1.size : Int) then (if (x1.size : Int) < (x5.length : Int) then (some (rdOf false x5 (x1.size : Int))) else (none)) else (none))
def names_Match.l1 : Nat → ByteArray → ByteArray → List Bool → Int → List Bool → Int → Int → Int → Int → Option (Bool)
  | 0, _, _, _, _, _, _, _, _, _ => none
  | k + 1, x0, x1, x5, x6, x7, x25, x26, x34, x35 => if x35 < x34 then (if 0 ≤ x6 then (if x6 < (x0.size : Int) then (if (bt x0 x6) = 42 then (if 0 ≤ x35 then (if x35 < (x5.length : Int) then (if rdOf false x5 x35 = true then (if x35 < (x7.length : Int) then (names_Match.l1 k x0 x1 x5 x6 (x7.set (x35 : Int).toNat true) x25 x26 x34 (wrap64 (x35 + 1))) else (none)) else (if x35 > 0 then (if 0 ≤ (wrap64 (x35 - 1)) then (if (wrap64 (x35 - 1)) < (x7.length : Int) then (if x35 < (x7.length : Int) then (names_Match.l1 k x0 x1 x5 x6 (x7.set (x35 : Int).toNat (rdOf false x7 (wrap64 (x35 - 1)))) x25 x26 x34 (wrap64 (x35 + 1))) else (none)) else (none)) else (none)) else (if x35 < (x7.length : Int) then (names_Match.l1 k x0 x1 x5 x6 (x7.set (x35 : Int).toNat false) x25 x26 x34 (wrap64 (x35 + 1))) else (none)))) else (none)) else (none)) else (if x35 = 0 then (names_Match.l1 k x0 x1 x5 x6 x7 x25 x26 x34 (wrap64 (x35 + 1))) else (if (bt x0 x6) = 63 then (if 0 ≤ (wrap64 (x35 - 1)) then (if (wrap64 (x35 - 1)) < (x5.length : Int) then (if 0 ≤ x35 then (if x35 < (x7.length : Int) then (names_Match.l1 k x0 x1 x5 x6 (x7.set (x35 : Int).toNat (rdOf false x5 (wrap64 (x35 - 1)))) x25 x26 x34 (wrap64 (x35 + 1))) else (none)) else (none)) else (none)) else (none)) else (if 0 ≤ (wrap64 (x35 - 1)) then (if (wrap64 (x35 - 1)) < (x1.size : Int) then (if (bt x0 x6) = (bt x1 (wrap64 (x35 - 1))) then (if (wrap64 (x35 - 1)) < (x5.length : Int) then (if 0 ≤ x35 then (if x35 < (x7.length : Int) then (names_Match.l1 k x0 x1 x5 x6 (x7.set (x35 : Int).toNat (rdOf false x5 (wrap64 (x35 - 1)))) x25 x26 x34 (wrap64 (x35 + 1))) else (none)) else (none)) else (none)) else (names_Match.l1 k x0 x1 x5 x6 x7 x25 x26 x34 (wrap64 (x35 + 1)))) else (none)) else (none))))) else (none)) else (none)) else (names_Match.l0 k x0 x1 x7 x25 (wrap64 (x26 + 1)))
end
def names_Match.f (k : Nat) (a0 : ByteArray) (a1 : ByteArray) : Option (Bool) := if (a0.size : Int) > 40 then (names_Match.j0 k a0 a1 true) else (names_Match.j0 k a0 a1 (decide ((a1.size : Int) > 40)))
theorem names_Match.mono_l : ∀ k, (∀ y0 y1 y2, LeO (names_Match.j0 k y0 y1 y2) (names_Match.j0 (k + 1) y0 y1 y2)) ∧ (∀ y0 y1 y2 y3 y4, LeO (names_Match.l0 k y0 y1 y2 y3 y4) (names_Match.l0 (k + 1) y0 y1 y2 y3 y4)) ∧ (∀ y0 y1 y2 y3 y4 y5 y6 y7 y8, LeO (names_Match.l1 k y0 y1 y2 y3 y4 y5 y6 y7 y8) (names_Match.l1 (k + 1) y0 y1 y2 y3 y4 y5 y6 y7 y8))
  | 0 => ⟨fun _ _ _ r h => by simp [names_Match.j0] at h, fun _ _ _ _ _ r h => by simp [names_Match.l0] at h, fun _ _ _ _ _ _ _ _ _ r h => by simp [names_Match.l1] at h⟩
  | k + 1 => by
    obtain ⟨ih0, ih1, ih2⟩ := names_Match.mono_l k
    refine ⟨?_, ?_, ?_⟩
    · intro y0 y1 y2
      unfold names_Match.j0
      repeat' first
      | (with_reducible exact ih0 _ _ _)
      | (with_reducible exact ih1 _ _ _ _ _)
      | (with_reducible exact ih2 _ _ _ _ _ _ _ _ _)
      | (with_reducible exact LeO.refl _)
      | (with_reducible exact LeO.none _)
      | (with_reducible refine LeO.ite ?_ ?_)
      | (with_reducible refine LeO.bind ?_ (fun _ => ?_))
      | exact ih0 _ _ _
      | exact ih1 _ _ _ _ _
      | exact ih2 _ _ _ _ _ _ _ _ _
      | exact LeO.none _
      | refine LeO.ite ?_ ?_
      | refine LeO.bind ?_ (fun _ => ?_)
    · intro y0 y1 y2 y3 y4
      unfold names_Match.l0
      repeat' first
      | (with_reducible exact ih0 _ _ _)
      | (with_reducible exact ih1 _ _ _ _ _)
      | (with_reducible exact ih2 _ _ _ _ _ _ _ _ _)
      | (with_reducible exact LeO.refl _)
      | (with_reducible exact LeO.none _)
      | (with_reducible refine LeO.ite ?_ ?_)
      | (with_reducible refine LeO.bind ?_ (fun _ => ?_))
      | exact ih0 _ _ _
      | exact ih1 _ _ _ _ _
      | exact ih2 _ _ _ _ _ _ _ _ _
      | exact LeO.none _
      | refine LeO.ite ?_ ?_
      | refine LeO.bind ?_ (fun _ => ?_)
    · intro y0 y1 y2 y3 y4 y5 y6 y7 y8
      unfold names_Match.l1
      repeat' first
      | (with_reducible exact ih0 _ _ _)
      | (with_reducible exact ih1 _ _ _ _ _)
      | (with_reducible exact ih2 _ _ _ _ _ _ _ _ _)
      | (with_reducible exact LeO.refl _)
      | (with_reducible exact LeO.none _)
      | (with_reducible refine LeO.ite ?_ ?_)
      | (with_reducible refine LeO.bind ?_ (fun _ => ?_))
      | exact ih0 _ _ _
      | exact ih1 _ _ _ _ _
      | exact ih2 _ _ _ _ _ _ _ _ _
      | exact LeO.none _
      | refine LeO.ite ?_ ?_
      | refine LeO.bind ?_ (fun _ => ?_)
theorem names_Match.mono : ∀ a0 a1 k, LeO (names_Match.f k a0 a1) (names_Match.f (k + 1) a0 a1) := by
  intro a0 a1 k
  obtain ⟨ih0, ih1, ih2⟩ := names_Match.mono_l k
  unfold names_Match.f
  repeat' first
      | (with_reducible exact ih0 _ _ _)
      | (with_reducible exact ih1 _ _ _ _ _)
      | (with_reducible exact ih2 _ _ _ _ _ _ _ _ _)
      | (with_reducible exact LeO.refl _)
      | (with_reducible exact LeO.none _)
      | (with_reducible refine LeO.ite ?_ ?_)
      | (with_reducible refine LeO.bind ?_ (fun _ => ?_))
      | exact ih0 _ _ _
      | exact ih1 _ _ _ _ _
      | exact ih2 _ _ _ _ _ _ _ _ _
      | exact LeO.none _
      | refine LeO.ite ?_ ?_
      | refine LeO.bind ?_ (fun _ => ?_)
set_option maxHeartbeats 8000000 in
set_option maxRecDepth 100000 in
theorem names_Match.calls (k : Nat) (a0 : ByteArray) (a1 : ByteArray) (r : Bool) (w : World) (h : names_Match.f k a0 a1 = some r) :
    Calls Tryd.prog 11 #[.string a0, .string a1] w fun e w' => e = .returned (.bool r) ∧ Below w.heap.size w w' := by
  have HB := Aside0.mk (Below.refl w.heap.size w)
  have H : (if (a0.size : Int) > 40 then (names_Match.j0 k a0 a1 true) else (names_Match.j0 k a0 a1 (decide ((a1.size : Int) > 40)))) = some r := h
  clear h
  have HC3 := Aside0.mk H
  clear H
  go_enter Tryd.func11, Tryd.ntmps11
  go_upto_region 1 with (fail)
  go_cut [17] (fun v17 wc => ∃ (kq : Nat) (x17_2 : Bool), v17 = .bool x17_2 ∧ Aside0 (names_Match.j0 kq a0 a1 x17_2 = some r) ∧ Aside0 (kq ≤ k) ∧ Aside0 (Below w.heap.size w wc))
  case first =>
    have H := HC3.out
    clear HC3
    by_cases c4 : (a0.size : Int) > 40
    · rw [if_pos c4] at H
      have c4b0 : decide (40 < (a0.size : Int)) = true := decide_eq_true c4
      have c4b1 : decide (40 < a0.size) = true := decide_eq_true (by omega)
      clear c4
      (first | rw [c4b0] | (simp only [i64_w, i32_w]; rw [c4b0]) | skip)
      have H' := Aside0.mk H
      clear H
      go_wp2
      go_meet
      case rel => exact ⟨_, (true), (by first | rfl | (simp; done) | (simp [*]; done)), H', ⟨by first | omega | exact Nat.le_refl _⟩, ⟨by repeat (first | (with_reducible first | exact HB.out | apply below_alloc | apply pw_below_drewN | apply below_drew1) | exact HB.out)⟩⟩
    · rw [if_neg c4] at H
      have c4b0 : decide (40 < (a0.size : Int)) = false := decide_eq_false c4
      have c4b1 : decide (40 < a0.size) = false := decide_eq_false (by omega)
      clear c4
      (first | rw [c4b0] | (simp only [i64_w, i32_w]; rw [c4b0]) | skip)
      have H' := Aside0.mk H
      clear H
      go_wp2
      go_meet
      case rel => exact ⟨_, (decide ((a1.size : Int) > 40)), (by first | rfl | (simp; done) | (simp [*]; done)), H', ⟨by first | omega | exact Nat.le_refl _⟩, ⟨by repeat (first | (with_reducible first | exact HB.out | apply below_alloc | apply pw_below_drewN | apply below_drew1) | exact HB.out)⟩⟩
  case rest =>
    clear HC3
    try clear c1
    try clear p2
    try clear c4
    try clear c4b0
    try clear c4b1
    obtain ⟨kq, x17_2, rfl, HA, HJ2, HB⟩ := hcut
    cases kq with
    | zero => exact absurd HA.out (by simp [names_Match.j0])
    | succ kj2 =>
      have H := HA.out
      clear HA
      simp only [names_Match.j0] at H
      by_cases c5 : x17_2 = true
      · subst c5
        have H1 : (some false) = some r := by rw [if_pos rfl] at H; exact H
        clear H
        have H := H1
        clear H1
        obtain rfl := Option.some.inj H
        go_wp2
        go_ret
        exact ⟨by first | rfl | (simp [errW_none, errW_some] <;> rfl) | (simp [*, errW_none, errW_some] <;> rfl), by repeat (first | (with_reducible first | exact HB.out | apply below_alloc | apply pw_below_drewN | apply below_drew1) | exact HB.out)⟩
      · replace c5 := Bool.eq_false_iff.mpr c5
        subst c5
        have H1 : (if 0 ≤ (wrap64 ((a1.size : Int) + 1)) then (if (wrap64 ((a1.size : Int) + 1) : Int).toNat ≤ 281474976710656 then ((some (List.replicate (wrap64 ((a1.size : Int) + 1) : Int).toNat false : List Bool)).bind fun y103 => (if 0 < (y103.length : Int) then (names_Match.l0 kj2 a0 a1 (y103.set (0 : Int).toNat true) (a0.size : Int) 0) else (none))) else (none)) else (none)) = some r := by rw [if_neg (show ¬ (false = true) by decide)] at H; exact H
        clear H
        have H := H1
        clear H1
        obtain ⟨ji6, hji6⟩ : ∃ j_ : Int, (wrap64 ((a1.size : Int) + 1)) = j_ := ⟨_, rfl⟩
        replace H : (if 0 ≤ (ji6) then (if (ji6 : Int).toNat ≤ 281474976710656 then ((some (List.replicate (ji6 : Int).toNat false : List Bool)).bind fun y103 => (if 0 < (y103.length : Int) then (names_Match.l0 kj2 a0 a1 (y103.set (0 : Int).toNat true) (a0.size : Int) 0) else (none))) else (none)) else (none)) = some r := by first | (rw [hji6] at H; exact H) | (simp only [hji6] at H ⊢; exact H)
        have hji6w : (IntKind.i64.wrap ((a1.size : Int) + 1)) = ji6 := (i64_w _).trans hji6
        by_cases c7 : 0 ≤ (ji6)
        · rw [if_pos c7] at H
          have c7b0 := eq_true c7
          have c7b1 : decide (0 ≤ (ji6)) = true := decide_eq_true c7
          clear c7
          by_cases c8 : (ji6 : Int).toNat ≤ 281474976710656
          · rw [if_pos c8] at H
            have c8b0 := eq_true c8
            have c8b1 : decide ((ji6 : Int).toNat ≤ 281474976710656) = true := decide_eq_true c8
            clear c8
            obtain ⟨y103, hy103⟩ : ∃ y_ : List Bool, y_ = (List.replicate (ji6 : Int).toNat false) := ⟨_, rfl⟩
            replace H : (if 0 < (y103.length : Int) then (names_Match.l0 kj2 a0 a1 (y103.set (0 : Int).toNat true) (a0.size : Int) 0) else (none)) = some r := by first | (rw [hy103]; with_reducible exact H) | (have H2_ := (Option.bind_some _ _).symm.trans H; rw [hy103]; with_reducible exact H2_) | (have H2_ := (Option.bind_some _ _).symm.trans H; with_reducible exact H2_) | with_reducible exact H | (rw [hy103]; exact H) | exact H
            have Ny103 := Aside0.mk hy103
            clear hy103
            by_cases c9 : 0 < (y103.length : Int)
            · rw [if_pos c9] at H
              have c9b0 : decide (0 < (y103.length : Int)) = true := decide_eq_true c9
              have c9b1 : decide (0 < y103.length) = true := decide_eq_true (by omega)
              clear c9
              obtain ⟨y106, hy106⟩ : ∃ y_ : List Bool, y_ = (y103.set (0 : Int).toNat true) := ⟨_, rfl⟩
              replace H : (names_Match.l0 kj2 a0 a1 y106 (a0.size : Int) 0) = some r := by first | (rw [hy106]; with_reducible exact H) | (have H2_ := (Option.bind_some _ _).symm.trans H; rw [hy106]; with_reducible exact H2_) | (have H2_ := (Option.bind_some _ _).symm.trans H; with_reducible exact H2_) | with_reducible exact H | (rw [hy106]; exact H) | exact H
              have Ny106 := Aside0.mk hy106
              clear hy106
              have H' := Aside0.mk H
              clear H
              go_wp2_with (first | ((with_reducible refine gate_dst (N := 21) rfl ?_); (try (refine gate_guard (by rfl) ?_; dsimp only)); refine Kd.R_make Kd.bool _ 4 rfl (N := 21) rfl 46 _ _ rfl ji6 rfl rfl Tryd.underlying46 (.bool false) 1 info4 rfl (by decide) (by omega) false (ok := fun _ => True) (okp := fun _ => True) rfl (fun _ hk => hk) trivial (of_decide_eq_true (by first | (with_reducible assumption) | assumption)) (Nat.le_trans (Nat.mul_le_mul_right _ (of_decide_eq_true (by first | (with_reducible assumption) | assumption) : ji6.toNat ≤ 281474976710656)) (by omega)) (Below.refl _ _) (Nat.le_refl _) ?_; intro v104 w11 ho12 hb hg_ hnew_; clear hg_ hnew_; (first | rw [← Ny103.out] at ho12 | (simp only [Int.reduceToNat] at ho12; rw [← Ny103.out] at ho12)); have n0_ := Aside0.mk (Kd.R_lower ho12 (below_size (by repeat (first | (with_reducible first | exact HB.out | apply below_alloc | apply pw_below_drewN | apply below_drew1) | exact HB.out)))); have n1_ := Aside0.mk (below_step (by repeat (first | (with_reducible first | exact HB.out | apply below_alloc | apply pw_below_drewN | apply below_drew1) | exact HB.out)) hb); clear HB; have HO105 := n0_; have HB := n1_; clear n0_ n1_; clear hb ho12; have p10 : 0 ≤ (0 : Int) := (by omega); have q10 : (0 : Int) < ((y103.length : Int) : Int) := of_decide_eq_true (by first | (with_reducible assumption) | assumption); have qi10 : (0 < y103.length) = True := eq_true (by omega); obtain ⟨go10, co10, eo10, gb10, gl10, cl10, HG10⟩ := Kd.R_form HO105.out (by omega); (first | cases eo10 | (injection eo10 with ea_ en_ ec_; (first | subst ea_ | (injection ea_ with ea_; subst ea_)); subst ec_; clear en_)); have GB10 := Aside0.mk gb10; have GG10 := Aside0.mk HG10; clear gb10 gl10 HG10; obtain ⟨hx10_0, hf10_0⟩ := Kd.R_celln false HO105.out (0 : Int) p10 q10; (try rw [show ((0 : Int)).toNat = 0 from rfl] at hx10_0); (try simp only [Nat.reduceMul, Nat.zero_mul, Nat.zero_add, Nat.reduceAdd] at hx10_0); (try rw [show ((0 : Int)).toNat = 0 from rfl] at hf10_0); (try simp only [Nat.reduceMul, Nat.zero_mul, Nat.zero_add, Nat.reduceAdd] at hf10_0); replace p10 := eq_true p10; replace q10 := eq_true q10; obtain ⟨hy13_, hz13_⟩ := Kd.R_celln false HO105.out (0 : Int) (by omega) (of_decide_eq_true (by first | (with_reducible assumption) | assumption)); (try simp only [Int.reduceToNat, Int.toNat_zero, Int.toNat_ofNat, Nat.reduceMul, Nat.zero_mul, Nat.zero_add] at hy13_ hz13_); (try rw [show ((0 : Int)).toNat = 0 from rfl] at hy13_); (try rw [show ((0 : Int)).toNat = 0 from rfl] at hz13_); have HP13 := Kd.R_putg HO105.out (0 : Int) true) | ((with_reducible refine gate_store (t := 4) (p := 23) rfl ?_); refine store_event (t := 4) (p := 23) (v := ?vo_w14) (w1 := (w11.setCell ⟨go10, (0 : Int).toNat, none⟩ (.bool true))) ?hg ?ho ?hn ?hr ?_; (case ho => rfl); (case hg => rfl); (case hn => rfl); (case hr => first | (go_simp; done) | (go_simp; rfl)); intro w14 hw; have hg : w11.grownBy w14 (some go10) := (by rw [hw]; exact HP13.2); have hp_ : Kd.R Kd.bool 4 w14 w.heap.size (fun _ => True) (.slice (some ⟨go10, 0, none⟩) y103.length co10) y106 := (by rw [hw, Ny106.out]; exact HP13.1); clear HP13; have n0_ := Aside0.mk (hp_); have n1_ := Aside0.mk ((by rw [hw]; exact below_set (HB.out) GB10.out : Below w.heap.size w w14)); clear HO105; clear HB; have HO105 := n0_; have HB := n1_; clear n0_ n1_; clear hg hw hp_))
              go_loopg [5, 26] kj2 (fun kq v5 v26 w' => ∃ (x5_2 : List Bool) (x26_2 : Int), v26 = .int .i64 x26_2 ∧ Aside0 (names_Match.l0 kq a0 a1 x5_2 (a0.size : Int) x26_2 = some r) ∧ Aside0 (kq ≤ kj2) ∧ Aside0 (Kd.R Kd.bool 4 w' w.heap.size (fun _ => True) v5 x5_2) ∧ Aside0 (Below w.heap.size w w'))
              case atStart => exact ⟨(y106), (0), (by first | rfl | (simp; done) | (simp [*]; done)), H', ⟨Nat.le_refl _⟩, ⟨by (with_reducible repeat (first | apply Kd.R_alloc | apply Kd.R_drewN | apply Kd.R_drew)); exact HO105.out⟩, ⟨by repeat (first | (with_reducible first | exact HB.out | apply below_alloc | apply pw_below_drewN | apply below_drew1) | exact HB.out)⟩⟩
              case round =>
                clear H'
                try clear c1
                try clear p1
                try clear q1
                try clear hx1
                try clear qi1
                try clear p2
                try clear c4
                try clear c4b0
                try clear c4b1
                try clear c5
                try clear p6
                try clear c7
                try clear c7b0
                try clear c7b1
                try clear c8
                try clear c8b0
                try clear c8b1
                try clear c9
                try clear c9b0
                try clear c9b1
                try clear p10
                try clear q10
                try clear hx10
                try clear qi10
                try clear hf10
                try clear c11
                try clear hx10_0
                try clear p10
                try clear p2
                try clear q10
                obtain ⟨x5_2, x26_2, rfl, HA, HK2, HO_5, HB⟩ := hrel
                cases gk with
                | zero => exact absurd HA.out (by simp [names_Match.l0])
                | succ k2 =>
                  have H := HA.out
                  clear HA
                  simp only [names_Match.l0] at H
                  by_cases c15 : x26_2 < (a0.size : Int)
                  · rw [if_pos c15] at H
                    have c15b0 : decide (x26_2 < (a0.size : Int)) = true := decide_eq_true c15
                    clear c15
                    try clear hji6w
                    try clear hji6
                    obtain ⟨ji16, hji16⟩ : ∃ j_ : Int, (wrap64 ((a1.size : Int) + 1)) = j_ := ⟨_, rfl⟩
                    replace H : (if 0 ≤ (ji16) then (if (ji16 : Int).toNat ≤ 281474976710656 then ((some (List.replicate (ji16 : Int).toNat false : List Bool)).bind fun y108 => (names_Match.l1 k2 a0 a1 x5_2 x26_2 y108 (a0.size : Int) x26_2 (y108.length : Int) 0)) else (none)) else (none)) = some r := by first | (rw [hji16] at H; exact H) | (simp only [hji16] at H ⊢; exact H)
                    have hji16w : (IntKind.i64.wrap ((a1.size : Int) + 1)) = ji16 := (i64_w _).trans hji16
                    by_cases c17 : 0 ≤ (ji16)
                    · rw [if_pos c17] at H
                      have c17b0 := eq_true c17
                      have c17b1 : decide (0 ≤ (ji16)) = true := decide_eq_true c17
                      clear c17
                      by_cases c18 : (ji16 : Int).toNat ≤ 281474976710656
                      · rw [if_pos c18] at H
                        have c18b0 := eq_true c18
                        have c18b1 : decide ((ji16 : Int).toNat ≤ 281474976710656) = true := decide_eq_true c18
                        clear c18
                        obtain ⟨y108, hy108⟩ : ∃ y_ : List Bool, y_ = (List.replicate (ji16 : Int).toNat false) := ⟨_, rfl⟩
                        replace H : (names_Match.l1 k2 a0 a1 x5_2 x26_2 y108 (a0.size : Int) x26_2 (y108.length : Int) 0) = some r := by first | (rw [hy108]; with_reducible exact H) | (have H2_ := (Option.bind_some _ _).symm.trans H; rw [hy108]; with_reducible exact H2_) | (have H2_ := (Option.bind_some _ _).symm.trans H; with_reducible exact H2_) | with_reducible exact H | (rw [hy108]; exact H) | exact H
                        have Ny108 := Aside0.mk hy108
                        clear hy108
                        have H' := Aside0.mk H
                        clear H
                        go_wp2_with (first | ((with_reducible refine gate_dst (N := 32) rfl ?_); (try (refine gate_guard (by rfl) ?_; dsimp only)); refine Kd.R_make Kd.bool _ 4 rfl (N := 32) rfl 46 _ _ rfl ji16 rfl rfl Tryd.underlying46 (.bool false) 1 info4 rfl (by decide) (by omega) false (ok := fun _ => True) (okp := fun _ => True) rfl (fun _ hk => hk) trivial (of_decide_eq_true (by first | (with_reducible assumption) | assumption)) (Nat.le_trans (Nat.mul_le_mul_right _ (of_decide_eq_true (by first | (with_reducible assumption) | assumption) : ji16.toNat ≤ 281474976710656)) (by omega)) (Below.refl _ _) (Nat.le_refl _) ?_; intro v109 w19 ho20 hb hg_ hnew_; clear hg_ hnew_; (first | rw [← Ny108.out] at ho20 | (simp only [Int.reduceToNat] at ho20; rw [← Ny108.out] at ho20)); have n0_ := Aside0.mk (Kd.R_elder' (by (with_reducible repeat (first | apply Kd.R_alloc | apply Kd.R_drewN | apply Kd.R_drew)); exact HO_5.out) (Kd.R_base ho20) hb); have n1_ := Aside0.mk (Kd.R_lower (Kd.R_new' ho20 (Kd.R_lt (by (with_reducible repeat (first | apply Kd.R_alloc | apply Kd.R_drewN | apply Kd.R_drew)); exact HO_5.out))) (below_size (by repeat (first | (with_reducible first | exact HB.out | apply below_alloc | apply pw_below_drewN | apply below_drew1) | exact HB.out)))); have n2_ := Aside0.mk (below_step (by repeat (first | (with_reducible first | exact HB.out | apply below_alloc | apply pw_below_drewN | apply below_drew1) | exact HB.out)) hb); clear HO_5; clear HB; have HO_5 := n0_; have HO110 := n1_; have HB := n2_; clear n0_ n1_ n2_; clear hb ho20; obtain ⟨Ao21, co21, eo21⟩ := Kd.R_slice HO110.out; subst eo21))
                        go_loopg [35] k2 (fun kq v35 w' => ∃ (x7_3 : List Bool) (x35_3 : Int), v35 = .int .i64 x35_3 ∧ Aside0 (names_Match.l1 kq a0 a1 x5_2 x26_2 x7_3 (a0.size : Int) x26_2 (y108.length : Int) x35_3 = some r) ∧ Aside0 (kq ≤ k2) ∧ Aside0 (Kd.R Kd.bool 4 w' w.heap.size (fun k_ => some k_ ≠ ((.slice Ao21 y108.length co21) : Value).ownBlock) u5 x5_2) ∧ Aside0 (Kd.R Kd.bool 4 w' w.heap.size (fun k_ => some k_ ≠ (u5 : Value).ownBlock) (.slice Ao21 y108.length co21) x7_3) ∧ Aside0 (Below w.heap.size w w'))
                        case atStart => exact ⟨(y108), (0), (by first | rfl | (simp; done) | (simp [*]; done)), H', ⟨Nat.le_refl _⟩, ⟨by (with_reducible repeat (first | apply Kd.R_alloc | apply Kd.R_drewN | apply Kd.R_drew)); exact Kd.R_mono HO_5.out (fun _ hk => hk.2)⟩, ⟨by (with_reducible repeat (first | apply Kd.R_alloc | apply Kd.R_drewN | apply Kd.R_drew)); exact Kd.R_mono HO110.out (fun _ hk => hk.2)⟩, ⟨by repeat (first | (with_reducible first | exact HB.out | apply below_alloc | apply pw_below_drewN | apply below_drew1) | exact HB.out)⟩⟩
                        case round =>
                          clear H'
                          try clear c1
                          try clear p1
                          try clear q1
                          try clear hx1
                          try clear qi1
                          try clear p2
                          try clear c4
                          try clear c4b0
                          try clear c4b1
                          try clear c5
                          try clear p6
                          try clear c7
                          try clear c7b0
                          try clear c7b1
                          try clear c8
                          try clear c8b0
                          try clear c8b1
                          try clear c9
                          try clear c9b0
                          try clear c9b1
                          try clear p10
                          try clear q10
                          try clear hx10
                          try clear qi10
                          try clear hf10
                          try clear c11
                          try clear c15
                          try clear c15b0
                          try clear c17
                          try clear c17b0
                          try clear c17b1
                          try clear c18
                          try clear c18b0
                          try clear c18b1
                          try clear hx10_0
                          try clear p1
                          try clear p10
                          try clear p2
                          try clear p6
                          try clear q1
                          try clear q10
                          obtain ⟨x7_3, x35_3, rfl, HA, HK3, HO_5, HO_7, HB⟩ := hrel
                          have hl7_3 := (Kd.R_reads' HO_7.out).1
                          rw [hl7_3] at HO_7
                          (try simp only [hl7_3])
                          (try simp only [hl7_3] at HO_5)
                          cases gk with
                          | zero => exact absurd HA.out (by simp [names_Match.l1])
                          | succ k3 =>
                            have H := HA.out
                            clear HA
                            simp only [names_Match.l1] at H
                            by_cases c22 : x35_3 < (y108.length : Int)
                            · rw [if_pos c22] at H
                              have c22b0 : decide (x35_3 < (y108.length : Int)) = true := decide_eq_true c22
                              (try (have c22b0z := c22b0; simp only [hl7_3] at c22b0z))
                              clear c22
                              by_cases c23 : 0 ≤ x26_2
                              · rw [if_pos c23] at H
                                have c23b0 : decide (0 ≤ x26_2) = true := decide_eq_true c23
                                clear c23
                                by_cases c24 : x26_2 < (a0.size : Int)
                                · rw [if_pos c24] at H
                                  have c24b0 : decide (x26_2 < (a0.size : Int)) = true := decide_eq_true c24
                                  clear c24
                                  by_cases c26 : (bt a0 x26_2) = 42
                                  · rw [if_pos c26] at H
                                    have c26b0 : ((bt a0 x26_2) == 42) = true := beq_iff_eq.mpr c26
                                    have c26b1 : ((bt a0 x26_2) != 42) = false := bne_eq_false_iff_eq.mpr c26
                                    clear c26
                                    by_cases c27 : 0 ≤ x35_3
                                    · rw [if_pos c27] at H
                                      have c27b0 : decide (0 ≤ x35_3) = true := decide_eq_true c27
                                      clear c27
                                      by_cases c28 : x35_3 < (x5_2.length : Int)
                                      · rw [if_pos c28] at H
                                        have c28b0 : decide (x35_3 < (x5_2.length : Int)) = true := decide_eq_true c28
                                        (try (have c28b0z := c28b0; simp only [hl7_3] at c28b0z))
                                        clear c28
                                        obtain ⟨bq29, hbq29⟩ : ∃ b_ : Bool, b_ = (rdOf false x5_2 x35_3) := ⟨_, rfl⟩
                                        replace H : (if bq29 = true then (if x35_3 < (x7_3.length : Int) then (names_Match.l1 k3 a0 a1 x5_2 x26_2 (x7_3.set (x35_3 : Int).toNat true) (a0.size : Int) x26_2 (y108.length : Int) (wrap64 (x35_3 + 1))) else (none)) else (if x35_3 > 0 then (if 0 ≤ (wrap64 (x35_3 - 1)) then (if (wrap64 (x35_3 - 1)) < (x7_3.length : Int) then (if x35_3 < (x7_3.length : Int) then (names_Match.l1 k3 a0 a1 x5_2 x26_2 (x7_3.set (x35_3 : Int).toNat (rdOf false x7_3 (wrap64 (x35_3 - 1)))) (a0.size : Int) x26_2 (y108.length : Int) (wrap64 (x35_3 + 1))) else (none)) else (none)) else (none)) else (if x35_3 < (x7_3.length : Int) then (names_Match.l1 k3 a0 a1 x5_2 x26_2 (x7_3.set (x35_3 : Int).toNat false) (a0.size : Int) x26_2 (y108.length : Int) (wrap64 (x35_3 + 1))) else (none)))) = some r := by rw [← hbq29] at H; exact H
                                        have Nbq29 := Aside0.mk hbq29
                                        clear hbq29
                                        by_cases c30 : bq29 = true
                                        · subst c30
                                          have H1 : (if x35_3 < (x7_3.length : Int) then (names_Match.l1 k3 a0 a1 x5_2 x26_2 (x7_3.set (x35_3 : Int).toNat true) (a0.size : Int) x26_2 (y108.length : Int) (wrap64 (x35_3 + 1))) else (none)) = some r := by rw [if_pos rfl] at H; exact H
                                          clear H
                                          have H := H1
                                          clear H1
                                          by_cases c31 : x35_3 < (x7_3.length : Int)
                                          · rw [if_pos c31] at H
                                            have c31b0 : decide (x35_3 < (x7_3.length : Int)) = true := decide_eq_true c31
                                            (try (have c31b0z := c31b0; simp only [hl7_3] at c31b0z))
                                            clear c31
                                            obtain ⟨y112, hy112⟩ : ∃ y_ : List Bool, y_ = (x7_3.set (x35_3 : Int).toNat true) := ⟨_, rfl⟩
                                            replace H : (names_Match.l1 k3 a0 a1 x5_2 x26_2 y112 (a0.size : Int) x26_2 (y108.length : Int) (wrap64 (x35_3 + 1))) = some r := by first | (rw [hy112]; with_reducible exact H) | (have H2_ := (Option.bind_some _ _).symm.trans H; rw [hy112]; with_reducible exact H2_) | (have H2_ := (Option.bind_some _ _).symm.trans H; with_reducible exact H2_) | with_reducible exact H | (rw [hy112]; exact H) | exact H
                                            have Ny112 := Aside0.mk hy112
                                            clear hy112
                                            have H' := Aside0.mk H
                                            clear H
                                            have p25 : 0 ≤ (x26_2 : Int) := of_decide_eq_true (by first | (with_reducible assumption) | assumption)
                                            have q25 : x26_2 < (a0.size : Int) := of_decide_eq_true (by first | (with_reducible assumption) | assumption)
                                            have hx25 := bt_at a0 x26_2
                                            replace p25 := eq_true p25
                                            replace q25 := eq_true q25
                                            obtain ⟨Ao33, co33, eo33⟩ := Kd.R_slice HO_5.out
                                            subst eo33
                                            have p111 : 0 ≤ (x35_3 : Int) := of_decide_eq_true (by first | (with_reducible assumption) | assumption)
                                            have q111 : x35_3 < (x5_2.length : Int) := of_decide_eq_true (by first | (with_reducible assumption) | assumption)
                                            obtain ⟨ad111, e111, hx111_0⟩ := Kd.at_bool (Kd.R_reads' HO_5.out).2.2 x35_3 p111 q111
                                            (try rw [← Nbq29.out] at hx111_0)
                                            cases e111
                                            replace p111 := eq_true p111
                                            replace q111 := eq_true q111
                                            have p32 : 0 ≤ (x35_3 : Int) := of_decide_eq_true (by first | (with_reducible assumption) | assumption)
                                            have q32 : (x35_3 : Int) < ((x7_3.length : Int) : Int) := of_decide_eq_true (by first | (with_reducible assumption) | assumption)
                                            obtain ⟨go32, co32, eo32, gb32, gl32, cl32, HG32⟩ := Kd.R_form HO_7.out (by omega)
                                            (first | cases eo32 | (injection eo32 with ea_ en_ ec_; (first | subst ea_ | (injection ea_ with ea_; subst ea_)); subst ec_; clear en_))
                                            have GB32 := Aside0.mk gb32
                                            have GG32 := Aside0.mk HG32
                                            clear gb32 gl32 HG32
                                            obtain ⟨hx32_0, hf32_0⟩ := Kd.R_celln false HO_7.out (x35_3 : Int) p32 q32
                                            replace p32 := eq_true p32
                                            replace q32 := eq_true q32
                                            have HP34 := Kd.R_putg HO_7.out (x35_3 : Int) true
                                            go_wp2_with (first | ((with_reducible refine gate_store (t := 4) (p := 61) rfl ?_); refine store_event (t := 4) (p := 61) (v := ?vo_w35) (w1 := (wr.setCell ⟨go32, (x35_3 : Int).toNat, none⟩ (.bool true))) ?hg ?ho ?hn ?hr ?_; (case ho => rfl); (case hg => rfl); (case hn => rfl); (case hr => first | (go_simp; done) | (go_simp; rfl)); intro w35 hw; have hg : wr.grownBy w35 (some go32) := (by rw [hw]; exact HP34.2); have hp_ : Kd.R Kd.bool 4 w35 w.heap.size (fun k_ => some k_ ≠ (.slice (some ad111) x5_2.length co33 : Value).ownBlock) (.slice (some ⟨go32, 0, none⟩) x7_3.length co21) y112 := (by rw [hw, Ny112.out]; exact HP34.1); clear HP34; have n0_ := Aside0.mk (Kd.R_after (v := (.slice (some ⟨go32, 0, none⟩) x7_3.length co21)) (v1 := (.slice (some ⟨go32, 0, none⟩) x7_3.length co21)) (ok := (fun _ => True)) (by (with_reducible repeat (first | apply Kd.R_alloc | apply Kd.R_drewN | apply Kd.R_drew)); exact Kd.R_mono HO_5.out (fun _ hk => ⟨trivial, hk⟩)) hg (.inl rfl)); have n1_ := Aside0.mk (hp_); have n2_ := Aside0.mk ((by rw [hw]; exact below_set (HB.out) GB32.out : Below w.heap.size w w35)); clear HO_5; clear HO_7; clear HB; have HO_5 := n0_; have HO_7 := n1_; have HB := n2_; clear n0_ n1_ n2_; clear hg hw hp_))
                                            (try simp only [← hl7_3])
                                            go_roundg k3
                                            case measure => have := HJ2.out; have := HK2.out; have := HK3.out; omega
                                            case rel => exact ⟨(y112), (wrap64 (x35_3 + 1)), (by first | rfl | (simp; done) | (simp [*]; done)), H', ⟨by have := HJ2.out; have := HK2.out; have := HK3.out; omega⟩, ⟨by (try simp only [hl7_3]); (with_reducible repeat (first | apply Kd.R_alloc | apply Kd.R_drewN | apply Kd.R_drew)); exact Kd.R_mono HO_5.out (fun _ hk => hk.2)⟩, ⟨by (try simp only [hl7_3]); (with_reducible repeat (first | apply Kd.R_alloc | apply Kd.R_drewN | apply Kd.R_drew)); exact HO_7.out⟩, ⟨by repeat (first | (with_reducible first | exact HB.out | apply below_alloc | apply pw_below_drewN | apply below_drew1) | exact HB.out)⟩⟩
                                          · rw [if_neg c31] at H
                                            exact absurd H (by simp)
                                        · replace c30 := Bool.eq_false_iff.mpr c30
                                          subst c30
                                          have H1 : (if x35_3 > 0 then (if 0 ≤ (wrap64 (x35_3 - 1)) then (if (wrap64 (x35_3 - 1)) < (x7_3.length : Int) then (if x35_3 < (x7_3.length : Int) then (names_Match.l1 k3 a0 a1 x5_2 x26_2 (x7_3.set (x35_3 : Int).toNat (rdOf false x7_3 (wrap64 (x35_3 - 1)))) (a0.size : Int) x26_2 (y108.length : Int) (wrap64 (x35_3 + 1))) else (none)) else (none)) else (none)) else (if x35_3 < (x7_3.length : Int) then (names_Match.l1 k3 a0 a1 x5_2 x26_2 (x7_3.set (x35_3 : Int).toNat false) (a0.size : Int) x26_2 (y108.length : Int) (wrap64 (x35_3 + 1))) else (none))) = some r := by rw [if_neg (show ¬ (false = true) by decide)] at H; exact H
                                          clear H
                                          have H := H1
                                          clear H1
                                          by_cases c36 : x35_3 > 0
                                          · rw [if_pos c36] at H
                                            have c36b0 : decide (0 < x35_3) = true := decide_eq_true c36
                                            clear c36
                                            obtain ⟨ji37, hji37⟩ : ∃ j_ : Int, (wrap64 (x35_3 - 1)) = j_ := ⟨_, rfl⟩
                                            replace H : (if 0 ≤ (ji37) then (if (ji37) < (x7_3.length : Int) then (if x35_3 < (x7_3.length : Int) then (names_Match.l1 k3 a0 a1 x5_2 x26_2 (x7_3.set (x35_3 : Int).toNat (rdOf false x7_3 (ji37))) (a0.size : Int) x26_2 (y108.length : Int) (wrap64 (x35_3 + 1))) else (none)) else (none)) else (none)) = some r := by first | (rw [hji37] at H; exact H) | (simp only [hji37] at H ⊢; exact H)
                                            have hji37w : (IntKind.i64.wrap (x35_3 - 1)) = ji37 := (i64_w _).trans hji37
                                            by_cases c38 : 0 ≤ (ji37)
                                            · rw [if_pos c38] at H
                                              have c38b0 : decide (0 ≤ (ji37)) = true := decide_eq_true c38
                                              clear c38
                                              by_cases c39 : (ji37) < (x7_3.length : Int)
                                              · rw [if_pos c39] at H
                                                have c39b0 : decide ((ji37) < (x7_3.length : Int)) = true := decide_eq_true c39
                                                (try (have c39b0z := c39b0; simp only [hl7_3] at c39b0z))
                                                clear c39
                                                by_cases c40 : x35_3 < (x7_3.length : Int)
                                                · rw [if_pos c40] at H
                                                  have c40b0 : decide (x35_3 < (x7_3.length : Int)) = true := decide_eq_true c40
                                                  (try (have c40b0z := c40b0; simp only [hl7_3] at c40b0z))
                                                  clear c40
                                                  obtain ⟨y114, hy114⟩ : ∃ y_ : List Bool, y_ = (x7_3.set (x35_3 : Int).toNat (rdOf false x7_3 (ji37))) := ⟨_, rfl⟩
                                                  replace H : (names_Match.l1 k3 a0 a1 x5_2 x26_2 y114 (a0.size : Int) x26_2 (y108.length : Int) (wrap64 (x35_3 + 1))) = some r := by first | (rw [hy114]; with_reducible exact H) | (have H2_ := (Option.bind_some _ _).symm.trans H; rw [hy114]; with_reducible exact H2_) | (have H2_ := (Option.bind_some _ _).symm.trans H; with_reducible exact H2_) | with_reducible exact H | (rw [hy114]; exact H) | exact H
                                                  have Ny114 := Aside0.mk hy114
                                                  clear hy114
                                                  have H' := Aside0.mk H
                                                  clear H
                                                  have p25 : 0 ≤ (x26_2 : Int) := of_decide_eq_true (by first | (with_reducible assumption) | assumption)
                                                  have q25 : x26_2 < (a0.size : Int) := of_decide_eq_true (by first | (with_reducible assumption) | assumption)
                                                  have hx25 := bt_at a0 x26_2
                                                  replace p25 := eq_true p25
                                                  replace q25 := eq_true q25
                                                  obtain ⟨Ao42, co42, eo42⟩ := Kd.R_slice HO_5.out
                                                  subst eo42
                                                  have p111 : 0 ≤ (x35_3 : Int) := of_decide_eq_true (by first | (with_reducible assumption) | assumption)
                                                  have q111 : x35_3 < (x5_2.length : Int) := of_decide_eq_true (by first | (with_reducible assumption) | assumption)
                                                  obtain ⟨ad111, e111, hx111_0⟩ := Kd.at_bool (Kd.R_reads' HO_5.out).2.2 x35_3 p111 q111
                                                  (try rw [← Nbq29.out] at hx111_0)
                                                  cases e111
                                                  replace p111 := eq_true p111
                                                  replace q111 := eq_true q111
                                                  have p113 : 0 ≤ ((ji37) : Int) := of_decide_eq_true (by first | (with_reducible assumption) | assumption)
                                                  have q113 : (ji37) < (x7_3.length : Int) := of_decide_eq_true (by first | (with_reducible assumption) | assumption)
                                                  obtain ⟨ad113, e113, hx113_0⟩ := Kd.at_bool (Kd.R_reads' HO_7.out).2.2 (ji37) p113 q113
                                                  (try rw [← Nbq29.out] at hx113_0)
                                                  cases e113
                                                  replace p113 := eq_true p113
                                                  replace q113 := eq_true q113
                                                  have p41 : 0 ≤ (x35_3 : Int) := of_decide_eq_true (by first | (with_reducible assumption) | assumption)
                                                  have q41 : (x35_3 : Int) < ((x7_3.length : Int) : Int) := of_decide_eq_true (by first | (with_reducible assumption) | assumption)
                                                  obtain ⟨go41, co41, eo41, gb41, gl41, cl41, HG41⟩ := Kd.R_form HO_7.out (by omega)
                                                  (first | cases eo41 | (injection eo41 with ea_ en_ ec_; (first | subst ea_ | (injection ea_ with ea_; subst ea_)); subst ec_; clear en_))
                                                  have GB41 := Aside0.mk gb41
                                                  have GG41 := Aside0.mk HG41
                                                  clear gb41 gl41 HG41
                                                  (first | simp only [add_plain] at hx113_0 | skip)
                                                  obtain ⟨hx41_0, hf41_0⟩ := Kd.R_celln false HO_7.out (x35_3 : Int) p41 q41
                                                  replace p41 := eq_true p41
                                                  replace q41 := eq_true q41
                                                  have HP43 := Kd.R_putg HO_7.out (x35_3 : Int) (rdOf false x7_3 (ji37))
                                                  go_wp2_with (first | ((with_reducible refine gate_store (t := 4) (p := 61) rfl ?_); refine store_event (t := 4) (p := 61) (v := ?vo_w44) (w1 := (wr.setCell ⟨go41, (x35_3 : Int).toNat, none⟩ (.bool (rdOf false x7_3 (ji37))))) ?hg ?ho ?hn ?hr ?_; (case ho => rfl); (case hg => rfl); (case hn => rfl); (case hr => first | (go_simp; done) | (go_simp; rfl)); intro w44 hw; have hg : wr.grownBy w44 (some go41) := (by rw [hw]; exact HP43.2); have hp_ : Kd.R Kd.bool 4 w44 w.heap.size (fun k_ => some k_ ≠ (.slice (some ad111) x5_2.length co42 : Value).ownBlock) (.slice (some ⟨go41, 0, none⟩) x7_3.length co21) y114 := (by rw [hw, Ny114.out]; exact HP43.1); clear HP43; have n0_ := Aside0.mk (Kd.R_after (v := (.slice (some ⟨go41, 0, none⟩) x7_3.length co21)) (v1 := (.slice (some ⟨go41, 0, none⟩) x7_3.length co21)) (ok := (fun _ => True)) (by (with_reducible repeat (first | apply Kd.R_alloc | apply Kd.R_drewN | apply Kd.R_drew)); exact Kd.R_mono HO_5.out (fun _ hk => ⟨trivial, hk⟩)) hg (.inl rfl)); have n1_ := Aside0.mk (hp_); have n2_ := Aside0.mk ((by rw [hw]; exact below_set (HB.out) GB41.out : Below w.heap.size w w44)); clear HO_5; clear HO_7; clear HB; have HO_5 := n0_; have HO_7 := n1_; have HB := n2_; clear n0_ n1_ n2_; clear hg hw hp_))
                                                  (try simp only [← hl7_3])
                                                  go_roundg k3
                                                  case measure => have := HJ2.out; have := HK2.out; have := HK3.out; omega
                                                  case rel => exact ⟨(y114), (wrap64 (x35_3 + 1)), (by first | rfl | (simp; done) | (simp [*]; done)), H', ⟨by have := HJ2.out; have := HK2.out; have := HK3.out; omega⟩, ⟨by (try simp only [hl7_3]); (with_reducible repeat (first | apply Kd.R_alloc | apply Kd.R_drewN | apply Kd.R_drew)); exact Kd.R_mono HO_5.out (fun _ hk => hk.2)⟩, ⟨by (try simp only [hl7_3]); (with_reducible repeat (first | apply Kd.R_alloc | apply Kd.R_drewN | apply Kd.R_drew)); exact HO_7.out⟩, ⟨by repeat (first | (with_reducible first | exact HB.out | apply below_alloc | apply pw_below_drewN | apply below_drew1) | exact HB.out)⟩⟩
                                                · rw [if_neg c40] at H
                                                  exact absurd H (by simp)
                                              · rw [if_neg c39] at H
                                                exact absurd H (by simp)
                                            · rw [if_neg c38] at H
                                              exact absurd H (by simp)
                                          · rw [if_neg c36] at H
                                            have c36b0 : decide (0 < x35_3) = false := decide_eq_false c36
                                            clear c36
                                            by_cases c45 : x35_3 < (x7_3.length : Int)
                                            · rw [if_pos c45] at H
                                              have c45b0 : decide (x35_3 < (x7_3.length : Int)) = true := decide_eq_true c45
                                              (try (have c45b0z := c45b0; simp only [hl7_3] at c45b0z))
                                              clear c45
                                              obtain ⟨y115, hy115⟩ : ∃ y_ : List Bool, y_ = (x7_3.set (x35_3 : Int).toNat false) := ⟨_, rfl⟩
                                              replace H : (names_Match.l1 k3 a0 a1 x5_2 x26_2 y115 (a0.size : Int) x26_2 (y108.length : Int) (wrap64 (x35_3 + 1))) = some r := by first | (rw [hy115]; with_reducible exact H) | (have H2_ := (Option.bind_some _ _).symm.trans H; rw [hy115]; with_reducible exact H2_) | (have H2_ := (Option.bind_some _ _).symm.trans H; with_reducible exact H2_) | with_reducible exact H | (rw [hy115]; exact H) | exact H
                                              have Ny115 := Aside0.mk hy115
                                              clear hy115
                                              have H' := Aside0.mk H
                                              clear H
                                              have p25 : 0 ≤ (x26_2 : Int) := of_decide_eq_true (by first | (with_reducible assumption) | assumption)
                                              have q25 : x26_2 < (a0.size : Int) := of_decide_eq_true (by first | (with_reducible assumption) | assumption)
                                              have hx25 := bt_at a0 x26_2
                                              replace p25 := eq_true p25
                                              replace q25 := eq_true q25
                                              obtain ⟨Ao47, co47, eo47⟩ := Kd.R_slice HO_5.out
                                              subst eo47
                                              have p111 : 0 ≤ (x35_3 : Int) := of_decide_eq_true (by first | (with_reducible assumption) | assumption)
                                              have q111 : x35_3 < (x5_2.length : Int) := of_decide_eq_true (by first | (with_reducible assumption) | assumption)
                                              obtain ⟨ad111, e111, hx111_0⟩ := Kd.at_bool (Kd.R_reads' HO_5.out).2.2 x35_3 p111 q111
                                              (try rw [← Nbq29.out] at hx111_0)
                                              cases e111
                                              replace p111 := eq_true p111
                                              replace q111 := eq_true q111
                                              have p46 : 0 ≤ (x35_3 : Int) := of_decide_eq_true (by first | (with_reducible assumption) | assumption)
                                              have q46 : (x35_3 : Int) < ((x7_3.length : Int) : Int) := of_decide_eq_true (by first | (with_reducible assumption) | assumption)
                                              obtain ⟨go46, co46, eo46, gb46, gl46, cl46, HG46⟩ := Kd.R_form HO_7.out (by omega)
                                              (first | cases eo46 | (injection eo46 with ea_ en_ ec_; (first | subst ea_ | (injection ea_ with ea_; subst ea_)); subst ec_; clear en_))
                                              have GB46 := Aside0.mk gb46
                                              have GG46 := Aside0.mk HG46
                                              clear gb46 gl46 HG46
                                              obtain ⟨hx46_0, hf46_0⟩ := Kd.R_celln false HO_7.out (x35_3 : Int) p46 q46
                                              replace p46 := eq_true p46
                                              replace q46 := eq_true q46
                                              have HP48 := Kd.R_putg HO_7.out (x35_3 : Int) false
                                              go_wp2_with (first | ((with_reducible refine gate_store (t := 4) (p := 61) rfl ?_); refine store_event (t := 4) (p := 61) (v := ?vo_w49) (w1 := (wr.setCell ⟨go46, (x35_3 : Int).toNat, none⟩ (.bool false))) ?hg ?ho ?hn ?hr ?_; (case ho => rfl); (case hg => rfl); (case hn => rfl); (case hr => first | (go_simp; done) | (go_simp; rfl)); intro w49 hw; have hg : wr.grownBy w49 (some go46) := (by rw [hw]; exact HP48.2); have hp_ : Kd.R Kd.bool 4 w49 w.heap.size (fun k_ => some k_ ≠ (.slice (some ad111) x5_2.length co47 : Value).ownBlock) (.slice (some ⟨go46, 0, none⟩) x7_3.length co21) y115 := (by rw [hw, Ny115.out]; exact HP48.1); clear HP48; have n0_ := Aside0.mk (Kd.R_after (v := (.slice (some ⟨go46, 0, none⟩) x7_3.length co21)) (v1 := (.slice (some ⟨go46, 0, none⟩) x7_3.length co21)) (ok := (fun _ => True)) (by (with_reducible repeat (first | apply Kd.R_alloc | apply Kd.R_drewN | apply Kd.R_drew)); exact Kd.R_mono HO_5.out (fun _ hk => ⟨trivial, hk⟩)) hg (.inl rfl)); have n1_ := Aside0.mk (hp_); have n2_ := Aside0.mk ((by rw [hw]; exact below_set (HB.out) GB46.out : Below w.heap.size w w49)); clear HO_5; clear HO_7; clear HB; have HO_5 := n0_; have HO_7 := n1_; have HB := n2_; clear n0_ n1_ n2_; clear hg hw hp_))
                                              (try simp only [← hl7_3])
                                              go_roundg k3
                                              case measure => have := HJ2.out; have := HK2.out; have := HK3.out; omega
                                              case rel => exact ⟨(y115), (wrap64 (x35_3 + 1)), (by first | rfl | (simp; done) | (simp [*]; done)), H', ⟨by have := HJ2.out; have := HK2.out; have := HK3.out; omega⟩, ⟨by (try simp only [hl7_3]); (with_reducible repeat (first | apply Kd.R_alloc | apply Kd.R_drewN | apply Kd.R_drew)); exact Kd.R_mono HO_5.out (fun _ hk => hk.2)⟩, ⟨by (try simp only [hl7_3]); (with_reducible repeat (first | apply Kd.R_alloc | apply Kd.R_drewN | apply Kd.R_drew)); exact HO_7.out⟩, ⟨by repeat (first | (with_reducible first | exact HB.out | apply below_alloc | apply pw_below_drewN | apply below_drew1) | exact HB.out)⟩⟩
                                            · rw [if_neg c45] at H
                                              exact absurd H (by simp)
                                      · rw [if_neg c28] at H
                                        exact absurd H (by simp)
                                    · rw [if_neg c27] at H
                                      exact absurd H (by simp)
                                  · rw [if_neg c26] at H
                                    have c26b0 : ((bt a0 x26_2) == 42) = false := beq_eq_false_iff_ne.mpr c26
                                    have c26b1 : ((bt a0 x26_2) != 42) = true := bne_iff_ne.mpr c26
                                    by_cases c50 : x35_3 = 0
                                    · rw [if_pos c50] at H
                                      have c50b0 : (x35_3 == 0) = true := beq_iff_eq.mpr c50
                                      have c50b1 : (x35_3 != 0) = false := bne_eq_false_iff_eq.mpr c50
                                      clear c50
                                      have H' := Aside0.mk H
                                      clear H
                                      have p25 : 0 ≤ (x26_2 : Int) := of_decide_eq_true (by first | (with_reducible assumption) | assumption)
                                      have q25 : x26_2 < (a0.size : Int) := of_decide_eq_true (by first | (with_reducible assumption) | assumption)
                                      have hx25 := bt_at a0 x26_2
                                      replace p25 := eq_true p25
                                      replace q25 := eq_true q25
                                      go_wp2
                                      (try simp only [← hl7_3])
                                      go_roundg k3
                                      case measure => have := HJ2.out; have := HK2.out; have := HK3.out; omega
                                      case rel => exact ⟨(x7_3), (wrap64 (x35_3 + 1)), (by first | rfl | (simp; done) | (simp [*]; done)), H', ⟨by have := HJ2.out; have := HK2.out; have := HK3.out; omega⟩, ⟨by (try simp only [hl7_3]); (with_reducible repeat (first | apply Kd.R_alloc | apply Kd.R_drewN | apply Kd.R_drew)); exact HO_5.out⟩, ⟨by (try simp only [hl7_3]); (with_reducible repeat (first | apply Kd.R_alloc | apply Kd.R_drewN | apply Kd.R_drew)); exact HO_7.out⟩, ⟨by repeat (first | (with_reducible first | exact HB.out | apply below_alloc | apply pw_below_drewN | apply below_drew1) | exact HB.out)⟩⟩
                                    · rw [if_neg c50] at H
                                      have c50b0 : (x35_3 == 0) = false := beq_eq_false_iff_ne.mpr c50
                                      have c50b1 : (x35_3 != 0) = true := bne_iff_ne.mpr c50
                                      by_cases c51 : (bt a0 x26_2) = 63
                                      · rw [if_pos c51] at H
                                        have c51b0 : ((bt a0 x26_2) == 63) = true := beq_iff_eq.mpr c51
                                        have c51b1 : ((bt a0 x26_2) != 63) = false := bne_eq_false_iff_eq.mpr c51
                                        clear c51
                                        try clear hji37w
                                        try clear hji37
                                        obtain ⟨ji52, hji52⟩ : ∃ j_ : Int, (wrap64 (x35_3 - 1)) = j_ := ⟨_, rfl⟩
                                        replace H : (if 0 ≤ (ji52) then (if (ji52) < (x5_2.length : Int) then (if 0 ≤ x35_3 then (if x35_3 < (x7_3.length : Int) then (names_Match.l1 k3 a0 a1 x5_2 x26_2 (x7_3.set (x35_3 : Int).toNat (rdOf false x5_2 (ji52))) (a0.size : Int) x26_2 (y108.length : Int) (wrap64 (x35_3 + 1))) else (none)) else (none)) else (none)) else (none)) = some r := by first | (rw [hji52] at H; exact H) | (simp only [hji52] at H ⊢; exact H)
                                        have hji52w : (IntKind.i64.wrap (x35_3 - 1)) = ji52 := (i64_w _).trans hji52
                                        by_cases c53 : 0 ≤ (ji52)
                                        · rw [if_pos c53] at H
                                          have c53b0 : decide (0 ≤ (ji52)) = true := decide_eq_true c53
                                          clear c53
                                          by_cases c54 : (ji52) < (x5_2.length : Int)
                                          · rw [if_pos c54] at H
                                            have c54b0 : decide ((ji52) < (x5_2.length : Int)) = true := decide_eq_true c54
                                            (try (have c54b0z := c54b0; simp only [hl7_3] at c54b0z))
                                            clear c54
                                            by_cases c55 : 0 ≤ x35_3
                                            · rw [if_pos c55] at H
                                              have c55b0 : decide (0 ≤ x35_3) = true := decide_eq_true c55
                                              clear c55
                                              by_cases c56 : x35_3 < (x7_3.length : Int)
                                              · rw [if_pos c56] at H
                                                have c56b0 : decide (x35_3 < (x7_3.length : Int)) = true := decide_eq_true c56
                                                (try (have c56b0z := c56b0; simp only [hl7_3] at c56b0z))
                                                clear c56
                                                obtain ⟨y117, hy117⟩ : ∃ y_ : List Bool, y_ = (x7_3.set (x35_3 : Int).toNat (rdOf false x5_2 (ji52))) := ⟨_, rfl⟩
                                                replace H : (names_Match.l1 k3 a0 a1 x5_2 x26_2 y117 (a0.size : Int) x26_2 (y108.length : Int) (wrap64 (x35_3 + 1))) = some r := by first | (rw [hy117]; with_reducible exact H) | (have H2_ := (Option.bind_some _ _).symm.trans H; rw [hy117]; with_reducible exact H2_) | (have H2_ := (Option.bind_some _ _).symm.trans H; with_reducible exact H2_) | with_reducible exact H | (rw [hy117]; exact H) | exact H
                                                have Ny117 := Aside0.mk hy117
                                                clear hy117
                                                have H' := Aside0.mk H
                                                clear H
                                                have p25 : 0 ≤ (x26_2 : Int) := of_decide_eq_true (by first | (with_reducible assumption) | assumption)
                                                have q25 : x26_2 < (a0.size : Int) := of_decide_eq_true (by first | (with_reducible assumption) | assumption)
                                                have hx25 := bt_at a0 x26_2
                                                replace p25 := eq_true p25
                                                replace q25 := eq_true q25
                                                obtain ⟨Ao58, co58, eo58⟩ := Kd.R_slice HO_5.out
                                                subst eo58
                                                have p116 : 0 ≤ ((ji52) : Int) := of_decide_eq_true (by first | (with_reducible assumption) | assumption)
                                                have q116 : (ji52) < (x5_2.length : Int) := of_decide_eq_true (by first | (with_reducible assumption) | assumption)
                                                obtain ⟨ad116, e116, hx116_0⟩ := Kd.at_bool (Kd.R_reads' HO_5.out).2.2 (ji52) p116 q116
                                                cases e116
                                                replace p116 := eq_true p116
                                                replace q116 := eq_true q116
                                                have p57 : 0 ≤ (x35_3 : Int) := of_decide_eq_true (by first | (with_reducible assumption) | assumption)
                                                have q57 : (x35_3 : Int) < ((x7_3.length : Int) : Int) := of_decide_eq_true (by first | (with_reducible assumption) | assumption)
                                                obtain ⟨go57, co57, eo57, gb57, gl57, cl57, HG57⟩ := Kd.R_form HO_7.out (by omega)
                                                (first | cases eo57 | (injection eo57 with ea_ en_ ec_; (first | subst ea_ | (injection ea_ with ea_; subst ea_)); subst ec_; clear en_))
                                                have GB57 := Aside0.mk gb57
                                                have GG57 := Aside0.mk HG57
                                                clear gb57 gl57 HG57
                                                obtain ⟨hx57_0, hf57_0⟩ := Kd.R_celln false HO_7.out (x35_3 : Int) p57 q57
                                                replace p57 := eq_true p57
                                                replace q57 := eq_true q57
                                                have HP59 := Kd.R_putg HO_7.out (x35_3 : Int) (rdOf false x5_2 (ji52))
                                                go_wp2_with (first | ((with_reducible refine gate_store (t := 4) (p := 83) rfl ?_); refine store_event (t := 4) (p := 83) (v := ?vo_w60) (w1 := (wr.setCell ⟨go57, (x35_3 : Int).toNat, none⟩ (.bool (rdOf false x5_2 (ji52))))) ?hg ?ho ?hn ?hr ?_; (case ho => rfl); (case hg => rfl); (case hn => rfl); (case hr => first | (go_simp; done) | (go_simp; rfl)); intro w60 hw; have hg : wr.grownBy w60 (some go57) := (by rw [hw]; exact HP59.2); have hp_ : Kd.R Kd.bool 4 w60 w.heap.size (fun k_ => some k_ ≠ (.slice (some ad116) x5_2.length co58 : Value).ownBlock) (.slice (some ⟨go57, 0, none⟩) x7_3.length co21) y117 := (by rw [hw, Ny117.out]; exact HP59.1); clear HP59; have n0_ := Aside0.mk (Kd.R_after (v := (.slice (some ⟨go57, 0, none⟩) x7_3.length co21)) (v1 := (.slice (some ⟨go57, 0, none⟩) x7_3.length co21)) (ok := (fun _ => True)) (by (with_reducible repeat (first | apply Kd.R_alloc | apply Kd.R_drewN | apply Kd.R_drew)); exact Kd.R_mono HO_5.out (fun _ hk => ⟨trivial, hk⟩)) hg (.inl rfl)); have n1_ := Aside0.mk (hp_); have n2_ := Aside0.mk ((by rw [hw]; exact below_set (HB.out) GB57.out : Below w.heap.size w w60)); clear HO_5; clear HO_7; clear HB; have HO_5 := n0_; have HO_7 := n1_; have HB := n2_; clear n0_ n1_ n2_; clear hg hw hp_))
                                                (try simp only [← hl7_3])
                                                go_roundg k3
                                                case measure => have := HJ2.out; have := HK2.out; have := HK3.out; omega
                                                case rel => exact ⟨(y117), (wrap64 (x35_3 + 1)), (by first | rfl | (simp; done) | (simp [*]; done)), H', ⟨by have := HJ2.out; have := HK2.out; have := HK3.out; omega⟩, ⟨by (try simp only [hl7_3]); (with_reducible repeat (first | apply Kd.R_alloc | apply Kd.R_drewN | apply Kd.R_drew)); exact Kd.R_mono HO_5.out (fun _ hk => hk.2)⟩, ⟨by (try simp only [hl7_3]); (with_reducible repeat (first | apply Kd.R_alloc | apply Kd.R_drewN | apply Kd.R_drew)); exact HO_7.out⟩, ⟨by repeat (first | (with_reducible first | exact HB.out | apply below_alloc | apply pw_below_drewN | apply below_drew1) | exact HB.out)⟩⟩
                                              · rw [if_neg c56] at H
                                                exact absurd H (by simp)
                                            · rw [if_neg c55] at H
                                              exact absurd H (by simp)
                                          · rw [if_neg c54] at H
                                            exact absurd H (by simp)
                                        · rw [if_neg c53] at H
                                          exact absurd H (by simp)
                                      · rw [if_neg c51] at H
                                        have c51b0 : ((bt a0 x26_2) == 63) = false := beq_eq_false_iff_ne.mpr c51
                                        have c51b1 : ((bt a0 x26_2) != 63) = true := bne_iff_ne.mpr c51
                                        try clear hji37w
                                        try clear hji37
                                        try clear hji52w
                                        try clear hji52
                                        obtain ⟨ji61, hji61⟩ : ∃ j_ : Int, (wrap64 (x35_3 - 1)) = j_ := ⟨_, rfl⟩
                                        replace H : (if 0 ≤ (ji61) then (if (ji61) < (a1.size : Int) then (if (bt a0 x26_2) = (bt a1 (ji61)) then (if (ji61) < (x5_2.length : Int) then (if 0 ≤ x35_3 then (if x35_3 < (x7_3.length : Int) then (names_Match.l1 k3 a0 a1 x5_2 x26_2 (x7_3.set (x35_3 : Int).toNat (rdOf false x5_2 (ji61))) (a0.size : Int) x26_2 (y108.length : Int) (wrap64 (x35_3 + 1))) else (none)) else (none)) else (none)) else (names_Match.l1 k3 a0 a1 x5_2 x26_2 x7_3 (a0.size : Int) x26_2 (y108.length : Int) (wrap64 (x35_3 + 1)))) else (none)) else (none)) = some r := by first | (rw [hji61] at H; exact H) | (simp only [hji61] at H ⊢; exact H)
                                        have hji61w : (IntKind.i64.wrap (x35_3 - 1)) = ji61 := (i64_w _).trans hji61
                                        by_cases c62 : 0 ≤ (ji61)
                                        · rw [if_pos c62] at H
                                          have c62b0 : decide (0 ≤ (ji61)) = true := decide_eq_true c62
                                          clear c62
                                          by_cases c63 : (ji61) < (a1.size : Int)
                                          · rw [if_pos c63] at H
                                            have c63b0 : decide ((ji61) < (a1.size : Int)) = true := decide_eq_true c63
                                            clear c63
                                            by_cases c65 : (bt a0 x26_2) = (bt a1 (ji61))
                                            · rw [if_pos c65] at H
                                              have c65b0 : ((bt a0 x26_2) == (bt a1 (ji61))) = true := beq_iff_eq.mpr c65
                                              have c65b1 : ((bt a0 x26_2) != (bt a1 (ji61))) = false := bne_eq_false_iff_eq.mpr c65
                                              clear c65
                                              by_cases c66 : (ji61) < (x5_2.length : Int)
                                              · rw [if_pos c66] at H
                                                have c66b0 : decide ((ji61) < (x5_2.length : Int)) = true := decide_eq_true c66
                                                (try (have c66b0z := c66b0; simp only [hl7_3] at c66b0z))
                                                clear c66
                                                by_cases c67 : 0 ≤ x35_3
                                                · rw [if_pos c67] at H
                                                  have c67b0 : decide (0 ≤ x35_3) = true := decide_eq_true c67
                                                  clear c67
                                                  by_cases c68 : x35_3 < (x7_3.length : Int)
                                                  · rw [if_pos c68] at H
                                                    have c68b0 : decide (x35_3 < (x7_3.length : Int)) = true := decide_eq_true c68
                                                    (try (have c68b0z := c68b0; simp only [hl7_3] at c68b0z))
                                                    clear c68
                                                    obtain ⟨y119, hy119⟩ : ∃ y_ : List Bool, y_ = (x7_3.set (x35_3 : Int).toNat (rdOf false x5_2 (ji61))) := ⟨_, rfl⟩
                                                    replace H : (names_Match.l1 k3 a0 a1 x5_2 x26_2 y119 (a0.size : Int) x26_2 (y108.length : Int) (wrap64 (x35_3 + 1))) = some r := by first | (rw [hy119]; with_reducible exact H) | (have H2_ := (Option.bind_some _ _).symm.trans H; rw [hy119]; with_reducible exact H2_) | (have H2_ := (Option.bind_some _ _).symm.trans H; with_reducible exact H2_) | with_reducible exact H | (rw [hy119]; exact H) | exact H
                                                    have Ny119 := Aside0.mk hy119
                                                    clear hy119
                                                    have H' := Aside0.mk H
                                                    clear H
                                                    have p25 : 0 ≤ (x26_2 : Int) := of_decide_eq_true (by first | (with_reducible assumption) | assumption)
                                                    have q25 : x26_2 < (a0.size : Int) := of_decide_eq_true (by first | (with_reducible assumption) | assumption)
                                                    have hx25 := bt_at a0 x26_2
                                                    replace p25 := eq_true p25
                                                    replace q25 := eq_true q25
                                                    have p64 : 0 ≤ ((ji61) : Int) := of_decide_eq_true (by first | (with_reducible assumption) | assumption)
                                                    have q64 : (ji61) < (a1.size : Int) := of_decide_eq_true (by first | (with_reducible assumption) | assumption)
                                                    have hx64 := bt_at a1 (ji61)
                                                    replace p64 := eq_true p64
                                                    replace q64 := eq_true q64
                                                    obtain ⟨Ao70, co70, eo70⟩ := Kd.R_slice HO_5.out
                                                    subst eo70
                                                    have p118 : 0 ≤ ((ji61) : Int) := of_decide_eq_true (by first | (with_reducible assumption) | assumption)
                                                    have q118 : (ji61) < (x5_2.length : Int) := of_decide_eq_true (by first | (with_reducible assumption) | assumption)
                                                    obtain ⟨ad118, e118, hx118_0⟩ := Kd.at_bool (Kd.R_reads' HO_5.out).2.2 (ji61) p118 q118
                                                    cases e118
                                                    replace p118 := eq_true p118
                                                    replace q118 := eq_true q118
                                                    have p69 : 0 ≤ (x35_3 : Int) := of_decide_eq_true (by first | (with_reducible assumption) | assumption)
                                                    have q69 : (x35_3 : Int) < ((x7_3.length : Int) : Int) := of_decide_eq_true (by first | (with_reducible assumption) | assumption)
                                                    obtain ⟨go69, co69, eo69, gb69, gl69, cl69, HG69⟩ := Kd.R_form HO_7.out (by omega)
                                                    (first | cases eo69 | (injection eo69 with ea_ en_ ec_; (first | subst ea_ | (injection ea_ with ea_; subst ea_)); subst ec_; clear en_))
                                                    have GB69 := Aside0.mk gb69
                                                    have GG69 := Aside0.mk HG69
                                                    clear gb69 gl69 HG69
                                                    obtain ⟨hx69_0, hf69_0⟩ := Kd.R_celln false HO_7.out (x35_3 : Int) p69 q69
                                                    replace p69 := eq_true p69
                                                    replace q69 := eq_true q69
                                                    have HP71 := Kd.R_putg HO_7.out (x35_3 : Int) (rdOf false x5_2 (ji61))
                                                    go_wp2_with (first | ((with_reducible refine gate_store (t := 4) (p := 83) rfl ?_); refine store_event (t := 4) (p := 83) (v := ?vo_w72) (w1 := (wr.setCell ⟨go69, (x35_3 : Int).toNat, none⟩ (.bool (rdOf false x5_2 (ji61))))) ?hg ?ho ?hn ?hr ?_; (case ho => rfl); (case hg => rfl); (case hn => rfl); (case hr => first | (go_simp; done) | (go_simp; rfl)); intro w72 hw; have hg : wr.grownBy w72 (some go69) := (by rw [hw]; exact HP71.2); have hp_ : Kd.R Kd.bool 4 w72 w.heap.size (fun k_ => some k_ ≠ (.slice (some ad118) x5_2.length co70 : Value).ownBlock) (.slice (some ⟨go69, 0, none⟩) x7_3.length co21) y119 := (by rw [hw, Ny119.out]; exact HP71.1); clear HP71; have n0_ := Aside0.mk (Kd.R_after (v := (.slice (some ⟨go69, 0, none⟩) x7_3.length co21)) (v1 := (.slice (some ⟨go69, 0, none⟩) x7_3.length co21)) (ok := (fun _ => True)) (by (with_reducible repeat (first | apply Kd.R_alloc | apply Kd.R_drewN | apply Kd.R_drew)); exact Kd.R_mono HO_5.out (fun _ hk => ⟨trivial, hk⟩)) hg (.inl rfl)); have n1_ := Aside0.mk (hp_); have n2_ := Aside0.mk ((by rw [hw]; exact below_set (HB.out) GB69.out : Below w.heap.size w w72)); clear HO_5; clear HO_7; clear HB; have HO_5 := n0_; have HO_7 := n1_; have HB := n2_; clear n0_ n1_ n2_; clear hg hw hp_))
                                                    (try simp only [← hl7_3])
                                                    go_roundg k3
                                                    case measure => have := HJ2.out; have := HK2.out; have := HK3.out; omega
                                                    case rel => exact ⟨(y119), (wrap64 (x35_3 + 1)), (by first | rfl | (simp; done) | (simp [*]; done)), H', ⟨by have := HJ2.out; have := HK2.out; have := HK3.out; omega⟩, ⟨by (try simp only [hl7_3]); (with_reducible repeat (first | apply Kd.R_alloc | apply Kd.R_drewN | apply Kd.R_drew)); exact Kd.R_mono HO_5.out (fun _ hk => hk.2)⟩, ⟨by (try simp only [hl7_3]); (with_reducible repeat (first | apply Kd.R_alloc | apply Kd.R_drewN | apply Kd.R_drew)); exact HO_7.out⟩, ⟨by repeat (first | (with_reducible first | exact HB.out | apply below_alloc | apply pw_below_drewN | apply below_drew1) | exact HB.out)⟩⟩
                                                  · rw [if_neg c68] at H
                                                    exact absurd H (by simp)
                                                · rw [if_neg c67] at H
                                                  exact absurd H (by simp)
                                              · rw [if_neg c66] at H
                                                exact absurd H (by simp)
                                            · rw [if_neg c65] at H
                                              have c65b0 : ((bt a0 x26_2) == (bt a1 (ji61))) = false := beq_eq_false_iff_ne.mpr c65
                                              have c65b1 : ((bt a0 x26_2) != (bt a1 (ji61))) = true := bne_iff_ne.mpr c65
                                              have H' := Aside0.mk H
                                              clear H
                                              have p25 : 0 ≤ (x26_2 : Int) := of_decide_eq_true (by first | (with_reducible assumption) | assumption)
                                              have q25 : x26_2 < (a0.size : Int) := of_decide_eq_true (by first | (with_reducible assumption) | assumption)
                                              have hx25 := bt_at a0 x26_2
                                              replace p25 := eq_true p25
                                              replace q25 := eq_true q25
                                              have p64 : 0 ≤ ((ji61) : Int) := of_decide_eq_true (by first | (with_reducible assumption) | assumption)
                                              have q64 : (ji61) < (a1.size : Int) := of_decide_eq_true (by first | (with_reducible assumption) | assumption)
                                              have hx64 := bt_at a1 (ji61)
                                              replace p64 := eq_true p64
                                              replace q64 := eq_true q64
                                              go_wp2
                                              (try simp only [← hl7_3])
                                              go_roundg k3
                                              case measure => have := HJ2.out; have := HK2.out; have := HK3.out; omega
                                              case rel => exact ⟨(x7_3), (wrap64 (x35_3 + 1)), (by first | rfl | (simp; done) | (simp [*]; done)), H', ⟨by have := HJ2.out; have := HK2.out; have := HK3.out; omega⟩, ⟨by (try simp only [hl7_3]); (with_reducible repeat (first | apply Kd.R_alloc | apply Kd.R_drewN | apply Kd.R_drew)); exact HO_5.out⟩, ⟨by (try simp only [hl7_3]); (with_reducible repeat (first | apply Kd.R_alloc | apply Kd.R_drewN | apply Kd.R_drew)); exact HO_7.out⟩, ⟨by repeat (first | (with_reducible first | exact HB.out | apply below_alloc | apply pw_below_drewN | apply below_drew1) | exact HB.out)⟩⟩
                                          · rw [if_neg c63] at H
                                            exact absurd H (by simp)
                                        · rw [if_neg c62] at H
                                          exact absurd H (by simp)
                                · rw [if_neg c24] at H
                                  exact absurd H (by simp)
                              · rw [if_neg c23] at H
                                exact absurd H (by simp)
                            · rw [if_neg c22] at H
                              have c22b0 : decide (x35_3 < (y108.length : Int)) = false := decide_eq_false c22
                              (try (have c22b0z := c22b0; simp only [hl7_3] at c22b0z))
                              clear c22
                              have H' := Aside0.mk H
                              clear H
                              go_wp2
                              (try simp only [← hl7_3])
                              go_roundg k3
                              case measure => have := HJ2.out; have := HK2.out; have := HK3.out; omega
                              case rel => exact ⟨(x7_3), (wrap64 (x26_2 + 1)), (by first | rfl | (simp; done) | (simp [*]; done)), H', ⟨by have := HJ2.out; have := HK2.out; have := HK3.out; omega⟩, ⟨by (try simp only [hl7_3]); (with_reducible repeat (first | apply Kd.R_alloc | apply Kd.R_drewN | apply Kd.R_drew)); exact Kd.R_mono HO_7.out (fun _ hk => trivial)⟩, ⟨by repeat (first | (with_reducible first | exact HB.out | apply below_alloc | apply pw_below_drewN | apply below_drew1) | exact HB.out)⟩⟩
                      · rw [if_neg c18] at H
                        exact absurd H (by simp)
                    · rw [if_neg c17] at H
                      exact absurd H (by simp)
                  · rw [if_neg c15] at H
                    have c15b0 : decide (x26_2 < (a0.size : Int)) = false := decide_eq_false c15
                    clear c15
                    by_cases c73 : 0 ≤ (a1.size : Int)
                    · rw [if_pos c73] at H
                      have c73b0 : decide (0 ≤ (a1.size : Int)) = true := decide_eq_true c73
                      have c73b1 : decide (0 ≤ a1.size) = true := decide_eq_true (by omega)
                      clear c73
                      by_cases c74 : (a1.size : Int) < (x5_2.length : Int)
                      · rw [if_pos c74] at H
                        have c74b0 : decide ((a1.size : Int) < (x5_2.length : Int)) = true := decide_eq_true c74
                        have c74b1 : decide (a1.size < x5_2.length) = true := decide_eq_true (Int.ofNat_lt.mp c74)
                        clear c74
                        obtain rfl := Option.some.inj H
                        obtain ⟨Ao75, co75, eo75⟩ := Kd.R_slice HO_5.out
                        subst eo75
                        have p107 : 0 ≤ ((a1.size : Int) : Int) := of_decide_eq_true (by first | (with_reducible assumption) | assumption)
                        have q107 : (a1.size : Int) < (x5_2.length : Int) := of_decide_eq_true (by first | (with_reducible assumption) | assumption)
                        obtain ⟨ad107, e107, hx107_0⟩ := Kd.at_bool (Kd.R_reads' HO_5.out).2.2 (a1.size : Int) p107 q107
                        (try (have hx107_0z := hx107_0; simp only [Int.toNat_natCast] at hx107_0z))
                        cases e107
                        replace p107 := eq_true p107
                        replace q107 := eq_true q107
                        go_wp2
                        go_ret
                        exact ⟨by first | rfl | (simp [errW_none, errW_some] <;> rfl) | (simp only [← hji6]; first | rfl | (simp [errW_none, errW_some] <;> rfl)) | (simp [*, errW_none, errW_some] <;> rfl), by repeat (first | (with_reducible first | exact HB.out | apply below_alloc | apply pw_below_drewN | apply below_drew1) | exact HB.out)⟩
                      · rw [if_neg c74] at H
                        exact absurd H (by simp)
                    · rw [if_neg c73] at H
                      exact absurd H (by simp)
            · rw [if_neg c9] at H
              exact absurd H (by simp)
          · rw [if_neg c8] at H
            exact absurd H (by simp)
        · rw [if_neg c7] at H
          exact absurd H (by simp)

end Go.Proofs.YtcaafbnfgijjfaaDoor.G
