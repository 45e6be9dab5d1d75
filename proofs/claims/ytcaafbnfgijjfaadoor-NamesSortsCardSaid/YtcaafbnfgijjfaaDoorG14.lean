-- WRITTEN BY a program of this session (wip/gprint.py) out of the translation
import Derived.Test.YtcaafbnfgijjfaaDoorOps
import Derived.Test.YtcaafbnfgijjfaaDoorG0
namespace Go.Proofs.YtcaafbnfgijjfaaDoor.G
open Go.RowKit Go.Proofs.YtcaafbnfgijjfaaDoorW.PrintWords Go.Proofs.YtcaafbnfgijjfaaDoorW.PrintLast Go.Proofs.YtcaafbnfgijjfaaDoorW.PrintMore
attribute [local go_sem] max2_int min2_int max_two min_two max_three min_three max_four min_four   -- for this text's walks alone
set_option linter.unusedVariables false
set_option linter.unusedSimpArgs false

/-! ### dolmenref1_Match: function 25 -/
mutual
def dolmenref1_Match.j0 : Nat → ByteArray → ByteArray → Bool → Option (Bool)
  | 0, _, _, _ => none
  | k + 1, x0, x1, x16 => if x16 = true then (some false) else (if 0 ≤ (wrap64 ((x1.size : Int) + 1)) then (if (wrap64 ((x1.size : Int) + 1) : Int).toNat ≤ 281474976710656 then ((some (List.replicate (wrap64 ((x1.size : Int) + 1) : Int).toNat false : List Bool)).bind fun y329 => (if 0 < (y329.length : Int) then (dolmenref1_Match.l0 k x0 x1 (y329.set (0 : Int).toNat true) 0) else (none))) else (none)) else (none))
def dolmenref1_Match.l0 : Nat → ByteArray → ByteArray → List Bool → Int → Option (Bool)
  | 0, _, _, _, _ => none
  | k + 1, x0, x1, x5, x6 => if x6 < (x0.size : Int) then (if 0 ≤ (wrap64 ((x1.size : Int) + 1)) then (if (wrap64 ((x1.size : Int) + 1) : Int).toNat ≤ 281474976710656 then (dolmenref1_Match.l1 k x0 x1 x5 x6 (List.replicate (wrap64 ((x1.size : Int) + 1) : Int).toNat false) 0) else (none)) else (none)) else (if 0 ≤ (x1.size : Int) then (if (x1.size : Int) < (x5.length : Int) then (some (rdOf false x5 (x1.size : Int))) else (none)) else (none))
def dolmenref1_Match.l1 : Nat → ByteArray → ByteArray → List Bool → Int → List Bool → Int → Option (Bool)
  | 0, _, _, _, _, _, _ => none
  | k + 1, x0, x1, x5, x6, x7, x8 => if x8 ≤ (x1.size : Int) then (if 0 ≤ x6 then (if x6 < (x0.size : Int) then (if (bt x0 x6) = 42 then (if 0 ≤ x8 then (if x8 < (x5.length : Int) then (if rdOf false x5 x8 = true then (if x8 < (x7.length : Int) then (dolmenref1_Match.l1 k x0 x1 x5 x6 (x7.set (x8 : Int).toNat true) (wrap64 (x8 + 1))) else (none)) else (if x8 > 0 then (if 0 ≤ (wrap64 (x8 - 1)) then (if (wrap64 (x8 - 1)) < (x7.length : Int) then (if x8 < (x7.length : Int) then (dolmenref1_Match.l1 k x0 x1 x5 x6 (x7.set (x8 : Int).toNat (rdOf false x7 (wrap64 (x8 - 1)))) (wrap64 (x8 + 1))) else (none)) else (none)) else (none)) else (if x8 < (x7.length : Int) then (dolmenref1_Match.l1 k x0 x1 x5 x6 (x7.set (x8 : Int).toNat false) (wrap64 (x8 + 1))) else (none)))) else (none)) else (none)) else (if x8 > 0 then (if (bt x0 x6) = 63 then (if 0 ≤ (wrap64 (x8 - 1)) then (if (wrap64 (x8 - 1)) < (x5.length : Int) then (if 0 ≤ x8 then (if x8 < (x7.length : Int) then (dolmenref1_Match.l1 k x0 x1 x5 x6 (x7.set (x8 : Int).toNat (rdOf false x5 (wrap64 (x8 - 1)))) (wrap64 (x8 + 1))) else (none)) else (none)) else (none)) else (none)) else (if 0 ≤ (wrap64 (x8 - 1)) then (if (wrap64 (x8 - 1)) < (x1.size : Int) then (if (bt x0 x6) = (bt x1 (wrap64 (x8 - 1))) then (if (wrap64 (x8 - 1)) < (x5.length : Int) then (if 0 ≤ x8 then (if x8 < (x7.length : Int) then (dolmenref1_Match.l1 k x0 x1 x5 x6 (x7.set (x8 : Int).toNat (rdOf false x5 (wrap64 (x8 - 1)))) (wrap64 (x8 + 1))) else (none)) else (none)) else (none)) else (dolmenref1_Match.l1 k x0 x1 x5 x6 x7 (wrap64 (x8 + 1)))) else (none)) else (none))) else (dolmenref1_Match.l1 k x0 x1 x5 x6 x7 (wrap64 (x8 + 1))))) else (none)) else (none)) else (dolmenref1_Match.l0 k x0 x1 x7 (wrap64 (x6 + 1)))
end
def dolmenref1_Match.f (k : Nat) (a0 : ByteArray) (a1 : ByteArray) : Option (Bool) := if (a0.size : Int) > 40 then (dolmenref1_Match.j0 k a0 a1 true) else (dolmenref1_Match.j0 k a0 a1 (decide ((a1.size : Int) > 40)))
theorem dolmenref1_Match.mono_l : ∀ k, (∀ y0 y1 y2, LeO (dolmenref1_Match.j0 k y0 y1 y2) (dolmenref1_Match.j0 (k + 1) y0 y1 y2)) ∧ (∀ y0 y1 y2 y3, LeO (dolmenref1_Match.l0 k y0 y1 y2 y3) (dolmenref1_Match.l0 (k + 1) y0 y1 y2 y3)) ∧ (∀ y0 y1 y2 y3 y4 y5, LeO (dolmenref1_Match.l1 k y0 y1 y2 y3 y4 y5) (dolmenref1_Match.l1 (k + 1) y0 y1 y2 y3 y4 y5))
  | 0 => ⟨fun _ _ _ r h => by simp [dolmenref1_Match.j0] at h, fun _ _ _ _ r h => by simp [dolmenref1_Match.l0] at h, fun _ _ _ _ _ _ r h => by simp [dolmenref1_Match.l1] at h⟩
  | k + 1 => by
    obtain ⟨ih0, ih1, ih2⟩ := dolmenref1_Match.mono_l k
    refine ⟨?_, ?_, ?_⟩
    · intro y0 y1 y2
      unfold dolmenref1_Match.j0
      repeat' first
      | (with_reducible exact ih0 _ _ _)
      | (with_reducible exact ih1 _ _ _ _)
      | (with_reducible exact ih2 _ _ _ _ _ _)
      | (with_reducible exact LeO.refl _)
      | (with_reducible exact LeO.none _)
      | (with_reducible refine LeO.ite ?_ ?_)
      | (with_reducible refine LeO.bind ?_ (fun _ => ?_))
      | exact ih0 _ _ _
      | exact ih1 _ _ _ _
      | exact ih2 _ _ _ _ _ _
      | exact LeO.none _
      | refine LeO.ite ?_ ?_
      | refine LeO.bind ?_ (fun _ => ?_)
    · intro y0 y1 y2 y3
      unfold dolmenref1_Match.l0
      repeat' first
      | (with_reducible exact ih0 _ _ _)
      | (with_reducible exact ih1 _ _ _ _)
      | (with_reducible exact ih2 _ _ _ _ _ _)
      | (with_reducible exact LeO.refl _)
      | (with_reducible exact LeO.none _)
      | (with_reducible refine LeO.ite ?_ ?_)
      | (with_reducible refine LeO.bind ?_ (fun _ => ?_))
      | exact ih0 _ _ _
      | exact ih1 _ _ _ _
      | exact ih2 _ _ _ _ _ _
      | exact LeO.none _
      | refine LeO.ite ?_ ?_
      | refine LeO.bind ?_ (fun _ => ?_)
    · intro y0 y1 y2 y3 y4 y5
      unfold dolmenref1_Match.l1
      repeat' first
      | (with_reducible exact ih0 _ _ _)
      | (with_reducible exact ih1 _ _ _ _)
      | (with_reducible exact ih2 _ _ _ _ _ _)
      | (with_reducible exact LeO.refl _)
      | (with_reducible exact LeO.none _)
      | (with_reducible refine LeO.ite ?_ ?_)
      | (with_reducible refine LeO.bind ?_ (fun _ => ?_))
      | exact ih0 _ _ _
      | exact ih1 _ _ _ _
      | exact ih2 _ _ _ _ _ _
      | exact LeO.none _
      | refine LeO.ite ?_ ?_
      | refine LeO.bind ?_ (fun _ => ?_)
theorem dolmenref1_Match.mono : ∀ a0 a1 k, LeO (dolmenref1_Match.f k a0 a1) (dolmenref1_Match.f (k + 1) a0 a1) := by
  intro a0 a1 k
  obtain ⟨ih0, ih1, ih2⟩ := dolmenref1_Match.mono_l k
  unfold dolmenref1_Match.f
  repeat' first
      | (with_reducible exact ih0 _ _ _)
      | (with_reducible exact ih1 _ _ _ _)
      | (with_reducible exact ih2 _ _ _ _ _ _)
      | (with_reducible exact LeO.refl _)
      | (with_reducible exact LeO.none _)
      | (with_reducible refine LeO.ite ?_ ?_)
      | (with_reducible refine LeO.bind ?_ (fun _ => ?_))
      | exact ih0 _ _ _
      | exact ih1 _ _ _ _
      | exact ih2 _ _ _ _ _ _
      | exact LeO.none _
      | refine LeO.ite ?_ ?_
      | refine LeO.bind ?_ (fun _ => ?_)
set_option maxHeartbeats 8000000 in
set_option maxRecDepth 100000 in
theorem dolmenref1_Match.calls (k : Nat) (a0 : ByteArray) (a1 : ByteArray) (r : Bool) (w : World) (h : dolmenref1_Match.f k a0 a1 = some r) :
    Calls Tryd.prog 25 #[.string a0, .string a1] w fun e w' => e = .returned (.bool r) ∧ Below w.heap.size w w' := by
  have HB := Aside0.mk (Below.refl w.heap.size w)
  have H : (if (a0.size : Int) > 40 then (dolmenref1_Match.j0 k a0 a1 true) else (dolmenref1_Match.j0 k a0 a1 (decide ((a1.size : Int) > 40)))) = some r := h
  clear h
  have HC3 := Aside0.mk H
  clear H
  go_enter Tryd.func25, Tryd.ntmps25
  go_upto_region 1 with (fail)
  repeat (go_quiet (fail); go_upto_region 1 with (fail))
  go_cut [16] (fun v16 wc => ∃ (kq : Nat) (x16_2 : Bool), v16 = .bool x16_2 ∧ Aside0 (dolmenref1_Match.j0 kq a0 a1 x16_2 = some r) ∧ Aside0 (kq ≤ k) ∧ Aside0 (Below w.heap.size w wc))
  case first =>
    have H := HC3.out
    clear HC3
    by_cases c4 : (a0.size : Int) > 40
    · rw [if_pos c4] at H
      have c4b0 : decide (40 < (a0.size : Int)) = true := decide_eq_true c4
      have c4b1 : decide (40 < a0.size) = true := decide_eq_true (by omega)
      clear c4
      (first | rw [c4b0] | (simp only [i64_w, i32_w]; rw [c4b0]) | skip)
      have H' := Aside0.mk H
      clear H
      go_wp2
      repeat (go_quiet (fail); try go_wp2)
      go_meet
      case rel => exact ⟨_, (true), (by first | rfl | (simp; done) | (simp [*]; done)), H', ⟨by first | omega | exact Nat.le_refl _⟩, ⟨by repeat (first | (with_reducible first | exact HB.out | apply below_alloc | apply pw_below_drewN | apply below_drew1) | exact HB.out)⟩⟩
    · rw [if_neg c4] at H
      have c4b0 : decide (40 < (a0.size : Int)) = false := decide_eq_false c4
      have c4b1 : decide (40 < a0.size) = false := decide_eq_false (by omega)
      clear c4
      (first | rw [c4b0] | (simp only [i64_w, i32_w]; rw [c4b0]) | skip)
      have H' := Aside0.mk H
      clear H
      go_wp2
      repeat (go_quiet (fail); try go_wp2)
      go_meet
      case rel => exact ⟨_, (decide ((a1.size : Int) > 40)), (by first | rfl | (simp; done) | (simp [*]; done)), H', ⟨by first | omega | exact Nat.le_refl _⟩, ⟨by repeat (first | (with_reducible first | exact HB.out | apply below_alloc | apply pw_below_drewN | apply below_drew1) | exact HB.out)⟩⟩
  case rest =>
    clear HC3
    try clear c2
    try clear p2
    try clear c4
    try clear c4b0
    try clear c4b1
    obtain ⟨kq, x16_2, rfl, HA, HJ2, HB⟩ := hcut
    cases kq with
    | zero => exact absurd HA.out (by simp [dolmenref1_Match.j0])
    | succ kj2 =>
      have H := HA.out
      clear HA
      simp only [dolmenref1_Match.j0] at H
      by_cases c5 : x16_2 = true
      · subst c5
        have H1 : (some false) = some r := by rw [if_pos rfl] at H; exact H
        clear H
        have H := H1
        clear H1
        obtain rfl := Option.some.inj H
        go_wp2
        repeat (go_quiet (fail); try go_wp2)
        go_ret
        exact ⟨by first | rfl | (simp [errW_none, errW_some] <;> rfl) | (simp [*, errW_none, errW_some] <;> rfl), by repeat (first | (with_reducible first | exact HB.out | apply below_alloc | apply pw_below_drewN | apply below_drew1) | exact HB.out)⟩
      · replace c5 := Bool.eq_false_iff.mpr c5
        subst c5
        have H1 : (if 0 ≤ (wrap64 ((a1.size : Int) + 1)) then (if (wrap64 ((a1.size : Int) + 1) : Int).toNat ≤ 281474976710656 then ((some (List.replicate (wrap64 ((a1.size : Int) + 1) : Int).toNat false : List Bool)).bind fun y329 => (if 0 < (y329.length : Int) then (dolmenref1_Match.l0 kj2 a0 a1 (y329.set (0 : Int).toNat true) 0) else (none))) else (none)) else (none)) = some r := by rw [if_neg (show ¬ (false = true) by decide)] at H; exact H
        clear H
        have H := H1
        clear H1
        try clear hji6w
        try clear hji6
        try clear hji16w
        try clear hji16
        obtain ⟨ji6, hji6⟩ : ∃ j_ : Int, (wrap64 ((a1.size : Int) + 1)) = j_ := ⟨_, rfl⟩
        replace H : (if 0 ≤ (ji6) then (if (ji6 : Int).toNat ≤ 281474976710656 then ((some (List.replicate (ji6 : Int).toNat false : List Bool)).bind fun y329 => (if 0 < (y329.length : Int) then (dolmenref1_Match.l0 kj2 a0 a1 (y329.set (0 : Int).toNat true) 0) else (none))) else (none)) else (none)) = some r := by first | (rw [hji6] at H; exact H) | (simp only [hji6] at H ⊢; exact H)
        have hji6w : (IntKind.i64.wrap ((a1.size : Int) + 1)) = ji6 := (i64_w _).trans hji6
        by_cases c7 : 0 ≤ (ji6)
        · rw [if_pos c7] at H
          have c7b0 := eq_true c7
          have c7b1 : decide (0 ≤ (ji6)) = true := decide_eq_true c7
          clear c7
          by_cases c8 : (ji6 : Int).toNat ≤ 281474976710656
          · rw [if_pos c8] at H
            have c8b0 := eq_true c8
            have c8b1 : decide ((ji6 : Int).toNat ≤ 281474976710656) = true := decide_eq_true c8
            clear c8
            obtain ⟨y329, hy329⟩ : ∃ y_ : List Bool, y_ = (List.replicate (ji6 : Int).toNat false) := ⟨_, rfl⟩
            replace H : (if 0 < (y329.length : Int) then (dolmenref1_Match.l0 kj2 a0 a1 (y329.set (0 : Int).toNat true) 0) else (none)) = some r := by first | (rw [hy329]; with_reducible exact H) | (have H2_ := (Option.bind_some _ _).symm.trans H; rw [hy329]; with_reducible exact H2_) | (have H2_ := (Option.bind_some _ _).symm.trans H; with_reducible exact H2_) | with_reducible exact H | (rw [hy329]; exact H) | exact H
            have Ny329 := Aside0.mk hy329
            clear hy329
            by_cases c9 : 0 < (y329.length : Int)
            · rw [if_pos c9] at H
              have c9b0 : decide (0 < (y329.length : Int)) = true := decide_eq_true c9
              have c9b1 : decide (0 < y329.length) = true := decide_eq_true (by omega)
              clear c9
              obtain ⟨y332, hy332⟩ : ∃ y_ : List Bool, y_ = (y329.set (0 : Int).toNat true) := ⟨_, rfl⟩
              replace H : (dolmenref1_Match.l0 kj2 a0 a1 y332 0) = some r := by first | (rw [hy332]; with_reducible exact H) | (have H2_ := (Option.bind_some _ _).symm.trans H; rw [hy332]; with_reducible exact H2_) | (have H2_ := (Option.bind_some _ _).symm.trans H; with_reducible exact H2_) | with_reducible exact H | (rw [hy332]; exact H) | exact H
              have Ny332 := Aside0.mk hy332
              clear hy332
              have H' := Aside0.mk H
              clear H
              go_wp2_with (first | ((with_reducible refine gate_dst (N := 20) rfl ?_); (try (refine gate_guard (by rfl) ?_; dsimp only)); refine Kd.R_make Kd.bool _ 4 rfl (N := 20) rfl 46 _ _ rfl ji6 rfl rfl Tryd.underlying46 (.bool false) 1 info4 rfl (by decide) (by omega) false (ok := fun _ => True) (okp := fun _ => True) rfl (fun _ hk => hk) trivial (of_decide_eq_true (by first | (with_reducible assumption) | assumption)) (Nat.le_trans (Nat.mul_le_mul_right _ (of_decide_eq_true (by first | (with_reducible assumption) | assumption) : ji6.toNat ≤ 281474976710656)) (by omega)) (Below.refl _ _) (Nat.le_refl _) ?_; intro v330 w11 ho12 hb hg_ hnew_; clear hg_ hnew_; (first | rw [← Ny329.out] at ho12 | (simp only [Int.reduceToNat] at ho12; rw [← Ny329.out] at ho12)); have n0_ := Aside0.mk (Kd.R_lower ho12 (below_size (by repeat (first | (with_reducible first | exact HB.out | apply below_alloc | apply pw_below_drewN | apply below_drew1) | exact HB.out)))); have n1_ := Aside0.mk (below_step (by repeat (first | (with_reducible first | exact HB.out | apply below_alloc | apply pw_below_drewN | apply below_drew1) | exact HB.out)) hb); clear HB; have HO331 := n0_; have HB := n1_; clear n0_ n1_; clear hb ho12; have p10 : 0 ≤ (0 : Int) := (by omega); have q10 : (0 : Int) < ((y329.length : Int) : Int) := of_decide_eq_true (by first | (with_reducible assumption) | assumption); have qi10 : (0 < y329.length) = True := eq_true (by omega); obtain ⟨go10, co10, eo10, gb10, gl10, cl10, HG10⟩ := Kd.R_form HO331.out (by omega); (first | cases eo10 | (injection eo10 with ea_ en_ ec_; (first | subst ea_ | (injection ea_ with ea_; subst ea_)); subst ec_; clear en_)); have GB10 := Aside0.mk gb10; have GG10 := Aside0.mk HG10; clear gb10 gl10 HG10; obtain ⟨hx10_0, hf10_0⟩ := Kd.R_celln false HO331.out (0 : Int) p10 q10; (try rw [show ((0 : Int)).toNat = 0 from rfl] at hx10_0); (try simp only [Nat.reduceMul, Nat.zero_mul, Nat.zero_add, Nat.reduceAdd] at hx10_0); (try rw [show ((0 : Int)).toNat = 0 from rfl] at hf10_0); (try simp only [Nat.reduceMul, Nat.zero_mul, Nat.zero_add, Nat.reduceAdd] at hf10_0); replace p10 := eq_true p10; replace q10 := eq_true q10; obtain ⟨hy13_, hz13_⟩ := Kd.R_celln false HO331.out (0 : Int) (by omega) (of_decide_eq_true (by first | (with_reducible assumption) | assumption)); (try simp only [Int.reduceToNat, Int.toNat_zero, Int.toNat_ofNat, Nat.reduceMul, Nat.zero_mul, Nat.zero_add] at hy13_ hz13_); (try rw [show ((0 : Int)).toNat = 0 from rfl] at hy13_); (try rw [show ((0 : Int)).toNat = 0 from rfl] at hz13_); have HP13 := Kd.R_putg HO331.out (0 : Int) true) | ((with_reducible refine gate_store (t := 4) (p := 22) rfl ?_); (try (rw [drewN_self w11]; generalize hq_ : World.drewN w11 _ = w11; have n0_ := Aside0.mk (Kd.R_at hq_ HO331.out); have n1_ := Aside0.mk (below_at hq_ HB.out); (try (have hx10_0z := cell_at hq_ hx10_0)); (try (have hf10_0z := froz_at hq_ hf10_0)); clear hq_ HO331 HB; have HO331 := n0_; have HB := n1_; clear n0_ n1_; (try (obtain ⟨hy13_, hz13_⟩ := Kd.R_celln false HO331.out (0 : Int) (by omega) (of_decide_eq_true (by first | (with_reducible assumption) | assumption)))); (try (try simp only [Int.reduceToNat, Int.toNat_zero, Int.toNat_ofNat, Nat.reduceMul, Nat.zero_mul, Nat.zero_add] at hy13_ hz13_)); (try (try rw [show ((0 : Int)).toNat = 0 from rfl] at hy13_)); (try (try rw [show ((0 : Int)).toNat = 0 from rfl] at hz13_)); (try (have HP13 := Kd.R_putg HO331.out (0 : Int) true)))); refine store_event (t := 4) (p := 22) (v := ?vo_w14) (w1 := (w11.setCell ⟨go10, (0 : Int).toNat, none⟩ (.bool true))) ?hg ?ho ?hn ?hr ?_; (case ho => rfl); (case hg => rfl); (case hn => rfl); (case hr => first | (go_simp; done) | (go_simp; rfl)); intro w14 hw; have hg : w11.grownBy w14 (some go10) := (by rw [hw]; exact HP13.2); have hp_ : Kd.R Kd.bool 4 w14 w.heap.size (fun _ => True) (.slice (some ⟨go10, 0, none⟩) y329.length co10) y332 := (by rw [hw, Ny332.out]; exact HP13.1); clear HP13; have n0_ := Aside0.mk (hp_); have n1_ := Aside0.mk ((by rw [hw]; exact below_set (HB.out) GB10.out : Below w.heap.size w w14)); clear HO331; clear HB; have HO331 := n0_; have HB := n1_; clear n0_ n1_; clear hg hw hp_))
              repeat (go_quiet (first | ((with_reducible refine gate_dst (N := 20) rfl ?_); (try (refine gate_guard (by rfl) ?_; dsimp only)); refine Kd.R_make Kd.bool _ 4 rfl (N := 20) rfl 46 _ _ rfl ji6 rfl rfl Tryd.underlying46 (.bool false) 1 info4 rfl (by decide) (by omega) false (ok := fun _ => True) (okp := fun _ => True) rfl (fun _ hk => hk) trivial (of_decide_eq_true (by first | (with_reducible assumption) | assumption)) (Nat.le_trans (Nat.mul_le_mul_right _ (of_decide_eq_true (by first | (with_reducible assumption) | assumption) : ji6.toNat ≤ 281474976710656)) (by omega)) (Below.refl _ _) (Nat.le_refl _) ?_; intro v330 w11 ho12 hb hg_ hnew_; clear hg_ hnew_; (first | rw [← Ny329.out] at ho12 | (simp only [Int.reduceToNat] at ho12; rw [← Ny329.out] at ho12)); have n0_ := Aside0.mk (Kd.R_lower ho12 (below_size (by repeat (first | (with_reducible first | exact HB.out | apply below_alloc | apply pw_below_drewN | apply below_drew1) | exact HB.out)))); have n1_ := Aside0.mk (below_step (by repeat (first | (with_reducible first | exact HB.out | apply below_alloc | apply pw_below_drewN | apply below_drew1) | exact HB.out)) hb); clear HB; have HO331 := n0_; have HB := n1_; clear n0_ n1_; clear hb ho12; have p10 : 0 ≤ (0 : Int) := (by omega); have q10 : (0 : Int) < ((y329.length : Int) : Int) := of_decide_eq_true (by first | (with_reducible assumption) | assumption); have qi10 : (0 < y329.length) = True := eq_true (by omega); obtain ⟨go10, co10, eo10, gb10, gl10, cl10, HG10⟩ := Kd.R_form HO331.out (by omega); (first | cases eo10 | (injection eo10 with ea_ en_ ec_; (first | subst ea_ | (injection ea_ with ea_; subst ea_)); subst ec_; clear en_)); have GB10 := Aside0.mk gb10; have GG10 := Aside0.mk HG10; clear gb10 gl10 HG10; obtain ⟨hx10_0, hf10_0⟩ := Kd.R_celln false HO331.out (0 : Int) p10 q10; (try rw [show ((0 : Int)).toNat = 0 from rfl] at hx10_0); (try simp only [Nat.reduceMul, Nat.zero_mul, Nat.zero_add, Nat.reduceAdd] at hx10_0); (try rw [show ((0 : Int)).toNat = 0 from rfl] at hf10_0); (try simp only [Nat.reduceMul, Nat.zero_mul, Nat.zero_add, Nat.reduceAdd] at hf10_0); replace p10 := eq_true p10; replace q10 := eq_true q10; obtain ⟨hy13_, hz13_⟩ := Kd.R_celln false HO331.out (0 : Int) (by omega) (of_decide_eq_true (by first | (with_reducible assumption) | assumption)); (try simp only [Int.reduceToNat, Int.toNat_zero, Int.toNat_ofNat, Nat.reduceMul, Nat.zero_mul, Nat.zero_add] at hy13_ hz13_); (try rw [show ((0 : Int)).toNat = 0 from rfl] at hy13_); (try rw [show ((0 : Int)).toNat = 0 from rfl] at hz13_); have HP13 := Kd.R_putg HO331.out (0 : Int) true) | ((with_reducible refine gate_store (t := 4) (p := 22) rfl ?_); (try (rw [drewN_self w11]; generalize hq_ : World.drewN w11 _ = w11; have n0_ := Aside0.mk (Kd.R_at hq_ HO331.out); have n1_ := Aside0.mk (below_at hq_ HB.out); (try (have hx10_0z := cell_at hq_ hx10_0)); (try (have hf10_0z := froz_at hq_ hf10_0)); clear hq_ HO331 HB; have HO331 := n0_; have HB := n1_; clear n0_ n1_; (try (obtain ⟨hy13_, hz13_⟩ := Kd.R_celln false HO331.out (0 : Int) (by omega) (of_decide_eq_true (by first | (with_reducible assumption) | assumption)))); (try (try simp only [Int.reduceToNat, Int.toNat_zero, Int.toNat_ofNat, Nat.reduceMul, Nat.zero_mul, Nat.zero_add] at hy13_ hz13_)); (try (try rw [show ((0 : Int)).toNat = 0 from rfl] at hy13_)); (try (try rw [show ((0 : Int)).toNat = 0 from rfl] at hz13_)); (try (have HP13 := Kd.R_putg HO331.out (0 : Int) true)))); refine store_event (t := 4) (p := 22) (v := ?vo_w14) (w1 := (w11.setCell ⟨go10, (0 : Int).toNat, none⟩ (.bool true))) ?hg ?ho ?hn ?hr ?_; (case ho => rfl); (case hg => rfl); (case hn => rfl); (case hr => first | (go_simp; done) | (go_simp; rfl)); intro w14 hw; have hg : w11.grownBy w14 (some go10) := (by rw [hw]; exact HP13.2); have hp_ : Kd.R Kd.bool 4 w14 w.heap.size (fun _ => True) (.slice (some ⟨go10, 0, none⟩) y329.length co10) y332 := (by rw [hw, Ny332.out]; exact HP13.1); clear HP13; have n0_ := Aside0.mk (hp_); have n1_ := Aside0.mk ((by rw [hw]; exact below_set (HB.out) GB10.out : Below w.heap.size w w14)); clear HO331; clear HB; have HO331 := n0_; have HB := n1_; clear n0_ n1_; clear hg hw hp_)); try go_wp2_with (first | ((with_reducible refine gate_dst (N := 20) rfl ?_); (try (refine gate_guard (by rfl) ?_; dsimp only)); refine Kd.R_make Kd.bool _ 4 rfl (N := 20) rfl 46 _ _ rfl ji6 rfl rfl Tryd.underlying46 (.bool false) 1 info4 rfl (by decide) (by omega) false (ok := fun _ => True) (okp := fun _ => True) rfl (fun _ hk => hk) trivial (of_decide_eq_true (by first | (with_reducible assumption) | assumption)) (Nat.le_trans (Nat.mul_le_mul_right _ (of_decide_eq_true (by first | (with_reducible assumption) | assumption) : ji6.toNat ≤ 281474976710656)) (by omega)) (Below.refl _ _) (Nat.le_refl _) ?_; intro v330 w11 ho12 hb hg_ hnew_; clear hg_ hnew_; (first | rw [← Ny329.out] at ho12 | (simp only [Int.reduceToNat] at ho12; rw [← Ny329.out] at ho12)); have n0_ := Aside0.mk (Kd.R_lower ho12 (below_size (by repeat (first | (with_reducible first | exact HB.out | apply below_alloc | apply pw_below_drewN | apply below_drew1) | exact HB.out)))); have n1_ := Aside0.mk (below_step (by repeat (first | (with_reducible first | exact HB.out | apply below_alloc | apply pw_below_drewN | apply below_drew1) | exact HB.out)) hb); clear HB; have HO331 := n0_; have HB := n1_; clear n0_ n1_; clear hb ho12; have p10 : 0 ≤ (0 : Int) := (by omega); have q10 : (0 : Int) < ((y329.length : Int) : Int) := of_decide_eq_true (by first | (with_reducible assumption) | assumption); have qi10 : (0 < y329.length) = True := eq_true (by omega); obtain ⟨go10, co10, eo10, gb10, gl10, cl10, HG10⟩ := Kd.R_form HO331.out (by omega); (first | cases eo10 | (injection eo10 with ea_ en_ ec_; (first | subst ea_ | (injection ea_ with ea_; subst ea_)); subst ec_; clear en_)); have GB10 := Aside0.mk gb10; have GG10 := Aside0.mk HG10; clear gb10 gl10 HG10; obtain ⟨hx10_0, hf10_0⟩ := Kd.R_celln false HO331.out (0 : Int) p10 q10; (try rw [show ((0 : Int)).toNat = 0 from rfl] at hx10_0); (try simp only [Nat.reduceMul, Nat.zero_mul, Nat.zero_add, Nat.reduceAdd] at hx10_0); (try rw [show ((0 : Int)).toNat = 0 from rfl] at hf10_0); (try simp only [Nat.reduceMul, Nat.zero_mul, Nat.zero_add, Nat.reduceAdd] at hf10_0); replace p10 := eq_true p10; replace q10 := eq_true q10; obtain ⟨hy13_, hz13_⟩ := Kd.R_celln false HO331.out (0 : Int) (by omega) (of_decide_eq_true (by first | (with_reducible assumption) | assumption)); (try simp only [Int.reduceToNat, Int.toNat_zero, Int.toNat_ofNat, Nat.reduceMul, Nat.zero_mul, Nat.zero_add] at hy13_ hz13_); (try rw [show ((0 : Int)).toNat = 0 from rfl] at hy13_); (try rw [show ((0 : Int)).toNat = 0 from rfl] at hz13_); have HP13 := Kd.R_putg HO331.out (0 : Int) true) | ((with_reducible refine gate_store (t := 4) (p := 22) rfl ?_); (try (rw [drewN_self w11]; generalize hq_ : World.drewN w11 _ = w11; have n0_ := Aside0.mk (Kd.R_at hq_ HO331.out); have n1_ := Aside0.mk (below_at hq_ HB.out); (try (have hx10_0z := cell_at hq_ hx10_0)); (try (have hf10_0z := froz_at hq_ hf10_0)); clear hq_ HO331 HB; have HO331 := n0_; have HB := n1_; clear n0_ n1_; (try (obtain ⟨hy13_, hz13_⟩ := Kd.R_celln false HO331.out (0 : Int) (by omega) (of_decide_eq_true (by first | (with_reducible assumption) | assumption)))); (try (try simp only [Int.reduceToNat, Int.toNat_zero, Int.toNat_ofNat, Nat.reduceMul, Nat.zero_mul, Nat.zero_add] at hy13_ hz13_)); (try (try rw [show ((0 : Int)).toNat = 0 from rfl] at hy13_)); (try (try rw [show ((0 : Int)).toNat = 0 from rfl] at hz13_)); (try (have HP13 := Kd.R_putg HO331.out (0 : Int) true)))); refine store_event (t := 4) (p := 22) (v := ?vo_w14) (w1 := (w11.setCell ⟨go10, (0 : Int).toNat, none⟩ (.bool true))) ?hg ?ho ?hn ?hr ?_; (case ho => rfl); (case hg => rfl); (case hn => rfl); (case hr => first | (go_simp; done) | (go_simp; rfl)); intro w14 hw; have hg : w11.grownBy w14 (some go10) := (by rw [hw]; exact HP13.2); have hp_ : Kd.R Kd.bool 4 w14 w.heap.size (fun _ => True) (.slice (some ⟨go10, 0, none⟩) y329.length co10) y332 := (by rw [hw, Ny332.out]; exact HP13.1); clear HP13; have n0_ := Aside0.mk (hp_); have n1_ := Aside0.mk ((by rw [hw]; exact below_set (HB.out) GB10.out : Below w.heap.size w w14)); clear HO331; clear HB; have HO331 := n0_; have HB := n1_; clear n0_ n1_; clear hg hw hp_)))
              go_loopg [5, 6] kj2 (fun kq v5 v6 w' => ∃ (x5_2 : List Bool) (x6_2 : Int), v6 = .int .i64 x6_2 ∧ Aside0 (dolmenref1_Match.l0 kq a0 a1 x5_2 x6_2 = some r) ∧ Aside0 (kq ≤ kj2) ∧ Aside0 (Kd.R Kd.bool 4 w' w.heap.size (fun _ => True) v5 x5_2) ∧ Aside0 (Below w.heap.size w w'))
              case atStart => exact ⟨(y332), (0), (by first | rfl | (simp; done) | (simp [*]; done)), H', ⟨Nat.le_refl _⟩, ⟨by (with_reducible repeat (first | apply Kd.R_alloc | apply Kd.R_drewN | apply Kd.R_drew)); exact HO331.out⟩, ⟨by repeat (first | (with_reducible first | exact HB.out | apply below_alloc | apply pw_below_drewN | apply below_drew1) | exact HB.out)⟩⟩
              case round =>
                clear H'
                try clear p1
                try clear q1
                try clear hx1
                try clear qi1
                try clear c2
                try clear p2
                try clear c4
                try clear c4b0
                try clear c4b1
                try clear c5
                try clear p6
                try clear c7
                try clear c7b0
                try clear c7b1
                try clear c8
                try clear c8b0
                try clear c8b1
                try clear c9
                try clear c9b0
                try clear c9b1
                try clear p10
                try clear q10
                try clear hx10
                try clear qi10
                try clear hf10
                try clear hx10_0
                try clear p10
                try clear p2
                try clear q10
                obtain ⟨x5_2, x6_2, rfl, HA, HK2, HO_5, HB⟩ := hrel
                cases gk with
                | zero => exact absurd HA.out (by simp [dolmenref1_Match.l0])
                | succ k2 =>
                  have H := HA.out
                  clear HA
                  simp only [dolmenref1_Match.l0] at H
                  by_cases c15 : x6_2 < (a0.size : Int)
                  · rw [if_pos c15] at H
                    have c15b0 : decide (x6_2 < (a0.size : Int)) = true := decide_eq_true c15
                    clear c15
                    try clear hji6w
                    try clear hji6
                    try clear hji16w
                    try clear hji16
                    try clear hji6w
                    try clear hji6
                    obtain ⟨ji16, hji16⟩ : ∃ j_ : Int, (wrap64 ((a1.size : Int) + 1)) = j_ := ⟨_, rfl⟩
                    replace H : (if 0 ≤ (ji16) then (if (ji16 : Int).toNat ≤ 281474976710656 then (dolmenref1_Match.l1 k2 a0 a1 x5_2 x6_2 (List.replicate (ji16 : Int).toNat false) 0) else (none)) else (none)) = some r := by first | (rw [hji16] at H; exact H) | (simp only [hji16] at H ⊢; exact H)
                    have hji16w : (IntKind.i64.wrap ((a1.size : Int) + 1)) = ji16 := (i64_w _).trans hji16
                    by_cases c17 : 0 ≤ (ji16)
                    · rw [if_pos c17] at H
                      have c17b0 := eq_true c17
                      have c17b1 : decide (0 ≤ (ji16)) = true := decide_eq_true c17
                      clear c17
                      by_cases c18 : (ji16 : Int).toNat ≤ 281474976710656
                      · rw [if_pos c18] at H
                        have c18b0 := eq_true c18
                        have c18b1 : decide ((ji16 : Int).toNat ≤ 281474976710656) = true := decide_eq_true c18
                        clear c18
                        obtain ⟨y334, hy334⟩ : ∃ y_ : List Bool, y_ = (List.replicate (ji16 : Int).toNat false) := ⟨_, rfl⟩
                        replace H : (dolmenref1_Match.l1 k2 a0 a1 x5_2 x6_2 y334 0) = some r := by first | (rw [hy334]; with_reducible exact H) | (have H2_ := (Option.bind_some _ _).symm.trans H; rw [hy334]; with_reducible exact H2_) | (have H2_ := (Option.bind_some _ _).symm.trans H; with_reducible exact H2_) | with_reducible exact H | (rw [hy334]; exact H) | exact H
                        have Ny334 := Aside0.mk hy334
                        clear hy334
                        have H' := Aside0.mk H
                        clear H
                        go_wp2_with (first | ((with_reducible refine gate_dst (N := 32) rfl ?_); (try (refine gate_guard (by rfl) ?_; dsimp only)); refine Kd.R_make Kd.bool _ 4 rfl (N := 32) rfl 46 _ _ rfl ji16 rfl rfl Tryd.underlying46 (.bool false) 1 info4 rfl (by decide) (by omega) false (ok := fun _ => True) (okp := fun _ => True) rfl (fun _ hk => hk) trivial (of_decide_eq_true (by first | (with_reducible assumption) | assumption)) (Nat.le_trans (Nat.mul_le_mul_right _ (of_decide_eq_true (by first | (with_reducible assumption) | assumption) : ji16.toNat ≤ 281474976710656)) (by omega)) (Below.refl _ _) (Nat.le_refl _) ?_; intro v335 w19 ho20 hb hg_ hnew_; clear hg_ hnew_; (first | rw [← Ny334.out] at ho20 | (simp only [Int.reduceToNat] at ho20; rw [← Ny334.out] at ho20)); have n0_ := Aside0.mk (Kd.R_elder' (by (with_reducible repeat (first | apply Kd.R_alloc | apply Kd.R_drewN | apply Kd.R_drew)); exact HO_5.out) (Kd.R_base ho20) hb); have n1_ := Aside0.mk (Kd.R_lower (Kd.R_new' ho20 (Kd.R_lt (by (with_reducible repeat (first | apply Kd.R_alloc | apply Kd.R_drewN | apply Kd.R_drew)); exact HO_5.out))) (below_size (by repeat (first | (with_reducible first | exact HB.out | apply below_alloc | apply pw_below_drewN | apply below_drew1) | exact HB.out)))); have n2_ := Aside0.mk (below_step (by repeat (first | (with_reducible first | exact HB.out | apply below_alloc | apply pw_below_drewN | apply below_drew1) | exact HB.out)) hb); clear HO_5; clear HB; have HO_5 := n0_; have HO336 := n1_; have HB := n2_; clear n0_ n1_ n2_; clear hb ho20))
                        repeat (go_quiet (first | ((with_reducible refine gate_dst (N := 32) rfl ?_); (try (refine gate_guard (by rfl) ?_; dsimp only)); refine Kd.R_make Kd.bool _ 4 rfl (N := 32) rfl 46 _ _ rfl ji16 rfl rfl Tryd.underlying46 (.bool false) 1 info4 rfl (by decide) (by omega) false (ok := fun _ => True) (okp := fun _ => True) rfl (fun _ hk => hk) trivial (of_decide_eq_true (by first | (with_reducible assumption) | assumption)) (Nat.le_trans (Nat.mul_le_mul_right _ (of_decide_eq_true (by first | (with_reducible assumption) | assumption) : ji16.toNat ≤ 281474976710656)) (by omega)) (Below.refl _ _) (Nat.le_refl _) ?_; intro v335 w19 ho20 hb hg_ hnew_; clear hg_ hnew_; (first | rw [← Ny334.out] at ho20 | (simp only [Int.reduceToNat] at ho20; rw [← Ny334.out] at ho20)); have n0_ := Aside0.mk (Kd.R_elder' (by (with_reducible repeat (first | apply Kd.R_alloc | apply Kd.R_drewN | apply Kd.R_drew)); exact HO_5.out) (Kd.R_base ho20) hb); have n1_ := Aside0.mk (Kd.R_lower (Kd.R_new' ho20 (Kd.R_lt (by (with_reducible repeat (first | apply Kd.R_alloc | apply Kd.R_drewN | apply Kd.R_drew)); exact HO_5.out))) (below_size (by repeat (first | (with_reducible first | exact HB.out | apply below_alloc | apply pw_below_drewN | apply below_drew1) | exact HB.out)))); have n2_ := Aside0.mk (below_step (by repeat (first | (with_reducible first | exact HB.out | apply below_alloc | apply pw_below_drewN | apply below_drew1) | exact HB.out)) hb); clear HO_5; clear HB; have HO_5 := n0_; have HO336 := n1_; have HB := n2_; clear n0_ n1_ n2_; clear hb ho20)); try go_wp2_with (first | ((with_reducible refine gate_dst (N := 32) rfl ?_); (try (refine gate_guard (by rfl) ?_; dsimp only)); refine Kd.R_make Kd.bool _ 4 rfl (N := 32) rfl 46 _ _ rfl ji16 rfl rfl Tryd.underlying46 (.bool false) 1 info4 rfl (by decide) (by omega) false (ok := fun _ => True) (okp := fun _ => True) rfl (fun _ hk => hk) trivial (of_decide_eq_true (by first | (with_reducible assumption) | assumption)) (Nat.le_trans (Nat.mul_le_mul_right _ (of_decide_eq_true (by first | (with_reducible assumption) | assumption) : ji16.toNat ≤ 281474976710656)) (by omega)) (Below.refl _ _) (Nat.le_refl _) ?_; intro v335 w19 ho20 hb hg_ hnew_; clear hg_ hnew_; (first | rw [← Ny334.out] at ho20 | (simp only [Int.reduceToNat] at ho20; rw [← Ny334.out] at ho20)); have n0_ := Aside0.mk (Kd.R_elder' (by (with_reducible repeat (first | apply Kd.R_alloc | apply Kd.R_drewN | apply Kd.R_drew)); exact HO_5.out) (Kd.R_base ho20) hb); have n1_ := Aside0.mk (Kd.R_lower (Kd.R_new' ho20 (Kd.R_lt (by (with_reducible repeat (first | apply Kd.R_alloc | apply Kd.R_drewN | apply Kd.R_drew)); exact HO_5.out))) (below_size (by repeat (first | (with_reducible first | exact HB.out | apply below_alloc | apply pw_below_drewN | apply below_drew1) | exact HB.out)))); have n2_ := Aside0.mk (below_step (by repeat (first | (with_reducible first | exact HB.out | apply below_alloc | apply pw_below_drewN | apply below_drew1) | exact HB.out)) hb); clear HO_5; clear HB; have HO_5 := n0_; have HO336 := n1_; have HB := n2_; clear n0_ n1_ n2_; clear hb ho20)))
                        go_loopg [8] k2 (fun kq v8 w' => ∃ (x7_3 : List Bool) (x8_3 : Int), v8 = .int .i64 x8_3 ∧ Aside0 (dolmenref1_Match.l1 kq a0 a1 x5_2 x6_2 x7_3 x8_3 = some r) ∧ Aside0 (kq ≤ k2) ∧ Aside0 (Kd.R Kd.bool 4 w' w.heap.size (fun k_ => some k_ ≠ (v335 : Value).ownBlock) u5 x5_2) ∧ Aside0 (Kd.R Kd.bool 4 w' w.heap.size (fun k_ => some k_ ≠ (u5 : Value).ownBlock) v335 x7_3) ∧ Aside0 (Below w.heap.size w w'))
                        case atStart => exact ⟨(y334), (0), (by first | rfl | (simp; done) | (simp [*]; done)), H', ⟨Nat.le_refl _⟩, ⟨by (with_reducible repeat (first | apply Kd.R_alloc | apply Kd.R_drewN | apply Kd.R_drew)); exact Kd.R_mono HO_5.out (fun _ hk => hk.2)⟩, ⟨by (with_reducible repeat (first | apply Kd.R_alloc | apply Kd.R_drewN | apply Kd.R_drew)); exact Kd.R_mono HO336.out (fun _ hk => hk.2)⟩, ⟨by repeat (first | (with_reducible first | exact HB.out | apply below_alloc | apply pw_below_drewN | apply below_drew1) | exact HB.out)⟩⟩
                        case round =>
                          clear H'
                          try clear c1
                          try clear p1
                          try clear q1
                          try clear hx1
                          try clear qi1
                          try clear c2
                          try clear p2
                          try clear c4
                          try clear c4b0
                          try clear c4b1
                          try clear c5
                          try clear p6
                          try clear c7
                          try clear c7b0
                          try clear c7b1
                          try clear c8
                          try clear c8b0
                          try clear c8b1
                          try clear c9
                          try clear c9b0
                          try clear c9b1
                          try clear p10
                          try clear q10
                          try clear hx10
                          try clear qi10
                          try clear hf10
                          try clear c15
                          try clear c15b0
                          try clear c17
                          try clear c17b0
                          try clear c17b1
                          try clear c18
                          try clear c18b0
                          try clear c18b1
                          try clear hx10_0
                          try clear p1
                          try clear p10
                          try clear p2
                          try clear p6
                          try clear q1
                          try clear q10
                          obtain ⟨x7_3, x8_3, rfl, HA, HK3, HO_5, HO_7, HB⟩ := hrel
                          cases gk with
                          | zero => exact absurd HA.out (by simp [dolmenref1_Match.l1])
                          | succ k3 =>
                            have H := HA.out
                            clear HA
                            simp only [dolmenref1_Match.l1] at H
                            by_cases c21 : x8_3 ≤ (a1.size : Int)
                            · rw [if_pos c21] at H
                              have c21b0 : decide (x8_3 ≤ (a1.size : Int)) = true := decide_eq_true c21
                              clear c21
                              by_cases c22 : 0 ≤ x6_2
                              · rw [if_pos c22] at H
                                have c22b0 : decide (0 ≤ x6_2) = true := decide_eq_true c22
                                clear c22
                                by_cases c23 : x6_2 < (a0.size : Int)
                                · rw [if_pos c23] at H
                                  have c23b0 : decide (x6_2 < (a0.size : Int)) = true := decide_eq_true c23
                                  clear c23
                                  by_cases c25 : (bt a0 x6_2) = 42
                                  · rw [if_pos c25] at H
                                    have c25b0 : ((bt a0 x6_2) == 42) = true := beq_iff_eq.mpr c25
                                    have c25b1 : ((bt a0 x6_2) != 42) = false := bne_eq_false_iff_eq.mpr c25
                                    clear c25
                                    by_cases c26 : 0 ≤ x8_3
                                    · rw [if_pos c26] at H
                                      have c26b0 : decide (0 ≤ x8_3) = true := decide_eq_true c26
                                      clear c26
                                      by_cases c27 : x8_3 < (x5_2.length : Int)
                                      · rw [if_pos c27] at H
                                        have c27b0 : decide (x8_3 < (x5_2.length : Int)) = true := decide_eq_true c27
                                        clear c27
                                        obtain ⟨bq28, hbq28⟩ : ∃ b_ : Bool, b_ = (rdOf false x5_2 x8_3) := ⟨_, rfl⟩
                                        replace H : (if bq28 = true then (if x8_3 < (x7_3.length : Int) then (dolmenref1_Match.l1 k3 a0 a1 x5_2 x6_2 (x7_3.set (x8_3 : Int).toNat true) (wrap64 (x8_3 + 1))) else (none)) else (if x8_3 > 0 then (if 0 ≤ (wrap64 (x8_3 - 1)) then (if (wrap64 (x8_3 - 1)) < (x7_3.length : Int) then (if x8_3 < (x7_3.length : Int) then (dolmenref1_Match.l1 k3 a0 a1 x5_2 x6_2 (x7_3.set (x8_3 : Int).toNat (rdOf false x7_3 (wrap64 (x8_3 - 1)))) (wrap64 (x8_3 + 1))) else (none)) else (none)) else (none)) else (if x8_3 < (x7_3.length : Int) then (dolmenref1_Match.l1 k3 a0 a1 x5_2 x6_2 (x7_3.set (x8_3 : Int).toNat false) (wrap64 (x8_3 + 1))) else (none)))) = some r := by rw [← hbq28] at H; exact H
                                        have Nbq28 := Aside0.mk hbq28
                                        clear hbq28
                                        by_cases c29 : bq28 = true
                                        · subst c29
                                          have H1 : (if x8_3 < (x7_3.length : Int) then (dolmenref1_Match.l1 k3 a0 a1 x5_2 x6_2 (x7_3.set (x8_3 : Int).toNat true) (wrap64 (x8_3 + 1))) else (none)) = some r := by rw [if_pos rfl] at H; exact H
                                          clear H
                                          have H := H1
                                          clear H1
                                          by_cases c30 : x8_3 < (x7_3.length : Int)
                                          · rw [if_pos c30] at H
                                            have c30b0 : decide (x8_3 < (x7_3.length : Int)) = true := decide_eq_true c30
                                            clear c30
                                            obtain ⟨y338, hy338⟩ : ∃ y_ : List Bool, y_ = (x7_3.set (x8_3 : Int).toNat true) := ⟨_, rfl⟩
                                            replace H : (dolmenref1_Match.l1 k3 a0 a1 x5_2 x6_2 y338 (wrap64 (x8_3 + 1))) = some r := by first | (rw [hy338]; with_reducible exact H) | (have H2_ := (Option.bind_some _ _).symm.trans H; rw [hy338]; with_reducible exact H2_) | (have H2_ := (Option.bind_some _ _).symm.trans H; with_reducible exact H2_) | with_reducible exact H | (rw [hy338]; exact H) | exact H
                                            have Ny338 := Aside0.mk hy338
                                            clear hy338
                                            have H' := Aside0.mk H
                                            clear H
                                            have p24 : 0 ≤ (x6_2 : Int) := of_decide_eq_true (by first | (with_reducible assumption) | assumption)
                                            have q24 : x6_2 < (a0.size : Int) := of_decide_eq_true (by first | (with_reducible assumption) | assumption)
                                            have hx24 := bt_at a0 x6_2
                                            replace p24 := eq_true p24
                                            replace q24 := eq_true q24
                                            obtain ⟨Ao32, co32, eo32⟩ := Kd.R_slice HO_5.out
                                            subst eo32
                                            have p337 : 0 ≤ (x8_3 : Int) := of_decide_eq_true (by first | (with_reducible assumption) | assumption)
                                            have q337 : x8_3 < (x5_2.length : Int) := of_decide_eq_true (by first | (with_reducible assumption) | assumption)
                                            obtain ⟨ad337, e337, hx337_0⟩ := Kd.at_bool (Kd.R_reads' HO_5.out).2.2 x8_3 p337 q337
                                            (try rw [← Nbq28.out] at hx337_0)
                                            cases e337
                                            replace p337 := eq_true p337
                                            replace q337 := eq_true q337
                                            have p31 : 0 ≤ (x8_3 : Int) := of_decide_eq_true (by first | (with_reducible assumption) | assumption)
                                            have q31 : (x8_3 : Int) < ((x7_3.length : Int) : Int) := of_decide_eq_true (by first | (with_reducible assumption) | assumption)
                                            obtain ⟨go31, co31, eo31, gb31, gl31, cl31, HG31⟩ := Kd.R_form HO_7.out (by omega)
                                            (first | cases eo31 | (injection eo31 with ea_ en_ ec_; (first | subst ea_ | (injection ea_ with ea_; subst ea_)); subst ec_; clear en_))
                                            have GB31 := Aside0.mk gb31
                                            have GG31 := Aside0.mk HG31
                                            clear gb31 gl31 HG31
                                            obtain ⟨hx31_0, hf31_0⟩ := Kd.R_celln false HO_7.out (x8_3 : Int) p31 q31
                                            replace p31 := eq_true p31
                                            replace q31 := eq_true q31
                                            have HP33 := Kd.R_putg HO_7.out (x8_3 : Int) true
                                            go_wp2_with (first | ((with_reducible refine gate_store (t := 4) (p := 61) rfl ?_); (try (rw [drewN_self wr]; generalize hq_ : World.drewN wr _ = wr; have n0_ := Aside0.mk (Kd.R_at hq_ HO_5.out); have n1_ := Aside0.mk (Kd.R_at hq_ HO_7.out); have n2_ := Aside0.mk (below_at hq_ HB.out); (try (have hx31_0z := cell_at hq_ hx31_0)); (try (have hf31_0z := froz_at hq_ hf31_0)); clear hq_ HO_5 HO_7 HB; have HO_5 := n0_; have HO_7 := n1_; have HB := n2_; clear n0_ n1_ n2_; (try (have HP33 := Kd.R_putg HO_7.out (x8_3 : Int) true)))); refine store_event (t := 4) (p := 61) (v := ?vo_w34) (w1 := (wr.setCell ⟨go31, (x8_3 : Int).toNat, none⟩ (.bool true))) ?hg ?ho ?hn ?hr ?_; (case ho => rfl); (case hg => rfl); (case hn => rfl); (case hr => first | (go_simp; done) | (go_simp; rfl)); intro w34 hw; have hg : wr.grownBy w34 (some go31) := (by rw [hw]; exact HP33.2); have hp_ : Kd.R Kd.bool 4 w34 w.heap.size (fun k_ => some k_ ≠ (.slice (some ad337) x5_2.length co32 : Value).ownBlock) (.slice (some ⟨go31, 0, none⟩) x7_3.length co31) y338 := (by rw [hw, Ny338.out]; exact HP33.1); clear HP33; have n0_ := Aside0.mk (Kd.R_after (v := (.slice (some ⟨go31, 0, none⟩) x7_3.length co31)) (v1 := (.slice (some ⟨go31, 0, none⟩) x7_3.length co31)) (ok := (fun _ => True)) (by (with_reducible repeat (first | apply Kd.R_alloc | apply Kd.R_drewN | apply Kd.R_drew)); exact Kd.R_mono HO_5.out (fun _ hk => ⟨trivial, hk⟩)) hg (.inl rfl)); have n1_ := Aside0.mk (hp_); have n2_ := Aside0.mk ((by rw [hw]; exact below_set (HB.out) GB31.out : Below w.heap.size w w34)); clear HO_5; clear HO_7; clear HB; have HO_5 := n0_; have HO_7 := n1_; have HB := n2_; clear n0_ n1_ n2_; clear hg hw hp_))
                                            repeat (go_quiet (first | ((with_reducible refine gate_store (t := 4) (p := 61) rfl ?_); (try (rw [drewN_self wr]; generalize hq_ : World.drewN wr _ = wr; have n0_ := Aside0.mk (Kd.R_at hq_ HO_5.out); have n1_ := Aside0.mk (Kd.R_at hq_ HO_7.out); have n2_ := Aside0.mk (below_at hq_ HB.out); (try (have hx31_0z := cell_at hq_ hx31_0)); (try (have hf31_0z := froz_at hq_ hf31_0)); clear hq_ HO_5 HO_7 HB; have HO_5 := n0_; have HO_7 := n1_; have HB := n2_; clear n0_ n1_ n2_; (try (have HP33 := Kd.R_putg HO_7.out (x8_3 : Int) true)))); refine store_event (t := 4) (p := 61) (v := ?vo_w34) (w1 := (wr.setCell ⟨go31, (x8_3 : Int).toNat, none⟩ (.bool true))) ?hg ?ho ?hn ?hr ?_; (case ho => rfl); (case hg => rfl); (case hn => rfl); (case hr => first | (go_simp; done) | (go_simp; rfl)); intro w34 hw; have hg : wr.grownBy w34 (some go31) := (by rw [hw]; exact HP33.2); have hp_ : Kd.R Kd.bool 4 w34 w.heap.size (fun k_ => some k_ ≠ (.slice (some ad337) x5_2.length co32 : Value).ownBlock) (.slice (some ⟨go31, 0, none⟩) x7_3.length co31) y338 := (by rw [hw, Ny338.out]; exact HP33.1); clear HP33; have n0_ := Aside0.mk (Kd.R_after (v := (.slice (some ⟨go31, 0, none⟩) x7_3.length co31)) (v1 := (.slice (some ⟨go31, 0, none⟩) x7_3.length co31)) (ok := (fun _ => True)) (by (with_reducible repeat (first | apply Kd.R_alloc | apply Kd.R_drewN | apply Kd.R_drew)); exact Kd.R_mono HO_5.out (fun _ hk => ⟨trivial, hk⟩)) hg (.inl rfl)); have n1_ := Aside0.mk (hp_); have n2_ := Aside0.mk ((by rw [hw]; exact below_set (HB.out) GB31.out : Below w.heap.size w w34)); clear HO_5; clear HO_7; clear HB; have HO_5 := n0_; have HO_7 := n1_; have HB := n2_; clear n0_ n1_ n2_; clear hg hw hp_)); try go_wp2_with (first | ((with_reducible refine gate_store (t := 4) (p := 61) rfl ?_); (try (rw [drewN_self wr]; generalize hq_ : World.drewN wr _ = wr; have n0_ := Aside0.mk (Kd.R_at hq_ HO_5.out); have n1_ := Aside0.mk (Kd.R_at hq_ HO_7.out); have n2_ := Aside0.mk (below_at hq_ HB.out); (try (have hx31_0z := cell_at hq_ hx31_0)); (try (have hf31_0z := froz_at hq_ hf31_0)); clear hq_ HO_5 HO_7 HB; have HO_5 := n0_; have HO_7 := n1_; have HB := n2_; clear n0_ n1_ n2_; (try (have HP33 := Kd.R_putg HO_7.out (x8_3 : Int) true)))); refine store_event (t := 4) (p := 61) (v := ?vo_w34) (w1 := (wr.setCell ⟨go31, (x8_3 : Int).toNat, none⟩ (.bool true))) ?hg ?ho ?hn ?hr ?_; (case ho => rfl); (case hg => rfl); (case hn => rfl); (case hr => first | (go_simp; done) | (go_simp; rfl)); intro w34 hw; have hg : wr.grownBy w34 (some go31) := (by rw [hw]; exact HP33.2); have hp_ : Kd.R Kd.bool 4 w34 w.heap.size (fun k_ => some k_ ≠ (.slice (some ad337) x5_2.length co32 : Value).ownBlock) (.slice (some ⟨go31, 0, none⟩) x7_3.length co31) y338 := (by rw [hw, Ny338.out]; exact HP33.1); clear HP33; have n0_ := Aside0.mk (Kd.R_after (v := (.slice (some ⟨go31, 0, none⟩) x7_3.length co31)) (v1 := (.slice (some ⟨go31, 0, none⟩) x7_3.length co31)) (ok := (fun _ => True)) (by (with_reducible repeat (first | apply Kd.R_alloc | apply Kd.R_drewN | apply Kd.R_drew)); exact Kd.R_mono HO_5.out (fun _ hk => ⟨trivial, hk⟩)) hg (.inl rfl)); have n1_ := Aside0.mk (hp_); have n2_ := Aside0.mk ((by rw [hw]; exact below_set (HB.out) GB31.out : Below w.heap.size w w34)); clear HO_5; clear HO_7; clear HB; have HO_5 := n0_; have HO_7 := n1_; have HB := n2_; clear n0_ n1_ n2_; clear hg hw hp_)))
                                            go_roundg k3
                                            case measure => have := HJ2.out; have := HK2.out; have := HK3.out; omega
                                            case rel => exact ⟨(y338), (wrap64 (x8_3 + 1)), (by first | rfl | (simp; done) | (simp [*]; done)), H', ⟨by have := HJ2.out; have := HK2.out; have := HK3.out; omega⟩, ⟨by (with_reducible repeat (first | apply Kd.R_alloc | apply Kd.R_drewN | apply Kd.R_drew)); exact Kd.R_mono HO_5.out (fun _ hk => hk.2)⟩, ⟨by (with_reducible repeat (first | apply Kd.R_alloc | apply Kd.R_drewN | apply Kd.R_drew)); exact HO_7.out⟩, ⟨by repeat (first | (with_reducible first | exact HB.out | apply below_alloc | apply pw_below_drewN | apply below_drew1) | exact HB.out)⟩⟩
                                          · rw [if_neg c30] at H
                                            exact absurd H (by simp)
                                        · replace c29 := Bool.eq_false_iff.mpr c29
                                          subst c29
                                          have H1 : (if x8_3 > 0 then (if 0 ≤ (wrap64 (x8_3 - 1)) then (if (wrap64 (x8_3 - 1)) < (x7_3.length : Int) then (if x8_3 < (x7_3.length : Int) then (dolmenref1_Match.l1 k3 a0 a1 x5_2 x6_2 (x7_3.set (x8_3 : Int).toNat (rdOf false x7_3 (wrap64 (x8_3 - 1)))) (wrap64 (x8_3 + 1))) else (none)) else (none)) else (none)) else (if x8_3 < (x7_3.length : Int) then (dolmenref1_Match.l1 k3 a0 a1 x5_2 x6_2 (x7_3.set (x8_3 : Int).toNat false) (wrap64 (x8_3 + 1))) else (none))) = some r := by rw [if_neg (show ¬ (false = true) by decide)] at H; exact H
                                          clear H
                                          have H := H1
                                          clear H1
                                          by_cases c35 : x8_3 > 0
                                          · rw [if_pos c35] at H
                                            have c35b0 : decide (0 < x8_3) = true := decide_eq_true c35
                                            clear c35
                                            obtain ⟨ji36, hji36⟩ : ∃ j_ : Int, (wrap64 (x8_3 - 1)) = j_ := ⟨_, rfl⟩
                                            replace H : (if 0 ≤ (ji36) then (if (ji36) < (x7_3.length : Int) then (if x8_3 < (x7_3.length : Int) then (dolmenref1_Match.l1 k3 a0 a1 x5_2 x6_2 (x7_3.set (x8_3 : Int).toNat (rdOf false x7_3 (ji36))) (wrap64 (x8_3 + 1))) else (none)) else (none)) else (none)) = some r := by first | (rw [hji36] at H; exact H) | (simp only [hji36] at H ⊢; exact H)
                                            have hji36w : (IntKind.i64.wrap (x8_3 - 1)) = ji36 := (i64_w _).trans hji36
                                            by_cases c37 : 0 ≤ (ji36)
                                            · rw [if_pos c37] at H
                                              have c37b0 : decide (0 ≤ (ji36)) = true := decide_eq_true c37
                                              clear c37
                                              by_cases c38 : (ji36) < (x7_3.length : Int)
                                              · rw [if_pos c38] at H
                                                have c38b0 : decide ((ji36) < (x7_3.length : Int)) = true := decide_eq_true c38
                                                clear c38
                                                by_cases c39 : x8_3 < (x7_3.length : Int)
                                                · rw [if_pos c39] at H
                                                  have c39b0 : decide (x8_3 < (x7_3.length : Int)) = true := decide_eq_true c39
                                                  clear c39
                                                  obtain ⟨y340, hy340⟩ : ∃ y_ : List Bool, y_ = (x7_3.set (x8_3 : Int).toNat (rdOf false x7_3 (ji36))) := ⟨_, rfl⟩
                                                  replace H : (dolmenref1_Match.l1 k3 a0 a1 x5_2 x6_2 y340 (wrap64 (x8_3 + 1))) = some r := by first | (rw [hy340]; with_reducible exact H) | (have H2_ := (Option.bind_some _ _).symm.trans H; rw [hy340]; with_reducible exact H2_) | (have H2_ := (Option.bind_some _ _).symm.trans H; with_reducible exact H2_) | with_reducible exact H | (rw [hy340]; exact H) | exact H
                                                  have Ny340 := Aside0.mk hy340
                                                  clear hy340
                                                  have H' := Aside0.mk H
                                                  clear H
                                                  have p24 : 0 ≤ (x6_2 : Int) := of_decide_eq_true (by first | (with_reducible assumption) | assumption)
                                                  have q24 : x6_2 < (a0.size : Int) := of_decide_eq_true (by first | (with_reducible assumption) | assumption)
                                                  have hx24 := bt_at a0 x6_2
                                                  replace p24 := eq_true p24
                                                  replace q24 := eq_true q24
                                                  obtain ⟨Ao41, co41, eo41⟩ := Kd.R_slice HO_5.out
                                                  subst eo41
                                                  have p337 : 0 ≤ (x8_3 : Int) := of_decide_eq_true (by first | (with_reducible assumption) | assumption)
                                                  have q337 : x8_3 < (x5_2.length : Int) := of_decide_eq_true (by first | (with_reducible assumption) | assumption)
                                                  obtain ⟨ad337, e337, hx337_0⟩ := Kd.at_bool (Kd.R_reads' HO_5.out).2.2 x8_3 p337 q337
                                                  (try rw [← Nbq28.out] at hx337_0)
                                                  cases e337
                                                  replace p337 := eq_true p337
                                                  replace q337 := eq_true q337
                                                  obtain ⟨Ao42, co42, eo42⟩ := Kd.R_slice HO_7.out
                                                  subst eo42
                                                  have p339 : 0 ≤ ((ji36) : Int) := of_decide_eq_true (by first | (with_reducible assumption) | assumption)
                                                  have q339 : (ji36) < (x7_3.length : Int) := of_decide_eq_true (by first | (with_reducible assumption) | assumption)
                                                  obtain ⟨ad339, e339, hx339_0⟩ := Kd.at_bool (Kd.R_reads' HO_7.out).2.2 (ji36) p339 q339
                                                  (try rw [← Nbq28.out] at hx339_0)
                                                  cases e339
                                                  replace p339 := eq_true p339
                                                  replace q339 := eq_true q339
                                                  have p40 : 0 ≤ (x8_3 : Int) := of_decide_eq_true (by first | (with_reducible assumption) | assumption)
                                                  have q40 : (x8_3 : Int) < ((x7_3.length : Int) : Int) := of_decide_eq_true (by first | (with_reducible assumption) | assumption)
                                                  obtain ⟨go40, co40, eo40, gb40, gl40, cl40, HG40⟩ := Kd.R_form HO_7.out (by omega)
                                                  (first | cases eo40 | (injection eo40 with ea_ en_ ec_; (first | subst ea_ | (injection ea_ with ea_; subst ea_)); subst ec_; clear en_))
                                                  have GB40 := Aside0.mk gb40
                                                  have GG40 := Aside0.mk HG40
                                                  clear gb40 gl40 HG40
                                                  (first | simp only [add_plain] at hx339_0 | skip)
                                                  obtain ⟨hx40_0, hf40_0⟩ := Kd.R_celln false HO_7.out (x8_3 : Int) p40 q40
                                                  replace p40 := eq_true p40
                                                  replace q40 := eq_true q40
                                                  have HP43 := Kd.R_putg HO_7.out (x8_3 : Int) (rdOf false x7_3 (ji36))
                                                  go_wp2_with (first | ((with_reducible refine gate_store (t := 4) (p := 61) rfl ?_); (try (rw [drewN_self wr]; generalize hq_ : World.drewN wr _ = wr; have n0_ := Aside0.mk (Kd.R_at hq_ HO_5.out); have n1_ := Aside0.mk (Kd.R_at hq_ HO_7.out); have n2_ := Aside0.mk (below_at hq_ HB.out); (try (have hx40_0z := cell_at hq_ hx40_0)); (try (have hf40_0z := froz_at hq_ hf40_0)); clear hq_ HO_5 HO_7 HB; have HO_5 := n0_; have HO_7 := n1_; have HB := n2_; clear n0_ n1_ n2_; (try (have HP43 := Kd.R_putg HO_7.out (x8_3 : Int) (rdOf false x7_3 (ji36)))))); refine store_event (t := 4) (p := 61) (v := ?vo_w44) (w1 := (wr.setCell ⟨go40, (x8_3 : Int).toNat, none⟩ (.bool (rdOf false x7_3 (ji36))))) ?hg ?ho ?hn ?hr ?_; (case ho => rfl); (case hg => rfl); (case hn => rfl); (case hr => first | (go_simp; done) | (go_simp; rfl)); intro w44 hw; have hg : wr.grownBy w44 (some go40) := (by rw [hw]; exact HP43.2); have hp_ : Kd.R Kd.bool 4 w44 w.heap.size (fun k_ => some k_ ≠ (.slice (some ad337) x5_2.length co41 : Value).ownBlock) (.slice (some ⟨go40, 0, none⟩) x7_3.length co42) y340 := (by rw [hw, Ny340.out]; exact HP43.1); clear HP43; have n0_ := Aside0.mk (Kd.R_after (v := (.slice (some ⟨go40, 0, none⟩) x7_3.length co42)) (v1 := (.slice (some ⟨go40, 0, none⟩) x7_3.length co42)) (ok := (fun _ => True)) (by (with_reducible repeat (first | apply Kd.R_alloc | apply Kd.R_drewN | apply Kd.R_drew)); exact Kd.R_mono HO_5.out (fun _ hk => ⟨trivial, hk⟩)) hg (.inl rfl)); have n1_ := Aside0.mk (hp_); have n2_ := Aside0.mk ((by rw [hw]; exact below_set (HB.out) GB40.out : Below w.heap.size w w44)); clear HO_5; clear HO_7; clear HB; have HO_5 := n0_; have HO_7 := n1_; have HB := n2_; clear n0_ n1_ n2_; clear hg hw hp_))
                                                  repeat (go_quiet (first | ((with_reducible refine gate_store (t := 4) (p := 61) rfl ?_); (try (rw [drewN_self wr]; generalize hq_ : World.drewN wr _ = wr; have n0_ := Aside0.mk (Kd.R_at hq_ HO_5.out); have n1_ := Aside0.mk (Kd.R_at hq_ HO_7.out); have n2_ := Aside0.mk (below_at hq_ HB.out); (try (have hx40_0z := cell_at hq_ hx40_0)); (try (have hf40_0z := froz_at hq_ hf40_0)); clear hq_ HO_5 HO_7 HB; have HO_5 := n0_; have HO_7 := n1_; have HB := n2_; clear n0_ n1_ n2_; (try (have HP43 := Kd.R_putg HO_7.out (x8_3 : Int) (rdOf false x7_3 (ji36)))))); refine store_event (t := 4) (p := 61) (v := ?vo_w44) (w1 := (wr.setCell ⟨go40, (x8_3 : Int).toNat, none⟩ (.bool (rdOf false x7_3 (ji36))))) ?hg ?ho ?hn ?hr ?_; (case ho => rfl); (case hg => rfl); (case hn => rfl); (case hr => first | (go_simp; done) | (go_simp; rfl)); intro w44 hw; have hg : wr.grownBy w44 (some go40) := (by rw [hw]; exact HP43.2); have hp_ : Kd.R Kd.bool 4 w44 w.heap.size (fun k_ => some k_ ≠ (.slice (some ad337) x5_2.length co41 : Value).ownBlock) (.slice (some ⟨go40, 0, none⟩) x7_3.length co42) y340 := (by rw [hw, Ny340.out]; exact HP43.1); clear HP43; have n0_ := Aside0.mk (Kd.R_after (v := (.slice (some ⟨go40, 0, none⟩) x7_3.length co42)) (v1 := (.slice (some ⟨go40, 0, none⟩) x7_3.length co42)) (ok := (fun _ => True)) (by (with_reducible repeat (first | apply Kd.R_alloc | apply Kd.R_drewN | apply Kd.R_drew)); exact Kd.R_mono HO_5.out (fun _ hk => ⟨trivial, hk⟩)) hg (.inl rfl)); have n1_ := Aside0.mk (hp_); have n2_ := Aside0.mk ((by rw [hw]; exact below_set (HB.out) GB40.out : Below w.heap.size w w44)); clear HO_5; clear HO_7; clear HB; have HO_5 := n0_; have HO_7 := n1_; have HB := n2_; clear n0_ n1_ n2_; clear hg hw hp_)); try go_wp2_with (first | ((with_reducible refine gate_store (t := 4) (p := 61) rfl ?_); (try (rw [drewN_self wr]; generalize hq_ : World.drewN wr _ = wr; have n0_ := Aside0.mk (Kd.R_at hq_ HO_5.out); have n1_ := Aside0.mk (Kd.R_at hq_ HO_7.out); have n2_ := Aside0.mk (below_at hq_ HB.out); (try (have hx40_0z := cell_at hq_ hx40_0)); (try (have hf40_0z := froz_at hq_ hf40_0)); clear hq_ HO_5 HO_7 HB; have HO_5 := n0_; have HO_7 := n1_; have HB := n2_; clear n0_ n1_ n2_; (try (have HP43 := Kd.R_putg HO_7.out (x8_3 : Int) (rdOf false x7_3 (ji36)))))); refine store_event (t := 4) (p := 61) (v := ?vo_w44) (w1 := (wr.setCell ⟨go40, (x8_3 : Int).toNat, none⟩ (.bool (rdOf false x7_3 (ji36))))) ?hg ?ho ?hn ?hr ?_; (case ho => rfl); (case hg => rfl); (case hn => rfl); (case hr => first | (go_simp; done) | (go_simp; rfl)); intro w44 hw; have hg : wr.grownBy w44 (some go40) := (by rw [hw]; exact HP43.2); have hp_ : Kd.R Kd.bool 4 w44 w.heap.size (fun k_ => some k_ ≠ (.slice (some ad337) x5_2.length co41 : Value).ownBlock) (.slice (some ⟨go40, 0, none⟩) x7_3.length co42) y340 := (by rw [hw, Ny340.out]; exact HP43.1); clear HP43; have n0_ := Aside0.mk (Kd.R_after (v := (.slice (some ⟨go40, 0, none⟩) x7_3.length co42)) (v1 := (.slice (some ⟨go40, 0, none⟩) x7_3.length co42)) (ok := (fun _ => True)) (by (with_reducible repeat (first | apply Kd.R_alloc | apply Kd.R_drewN | apply Kd.R_drew)); exact Kd.R_mono HO_5.out (fun _ hk => ⟨trivial, hk⟩)) hg (.inl rfl)); have n1_ := Aside0.mk (hp_); have n2_ := Aside0.mk ((by rw [hw]; exact below_set (HB.out) GB40.out : Below w.heap.size w w44)); clear HO_5; clear HO_7; clear HB; have HO_5 := n0_; have HO_7 := n1_; have HB := n2_; clear n0_ n1_ n2_; clear hg hw hp_)))
                                                  go_roundg k3
                                                  case measure => have := HJ2.out; have := HK2.out; have := HK3.out; omega
                                                  case rel => exact ⟨(y340), (wrap64 (x8_3 + 1)), (by first | rfl | (simp; done) | (simp [*]; done)), H', ⟨by have := HJ2.out; have := HK2.out; have := HK3.out; omega⟩, ⟨by (with_reducible repeat (first | apply Kd.R_alloc | apply Kd.R_drewN | apply Kd.R_drew)); exact Kd.R_mono HO_5.out (fun _ hk => hk.2)⟩, ⟨by (with_reducible repeat (first | apply Kd.R_alloc | apply Kd.R_drewN | apply Kd.R_drew)); exact HO_7.out⟩, ⟨by repeat (first | (with_reducible first | exact HB.out | apply below_alloc | apply pw_below_drewN | apply below_drew1) | exact HB.out)⟩⟩
                                                · rw [if_neg c39] at H
                                                  exact absurd H (by simp)
                                              · rw [if_neg c38] at H
                                                exact absurd H (by simp)
                                            · rw [if_neg c37] at H
                                              exact absurd H (by simp)
                                          · rw [if_neg c35] at H
                                            have c35b0 : decide (0 < x8_3) = false := decide_eq_false c35
                                            clear c35
                                            by_cases c45 : x8_3 < (x7_3.length : Int)
                                            · rw [if_pos c45] at H
                                              have c45b0 : decide (x8_3 < (x7_3.length : Int)) = true := decide_eq_true c45
                                              clear c45
                                              obtain ⟨y341, hy341⟩ : ∃ y_ : List Bool, y_ = (x7_3.set (x8_3 : Int).toNat false) := ⟨_, rfl⟩
                                              replace H : (dolmenref1_Match.l1 k3 a0 a1 x5_2 x6_2 y341 (wrap64 (x8_3 + 1))) = some r := by first | (rw [hy341]; with_reducible exact H) | (have H2_ := (Option.bind_some _ _).symm.trans H; rw [hy341]; with_reducible exact H2_) | (have H2_ := (Option.bind_some _ _).symm.trans H; with_reducible exact H2_) | with_reducible exact H | (rw [hy341]; exact H) | exact H
                                              have Ny341 := Aside0.mk hy341
                                              clear hy341
                                              have H' := Aside0.mk H
                                              clear H
                                              have p24 : 0 ≤ (x6_2 : Int) := of_decide_eq_true (by first | (with_reducible assumption) | assumption)
                                              have q24 : x6_2 < (a0.size : Int) := of_decide_eq_true (by first | (with_reducible assumption) | assumption)
                                              have hx24 := bt_at a0 x6_2
                                              replace p24 := eq_true p24
                                              replace q24 := eq_true q24
                                              obtain ⟨Ao47, co47, eo47⟩ := Kd.R_slice HO_5.out
                                              subst eo47
                                              have p337 : 0 ≤ (x8_3 : Int) := of_decide_eq_true (by first | (with_reducible assumption) | assumption)
                                              have q337 : x8_3 < (x5_2.length : Int) := of_decide_eq_true (by first | (with_reducible assumption) | assumption)
                                              obtain ⟨ad337, e337, hx337_0⟩ := Kd.at_bool (Kd.R_reads' HO_5.out).2.2 x8_3 p337 q337
                                              (try rw [← Nbq28.out] at hx337_0)
                                              cases e337
                                              replace p337 := eq_true p337
                                              replace q337 := eq_true q337
                                              have p46 : 0 ≤ (x8_3 : Int) := of_decide_eq_true (by first | (with_reducible assumption) | assumption)
                                              have q46 : (x8_3 : Int) < ((x7_3.length : Int) : Int) := of_decide_eq_true (by first | (with_reducible assumption) | assumption)
                                              obtain ⟨go46, co46, eo46, gb46, gl46, cl46, HG46⟩ := Kd.R_form HO_7.out (by omega)
                                              (first | cases eo46 | (injection eo46 with ea_ en_ ec_; (first | subst ea_ | (injection ea_ with ea_; subst ea_)); subst ec_; clear en_))
                                              have GB46 := Aside0.mk gb46
                                              have GG46 := Aside0.mk HG46
                                              clear gb46 gl46 HG46
                                              obtain ⟨hx46_0, hf46_0⟩ := Kd.R_celln false HO_7.out (x8_3 : Int) p46 q46
                                              replace p46 := eq_true p46
                                              replace q46 := eq_true q46
                                              have HP48 := Kd.R_putg HO_7.out (x8_3 : Int) false
                                              go_wp2_with (first | ((with_reducible refine gate_store (t := 4) (p := 61) rfl ?_); (try (rw [drewN_self wr]; generalize hq_ : World.drewN wr _ = wr; have n0_ := Aside0.mk (Kd.R_at hq_ HO_5.out); have n1_ := Aside0.mk (Kd.R_at hq_ HO_7.out); have n2_ := Aside0.mk (below_at hq_ HB.out); (try (have hx46_0z := cell_at hq_ hx46_0)); (try (have hf46_0z := froz_at hq_ hf46_0)); clear hq_ HO_5 HO_7 HB; have HO_5 := n0_; have HO_7 := n1_; have HB := n2_; clear n0_ n1_ n2_; (try (have HP48 := Kd.R_putg HO_7.out (x8_3 : Int) false)))); refine store_event (t := 4) (p := 61) (v := ?vo_w49) (w1 := (wr.setCell ⟨go46, (x8_3 : Int).toNat, none⟩ (.bool false))) ?hg ?ho ?hn ?hr ?_; (case ho => rfl); (case hg => rfl); (case hn => rfl); (case hr => first | (go_simp; done) | (go_simp; rfl)); intro w49 hw; have hg : wr.grownBy w49 (some go46) := (by rw [hw]; exact HP48.2); have hp_ : Kd.R Kd.bool 4 w49 w.heap.size (fun k_ => some k_ ≠ (.slice (some ad337) x5_2.length co47 : Value).ownBlock) (.slice (some ⟨go46, 0, none⟩) x7_3.length co46) y341 := (by rw [hw, Ny341.out]; exact HP48.1); clear HP48; have n0_ := Aside0.mk (Kd.R_after (v := (.slice (some ⟨go46, 0, none⟩) x7_3.length co46)) (v1 := (.slice (some ⟨go46, 0, none⟩) x7_3.length co46)) (ok := (fun _ => True)) (by (with_reducible repeat (first | apply Kd.R_alloc | apply Kd.R_drewN | apply Kd.R_drew)); exact Kd.R_mono HO_5.out (fun _ hk => ⟨trivial, hk⟩)) hg (.inl rfl)); have n1_ := Aside0.mk (hp_); have n2_ := Aside0.mk ((by rw [hw]; exact below_set (HB.out) GB46.out : Below w.heap.size w w49)); clear HO_5; clear HO_7; clear HB; have HO_5 := n0_; have HO_7 := n1_; have HB := n2_; clear n0_ n1_ n2_; clear hg hw hp_))
                                              repeat (go_quiet (first | ((with_reducible refine gate_store (t := 4) (p := 61) rfl ?_); (try (rw [drewN_self wr]; generalize hq_ : World.drewN wr _ = wr; have n0_ := Aside0.mk (Kd.R_at hq_ HO_5.out); have n1_ := Aside0.mk (Kd.R_at hq_ HO_7.out); have n2_ := Aside0.mk (below_at hq_ HB.out); (try (have hx46_0z := cell_at hq_ hx46_0)); (try (have hf46_0z := froz_at hq_ hf46_0)); clear hq_ HO_5 HO_7 HB; have HO_5 := n0_; have HO_7 := n1_; have HB := n2_; clear n0_ n1_ n2_; (try (have HP48 := Kd.R_putg HO_7.out (x8_3 : Int) false)))); refine store_event (t := 4) (p := 61) (v := ?vo_w49) (w1 := (wr.setCell ⟨go46, (x8_3 : Int).toNat, none⟩ (.bool false))) ?hg ?ho ?hn ?hr ?_; (case ho => rfl); (case hg => rfl); (case hn => rfl); (case hr => first | (go_simp; done) | (go_simp; rfl)); intro w49 hw; have hg : wr.grownBy w49 (some go46) := (by rw [hw]; exact HP48.2); have hp_ : Kd.R Kd.bool 4 w49 w.heap.size (fun k_ => some k_ ≠ (.slice (some ad337) x5_2.length co47 : Value).ownBlock) (.slice (some ⟨go46, 0, none⟩) x7_3.length co46) y341 := (by rw [hw, Ny341.out]; exact HP48.1); clear HP48; have n0_ := Aside0.mk (Kd.R_after (v := (.slice (some ⟨go46, 0, none⟩) x7_3.length co46)) (v1 := (.slice (some ⟨go46, 0, none⟩) x7_3.length co46)) (ok := (fun _ => True)) (by (with_reducible repeat (first | apply Kd.R_alloc | apply Kd.R_drewN | apply Kd.R_drew)); exact Kd.R_mono HO_5.out (fun _ hk => ⟨trivial, hk⟩)) hg (.inl rfl)); have n1_ := Aside0.mk (hp_); have n2_ := Aside0.mk ((by rw [hw]; exact below_set (HB.out) GB46.out : Below w.heap.size w w49)); clear HO_5; clear HO_7; clear HB; have HO_5 := n0_; have HO_7 := n1_; have HB := n2_; clear n0_ n1_ n2_; clear hg hw hp_)); try go_wp2_with (first | ((with_reducible refine gate_store (t := 4) (p := 61) rfl ?_); (try (rw [drewN_self wr]; generalize hq_ : World.drewN wr _ = wr; have n0_ := Aside0.mk (Kd.R_at hq_ HO_5.out); have n1_ := Aside0.mk (Kd.R_at hq_ HO_7.out); have n2_ := Aside0.mk (below_at hq_ HB.out); (try (have hx46_0z := cell_at hq_ hx46_0)); (try (have hf46_0z := froz_at hq_ hf46_0)); clear hq_ HO_5 HO_7 HB; have HO_5 := n0_; have HO_7 := n1_; have HB := n2_; clear n0_ n1_ n2_; (try (have HP48 := Kd.R_putg HO_7.out (x8_3 : Int) false)))); refine store_event (t := 4) (p := 61) (v := ?vo_w49) (w1 := (wr.setCell ⟨go46, (x8_3 : Int).toNat, none⟩ (.bool false))) ?hg ?ho ?hn ?hr ?_; (case ho => rfl); (case hg => rfl); (case hn => rfl); (case hr => first | (go_simp; done) | (go_simp; rfl)); intro w49 hw; have hg : wr.grownBy w49 (some go46) := (by rw [hw]; exact HP48.2); have hp_ : Kd.R Kd.bool 4 w49 w.heap.size (fun k_ => some k_ ≠ (.slice (some ad337) x5_2.length co47 : Value).ownBlock) (.slice (some ⟨go46, 0, none⟩) x7_3.length co46) y341 := (by rw [hw, Ny341.out]; exact HP48.1); clear HP48; have n0_ := Aside0.mk (Kd.R_after (v := (.slice (some ⟨go46, 0, none⟩) x7_3.length co46)) (v1 := (.slice (some ⟨go46, 0, none⟩) x7_3.length co46)) (ok := (fun _ => True)) (by (with_reducible repeat (first | apply Kd.R_alloc | apply Kd.R_drewN | apply Kd.R_drew)); exact Kd.R_mono HO_5.out (fun _ hk => ⟨trivial, hk⟩)) hg (.inl rfl)); have n1_ := Aside0.mk (hp_); have n2_ := Aside0.mk ((by rw [hw]; exact below_set (HB.out) GB46.out : Below w.heap.size w w49)); clear HO_5; clear HO_7; clear HB; have HO_5 := n0_; have HO_7 := n1_; have HB := n2_; clear n0_ n1_ n2_; clear hg hw hp_)))
                                              go_roundg k3
                                              case measure => have := HJ2.out; have := HK2.out; have := HK3.out; omega
                                              case rel => exact ⟨(y341), (wrap64 (x8_3 + 1)), (by first | rfl | (simp; done) | (simp [*]; done)), H', ⟨by have := HJ2.out; have := HK2.out; have := HK3.out; omega⟩, ⟨by (with_reducible repeat (first | apply Kd.R_alloc | apply Kd.R_drewN | apply Kd.R_drew)); exact Kd.R_mono HO_5.out (fun _ hk => hk.2)⟩, ⟨by (with_reducible repeat (first | apply Kd.R_alloc | apply Kd.R_drewN | apply Kd.R_drew)); exact HO_7.out⟩, ⟨by repeat (first | (with_reducible first | exact HB.out | apply below_alloc | apply pw_below_drewN | apply below_drew1) | exact HB.out)⟩⟩
                                            · rw [if_neg c45] at H
                                              exact absurd H (by simp)
                                      · rw [if_neg c27] at H
                                        exact absurd H (by simp)
                                    · rw [if_neg c26] at H
                                      exact absurd H (by simp)
                                  · rw [if_neg c25] at H
                                    have c25b0 : ((bt a0 x6_2) == 42) = false := beq_eq_false_iff_ne.mpr c25
                                    have c25b1 : ((bt a0 x6_2) != 42) = true := bne_iff_ne.mpr c25
                                    by_cases c50 : x8_3 > 0
                                    · rw [if_pos c50] at H
                                      have c50b0 : decide (0 < x8_3) = true := decide_eq_true c50
                                      clear c50
                                      by_cases c52 : (bt a0 x6_2) = 63
                                      · rw [if_pos c52] at H
                                        have c52b0 : ((bt a0 x6_2) == 63) = true := beq_iff_eq.mpr c52
                                        have c52b1 : ((bt a0 x6_2) != 63) = false := bne_eq_false_iff_eq.mpr c52
                                        clear c52
                                        try clear hji36w
                                        try clear hji36
                                        obtain ⟨ji53, hji53⟩ : ∃ j_ : Int, (wrap64 (x8_3 - 1)) = j_ := ⟨_, rfl⟩
                                        replace H : (if 0 ≤ (ji53) then (if (ji53) < (x5_2.length : Int) then (if 0 ≤ x8_3 then (if x8_3 < (x7_3.length : Int) then (dolmenref1_Match.l1 k3 a0 a1 x5_2 x6_2 (x7_3.set (x8_3 : Int).toNat (rdOf false x5_2 (ji53))) (wrap64 (x8_3 + 1))) else (none)) else (none)) else (none)) else (none)) = some r := by first | (rw [hji53] at H; exact H) | (simp only [hji53] at H ⊢; exact H)
                                        have hji53w : (IntKind.i64.wrap (x8_3 - 1)) = ji53 := (i64_w _).trans hji53
                                        by_cases c54 : 0 ≤ (ji53)
                                        · rw [if_pos c54] at H
                                          have c54b0 : decide (0 ≤ (ji53)) = true := decide_eq_true c54
                                          clear c54
                                          by_cases c55 : (ji53) < (x5_2.length : Int)
                                          · rw [if_pos c55] at H
                                            have c55b0 : decide ((ji53) < (x5_2.length : Int)) = true := decide_eq_true c55
                                            clear c55
                                            by_cases c56 : 0 ≤ x8_3
                                            · rw [if_pos c56] at H
                                              have c56b0 : decide (0 ≤ x8_3) = true := decide_eq_true c56
                                              clear c56
                                              by_cases c57 : x8_3 < (x7_3.length : Int)
                                              · rw [if_pos c57] at H
                                                have c57b0 : decide (x8_3 < (x7_3.length : Int)) = true := decide_eq_true c57
                                                clear c57
                                                obtain ⟨y343, hy343⟩ : ∃ y_ : List Bool, y_ = (x7_3.set (x8_3 : Int).toNat (rdOf false x5_2 (ji53))) := ⟨_, rfl⟩
                                                replace H : (dolmenref1_Match.l1 k3 a0 a1 x5_2 x6_2 y343 (wrap64 (x8_3 + 1))) = some r := by first | (rw [hy343]; with_reducible exact H) | (have H2_ := (Option.bind_some _ _).symm.trans H; rw [hy343]; with_reducible exact H2_) | (have H2_ := (Option.bind_some _ _).symm.trans H; with_reducible exact H2_) | with_reducible exact H | (rw [hy343]; exact H) | exact H
                                                have Ny343 := Aside0.mk hy343
                                                clear hy343
                                                have H' := Aside0.mk H
                                                clear H
                                                have p24 : 0 ≤ (x6_2 : Int) := of_decide_eq_true (by first | (with_reducible assumption) | assumption)
                                                have q24 : x6_2 < (a0.size : Int) := of_decide_eq_true (by first | (with_reducible assumption) | assumption)
                                                have hx24 := bt_at a0 x6_2
                                                replace p24 := eq_true p24
                                                replace q24 := eq_true q24
                                                have p51 : 0 ≤ (x6_2 : Int) := of_decide_eq_true (by first | (with_reducible assumption) | assumption)
                                                have q51 : x6_2 < (a0.size : Int) := of_decide_eq_true (by first | (with_reducible assumption) | assumption)
                                                have hx51 := bt_at a0 x6_2
                                                replace p51 := eq_true p51
                                                replace q51 := eq_true q51
                                                obtain ⟨Ao59, co59, eo59⟩ := Kd.R_slice HO_5.out
                                                subst eo59
                                                have p342 : 0 ≤ ((ji53) : Int) := of_decide_eq_true (by first | (with_reducible assumption) | assumption)
                                                have q342 : (ji53) < (x5_2.length : Int) := of_decide_eq_true (by first | (with_reducible assumption) | assumption)
                                                obtain ⟨ad342, e342, hx342_0⟩ := Kd.at_bool (Kd.R_reads' HO_5.out).2.2 (ji53) p342 q342
                                                cases e342
                                                replace p342 := eq_true p342
                                                replace q342 := eq_true q342
                                                have p58 : 0 ≤ (x8_3 : Int) := of_decide_eq_true (by first | (with_reducible assumption) | assumption)
                                                have q58 : (x8_3 : Int) < ((x7_3.length : Int) : Int) := of_decide_eq_true (by first | (with_reducible assumption) | assumption)
                                                obtain ⟨go58, co58, eo58, gb58, gl58, cl58, HG58⟩ := Kd.R_form HO_7.out (by omega)
                                                (first | cases eo58 | (injection eo58 with ea_ en_ ec_; (first | subst ea_ | (injection ea_ with ea_; subst ea_)); subst ec_; clear en_))
                                                have GB58 := Aside0.mk gb58
                                                have GG58 := Aside0.mk HG58
                                                clear gb58 gl58 HG58
                                                obtain ⟨hx58_0, hf58_0⟩ := Kd.R_celln false HO_7.out (x8_3 : Int) p58 q58
                                                replace p58 := eq_true p58
                                                replace q58 := eq_true q58
                                                have HP60 := Kd.R_putg HO_7.out (x8_3 : Int) (rdOf false x5_2 (ji53))
                                                go_wp2_with (first | ((with_reducible refine gate_store (t := 4) (p := 88) rfl ?_); (try (rw [drewN_self wr]; generalize hq_ : World.drewN wr _ = wr; have n0_ := Aside0.mk (Kd.R_at hq_ HO_5.out); have n1_ := Aside0.mk (Kd.R_at hq_ HO_7.out); have n2_ := Aside0.mk (below_at hq_ HB.out); (try (have hx58_0z := cell_at hq_ hx58_0)); (try (have hf58_0z := froz_at hq_ hf58_0)); clear hq_ HO_5 HO_7 HB; have HO_5 := n0_; have HO_7 := n1_; have HB := n2_; clear n0_ n1_ n2_; (try (have HP60 := Kd.R_putg HO_7.out (x8_3 : Int) (rdOf false x5_2 (ji53)))))); refine store_event (t := 4) (p := 88) (v := ?vo_w61) (w1 := (wr.setCell ⟨go58, (x8_3 : Int).toNat, none⟩ (.bool (rdOf false x5_2 (ji53))))) ?hg ?ho ?hn ?hr ?_; (case ho => rfl); (case hg => rfl); (case hn => rfl); (case hr => first | (go_simp; done) | (go_simp; rfl)); intro w61 hw; have hg : wr.grownBy w61 (some go58) := (by rw [hw]; exact HP60.2); have hp_ : Kd.R Kd.bool 4 w61 w.heap.size (fun k_ => some k_ ≠ (.slice (some ad342) x5_2.length co59 : Value).ownBlock) (.slice (some ⟨go58, 0, none⟩) x7_3.length co58) y343 := (by rw [hw, Ny343.out]; exact HP60.1); clear HP60; have n0_ := Aside0.mk (Kd.R_after (v := (.slice (some ⟨go58, 0, none⟩) x7_3.length co58)) (v1 := (.slice (some ⟨go58, 0, none⟩) x7_3.length co58)) (ok := (fun _ => True)) (by (with_reducible repeat (first | apply Kd.R_alloc | apply Kd.R_drewN | apply Kd.R_drew)); exact Kd.R_mono HO_5.out (fun _ hk => ⟨trivial, hk⟩)) hg (.inl rfl)); have n1_ := Aside0.mk (hp_); have n2_ := Aside0.mk ((by rw [hw]; exact below_set (HB.out) GB58.out : Below w.heap.size w w61)); clear HO_5; clear HO_7; clear HB; have HO_5 := n0_; have HO_7 := n1_; have HB := n2_; clear n0_ n1_ n2_; clear hg hw hp_))
                                                repeat (go_quiet (first | ((with_reducible refine gate_store (t := 4) (p := 88) rfl ?_); (try (rw [drewN_self wr]; generalize hq_ : World.drewN wr _ = wr; have n0_ := Aside0.mk (Kd.R_at hq_ HO_5.out); have n1_ := Aside0.mk (Kd.R_at hq_ HO_7.out); have n2_ := Aside0.mk (below_at hq_ HB.out); (try (have hx58_0z := cell_at hq_ hx58_0)); (try (have hf58_0z := froz_at hq_ hf58_0)); clear hq_ HO_5 HO_7 HB; have HO_5 := n0_; have HO_7 := n1_; have HB := n2_; clear n0_ n1_ n2_; (try (have HP60 := Kd.R_putg HO_7.out (x8_3 : Int) (rdOf false x5_2 (ji53)))))); refine store_event (t := 4) (p := 88) (v := ?vo_w61) (w1 := (wr.setCell ⟨go58, (x8_3 : Int).toNat, none⟩ (.bool (rdOf false x5_2 (ji53))))) ?hg ?ho ?hn ?hr ?_; (case ho => rfl); (case hg => rfl); (case hn => rfl); (case hr => first | (go_simp; done) | (go_simp; rfl)); intro w61 hw; have hg : wr.grownBy w61 (some go58) := (by rw [hw]; exact HP60.2); have hp_ : Kd.R Kd.bool 4 w61 w.heap.size (fun k_ => some k_ ≠ (.slice (some ad342) x5_2.length co59 : Value).ownBlock) (.slice (some ⟨go58, 0, none⟩) x7_3.length co58) y343 := (by rw [hw, Ny343.out]; exact HP60.1); clear HP60; have n0_ := Aside0.mk (Kd.R_after (v := (.slice (some ⟨go58, 0, none⟩) x7_3.length co58)) (v1 := (.slice (some ⟨go58, 0, none⟩) x7_3.length co58)) (ok := (fun _ => True)) (by (with_reducible repeat (first | apply Kd.R_alloc | apply Kd.R_drewN | apply Kd.R_drew)); exact Kd.R_mono HO_5.out (fun _ hk => ⟨trivial, hk⟩)) hg (.inl rfl)); have n1_ := Aside0.mk (hp_); have n2_ := Aside0.mk ((by rw [hw]; exact below_set (HB.out) GB58.out : Below w.heap.size w w61)); clear HO_5; clear HO_7; clear HB; have HO_5 := n0_; have HO_7 := n1_; have HB := n2_; clear n0_ n1_ n2_; clear hg hw hp_)); try go_wp2_with (first | ((with_reducible refine gate_store (t := 4) (p := 88) rfl ?_); (try (rw [drewN_self wr]; generalize hq_ : World.drewN wr _ = wr; have n0_ := Aside0.mk (Kd.R_at hq_ HO_5.out); have n1_ := Aside0.mk (Kd.R_at hq_ HO_7.out); have n2_ := Aside0.mk (below_at hq_ HB.out); (try (have hx58_0z := cell_at hq_ hx58_0)); (try (have hf58_0z := froz_at hq_ hf58_0)); clear hq_ HO_5 HO_7 HB; have HO_5 := n0_; have HO_7 := n1_; have HB := n2_; clear n0_ n1_ n2_; (try (have HP60 := Kd.R_putg HO_7.out (x8_3 : Int) (rdOf false x5_2 (ji53)))))); refine store_event (t := 4) (p := 88) (v := ?vo_w61) (w1 := (wr.setCell ⟨go58, (x8_3 : Int).toNat, none⟩ (.bool (rdOf false x5_2 (ji53))))) ?hg ?ho ?hn ?hr ?_; (case ho => rfl); (case hg => rfl); (case hn => rfl); (case hr => first | (go_simp; done) | (go_simp; rfl)); intro w61 hw; have hg : wr.grownBy w61 (some go58) := (by rw [hw]; exact HP60.2); have hp_ : Kd.R Kd.bool 4 w61 w.heap.size (fun k_ => some k_ ≠ (.slice (some ad342) x5_2.length co59 : Value).ownBlock) (.slice (some ⟨go58, 0, none⟩) x7_3.length co58) y343 := (by rw [hw, Ny343.out]; exact HP60.1); clear HP60; have n0_ := Aside0.mk (Kd.R_after (v := (.slice (some ⟨go58, 0, none⟩) x7_3.length co58)) (v1 := (.slice (some ⟨go58, 0, none⟩) x7_3.length co58)) (ok := (fun _ => True)) (by (with_reducible repeat (first | apply Kd.R_alloc | apply Kd.R_drewN | apply Kd.R_drew)); exact Kd.R_mono HO_5.out (fun _ hk => ⟨trivial, hk⟩)) hg (.inl rfl)); have n1_ := Aside0.mk (hp_); have n2_ := Aside0.mk ((by rw [hw]; exact below_set (HB.out) GB58.out : Below w.heap.size w w61)); clear HO_5; clear HO_7; clear HB; have HO_5 := n0_; have HO_7 := n1_; have HB := n2_; clear n0_ n1_ n2_; clear hg hw hp_)))
                                                go_roundg k3
                                                case measure => have := HJ2.out; have := HK2.out; have := HK3.out; omega
                                                case rel => exact ⟨(y343), (wrap64 (x8_3 + 1)), (by first | rfl | (simp; done) | (simp [*]; done)), H', ⟨by have := HJ2.out; have := HK2.out; have := HK3.out; omega⟩, ⟨by (with_reducible repeat (first | apply Kd.R_alloc | apply Kd.R_drewN | apply Kd.R_drew)); exact Kd.R_mono HO_5.out (fun _ hk => hk.2)⟩, ⟨by (with_reducible repeat (first | apply Kd.R_alloc | apply Kd.R_drewN | apply Kd.R_drew)); exact HO_7.out⟩, ⟨by repeat (first | (with_reducible first | exact HB.out | apply below_alloc | apply pw_below_drewN | apply below_drew1) | exact HB.out)⟩⟩
                                              · rw [if_neg c57] at H
                                                exact absurd H (by simp)
                                            · rw [if_neg c56] at H
                                              exact absurd H (by simp)
                                          · rw [if_neg c55] at H
                                            exact absurd H (by simp)
                                        · rw [if_neg c54] at H
                                          exact absurd H (by simp)
                                      · rw [if_neg c52] at H
                                        have c52b0 : ((bt a0 x6_2) == 63) = false := beq_eq_false_iff_ne.mpr c52
                                        have c52b1 : ((bt a0 x6_2) != 63) = true := bne_iff_ne.mpr c52
                                        try clear hji36w
                                        try clear hji36
                                        try clear hji53w
                                        try clear hji53
                                        obtain ⟨ji63, hji63⟩ : ∃ j_ : Int, (wrap64 (x8_3 - 1)) = j_ := ⟨_, rfl⟩
                                        replace H : (if 0 ≤ (ji63) then (if (ji63) < (a1.size : Int) then (if (bt a0 x6_2) = (bt a1 (ji63)) then (if (ji63) < (x5_2.length : Int) then (if 0 ≤ x8_3 then (if x8_3 < (x7_3.length : Int) then (dolmenref1_Match.l1 k3 a0 a1 x5_2 x6_2 (x7_3.set (x8_3 : Int).toNat (rdOf false x5_2 (ji63))) (wrap64 (x8_3 + 1))) else (none)) else (none)) else (none)) else (dolmenref1_Match.l1 k3 a0 a1 x5_2 x6_2 x7_3 (wrap64 (x8_3 + 1)))) else (none)) else (none)) = some r := by first | (rw [hji63] at H; exact H) | (simp only [hji63] at H ⊢; exact H)
                                        have hji63w : (IntKind.i64.wrap (x8_3 - 1)) = ji63 := (i64_w _).trans hji63
                                        by_cases c64 : 0 ≤ (ji63)
                                        · rw [if_pos c64] at H
                                          have c64b0 : decide (0 ≤ (ji63)) = true := decide_eq_true c64
                                          clear c64
                                          by_cases c65 : (ji63) < (a1.size : Int)
                                          · rw [if_pos c65] at H
                                            have c65b0 : decide ((ji63) < (a1.size : Int)) = true := decide_eq_true c65
                                            clear c65
                                            by_cases c67 : (bt a0 x6_2) = (bt a1 (ji63))
                                            · rw [if_pos c67] at H
                                              have c67b0 : ((bt a0 x6_2) == (bt a1 (ji63))) = true := beq_iff_eq.mpr c67
                                              have c67b1 : ((bt a0 x6_2) != (bt a1 (ji63))) = false := bne_eq_false_iff_eq.mpr c67
                                              clear c67
                                              by_cases c68 : (ji63) < (x5_2.length : Int)
                                              · rw [if_pos c68] at H
                                                have c68b0 : decide ((ji63) < (x5_2.length : Int)) = true := decide_eq_true c68
                                                clear c68
                                                by_cases c69 : 0 ≤ x8_3
                                                · rw [if_pos c69] at H
                                                  have c69b0 : decide (0 ≤ x8_3) = true := decide_eq_true c69
                                                  clear c69
                                                  by_cases c70 : x8_3 < (x7_3.length : Int)
                                                  · rw [if_pos c70] at H
                                                    have c70b0 : decide (x8_3 < (x7_3.length : Int)) = true := decide_eq_true c70
                                                    clear c70
                                                    obtain ⟨y345, hy345⟩ : ∃ y_ : List Bool, y_ = (x7_3.set (x8_3 : Int).toNat (rdOf false x5_2 (ji63))) := ⟨_, rfl⟩
                                                    replace H : (dolmenref1_Match.l1 k3 a0 a1 x5_2 x6_2 y345 (wrap64 (x8_3 + 1))) = some r := by first | (rw [hy345]; with_reducible exact H) | (have H2_ := (Option.bind_some _ _).symm.trans H; rw [hy345]; with_reducible exact H2_) | (have H2_ := (Option.bind_some _ _).symm.trans H; with_reducible exact H2_) | with_reducible exact H | (rw [hy345]; exact H) | exact H
                                                    have Ny345 := Aside0.mk hy345
                                                    clear hy345
                                                    have H' := Aside0.mk H
                                                    clear H
                                                    have p24 : 0 ≤ (x6_2 : Int) := of_decide_eq_true (by first | (with_reducible assumption) | assumption)
                                                    have q24 : x6_2 < (a0.size : Int) := of_decide_eq_true (by first | (with_reducible assumption) | assumption)
                                                    have hx24 := bt_at a0 x6_2
                                                    replace p24 := eq_true p24
                                                    replace q24 := eq_true q24
                                                    have p51 : 0 ≤ (x6_2 : Int) := of_decide_eq_true (by first | (with_reducible assumption) | assumption)
                                                    have q51 : x6_2 < (a0.size : Int) := of_decide_eq_true (by first | (with_reducible assumption) | assumption)
                                                    have hx51 := bt_at a0 x6_2
                                                    replace p51 := eq_true p51
                                                    replace q51 := eq_true q51
                                                    have p62 : 0 ≤ (x6_2 : Int) := of_decide_eq_true (by first | (with_reducible assumption) | assumption)
                                                    have q62 : x6_2 < (a0.size : Int) := of_decide_eq_true (by first | (with_reducible assumption) | assumption)
                                                    have hx62 := bt_at a0 x6_2
                                                    replace p62 := eq_true p62
                                                    replace q62 := eq_true q62
                                                    have p66 : 0 ≤ ((ji63) : Int) := of_decide_eq_true (by first | (with_reducible assumption) | assumption)
                                                    have q66 : (ji63) < (a1.size : Int) := of_decide_eq_true (by first | (with_reducible assumption) | assumption)
                                                    have hx66 := bt_at a1 (ji63)
                                                    replace p66 := eq_true p66
                                                    replace q66 := eq_true q66
                                                    obtain ⟨Ao72, co72, eo72⟩ := Kd.R_slice HO_5.out
                                                    subst eo72
                                                    have p344 : 0 ≤ ((ji63) : Int) := of_decide_eq_true (by first | (with_reducible assumption) | assumption)
                                                    have q344 : (ji63) < (x5_2.length : Int) := of_decide_eq_true (by first | (with_reducible assumption) | assumption)
                                                    obtain ⟨ad344, e344, hx344_0⟩ := Kd.at_bool (Kd.R_reads' HO_5.out).2.2 (ji63) p344 q344
                                                    cases e344
                                                    replace p344 := eq_true p344
                                                    replace q344 := eq_true q344
                                                    have p71 : 0 ≤ (x8_3 : Int) := of_decide_eq_true (by first | (with_reducible assumption) | assumption)
                                                    have q71 : (x8_3 : Int) < ((x7_3.length : Int) : Int) := of_decide_eq_true (by first | (with_reducible assumption) | assumption)
                                                    obtain ⟨go71, co71, eo71, gb71, gl71, cl71, HG71⟩ := Kd.R_form HO_7.out (by omega)
                                                    (first | cases eo71 | (injection eo71 with ea_ en_ ec_; (first | subst ea_ | (injection ea_ with ea_; subst ea_)); subst ec_; clear en_))
                                                    have GB71 := Aside0.mk gb71
                                                    have GG71 := Aside0.mk HG71
                                                    clear gb71 gl71 HG71
                                                    obtain ⟨hx71_0, hf71_0⟩ := Kd.R_celln false HO_7.out (x8_3 : Int) p71 q71
                                                    replace p71 := eq_true p71
                                                    replace q71 := eq_true q71
                                                    have HP73 := Kd.R_putg HO_7.out (x8_3 : Int) (rdOf false x5_2 (ji63))
                                                    go_wp2_with (first | ((with_reducible refine gate_store (t := 4) (p := 88) rfl ?_); (try (rw [drewN_self wr]; generalize hq_ : World.drewN wr _ = wr; have n0_ := Aside0.mk (Kd.R_at hq_ HO_5.out); have n1_ := Aside0.mk (Kd.R_at hq_ HO_7.out); have n2_ := Aside0.mk (below_at hq_ HB.out); (try (have hx71_0z := cell_at hq_ hx71_0)); (try (have hf71_0z := froz_at hq_ hf71_0)); clear hq_ HO_5 HO_7 HB; have HO_5 := n0_; have HO_7 := n1_; have HB := n2_; clear n0_ n1_ n2_; (try (have HP73 := Kd.R_putg HO_7.out (x8_3 : Int) (rdOf false x5_2 (ji63)))))); refine store_event (t := 4) (p := 88) (v := ?vo_w74) (w1 := (wr.setCell ⟨go71, (x8_3 : Int).toNat, none⟩ (.bool (rdOf false x5_2 (ji63))))) ?hg ?ho ?hn ?hr ?_; (case ho => rfl); (case hg => rfl); (case hn => rfl); (case hr => first | (go_simp; done) | (go_simp; rfl)); intro w74 hw; have hg : wr.grownBy w74 (some go71) := (by rw [hw]; exact HP73.2); have hp_ : Kd.R Kd.bool 4 w74 w.heap.size (fun k_ => some k_ ≠ (.slice (some ad344) x5_2.length co72 : Value).ownBlock) (.slice (some ⟨go71, 0, none⟩) x7_3.length co71) y345 := (by rw [hw, Ny345.out]; exact HP73.1); clear HP73; have n0_ := Aside0.mk (Kd.R_after (v := (.slice (some ⟨go71, 0, none⟩) x7_3.length co71)) (v1 := (.slice (some ⟨go71, 0, none⟩) x7_3.length co71)) (ok := (fun _ => True)) (by (with_reducible repeat (first | apply Kd.R_alloc | apply Kd.R_drewN | apply Kd.R_drew)); exact Kd.R_mono HO_5.out (fun _ hk => ⟨trivial, hk⟩)) hg (.inl rfl)); have n1_ := Aside0.mk (hp_); have n2_ := Aside0.mk ((by rw [hw]; exact below_set (HB.out) GB71.out : Below w.heap.size w w74)); clear HO_5; clear HO_7; clear HB; have HO_5 := n0_; have HO_7 := n1_; have HB := n2_; clear n0_ n1_ n2_; clear hg hw hp_))
                                                    repeat (go_quiet (first | ((with_reducible refine gate_store (t := 4) (p := 88) rfl ?_); (try (rw [drewN_self wr]; generalize hq_ : World.drewN wr _ = wr; have n0_ := Aside0.mk (Kd.R_at hq_ HO_5.out); have n1_ := Aside0.mk (Kd.R_at hq_ HO_7.out); have n2_ := Aside0.mk (below_at hq_ HB.out); (try (have hx71_0z := cell_at hq_ hx71_0)); (try (have hf71_0z := froz_at hq_ hf71_0)); clear hq_ HO_5 HO_7 HB; have HO_5 := n0_; have HO_7 := n1_; have HB := n2_; clear n0_ n1_ n2_; (try (have HP73 := Kd.R_putg HO_7.out (x8_3 : Int) (rdOf false x5_2 (ji63)))))); refine store_event (t := 4) (p := 88) (v := ?vo_w74) (w1 := (wr.setCell ⟨go71, (x8_3 : Int).toNat, none⟩ (.bool (rdOf false x5_2 (ji63))))) ?hg ?ho ?hn ?hr ?_; (case ho => rfl); (case hg => rfl); (case hn => rfl); (case hr => first | (go_simp; done) | (go_simp; rfl)); intro w74 hw; have hg : wr.grownBy w74 (some go71) := (by rw [hw]; exact HP73.2); have hp_ : Kd.R Kd.bool 4 w74 w.heap.size (fun k_ => some k_ ≠ (.slice (some ad344) x5_2.length co72 : Value).ownBlock) (.slice (some ⟨go71, 0, none⟩) x7_3.length co71) y345 := (by rw [hw, Ny345.out]; exact HP73.1); clear HP73; have n0_ := Aside0.mk (Kd.R_after (v := (.slice (some ⟨go71, 0, none⟩) x7_3.length co71)) (v1 := (.slice (some ⟨go71, 0, none⟩) x7_3.length co71)) (ok := (fun _ => True)) (by (with_reducible repeat (first | apply Kd.R_alloc | apply Kd.R_drewN | apply Kd.R_drew)); exact Kd.R_mono HO_5.out (fun _ hk => ⟨trivial, hk⟩)) hg (.inl rfl)); have n1_ := Aside0.mk (hp_); have n2_ := Aside0.mk ((by rw [hw]; exact below_set (HB.out) GB71.out : Below w.heap.size w w74)); clear HO_5; clear HO_7; clear HB; have HO_5 := n0_; have HO_7 := n1_; have HB := n2_; clear n0_ n1_ n2_; clear hg hw hp_)); try go_wp2_with (first | ((with_reducible refine gate_store (t := 4) (p := 88) rfl ?_); (try (rw [drewN_self wr]; generalize hq_ : World.drewN wr _ = wr; have n0_ := Aside0.mk (Kd.R_at hq_ HO_5.out); have n1_ := Aside0.mk (Kd.R_at hq_ HO_7.out); have n2_ := Aside0.mk (below_at hq_ HB.out); (try (have hx71_0z := cell_at hq_ hx71_0)); (try (have hf71_0z := froz_at hq_ hf71_0)); clear hq_ HO_5 HO_7 HB; have HO_5 := n0_; have HO_7 := n1_; have HB := n2_; clear n0_ n1_ n2_; (try (have HP73 := Kd.R_putg HO_7.out (x8_3 : Int) (rdOf false x5_2 (ji63)))))); refine store_event (t := 4) (p := 88) (v := ?vo_w74) (w1 := (wr.setCell ⟨go71, (x8_3 : Int).toNat, none⟩ (.bool (rdOf false x5_2 (ji63))))) ?hg ?ho ?hn ?hr ?_; (case ho => rfl); (case hg => rfl); (case hn => rfl); (case hr => first | (go_simp; done) | (go_simp; rfl)); intro w74 hw; have hg : wr.grownBy w74 (some go71) := (by rw [hw]; exact HP73.2); have hp_ : Kd.R Kd.bool 4 w74 w.heap.size (fun k_ => some k_ ≠ (.slice (some ad344) x5_2.length co72 : Value).ownBlock) (.slice (some ⟨go71, 0, none⟩) x7_3.length co71) y345 := (by rw [hw, Ny345.out]; exact HP73.1); clear HP73; have n0_ := Aside0.mk (Kd.R_after (v := (.slice (some ⟨go71, 0, none⟩) x7_3.length co71)) (v1 := (.slice (some ⟨go71, 0, none⟩) x7_3.length co71)) (ok := (fun _ => True)) (by (with_reducible repeat (first | apply Kd.R_alloc | apply Kd.R_drewN | apply Kd.R_drew)); exact Kd.R_mono HO_5.out (fun _ hk => ⟨trivial, hk⟩)) hg (.inl rfl)); have n1_ := Aside0.mk (hp_); have n2_ := Aside0.mk ((by rw [hw]; exact below_set (HB.out) GB71.out : Below w.heap.size w w74)); clear HO_5; clear HO_7; clear HB; have HO_5 := n0_; have HO_7 := n1_; have HB := n2_; clear n0_ n1_ n2_; clear hg hw hp_)))
                                                    go_roundg k3
                                                    case measure => have := HJ2.out; have := HK2.out; have := HK3.out; omega
                                                    case rel => exact ⟨(y345), (wrap64 (x8_3 + 1)), (by first | rfl | (simp; done) | (simp [*]; done)), H', ⟨by have := HJ2.out; have := HK2.out; have := HK3.out; omega⟩, ⟨by (with_reducible repeat (first | apply Kd.R_alloc | apply Kd.R_drewN | apply Kd.R_drew)); exact Kd.R_mono HO_5.out (fun _ hk => hk.2)⟩, ⟨by (with_reducible repeat (first | apply Kd.R_alloc | apply Kd.R_drewN | apply Kd.R_drew)); exact HO_7.out⟩, ⟨by repeat (first | (with_reducible first | exact HB.out | apply below_alloc | apply pw_below_drewN | apply below_drew1) | exact HB.out)⟩⟩
                                                  · rw [if_neg c70] at H
                                                    exact absurd H (by simp)
                                                · rw [if_neg c69] at H
                                                  exact absurd H (by simp)
                                              · rw [if_neg c68] at H
                                                exact absurd H (by simp)
                                            · rw [if_neg c67] at H
                                              have c67b0 : ((bt a0 x6_2) == (bt a1 (ji63))) = false := beq_eq_false_iff_ne.mpr c67
                                              have c67b1 : ((bt a0 x6_2) != (bt a1 (ji63))) = true := bne_iff_ne.mpr c67
                                              have H' := Aside0.mk H
                                              clear H
                                              have p24 : 0 ≤ (x6_2 : Int) := of_decide_eq_true (by first | (with_reducible assumption) | assumption)
                                              have q24 : x6_2 < (a0.size : Int) := of_decide_eq_true (by first | (with_reducible assumption) | assumption)
                                              have hx24 := bt_at a0 x6_2
                                              replace p24 := eq_true p24
                                              replace q24 := eq_true q24
                                              have p51 : 0 ≤ (x6_2 : Int) := of_decide_eq_true (by first | (with_reducible assumption) | assumption)
                                              have q51 : x6_2 < (a0.size : Int) := of_decide_eq_true (by first | (with_reducible assumption) | assumption)
                                              have hx51 := bt_at a0 x6_2
                                              replace p51 := eq_true p51
                                              replace q51 := eq_true q51
                                              have p62 : 0 ≤ (x6_2 : Int) := of_decide_eq_true (by first | (with_reducible assumption) | assumption)
                                              have q62 : x6_2 < (a0.size : Int) := of_decide_eq_true (by first | (with_reducible assumption) | assumption)
                                              have hx62 := bt_at a0 x6_2
                                              replace p62 := eq_true p62
                                              replace q62 := eq_true q62
                                              have p66 : 0 ≤ ((ji63) : Int) := of_decide_eq_true (by first | (with_reducible assumption) | assumption)
                                              have q66 : (ji63) < (a1.size : Int) := of_decide_eq_true (by first | (with_reducible assumption) | assumption)
                                              have hx66 := bt_at a1 (ji63)
                                              replace p66 := eq_true p66
                                              replace q66 := eq_true q66
                                              go_wp2
                                              repeat (go_quiet (fail); try go_wp2)
                                              go_roundg k3
                                              case measure => have := HJ2.out; have := HK2.out; have := HK3.out; omega
                                              case rel => exact ⟨(x7_3), (wrap64 (x8_3 + 1)), (by first | rfl | (simp; done) | (simp [*]; done)), H', ⟨by have := HJ2.out; have := HK2.out; have := HK3.out; omega⟩, ⟨by (with_reducible repeat (first | apply Kd.R_alloc | apply Kd.R_drewN | apply Kd.R_drew)); exact HO_5.out⟩, ⟨by (with_reducible repeat (first | apply Kd.R_alloc | apply Kd.R_drewN | apply Kd.R_drew)); exact HO_7.out⟩, ⟨by repeat (first | (with_reducible first | exact HB.out | apply below_alloc | apply pw_below_drewN | apply below_drew1) | exact HB.out)⟩⟩
                                          · rw [if_neg c65] at H
                                            exact absurd H (by simp)
                                        · rw [if_neg c64] at H
                                          exact absurd H (by simp)
                                    · rw [if_neg c50] at H
                                      have c50b0 : decide (0 < x8_3) = false := decide_eq_false c50
                                      clear c50
                                      have H' := Aside0.mk H
                                      clear H
                                      have p24 : 0 ≤ (x6_2 : Int) := of_decide_eq_true (by first | (with_reducible assumption) | assumption)
                                      have q24 : x6_2 < (a0.size : Int) := of_decide_eq_true (by first | (with_reducible assumption) | assumption)
                                      have hx24 := bt_at a0 x6_2
                                      replace p24 := eq_true p24
                                      replace q24 := eq_true q24
                                      go_wp2
                                      repeat (go_quiet (fail); try go_wp2)
                                      go_roundg k3
                                      case measure => have := HJ2.out; have := HK2.out; have := HK3.out; omega
                                      case rel => exact ⟨(x7_3), (wrap64 (x8_3 + 1)), (by first | rfl | (simp; done) | (simp [*]; done)), H', ⟨by have := HJ2.out; have := HK2.out; have := HK3.out; omega⟩, ⟨by (with_reducible repeat (first | apply Kd.R_alloc | apply Kd.R_drewN | apply Kd.R_drew)); exact HO_5.out⟩, ⟨by (with_reducible repeat (first | apply Kd.R_alloc | apply Kd.R_drewN | apply Kd.R_drew)); exact HO_7.out⟩, ⟨by repeat (first | (with_reducible first | exact HB.out | apply below_alloc | apply pw_below_drewN | apply below_drew1) | exact HB.out)⟩⟩
                                · rw [if_neg c23] at H
                                  exact absurd H (by simp)
                              · rw [if_neg c22] at H
                                exact absurd H (by simp)
                            · rw [if_neg c21] at H
                              have c21b0 : decide (x8_3 ≤ (a1.size : Int)) = false := decide_eq_false c21
                              clear c21
                              have H' := Aside0.mk H
                              clear H
                              go_wp2
                              repeat (go_quiet (fail); try go_wp2)
                              go_roundg k3
                              case measure => have := HJ2.out; have := HK2.out; have := HK3.out; omega
                              case rel => exact ⟨(x7_3), (wrap64 (x6_2 + 1)), (by first | rfl | (simp; done) | (simp [*]; done)), H', ⟨by have := HJ2.out; have := HK2.out; have := HK3.out; omega⟩, ⟨by (with_reducible repeat (first | apply Kd.R_alloc | apply Kd.R_drewN | apply Kd.R_drew)); exact Kd.R_mono HO_7.out (fun _ hk => trivial)⟩, ⟨by repeat (first | (with_reducible first | exact HB.out | apply below_alloc | apply pw_below_drewN | apply below_drew1) | exact HB.out)⟩⟩
                      · rw [if_neg c18] at H
                        exact absurd H (by simp)
                    · rw [if_neg c17] at H
                      exact absurd H (by simp)
                  · rw [if_neg c15] at H
                    have c15b0 : decide (x6_2 < (a0.size : Int)) = false := decide_eq_false c15
                    clear c15
                    by_cases c75 : 0 ≤ (a1.size : Int)
                    · rw [if_pos c75] at H
                      have c75b0 : decide (0 ≤ (a1.size : Int)) = true := decide_eq_true c75
                      have c75b1 : decide (0 ≤ a1.size) = true := decide_eq_true (by omega)
                      clear c75
                      by_cases c76 : (a1.size : Int) < (x5_2.length : Int)
                      · rw [if_pos c76] at H
                        have c76b0 : decide ((a1.size : Int) < (x5_2.length : Int)) = true := decide_eq_true c76
                        have c76b1 : decide (a1.size < x5_2.length) = true := decide_eq_true (Int.ofNat_lt.mp c76)
                        clear c76
                        obtain rfl := Option.some.inj H
                        obtain ⟨Ao77, co77, eo77⟩ := Kd.R_slice HO_5.out
                        subst eo77
                        have p333 : 0 ≤ ((a1.size : Int) : Int) := of_decide_eq_true (by first | (with_reducible assumption) | assumption)
                        have q333 : (a1.size : Int) < (x5_2.length : Int) := of_decide_eq_true (by first | (with_reducible assumption) | assumption)
                        obtain ⟨ad333, e333, hx333_0⟩ := Kd.at_bool (Kd.R_reads' HO_5.out).2.2 (a1.size : Int) p333 q333
                        (try (have hx333_0z := hx333_0; simp only [Int.toNat_natCast] at hx333_0z))
                        cases e333
                        replace p333 := eq_true p333
                        replace q333 := eq_true q333
                        go_wp2
                        repeat (go_quiet (fail); try go_wp2)
                        go_ret
                        exact ⟨by first | rfl | (simp [errW_none, errW_some] <;> rfl) | (simp only [← hji6]; first | rfl | (simp [errW_none, errW_some] <;> rfl)) | (simp [*, errW_none, errW_some] <;> rfl), by repeat (first | (with_reducible first | exact HB.out | apply below_alloc | apply pw_below_drewN | apply below_drew1) | exact HB.out)⟩
                      · rw [if_neg c76] at H
                        exact absurd H (by simp)
                    · rw [if_neg c75] at H
                      exact absurd H (by simp)
            · rw [if_neg c9] at H
              exact absurd H (by simp)
          · rw [if_neg c8] at H
            exact absurd H (by simp)
        · rw [if_neg c7] at H
          exact absurd H (by simp)

end Go.Proofs.YtcaafbnfgijjfaaDoor.G
