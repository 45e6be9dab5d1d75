-- WRITTEN BY a program of this session (wip/gprint.py) out of the translation
import Derived.Test.YtcaafbnfgijjfaaDoorG0
import Derived.Test.YtcaafbnfgijjfaaDoorG3
import Derived.Test.YtcaafbnfgijjfaaDoorG6
import Derived.Test.YtcaafbnfgijjfaaDoorG9
import Derived.Test.YtcaafbnfgijjfaaDoorGvCode
import Derived.Test.YtcaafbnfgijjfaaDoorGvJoin
import Derived.Test.YtcaafbnfgijjfaaDoorGvSplit
namespace Go.Proofs.YtcaafbnfgijjfaaDoor.G
open Go.RowKit Go.Proofs.YtcaafbnfgijjfaaDoorW.PrintWords Go.Proofs.YtcaafbnfgijjfaaDoorW.PrintLast Go.Proofs.YtcaafbnfgijjfaaDoorW.PrintMore
attribute [local go_sem] max2_int min2_int max_two min_two max_three min_three max_four min_four   -- for this text's walks alone
set_option linter.unusedVariables false
set_option linter.unusedSimpArgs false

/-! ### names_Parent: function 17 -/
def names_Parent.f (a0 : ByteArray) : Option (ByteArray × ByteArray × Option Int) := (names_Split.f a0).bind fun bt228 => (if bt228.2.isNone = true then (if (bt228.1.length : Int) = 0 then (some ((⟨#[]⟩ : ByteArray), (⟨#[]⟩ : ByteArray), some 2)) else (if 0 ≤ (wrap64 ((bt228.1.length : Int) - 1)) then (if (wrap64 ((bt228.1.length : Int) - 1)) ≤ (bt228.1.length : Int) then ((names_Join.f (bt228.1.take ((wrap64 ((bt228.1.length : Int) - 1)) : Int).toNat)).bind fun t237 => (if (wrap64 ((bt228.1.length : Int) - 1)) < (bt228.1.length : Int) then (some (t237, rdOf ByteArray.empty bt228.1 (wrap64 ((bt228.1.length : Int) - 1)), none)) else (none))) else (none)) else (none))) else (some ((⟨#[]⟩ : ByteArray), (⟨#[]⟩ : ByteArray), some (bt228.2.getD 0))))
def names_Parent.T6 : Bool × List (List Nat × List Nat) := (true, [([], []), ([], []), ([1], [1]), ([2], [2]), ([0, 3], [0, 3]), ([4], [4]), ([], []), ([], []), ([7], [7]), ([8], [8]), ([6, 9], [6, 9]), ([10], [10]), ([5, 5, 0, 1, 2, 3, 4, 5], [5]), ([11, 12, 0, 1, 2, 3, 4, 5, 6, 7, 8, 9, 10, 11, 12], [11]), ([13, 0, 1, 2, 3, 4, 5, 6, 7, 8, 9, 10, 11, 12, 13], [])])
def names_Parent.B6 : List Nat := [0, 0, 2, 6, 15, 31, 0, 0, 128, 384, 960, 1984, 63, 8191, 16383]
theorem names_Parent.tab6 : rtab .any (opsOf Tryd.f17 6) = names_Parent.T6 := by kernel_rfl
theorem names_Parent.bits6 : waitsOk names_Parent.T6.2 names_Parent.B6 = true := by kernel_rfl
set_option maxHeartbeats 8000000 in
set_option maxRecDepth 100000 in
theorem names_Parent.calls (a0 : ByteArray) (r1 : ByteArray) (r2 : ByteArray) (r3 : Option Int) (w : World) (h : names_Parent.f a0 = some (r1, r2, r3)) :
    Calls Tryd.prog 17 #[.string a0] w fun e w' => e = .returned (.tuple #[.string r1, .string r2, errW r3]) ∧ Below w.heap.size w w' := by
  have hu26 := Tryd.underlying26
  have hu47 := Tryd.underlying47
  have HB := Aside0.mk (Below.refl w.heap.size w)
  have H : ((names_Split.f a0).bind fun bt228 => (if bt228.2.isNone = true then (if (bt228.1.length : Int) = 0 then (some ((⟨#[]⟩ : ByteArray), (⟨#[]⟩ : ByteArray), some 2)) else (if 0 ≤ (wrap64 ((bt228.1.length : Int) - 1)) then (if (wrap64 ((bt228.1.length : Int) - 1)) ≤ (bt228.1.length : Int) then ((names_Join.f (bt228.1.take ((wrap64 ((bt228.1.length : Int) - 1)) : Int).toNat)).bind fun t237 => (if (wrap64 ((bt228.1.length : Int) - 1)) < (bt228.1.length : Int) then (some (t237, rdOf ByteArray.empty bt228.1 (wrap64 ((bt228.1.length : Int) - 1)), none)) else (none))) else (none)) else (none))) else (some ((⟨#[]⟩ : ByteArray), (⟨#[]⟩ : ByteArray), some (bt228.2.getD 0))))) = some (r1, r2, r3) := h
  clear h
  replace H := Option.bind_eq_some_iff.mp H
  obtain ⟨⟨t228, t229⟩, A20, H⟩ := H
  replace H : (if t229.isNone = true then (if (t228.length : Int) = 0 then (some ((⟨#[]⟩ : ByteArray), (⟨#[]⟩ : ByteArray), some 2)) else (if 0 ≤ (wrap64 ((t228.length : Int) - 1)) then (if (wrap64 ((t228.length : Int) - 1)) ≤ (t228.length : Int) then ((names_Join.f (t228.take ((wrap64 ((t228.length : Int) - 1)) : Int).toNat)).bind fun t237 => (if (wrap64 ((t228.length : Int) - 1)) < (t228.length : Int) then (some (t237, rdOf ByteArray.empty t228 (wrap64 ((t228.length : Int) - 1)), none)) else (none))) else (none)) else (none))) else (some ((⟨#[]⟩ : ByteArray), (⟨#[]⟩ : ByteArray), some (t229.getD 0)))) = some (r1, r2, r3) := H
  have A2 := Aside0.mk A20
  clear A20
  rcases t229 with _ | q232
  · have H1 : (if (t228.length : Int) = 0 then (some ((⟨#[]⟩ : ByteArray), (⟨#[]⟩ : ByteArray), some 2)) else (if 0 ≤ (wrap64 ((t228.length : Int) - 1)) then (if (wrap64 ((t228.length : Int) - 1)) ≤ (t228.length : Int) then ((names_Join.f (t228.take ((wrap64 ((t228.length : Int) - 1)) : Int).toNat)).bind fun t237 => (if (wrap64 ((t228.length : Int) - 1)) < (t228.length : Int) then (some (t237, rdOf ByteArray.empty t228 (wrap64 ((t228.length : Int) - 1)), none)) else (none))) else (none)) else (none))) = some (r1, r2, r3) := by rw [if_pos (show (none : Option Int).isNone = true by rfl)] at H; exact H
    clear H
    have H := H1
    clear H1
    try simp only [errW_none, errW_some]
    by_cases c3 : (t228.length : Int) = 0
    · rw [if_pos c3] at H
      have c3b0 : ((t228.length : Int) == 0) = true := beq_iff_eq.mpr c3
      have c3b1 : ((t228.length : Int) != 0) = false := bne_eq_false_iff_eq.mpr c3
      clear c3
      simp only [Option.some.injEq, Prod.mk.injEq] at H
      obtain ⟨rfl, rfl, rfl⟩ := H
      go_enter Tryd.func17, Tryd.ntmps17
      go_wp2_with (first | ((with_reducible refine gate_callee (f := 12) rfl ?_); refine goesL_ (some 8) rfl rfl Tryd.func12 (by kernel_rfl) rfl #[.string a0] rfl (by (try simp only [List.map_toArray, List.map_cons, List.map_nil]); first | done | rfl | (simp only [List.length_drop, List.length_take]; rfl)) ?_; (with_reducible refine (names_Split.calls a0 t228 none _ A2.out).mono ?_); rintro e w4 ⟨v230, rfl, ho0, hb⟩; refine ⟨_, rfl, ?_⟩; have n0_ := Aside0.mk (Kd.R_lower ho0 (below_size (by repeat (first | (with_reducible first | exact HB.out | apply below_alloc | apply pw_below_drewN | apply below_drew1) | exact HB.out)))); have n1_ := Aside0.mk (below_step (by repeat (first | (with_reducible first | exact HB.out | apply below_alloc | apply pw_below_drewN | apply below_drew1) | exact HB.out)) hb); clear HB; have HO231 := n0_; have HB := n1_; clear n0_ n1_; (try clear hb); (try clear hb2); (try clear hk); (try clear hi); (try clear ho0); (try simp only [errW_none, errW_some]); obtain ⟨Ao5, co5, eo5⟩ := Kd.R_slice HO231.out; subst eo5))
      go_ret3
      exact ⟨by first | rfl | (simp [errW_none, errW_some] <;> rfl) | (simp [*, errW_none, errW_some] <;> rfl), by repeat (first | (with_reducible first | exact HB.out | apply below_alloc | apply pw_below_drewN | apply below_drew1) | exact HB.out)⟩
    · rw [if_neg c3] at H
      have c3b0 : ((t228.length : Int) == 0) = false := beq_eq_false_iff_ne.mpr c3
      have c3b1 : ((t228.length : Int) != 0) = true := bne_iff_ne.mpr c3
      have c3b2 : ¬ (t228 = []) := fun h_ => c3 (by rw [h_]; rfl)
      obtain ⟨ji6, hji6⟩ : ∃ j_ : Int, (wrap64 ((t228.length : Int) - 1)) = j_ := ⟨_, rfl⟩
      replace H : (if 0 ≤ (ji6) then (if (ji6) ≤ (t228.length : Int) then ((names_Join.f (t228.take ((ji6) : Int).toNat)).bind fun t237 => (if (ji6) < (t228.length : Int) then (some (t237, rdOf ByteArray.empty t228 (ji6), none)) else (none))) else (none)) else (none)) = some (r1, r2, r3) := by first | (rw [hji6] at H; exact H) | (simp only [hji6] at H ⊢; exact H)
      (try rw [hji6] at A2)
      have hji6w : (IntKind.i64.wrap ((t228.length : Int) - 1)) = ji6 := (i64_w _).trans hji6
      by_cases c7 : 0 ≤ (ji6)
      · rw [if_pos c7] at H
        have c7b0 := eq_true c7
        have c7b1 : decide (0 ≤ (ji6)) = true := decide_eq_true c7
        clear c7
        by_cases c8 : (ji6) ≤ (t228.length : Int)
        · rw [if_pos c8] at H
          have c8b0 := eq_true c8
          have c8b1 : decide ((ji6) ≤ (t228.length : Int)) = true := decide_eq_true c8
          clear c8
          obtain ⟨y233, hy233⟩ : ∃ y_ : List ByteArray, y_ = (t228.take ((ji6) : Int).toNat) := ⟨_, rfl⟩
          replace H : ((names_Join.f y233).bind fun t237 => (if (ji6) < (t228.length : Int) then (some (t237, rdOf ByteArray.empty t228 (ji6), none)) else (none))) = some (r1, r2, r3) := by first | (rw [hy233]; with_reducible exact H) | (have H2_ := (Option.bind_some _ _).symm.trans H; rw [hy233]; with_reducible exact H2_) | (have H2_ := (Option.bind_some _ _).symm.trans H; with_reducible exact H2_) | with_reducible exact H | (rw [hy233]; exact H) | exact H
          have Ny233 := Aside0.mk hy233
          clear hy233
          replace H := Option.bind_eq_some_iff.mp H
          obtain ⟨t237, A90, H⟩ := H
          replace H : (if (ji6) < (t228.length : Int) then (some (t237, rdOf ByteArray.empty t228 (ji6), none)) else (none)) = some (r1, r2, r3) := H
          have A9 := Aside0.mk A90
          clear A90
          by_cases c10 : (ji6) < (t228.length : Int)
          · rw [if_pos c10] at H
            have c10b0 : decide ((ji6) < (t228.length : Int)) = true := decide_eq_true c10
            clear c10
            simp only [Option.some.injEq, Prod.mk.injEq] at H
            obtain ⟨rfl, rfl, rfl⟩ := H
            go_enter Tryd.func17, Tryd.ntmps17
            try go_wp2_with (first | ((with_reducible refine gate_callee (f := 12) rfl ?_); refine goesL_ (some 8) rfl rfl Tryd.func12 (by kernel_rfl) rfl #[.string a0] rfl (by (try simp only [List.map_toArray, List.map_cons, List.map_nil]); first | done | rfl | (simp only [List.length_drop, List.length_take]; rfl)) ?_; (with_reducible refine (names_Split.calls a0 t228 none _ A2.out).mono ?_); rintro e w11 ⟨v230, rfl, ho0, hb⟩; refine ⟨_, rfl, ?_⟩; have n0_ := Aside0.mk (Kd.R_lower ho0 (below_size (by repeat (first | (with_reducible first | exact HB.out | apply below_alloc | apply pw_below_drewN | apply below_drew1) | exact HB.out)))); have n1_ := Aside0.mk (below_step (by repeat (first | (with_reducible first | exact HB.out | apply below_alloc | apply pw_below_drewN | apply below_drew1) | exact HB.out)) hb); clear HB; have HO231 := n0_; have HB := n1_; clear n0_ n1_; (try clear hb); (try clear hb2); (try clear hk); (try clear hi); (try clear ho0); (try simp only [errW_none, errW_some]); obtain ⟨Ao12, co12, eo12⟩ := Kd.R_slice HO231.out; subst eo12))
            have n0_ := Aside0.mk (Kd.R_drew HO231.out)
            have n1_ := Aside0.mk (below_drew1 HB.out)
            clear HO231
            clear HB
            have HO231 := n0_
            have HB := n1_
            clear n0_ n1_
            have q14 : ((ji6) : Int) ≤ ((t228.length : Int) : Int) := of_decide_eq_true (by first | (with_reducible assumption) | assumption)
            obtain ⟨i014, hi014, _, hsz14, _⟩ := info_parts info9
            have hroom14 : t228.length ≤ co12 := (Kd.R_reads' HO231.out).2.1
            have hC14 : Kd.C Kd.string _ Ao12 t228.length t228 := (Kd.R_reads' HO231.out).2.2
            have hcut14 := cut_to (P := Tryd.prog) 24 9 .i64 Tryd.underlying24 hi014 Ao12 t228.length co12 (ji6) (of_decide_eq_true (by first | (with_reducible assumption) | assumption)) q14 hroom14
            have hr14 := Kd.C_take (m := ((ji6) : Int).toNat) hC14 (by omega)
            have hy14 : y233.length = ((ji6) : Int).toNat := (by rw [Ny233.out, List.length_take]; omega)
            rw [← Ny233.out] at hr14
            rw [← hy14] at hcut14
            have HR236 := Aside0.mk hr14
            have HC236 := Aside0.mk (show y233.length ≤ co12 from by omega)
            clear hr14 hC14 hroom14 hi014 hsz14
            have KY14 := Aside0.mk hy14
            clear hy14
            have KL14 := Aside0.mk (show ((ji6) : Int).toNat ≤ t228.length from by omega)
            replace q14 := eq_true q14
            have p238 : 0 ≤ ((ji6) : Int) := of_decide_eq_true (by first | (with_reducible assumption) | assumption)
            have q238 : (ji6) < (t228.length : Int) := of_decide_eq_true (by first | (with_reducible assumption) | assumption)
            obtain ⟨ad238, e238, hx238_0⟩ := Kd.at_string (Kd.R_reads' HO231.out).2.2 (ji6) p238 q238
            cases e238
            replace p238 := eq_true p238
            replace q238 := eq_true q238
            refine start_ (n := 15) (S := fun w' => w'.cell? (ad238.add ((ji6)).toNat) = some (.string (rdOf ByteArray.empty t228 (ji6)))) (ds := []) #[false, false, false, false, false, false, false, false, false, false, false, false, false, false, false] (by kernel_rfl) rfl rfl (hx238_0) (fun hHeld => ?_); refine with_tabW names_Parent.tab6 names_Parent.bits6 (fun HT_ HW_ => ?_)
            generalize w11.drew = w13 at HO231 HB HR236 hx238_0 hHeld ⊢
            refine pure_ (i := 0) (N := some 18) (v := ?_) (a' := ?_) #[true, false, false, false, false, false, false, false, false, false, false, false, false, false, false] rfl rfl (any_of HT_.out (by kernel_rfl)) (fun _ _ _ h => h) (Or.inl ⟨by rfl, ?_⟩) ?_ ?_
            rotate_left
            · intro w'
              go_simp
              with_reducible rfl
            rotate_left
            · simp only [Act.put, List.setIfInBounds_toArray, List.set_cons_zero, List.set_cons_succ, i64_w, i32_w]
              rfl
            refine pure_ (i := 1) (N := some 19) (v := ?_) (a' := ?_) #[true, true, false, false, false, false, false, false, false, false, false, false, false, false, false] rfl rfl (any_of HT_.out (by kernel_rfl)) (fun _ _ _ h => h) (Or.inl ⟨by rfl, ?_⟩) ?_ ?_
            rotate_left
            · intro w'
              go_simp
              with_reducible rfl
            rotate_left
            · simp only [Act.put, List.setIfInBounds_toArray, List.set_cons_zero, List.set_cons_succ, i64_w, i32_w]
              rfl
            refine pure_ (i := 2) (N := some 20) (v := ?_) (a' := ?_) #[true, true, true, false, false, false, false, false, false, false, false, false, false, false, false] rfl rfl (any_of HT_.out (by kernel_rfl)) (fun _ _ _ h => h) (Or.inl ⟨by rfl, ?_⟩) ?_ ?_
            rotate_left
            · intro w'
              go_simp
              with_reducible rfl
            rotate_left
            · simp only [Act.put, List.setIfInBounds_toArray, List.set_cons_zero, List.set_cons_succ, i64_w, i32_w]
              rfl
            refine pure_ (i := 3) (N := some 21) (v := ?_) (a' := ?_) #[true, true, true, true, false, false, false, false, false, false, false, false, false, false, false] rfl rfl (any_of HT_.out (by kernel_rfl)) (fun _ _ _ h => h) (Or.inl ⟨by rfl, ?_⟩) ?_ ?_
            rotate_left
            · intro w'
              go_simp
              with_reducible rfl
            rotate_left
            · simp only [Act.put, List.setIfInBounds_toArray, List.set_cons_zero, List.set_cons_succ, i64_w, i32_w]
              rfl
            refine pure_ (i := 4) (N := some 22) (v := ?_) (a' := ?_) #[true, true, true, true, true, false, false, false, false, false, false, false, false, false, false] rfl rfl (any_of HT_.out (by kernel_rfl)) (fun _ _ _ h => h) (Or.inl ⟨by rfl, ?_⟩) ?_ ?_
            rotate_left
            · intro w'
              go_simp
              with_reducible rfl
            rotate_left
            · simp only [Act.put, List.setIfInBounds_toArray, List.set_cons_zero, List.set_cons_succ, i64_w, i32_w]
              rfl
            refine pure_ (i := 6) (N := some 24) (v := ?_) (a' := ?_) #[true, true, true, true, true, false, true, false, false, false, false, false, false, false, false] rfl rfl (any_of HT_.out (by kernel_rfl)) (fun _ _ _ h => h) (Or.inl ⟨by rfl, ?_⟩) ?_ ?_
            rotate_left
            · intro w'
              go_simp
              with_reducible rfl
            rotate_left
            · simp only [Act.put, List.setIfInBounds_toArray, List.set_cons_zero, List.set_cons_succ, i64_w, i32_w]
              rfl
            refine pure_ (i := 7) (N := some 25) (v := ?_) (a' := ?_) #[true, true, true, true, true, false, true, true, false, false, false, false, false, false, false] rfl rfl (any_of HT_.out (by kernel_rfl)) (fun _ _ _ h => h) (Or.inl ⟨by rfl, ?_⟩) ?_ ?_
            rotate_left
            · intro w'
              go_simp
              with_reducible rfl
            rotate_left
            · simp only [Act.put, List.setIfInBounds_toArray, List.set_cons_zero, List.set_cons_succ, i64_w, i32_w]
              rfl
            refine pure_ (i := 8) (N := some 26) (v := ?_) (a' := ?_) #[true, true, true, true, true, false, true, true, true, false, false, false, false, false, false] rfl rfl (any_of HT_.out (by kernel_rfl)) (fun _ _ _ h => h) (Or.inl ⟨by rfl, ?_⟩) ?_ ?_
            rotate_left
            · intro w'
              go_simp
              with_reducible rfl
            rotate_left
            · simp only [Act.put, List.setIfInBounds_toArray, List.set_cons_zero, List.set_cons_succ, i64_w, i32_w]
              rfl
            refine pure_ (i := 9) (N := some 27) (v := ?_) (a' := ?_) #[true, true, true, true, true, false, true, true, true, true, false, false, false, false, false] rfl rfl (any_of HT_.out (by kernel_rfl)) (fun _ _ _ h => h) (Or.inl ⟨by rfl, ?_⟩) ?_ ?_
            rotate_left
            · intro w'
              go_simp
              with_reducible rfl
            rotate_left
            · simp only [Act.put, List.setIfInBounds_toArray, List.set_cons_zero, List.set_cons_succ, i64_w, i32_w]
              rfl
            refine pure_ (i := 10) (N := some 28) (v := ?_) (a' := ?_) #[true, true, true, true, true, false, true, true, true, true, true, false, false, false, false] rfl rfl (any_of HT_.out (by kernel_rfl)) (fun _ _ _ h => h) (Or.inl ⟨by rfl, ?_⟩) ?_ ?_
            rotate_left
            · intro w'
              go_simp
              with_reducible rfl
            rotate_left
            · simp only [Act.put, List.setIfInBounds_toArray, List.set_cons_zero, List.set_cons_succ, i64_w, i32_w]
              rfl
            refine take_ (i := 11) (N := some 29) (v := ?_) (a' := ?_) #[true, true, true, true, true, false, true, true, true, true, true, true, false, false, false] rfl rfl (take_ofW HT_.out HW_.out (by kernel_rfl)) (fun _ _ _ h => h) (Or.inl ⟨by rfl, ?_⟩) hHeld ?_ ?_
            rotate_left
            · intro w' s0
              go_simp
              with_reducible rfl
            rotate_left
            · simp only [Act.put, List.setIfInBounds_toArray, List.set_cons_zero, List.set_cons_succ, i64_w, i32_w]
              rfl
            refine one_ (i := 5) (N := some 23) #[true, true, true, true, true, true, true, true, true, true, true, true, false, false, false] rfl rfl (one_of HT_.out (by kernel_rfl)) (by decide) (fun K hK => ?_)
            refine goes_ Tryd.func15 (by kernel_rfl) rfl #[.slice (some ad238) y233.length co12] (by rfl) rfl rfl (by (try simp only [List.map_toArray, List.map_cons, List.map_nil]); first | done | rfl | (simp only [List.length_drop, List.length_take]; rfl)) ?_
            with_reducible refine (names_Join.calls _ _ y233 t237 _ ?side1 ?side2 A9.out).mono ?_
            (case side1 => repeat (first | exact (by repeat (first | (with_reducible exact HR236.out) | (with_reducible refine Kd.C_alloc ?_ _) | (with_reducible refine Kd.C_drewN ?_ _) | (with_reducible refine Kd.C_drew ?_) | exact HR236.out)) | (with_reducible refine Kd.C_alloc ?_ _) | (with_reducible refine Kd.C_drewN ?_ _) | (with_reducible refine Kd.C_drew ?_)))
            (case side2 => exact HC236.out)
            rintro e w15 ⟨rfl, hb⟩
            have HS0_ := (hb.cell (World.block_lt_of_cell? _ _ (hHeld))).trans (hHeld)
            refine ⟨_, rfl, ?_⟩
            have n0_ := Aside0.mk (Kd.R_below (by (with_reducible repeat (first | apply Kd.R_alloc | apply Kd.R_drewN | apply Kd.R_drew)); exact HO231.out) hb)
            have n1_ := Aside0.mk (Kd.C_below (by repeat (first | (with_reducible exact HR236.out) | (with_reducible refine Kd.C_alloc ?_ _) | (with_reducible refine Kd.C_drewN ?_ _) | (with_reducible refine Kd.C_drew ?_) | exact HR236.out)) hb)
            have n2_ := Aside0.mk (below_step (by repeat (first | (with_reducible first | exact HB.out | apply below_alloc | apply pw_below_drewN | apply below_drew1) | exact HB.out)) hb)
            clear HO231
            clear HR236
            clear HB
            have HO231 := n0_
            have HR236 := n1_
            have HB := n2_
            clear n0_ n1_ n2_
            (try clear hb)
            (try clear hb2)
            (try clear hk)
            (try clear hi)
            refine hK.out _ _ (HS0_) (fun hHeld => ?_)
            clear hK K
            refine norm_ (a' := ?_) ?_ ?_
            rotate_left
            · show Act.put _ (some 23) _ = _
              simp only [Act.put, List.setIfInBounds_toArray, List.set_cons_zero, List.set_cons_succ, i64_w, i32_w]
              rfl
            refine pure_ (i := 12) (N := some 2) (v := ?_) (a' := ?_) #[true, true, true, true, true, true, true, true, true, true, true, true, true, false, false] rfl rfl (any_of HT_.out (by kernel_rfl)) (fun _ _ _ h => h) (Or.inl ⟨by rfl, ?_⟩) ?_ ?_
            rotate_left
            · intro w'
              go_simp
              with_reducible rfl
            rotate_left
            · simp only [Act.put, List.setIfInBounds_toArray, List.set_cons_zero, List.set_cons_succ, i64_w, i32_w]
              rfl
            refine pure_ (i := 13) (N := some 3) (v := ?_) (a' := ?_) #[true, true, true, true, true, true, true, true, true, true, true, true, true, true, false] rfl rfl (any_of HT_.out (by kernel_rfl)) (fun _ _ _ h => h) (Or.inl ⟨by rfl, ?_⟩) ?_ ?_
            rotate_left
            · intro w'
              go_simp
              with_reducible rfl
            rotate_left
            · simp only [Act.put, List.setIfInBounds_toArray, List.set_cons_zero, List.set_cons_succ, i64_w, i32_w]
              rfl
            refine pure_ (i := 14) (N := some 4) (v := ?_) (a' := ?_) #[true, true, true, true, true, true, true, true, true, true, true, true, true, true, true] rfl rfl (any_of HT_.out (by kernel_rfl)) (fun _ _ _ h => h) (Or.inl ⟨by rfl, ?_⟩) ?_ ?_
            rotate_left
            · intro w'
              go_simp
              with_reducible rfl
            rotate_left
            · simp only [Act.put, List.setIfInBounds_toArray, List.set_cons_zero, List.set_cons_succ, i64_w, i32_w]
              rfl
            refine done_ (done_of HT_.out (by kernel_rfl)) ?_
            try go_wp2
            go_ret3
            exact ⟨by first | rfl | (simp [errW_none, errW_some] <;> rfl) | (simp only [← hji6]; first | rfl | (simp [errW_none, errW_some] <;> rfl)) | (simp [*, errW_none, errW_some] <;> rfl), by repeat (first | (with_reducible first | exact HB.out | apply below_alloc | apply pw_below_drewN | apply below_drew1) | exact HB.out)⟩
          · rw [if_neg c10] at H
            exact absurd H (by simp)
        · rw [if_neg c8] at H
          exact absurd H (by simp)
      · rw [if_neg c7] at H
        exact absurd H (by simp)
  · have H1 : (some ((⟨#[]⟩ : ByteArray), (⟨#[]⟩ : ByteArray), some q232)) = some (r1, r2, r3) := by rw [if_neg (show ¬ (some q232).isNone = true by simp)] at H; exact H
    clear H
    have H := H1
    clear H1
    try simp only [errW_none, errW_some]
    simp only [Option.some.injEq, Prod.mk.injEq] at H
    obtain ⟨rfl, rfl, rfl⟩ := H
    go_enter Tryd.func17, Tryd.ntmps17
    go_wp2_with (first | ((with_reducible refine gate_callee (f := 12) rfl ?_); refine goesL_ (some 8) rfl rfl Tryd.func12 (by kernel_rfl) rfl #[.string a0] rfl (by (try simp only [List.map_toArray, List.map_cons, List.map_nil]); first | done | rfl | (simp only [List.length_drop, List.length_take]; rfl)) ?_; (with_reducible refine (names_Split.calls a0 t228 (some q232) _ A2.out).mono ?_); rintro e w16 ⟨v230, rfl, ho0, hb⟩; refine ⟨_, rfl, ?_⟩; have n0_ := Aside0.mk (Kd.R_lower ho0 (below_size (by repeat (first | (with_reducible first | exact HB.out | apply below_alloc | apply pw_below_drewN | apply below_drew1) | exact HB.out)))); have n1_ := Aside0.mk (below_step (by repeat (first | (with_reducible first | exact HB.out | apply below_alloc | apply pw_below_drewN | apply below_drew1) | exact HB.out)) hb); clear HB; have HO231 := n0_; have HB := n1_; clear n0_ n1_; (try clear hb); (try clear hb2); (try clear hk); (try clear hi); (try clear ho0); (try simp only [errW_none, errW_some])))
    go_ret3
    exact ⟨by first | rfl | (simp [errW_none, errW_some] <;> rfl) | (simp [*, errW_none, errW_some] <;> rfl), by repeat (first | (with_reducible first | exact HB.out | apply below_alloc | apply pw_below_drewN | apply below_drew1) | exact HB.out)⟩

end Go.Proofs.YtcaafbnfgijjfaaDoor.G
