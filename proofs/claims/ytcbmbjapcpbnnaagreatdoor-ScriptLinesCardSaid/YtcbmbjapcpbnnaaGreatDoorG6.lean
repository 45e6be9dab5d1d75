-- WRITTEN BY a program of this session (wip/gprint.py) out of the translation
import Derived.Test.YtcbmbjapcpbnnaaGreatDoorTabs
import Derived.Test.YtcbmbjapcpbnnaaGreatDoorG0
import Derived.Test.YtcbmbjapcpbnnaaGreatDoorG1
import Derived.Test.YtcbmbjapcpbnnaaGreatDoorG4
import Derived.Test.YtcbmbjapcpbnnaaGreatDoorG5
import Derived.Test.YtcbmbjapcpbnnaaGreatDoorGvStr
namespace Go.Proofs.YtcbmbjapcpbnnaaGreatDoor.G
open Go.RowKit Go.Proofs.YtcbmbjapcpbnnaaGreatDoorW.PrintWords Go.Proofs.YtcbmbjapcpbnnaaGreatDoorW.PrintLast Go.Proofs.YtcbmbjapcpbnnaaGreatDoorW.PrintMore
attribute [local go_sem] max2_int min2_int max_two min_two max_three min_three max_four min_four   -- for this text's walks alone
set_option linter.unusedVariables false
set_option linter.unusedSimpArgs false

/-! ### hist_ParseOp: function 13 -/
mutual
def hist_ParseOp.l0 : Nat → ByteArray → List ByteArray → Int → Int → ByteArray → ByteArray → Int → Int → Int → Option (Int × ByteArray × ByteArray × Int × Int × List Int × Int × Option Int)
 | 0, _, _, _, _, _, _, _, _, _ => none
 | k + 1, x0, x4, x6, x180000, x180001, x180002, x180003, x180004, x180006 => if x6 ≤ 14 then ((hist_word.f x6).bind fun t180 => (if 0 < (x4.length : Int) then (if t180.toList = (rdOf ByteArray.empty x4 0).toList then (hist_ParseOp.l0 k x0 x4 (wrap64 (x6 + 1)) x6 x180001 x180002 x180003 x180004 x180006) else (hist_ParseOp.l0 k x0 x4 (wrap64 (x6 + 1)) x180000 x180001 x180002 x180003 x180004 x180006)) else (none))) else (if x180000 ≤ 11 then (if 1 < (x4.length : Int) then ((strings_LastIndexByte.f x0 64).bind fun t183 => (if t183 ≥ 0 then (if 0 ≤ (wrap64 (t183 + 1)) then (if (wrap64 (t183 + 1)) ≤ (x0.size : Int) then ((hist_Num.f (x0.extract ((wrap64 (t183 + 1)) : Int).toNat x0.size)).bind fun t184 => (hist_ParseOp.j1 k x0 x4 x180000 (rdOf ByteArray.empty x4 1) x180002 x180003 x180004 t184)) else (none)) else (none)) else (hist_ParseOp.j1 k x0 x4 x180000 (rdOf ByteArray.empty x4 1) x180002 x180003 x180004 x180006))) else (none)) else (hist_ParseOp.j1 k x0 x4 x180000 x180001 x180002 x180003 x180004 x180006))
def hist_ParseOp.j1 : Nat → ByteArray → List ByteArray → Int → ByteArray → ByteArray → Int → Int → Int → Option (Int × ByteArray × ByteArray × Int × Int × List Int × Int × Option Int)
 | 0, _, _, _, _, _, _, _, _ => none
 | k + 1, x0, x4, x180000, x180001, x180002, x180003, x180004, x180006 => if x180000 = 5 then (hist_ParseOp.j2 k x0 x4 x180000 (x180000 == 5) x180000 x180001 x180002 x180003 x180004 x180006) else (hist_ParseOp.j2 k x0 x4 x180000 (x180000 == 6) x180000 x180001 x180002 x180003 x180004 x180006)
def hist_ParseOp.j2 : Nat → ByteArray → List ByteArray → Int → Bool → Int → ByteArray → ByteArray → Int → Int → Int → Option (Int × ByteArray × ByteArray × Int × Int × List Int × Int × Option Int)
 | 0, _, _, _, _, _, _, _, _, _, _ => none
 | k + 1, x0, x4, x43, x44, x180000, x180001, x180002, x180003, x180004, x180006 => if x44 = true then (if 2 < (x4.length : Int) then (if x0.toList = ([] : List UInt8) then (some (0, (⟨#[]⟩ : ByteArray), (⟨#[]⟩ : ByteArray), 0, 0, ([] : List Int), 0, some 14)) else ((hist_Op.f k x180000 x180001 (rdOf ByteArray.empty x4 2) x180003 x180004 ([] : List Int) x180006).bind fun t186 => (if t186.toList = x0.toList then (some (x180000, x180001, rdOf ByteArray.empty x4 2, x180003, x180004, ([] : List Int), x180006, none)) else (some (0, (⟨#[]⟩ : ByteArray), (⟨#[]⟩ : ByteArray), 0, 0, ([] : List Int), 0, some 14))))) else (none)) else (if x43 = 8 then (if 2 < (x4.length : Int) then ((hist_Num.f (rdOf ByteArray.empty x4 2)).bind fun t188 => (if 3 < (x4.length : Int) then ((dump_Unhex.f k (rdOf ByteArray.empty x4 3)).bind fun bt190 => (if x0.toList = ([] : List UInt8) then (some (0, (⟨#[]⟩ : ByteArray), (⟨#[]⟩ : ByteArray), 0, 0, ([] : List Int), 0, some 14)) else ((hist_Op.f k x180000 x180001 x180002 t188 x180004 bt190.1 x180006).bind fun t194 => (if t194.toList = x0.toList then (some (x180000, x180001, x180002, t188, x180004, bt190.1, x180006, none)) else (some (0, (⟨#[]⟩ : ByteArray), (⟨#[]⟩ : ByteArray), 0, 0, ([] : List Int), 0, some 14)))))) else (none))) else (none)) else (if x43 = 7 then (if 2 < (x4.length : Int) then ((hist_Num.f (rdOf ByteArray.empty x4 2)).bind fun t196 => (if 3 < (x4.length : Int) then ((hist_Num.f (rdOf ByteArray.empty x4 3)).bind fun t198 => (if x0.toList = ([] : List UInt8) then (some (0, (⟨#[]⟩ : ByteArray), (⟨#[]⟩ : ByteArray), 0, 0, ([] : List Int), 0, some 14)) else ((hist_Op.f k x180000 x180001 x180002 t196 t198 ([] : List Int) x180006).bind fun t199 => (if t199.toList = x0.toList then (some (x180000, x180001, x180002, t196, t198, ([] : List Int), x180006, none)) else (some (0, (⟨#[]⟩ : ByteArray), (⟨#[]⟩ : ByteArray), 0, 0, ([] : List Int), 0, some 14)))))) else (none))) else (none)) else (if x43 = 9 then (if 2 < (x4.length : Int) then ((hist_Num.f (rdOf ByteArray.empty x4 2)).bind fun t201 => (if x0.toList = ([] : List UInt8) then (some (0, (⟨#[]⟩ : ByteArray), (⟨#[]⟩ : ByteArray), 0, 0, ([] : List Int), 0, some 14)) else ((hist_Op.f k x180000 x180001 x180002 x180003 t201 ([] : List Int) x180006).bind fun t202 => (if t202.toList = x0.toList then (some (x180000, x180001, x180002, x180003, t201, ([] : List Int), x180006, none)) else (some (0, (⟨#[]⟩ : ByteArray), (⟨#[]⟩ : ByteArray), 0, 0, ([] : List Int), 0, some 14)))))) else (none)) else (if x43 = 13 then (if 1 < (x4.length : Int) then ((hist_Num.f (rdOf ByteArray.empty x4 1)).bind fun t204 => (if x0.toList = ([] : List UInt8) then (some (0, (⟨#[]⟩ : ByteArray), (⟨#[]⟩ : ByteArray), 0, 0, ([] : List Int), 0, some 14)) else ((hist_Op.f k x180000 x180001 x180002 x180003 x180004 ([] : List Int) t204).bind fun t205 => (if t205.toList = x0.toList then (some (x180000, x180001, x180002, x180003, x180004, ([] : List Int), t204, none)) else (some (0, (⟨#[]⟩ : ByteArray), (⟨#[]⟩ : ByteArray), 0, 0, ([] : List Int), 0, some 14)))))) else (none)) else (if x0.toList = ([] : List UInt8) then (some (0, (⟨#[]⟩ : ByteArray), (⟨#[]⟩ : ByteArray), 0, 0, ([] : List Int), 0, some 14)) else ((hist_Op.f k x180000 x180001 x180002 x180003 x180004 ([] : List Int) x180006).bind fun t206 => (if t206.toList = x0.toList then (some (x180000, x180001, x180002, x180003, x180004, ([] : List Int), x180006, none)) else (some (0, (⟨#[]⟩ : ByteArray), (⟨#[]⟩ : ByteArray), 0, 0, ([] : List Int), 0, some 14)))))))))
end
def hist_ParseOp.f (k : Nat) (a0 : ByteArray) : Option (Int × ByteArray × ByteArray × Int × Int × List Int × Int × Option Int) := (strings_Split.f a0 (⟨#[32]⟩ : ByteArray)).bind fun t170 => ((some (([(⟨#[]⟩ : ByteArray), (⟨#[]⟩ : ByteArray), (⟨#[]⟩ : ByteArray)] : List ByteArray) : List ByteArray)).bind fun y173 => (if t170.length + y173.length < 8796093022208 then (hist_ParseOp.l0 k a0 (t170 ++ y173) 1 0 (⟨#[]⟩ : ByteArray) (⟨#[]⟩ : ByteArray) 0 0 0) else (none)))
theorem hist_ParseOp.mono_l : ∀ k, (∀ y0 y1 y2 y3 y4 y5 y6 y7 y8, LeO (hist_ParseOp.l0 k y0 y1 y2 y3 y4 y5 y6 y7 y8) (hist_ParseOp.l0 (k + 1) y0 y1 y2 y3 y4 y5 y6 y7 y8)) ∧ (∀ y0 y1 y2 y3 y4 y5 y6 y7, LeO (hist_ParseOp.j1 k y0 y1 y2 y3 y4 y5 y6 y7) (hist_ParseOp.j1 (k + 1) y0 y1 y2 y3 y4 y5 y6 y7)) ∧ (∀ y0 y1 y2 y3 y4 y5 y6 y7 y8 y9, LeO (hist_ParseOp.j2 k y0 y1 y2 y3 y4 y5 y6 y7 y8 y9) (hist_ParseOp.j2 (k + 1) y0 y1 y2 y3 y4 y5 y6 y7 y8 y9))
 | 0 => ⟨fun _ _ _ _ _ _ _ _ _ r h => by simp [hist_ParseOp.l0] at h, fun _ _ _ _ _ _ _ _ r h => by simp [hist_ParseOp.j1] at h, fun _ _ _ _ _ _ _ _ _ _ r h => by simp [hist_ParseOp.j2] at h⟩
 | k + 1 => by
  obtain ⟨ih0, ih1, ih2⟩ := hist_ParseOp.mono_l k
  refine ⟨?_, ?_, ?_⟩
  ·intro y0 y1 y2 y3 y4 y5 y6 y7 y8
   unfold hist_ParseOp.l0
   repeat' first
   | (with_reducible exact ih0 _ _ _ _ _ _ _ _ _)
   | (with_reducible exact ih1 _ _ _ _ _ _ _ _)
   | (with_reducible exact ih2 _ _ _ _ _ _ _ _ _ _)
   | (with_reducible exact dump_Unhex.mono _ _)
   | (with_reducible exact hist_Op.mono _ _ _ _ _ _ _ _)
   | (with_reducible exact LeO.refl _)
   | (with_reducible exact LeO.none _)
   | (with_reducible refine LeO.ite ?_ ?_)
   | (with_reducible refine LeO.bind ?_ (fun _ => ?_))
   | exact ih0 _ _ _ _ _ _ _ _ _
   | exact ih1 _ _ _ _ _ _ _ _
   | exact ih2 _ _ _ _ _ _ _ _ _ _
   | exact dump_Unhex.mono _ _
   | exact hist_Op.mono _ _ _ _ _ _ _ _
   | exact LeO.none _
   | refine LeO.ite ?_ ?_
   | refine LeO.bind ?_ (fun _ => ?_)
  ·intro y0 y1 y2 y3 y4 y5 y6 y7
   unfold hist_ParseOp.j1
   repeat' first
   | (with_reducible exact ih0 _ _ _ _ _ _ _ _ _)
   | (with_reducible exact ih1 _ _ _ _ _ _ _ _)
   | (with_reducible exact ih2 _ _ _ _ _ _ _ _ _ _)
   | (with_reducible exact dump_Unhex.mono _ _)
   | (with_reducible exact hist_Op.mono _ _ _ _ _ _ _ _)
   | (with_reducible exact LeO.refl _)
   | (with_reducible exact LeO.none _)
   | (with_reducible refine LeO.ite ?_ ?_)
   | (with_reducible refine LeO.bind ?_ (fun _ => ?_))
   | exact ih0 _ _ _ _ _ _ _ _ _
   | exact ih1 _ _ _ _ _ _ _ _
   | exact ih2 _ _ _ _ _ _ _ _ _ _
   | exact dump_Unhex.mono _ _
   | exact hist_Op.mono _ _ _ _ _ _ _ _
   | exact LeO.none _
   | refine LeO.ite ?_ ?_
   | refine LeO.bind ?_ (fun _ => ?_)
  ·intro y0 y1 y2 y3 y4 y5 y6 y7 y8 y9
   unfold hist_ParseOp.j2
   repeat' first
   | (with_reducible exact ih0 _ _ _ _ _ _ _ _ _)
   | (with_reducible exact ih1 _ _ _ _ _ _ _ _)
   | (with_reducible exact ih2 _ _ _ _ _ _ _ _ _ _)
   | (with_reducible exact dump_Unhex.mono _ _)
   | (with_reducible exact hist_Op.mono _ _ _ _ _ _ _ _)
   | (with_reducible exact LeO.refl _)
   | (with_reducible exact LeO.none _)
   | (with_reducible refine LeO.ite ?_ ?_)
   | (with_reducible refine LeO.bind ?_ (fun _ => ?_))
   | exact ih0 _ _ _ _ _ _ _ _ _
   | exact ih1 _ _ _ _ _ _ _ _
   | exact ih2 _ _ _ _ _ _ _ _ _ _
   | exact dump_Unhex.mono _ _
   | exact hist_Op.mono _ _ _ _ _ _ _ _
   | exact LeO.none _
   | refine LeO.ite ?_ ?_
   | refine LeO.bind ?_ (fun _ => ?_)
theorem hist_ParseOp.mono : ∀ a0 k, LeO (hist_ParseOp.f k a0) (hist_ParseOp.f (k + 1) a0) := by
 intro a0 k
 obtain ⟨ih0, ih1, ih2⟩ := hist_ParseOp.mono_l k
 unfold hist_ParseOp.f
 repeat' first
   | (with_reducible exact ih0 _ _ _ _ _ _ _ _ _)
   | (with_reducible exact ih1 _ _ _ _ _ _ _ _)
   | (with_reducible exact ih2 _ _ _ _ _ _ _ _ _ _)
   | (with_reducible exact dump_Unhex.mono _ _)
   | (with_reducible exact hist_Op.mono _ _ _ _ _ _ _ _)
   | (with_reducible exact LeO.refl _)
   | (with_reducible exact LeO.none _)
   | (with_reducible refine LeO.ite ?_ ?_)
   | (with_reducible refine LeO.bind ?_ (fun _ => ?_))
   | exact ih0 _ _ _ _ _ _ _ _ _
   | exact ih1 _ _ _ _ _ _ _ _
   | exact ih2 _ _ _ _ _ _ _ _ _ _
   | exact dump_Unhex.mono _ _
   | exact hist_Op.mono _ _ _ _ _ _ _ _
   | exact LeO.none _
   | refine LeO.ite ?_ ?_
   | refine LeO.bind ?_ (fun _ => ?_)
set_option maxHeartbeats 8000000 in
set_option maxRecDepth 100000 in
theorem hist_ParseOp.calls (k : Nat) (a0 : ByteArray) (r1 : Int) (r2 : ByteArray) (r3 : ByteArray) (r4 : Int) (r5 : Int) (r6 : List Int) (r7 : Int) (r8 : Option Int) (w : World) (h : hist_ParseOp.f k a0 = some (r1, r2, r3, r4, r5, r6, r7, r8)) (hT : Tabs w) :
  Calls Tryz.prog 13 #[.string a0] w fun e w' => ∃ v5_ : Value, e = .returned (.tuple #[.agg #[.int .i64 r1, .string r2, .string r3, .int .i64 r4, .int .i64 r5, v5_, .int .i64 r7], errW r8]) ∧ Kd.R (Kd.int .u8) 5 w' w.heap.size (fun _ => True) v5_ r6 ∧ Below w.heap.size w w' := by
 have HT := Aside0.mk hT
 clear hT
 have hu24 := Tryz.underlying24
 have hu29 := Tryz.underlying29
 have hu42 := Tryz.underlying42
 have HB := Aside0.mk (Below.refl w.heap.size w)
 have H : ((strings_Split.f a0 (⟨#[32]⟩ : ByteArray)).bind fun t170 => ((some (([(⟨#[]⟩ : ByteArray), (⟨#[]⟩ : ByteArray), (⟨#[]⟩ : ByteArray)] : List ByteArray) : List ByteArray)).bind fun y173 => (if t170.length + y173.length < 8796093022208 then (hist_ParseOp.l0 k a0 (t170 ++ y173) 1 0 (⟨#[]⟩ : ByteArray) (⟨#[]⟩ : ByteArray) 0 0 0) else (none)))) = some (r1, r2, r3, r4, r5, r6, r7, r8) := h
 clear h
 replace H := Option.bind_eq_some_iff.mp H
 obtain ⟨t170, A20, H⟩ := H
 try dsimp only at H
 have A2 := Aside0.mk A20
 clear A20
 obtain ⟨y173, hy173⟩ : ∃ y_ : List ByteArray, y_ = (([(⟨#[]⟩ : ByteArray), (⟨#[]⟩ : ByteArray), (⟨#[]⟩ : ByteArray)] : List ByteArray)) := ⟨_, rfl⟩
 replace H : (if t170.length + y173.length < 8796093022208 then (hist_ParseOp.l0 k a0 (t170 ++ y173) 1 0 (⟨#[]⟩ : ByteArray) (⟨#[]⟩ : ByteArray) 0 0 0) else (none)) = some (r1, r2, r3, r4, r5, r6, r7, r8) := by first | (rw [hy173]; with_reducible exact H) | (have H2_ := (Option.bind_some _ _).symm.trans H; rw [hy173]; with_reducible exact H2_) | (have H2_ := (Option.bind_some _ _).symm.trans H; with_reducible exact H2_) | with_reducible exact H | (rw [hy173]; exact H) | exact H
 have Ny173 := Aside0.mk hy173
 clear hy173
 by_cases c3 : t170.length + y173.length < 8796093022208
 ·rw [if_pos c3] at H
  have LMc3 := Aside0.mk c3
  clear c3
  obtain ⟨y176, hy176⟩ : ∃ y_ : List ByteArray, y_ = (t170 ++ y173) := ⟨_, rfl⟩
  replace H : (hist_ParseOp.l0 k a0 y176 1 0 (⟨#[]⟩ : ByteArray) (⟨#[]⟩ : ByteArray) 0 0 0) = some (r1, r2, r3, r4, r5, r6, r7, r8) := by first | (rw [hy176]; with_reducible exact H) | (have H2_ := (Option.bind_some _ _).symm.trans H; rw [hy176]; with_reducible exact H2_) | (have H2_ := (Option.bind_some _ _).symm.trans H; with_reducible exact H2_) | with_reducible exact H | (rw [hy176]; exact H) | exact H
  have Ny176 := Aside0.mk hy176
  clear hy176
  have H' := Aside0.mk H
  clear H
  go_enter Tryz.func13, Tryz.ntmps13
  go_wp2_with (first | ((with_reducible refine gate_dst (N := 2) rfl ?_); refine box_event ?hg (N := 2) ?hd (cs := #[.int .i64 0, .string ⟨#[]⟩, .string ⟨#[]⟩, .int .i64 0, .int .i64 0, .slice none 0 0, .int .i64 0]) (t := 24) ?hr ?_; (case hd => rfl); (case hg => rfl); (case hr => first | (go_simp; done) | (go_simp; rfl)); intro gb169 hg w4 hbox hb; have n0_ := Aside0.mk (below_step (by repeat (first | (with_reducible first | exact HB.out | apply s1 | apply s2 | apply s3) | exact HB.out)) hb); have n1_ := Aside0.mk (hbox); have n2_ := Aside0.mk ((by rw [hg]; exact (below_size (by repeat (first | (with_reducible first | exact HB.out | apply s1 | apply s2 | apply s3) | exact HB.out))) : w.heap.size ≤ gb169)); have n3_ := Aside0.mk ((by rw [hg]; exact (below_size (by repeat (first | (with_reducible first | exact HB.out | apply s1 | apply s2 | apply s3) | exact HB.out))) : w.heap.size ≤ gb169)); clear HB; have HB := n0_; have BK169 := n1_; have GW169 := n2_; have GE169 := n3_; clear n0_ n1_ n2_ n3_; clear hb hbox hg) | ((with_reducible refine gate_callee (f := 42) rfl ?_); refine goesL_ (some 9) rfl rfl Tryz.func42 (by kernel_rfl) rfl #[.string a0, .string (⟨#[32]⟩ : ByteArray)] rfl (by (try simp only [List.map_toArray, List.map_cons, List.map_nil]); first | done | rfl | (simp only [List.length_drop, List.length_take]; rfl)) ?_; (with_reducible refine (strings_Split.calls a0 (⟨#[32]⟩ : ByteArray) t170 _ A2.out).mono ?_); rintro e w5 ⟨v171, rfl, ho0, hb⟩; refine ⟨_, rfl, ?_⟩; have n0_ := Aside0.mk (Kd.R_lower ho0 (below_size (by repeat (first | (with_reducible first | exact HB.out | apply s1 | apply s2 | apply s3 | refine s4 ?_ GE169.out) | exact HB.out)))); have n1_ := Aside0.mk (blk_below (g := gb169) (o := .cells #[.int .i64 0, .string ⟨#[]⟩, .string ⟨#[]⟩, .int .i64 0, .int .i64 0, .slice none 0 0, .int .i64 0] 24 (0, 0)) (by (with_reducible repeat first | apply q1 | apply q2 | apply q3); exact BK169.out) hb); have n2_ := Aside0.mk (below_step (by repeat (first | (with_reducible first | exact HB.out | apply s1 | apply s2 | apply s3 | refine s4 ?_ GE169.out) | exact HB.out)) hb); clear BK169; clear HB; have HO172 := n0_; have BK169 := n1_; have HB := n2_; clear n0_ n1_ n2_; (try clear hb); (try clear hb2); (try clear hk); (try clear hi); (try clear ho0)) | ((with_reducible refine gate_dst (N := 10) rfl ?_); refine Kd.R_lit Kd.string _ 9 ?hg (N := 10) ?hd (xs := ([(⟨#[]⟩ : ByteArray), (⟨#[]⟩ : ByteArray), (⟨#[]⟩ : ByteArray)] : List ByteArray)) (inner := [.string ⟨#[]⟩, .string ⟨#[]⟩, .string ⟨#[]⟩]) (ok := fun _ => True) (okp := fun _ => True) ?hr ?hp (fun _ hk => hk) trivial (Below.refl _ _) (Nat.le_refl _) (by simp) ?_; (case hd => rfl); (case hg => rfl); (case hr => first | (go_simp; done) | (go_simp; rfl)); (case hp => exact (Reps.one (show Kd.M Kd.string _ _ _ (⟨#[]⟩ : ByteArray) [.string ⟨#[]⟩] from rfl) (Reps.one (show Kd.M Kd.string _ _ _ (⟨#[]⟩ : ByteArray) [.string ⟨#[]⟩] from rfl) (Reps.one (show Kd.M Kd.string _ _ _ (⟨#[]⟩ : ByteArray) [.string ⟨#[]⟩] from rfl) (Reps.none _ _))))); intro v174 w6 ho7 hb hg_ hnew_; clear hg_ hnew_; (first | rw [← Ny173.out] at ho7 | (simp only [Int.reduceToNat] at ho7; rw [← Ny173.out] at ho7)); have n0_ := Aside0.mk (Kd.R_elder' (by (with_reducible repeat first | apply r1 | apply r2 | apply r3); exact HO172.out) (Kd.R_base ho7) hb); have n1_ := Aside0.mk (Kd.R_lower (Kd.R_new' ho7 (Kd.R_lt (by (with_reducible repeat first | apply r1 | apply r2 | apply r3); exact HO172.out))) (below_size (by repeat (first | (with_reducible first | exact HB.out | apply s1 | apply s2 | apply s3 | refine s4 ?_ GE169.out) | exact HB.out)))); have n2_ := Aside0.mk (blk_below (g := gb169) (o := .cells #[.int .i64 0, .string ⟨#[]⟩, .string ⟨#[]⟩, .int .i64 0, .int .i64 0, .slice none 0 0, .int .i64 0] 24 (0, 0)) (by (with_reducible repeat first | apply q1 | apply q2 | apply q3); exact BK169.out) hb); have n3_ := Aside0.mk (below_step (by repeat (first | (with_reducible first | exact HB.out | apply s1 | apply s2 | apply s3 | refine s4 ?_ GE169.out) | exact HB.out)) hb); clear HO172; clear BK169; clear HB; have HO172 := n0_; have HO175 := n1_; have BK169 := n2_; have HB := n3_; clear n0_ n1_ n2_ n3_; clear hb ho7; obtain ⟨Ao9, co9, eo9⟩ := Kd.R_slice HO175.out; subst eo9) | ((with_reducible refine gate_builtin (b := .append) (xs := #[.tmp 9, .tmp 10]) rfl ?_); at_builtin; refine Kd.R_append_rows Kd.string (w0 := w) w.heap.size rfl (.tmp 9) (.tmp 10) 38 9 (.string ⟨#[]⟩) 16 rfl Tryz.underlying38 info9 rfl (by decide) (by omega) v171 t170 y173 _ _ _ (fun k_ => some k_ ≠ (.slice Ao9 y173.length co9 : Value).ownBlock) (fun _ => False) rfl rfl ?aO ?aR (fun _ _ h => h) (fun _ h => h.elim) ?aF ?aB ?aS ?aL ?_; (case aR => repeat (first | exact (Kd.R_reads' HO175.out).2.2 | (with_reducible refine Kd.C_alloc ?_ _) | (with_reducible refine Kd.C_drewN ?_ _) | (with_reducible refine Kd.C_drew ?_))); (case aB => exact (by repeat (first | (with_reducible first | exact HB.out | apply s1 | apply s2 | apply s3 | refine s4 ?_ GE169.out) | exact HB.out))); (case aF => exact (fun k_ hk => Kd.fresh' (Kd.R_lt (by (with_reducible repeat first | apply r1 | apply r2 | apply r3); exact HO175.out)) k_ hk)); (case aO => exact (by (with_reducible repeat first | apply r1 | apply r2 | apply r3); exact Kd.R_mono HO172.out (fun _ hk => hk.2))); (case aS => exact (below_size (by repeat (first | (with_reducible first | exact HB.out | apply s1 | apply s2 | apply s3 | refine s4 ?_ GE169.out) | exact HB.out)))); (case aL => have := LMc3.out; omega); intro v177 w8 ho hb hg hat; rw [← Ny176.out] at ho; have n0_ := Aside0.mk (blk_grown (g := gb169) (o := .cells #[.int .i64 0, .string ⟨#[]⟩, .string ⟨#[]⟩, .int .i64 0, .int .i64 0, .slice none 0 0, .int .i64 0] 24 (0, 0)) (by (with_reducible repeat first | apply q1 | apply q2 | apply q3); exact BK169.out) hg (Kd.R_ne HO172.out BK169.out (by decide))); have n1_ := Aside0.mk (Kd.R_after (ok := (fun _ => True)) (by (with_reducible repeat first | apply r1 | apply r2 | apply r3); exact HO175.out) hg hat); have n2_ := Aside0.mk (hb); have n3_ := Aside0.mk (ho); clear BK169; clear HO175; clear HB; clear HO172; have BK169 := n0_; have HO175 := n1_; have HB := n2_; have HO178 := n3_; clear n0_ n1_ n2_ n3_; clear ho hb hg hat) | ((with_reducible refine gate_dst (N := 5) rfl ?_); refine box_event ?hg (N := 5) ?hd (cs := #[.int .i64 0, .string ⟨#[]⟩, .string ⟨#[]⟩, .int .i64 0, .int .i64 0, .slice none 0 0, .int .i64 0]) (t := 24) ?hr ?_; (case hd => rfl); (case hg => rfl); (case hr => first | (go_simp; done) | (go_simp; rfl)); intro gb179 hg w10 hbox hb; have n0_ := Aside0.mk (Kd.R_below (by (with_reducible repeat first | apply r1 | apply r2 | apply r3); exact HO175.out) hb); have n1_ := Aside0.mk (Kd.R_below (by (with_reducible repeat first | apply r1 | apply r2 | apply r3); exact HO178.out) hb); have n2_ := Aside0.mk (blk_below (g := gb169) (o := .cells #[.int .i64 0, .string ⟨#[]⟩, .string ⟨#[]⟩, .int .i64 0, .int .i64 0, .slice none 0 0, .int .i64 0] 24 (0, 0)) (by (with_reducible repeat first | apply q1 | apply q2 | apply q3); exact BK169.out) hb); have n3_ := Aside0.mk (below_step (by repeat (first | (with_reducible first | exact HB.out | apply s1 | apply s2 | apply s3 | refine s4 ?_ GE169.out) | exact HB.out)) hb); have n4_ := Aside0.mk (hbox); have n5_ := Aside0.mk ((by rw [hg]; exact (below_size (by repeat (first | (with_reducible first | exact HB.out | apply s1 | apply s2 | apply s3 | refine s4 ?_ GE169.out) | exact HB.out))) : w.heap.size ≤ gb179)); have n6_ := Aside0.mk ((by rw [hg]; exact (below_size (by repeat (first | (with_reducible first | exact HB.out | apply s1 | apply s2 | apply s3 | refine s4 ?_ GE169.out) | exact HB.out))) : w.heap.size ≤ gb179)); have n7_ := Aside0.mk ((by rw [hg]; exact Nat.ne_of_lt (blk_lt (g := gb169) (o := .cells #[.int .i64 0, .string ⟨#[]⟩, .string ⟨#[]⟩, .int .i64 0, .int .i64 0, .slice none 0 0, .int .i64 0] 24 (0, 0)) (by (with_reducible repeat first | apply q1 | apply q2 | apply q3); exact BK169.out)) : gb169 ≠ gb179)); have n8_ := Aside0.mk ((by rw [hg]; exact Nat.ne_of_gt (blk_lt (g := gb169) (o := .cells #[.int .i64 0, .string ⟨#[]⟩, .string ⟨#[]⟩, .int .i64 0, .int .i64 0, .slice none 0 0, .int .i64 0] 24 (0, 0)) (by (with_reducible repeat first | apply q1 | apply q2 | apply q3); exact BK169.out)) : gb179 ≠ gb169)); clear HO175; clear HO178; clear BK169; clear HB; have HO175 := n0_; have HO178 := n1_; have BK169 := n2_; have HB := n3_; have BK179 := n4_; have GW179 := n5_; have GE179 := n6_; have NB169_179 := n7_; have NB179_169 := n8_; clear n0_ n1_ n2_ n3_ n4_ n5_ n6_ n7_ n8_; clear hb hbox hg; have hnb11 := NB179_169.out; have hnc11 := NB169_179.out; have hcz12_0 : w10.cell? ⟨gb179, 0, none⟩ = some (.int .i64 0) := (blk_cell BK179.out 0).trans rfl; have hcz12_1 : w10.cell? ⟨gb179, 1, none⟩ = some (.string ⟨#[]⟩) := (blk_cell BK179.out 1).trans rfl; have hcz12_2 : w10.cell? ⟨gb179, 2, none⟩ = some (.string ⟨#[]⟩) := (blk_cell BK179.out 2).trans rfl; have hcz12_3 : w10.cell? ⟨gb179, 3, none⟩ = some (.int .i64 0) := (blk_cell BK179.out 3).trans rfl; have hcz12_4 : w10.cell? ⟨gb179, 4, none⟩ = some (.int .i64 0) := (blk_cell BK179.out 4).trans rfl; have hcz12_5 : w10.cell? ⟨gb179, 5, none⟩ = some (.slice none 0 0) := (blk_cell BK179.out 5).trans rfl; have hcz12_6 : w10.cell? ⟨gb179, 6, none⟩ = some (.int .i64 0) := (blk_cell BK179.out 6).trans rfl; have hfz12_0 := blk_frozen BK179.out 0; have hfz12_1 := blk_frozen BK179.out 1; have hfz12_2 := blk_frozen BK179.out 2; have hfz12_3 := blk_frozen BK179.out 3; have hfz12_4 := blk_frozen BK179.out 4; have hfz12_5 := blk_frozen BK179.out 5; have hfz12_6 := blk_frozen BK179.out 6))
  go_loopg [6] k (fun kq v6 w' => ∃ (x6_1 : Int) (x180000_1 : Int), v6 = .int .i64 x6_1 ∧ Aside0 (hist_ParseOp.l0 kq a0 y176 x6_1 x180000_1 (⟨#[]⟩ : ByteArray) (⟨#[]⟩ : ByteArray) 0 0 0 = some (r1, r2, r3, r4, r5, r6, r7, r8)) ∧ Aside0 (kq ≤ k) ∧ Aside0 (Kd.R Kd.string 9 w' w.heap.size (fun _ => True) v177 y176) ∧ Aside0 (w'.heap[gb169]? = some (.cells #[.int .i64 0, .string ⟨#[]⟩, .string ⟨#[]⟩, .int .i64 0, .int .i64 0, (.slice none 0 0), .int .i64 0] 24 (0, 0))) ∧ Aside0 (w'.heap[gb179]? = some (.cells #[.int .i64 x180000_1, .string ⟨#[]⟩, .string ⟨#[]⟩, .int .i64 0, .int .i64 0, (.slice none 0 0), .int .i64 0] 24 (0, 0))) ∧ Aside0 (Below w.heap.size w w'))
  case atStart => exact ⟨(1), (0), (by first | rfl | (simp; done) | (simp [*]; done)), H', ⟨Nat.le_refl _⟩, ⟨by (with_reducible repeat first | apply r1 | apply r2 | apply r3); exact Kd.R_mono (Kd.R_far (p := ⟨gb179, 6, none⟩) (Kd.R_far (p := ⟨gb179, 5, none⟩) (Kd.R_far (p := ⟨gb179, 4, none⟩) (Kd.R_far (p := ⟨gb179, 3, none⟩) (Kd.R_far (p := ⟨gb179, 2, none⟩) (Kd.R_far (p := ⟨gb179, 1, none⟩) (Kd.R_far (p := ⟨gb179, 0, none⟩) (Kd.R_types HO178.out BK179.out (by decide)) (fun _ hk => hk.2) (.int .i64 0)) (fun _ hk => hk.2) (.string ⟨#[]⟩)) (fun _ hk => hk.2) (.string ⟨#[]⟩)) (fun _ hk => hk.2) (.int .i64 0)) (fun _ hk => hk.2) (.int .i64 0)) (fun _ hk => hk.2) (.slice none 0 0)) (fun _ hk => hk.2) (.int .i64 0)) (fun _ hk => trivial)⟩, ⟨by (with_reducible repeat first | apply q1 | apply q2 | apply q3); refine blk_far ?_ NB169_179.out _; (with_reducible repeat first | apply q1 | apply q2 | apply q3); refine blk_far ?_ NB169_179.out _; (with_reducible repeat first | apply q1 | apply q2 | apply q3); refine blk_far ?_ NB169_179.out _; (with_reducible repeat first | apply q1 | apply q2 | apply q3); refine blk_far ?_ NB169_179.out _; (with_reducible repeat first | apply q1 | apply q2 | apply q3); refine blk_far ?_ NB169_179.out _; (with_reducible repeat first | apply q1 | apply q2 | apply q3); refine blk_far ?_ NB169_179.out _; (with_reducible repeat first | apply q1 | apply q2 | apply q3); refine blk_far ?_ NB169_179.out _; (with_reducible repeat first | apply q1 | apply q2 | apply q3); exact BK169.out⟩, ⟨by (with_reducible repeat first | apply q1 | apply q2 | apply q3); refine blk_put (cs := #[.int .i64 0, .string ⟨#[]⟩, .string ⟨#[]⟩, .int .i64 0, .int .i64 0, .slice none 0 0, .int .i64 0]) ?_ 6 _ rfl; (with_reducible repeat first | apply q1 | apply q2 | apply q3); refine blk_put (cs := #[.int .i64 0, .string ⟨#[]⟩, .string ⟨#[]⟩, .int .i64 0, .int .i64 0, .slice none 0 0, .int .i64 0]) ?_ 5 _ rfl; (with_reducible repeat first | apply q1 | apply q2 | apply q3); refine blk_put (cs := #[.int .i64 0, .string ⟨#[]⟩, .string ⟨#[]⟩, .int .i64 0, .int .i64 0, .slice none 0 0, .int .i64 0]) ?_ 4 _ rfl; (with_reducible repeat first | apply q1 | apply q2 | apply q3); refine blk_put (cs := #[.int .i64 0, .string ⟨#[]⟩, .string ⟨#[]⟩, .int .i64 0, .int .i64 0, .slice none 0 0, .int .i64 0]) ?_ 3 _ rfl; (with_reducible repeat first | apply q1 | apply q2 | apply q3); refine blk_put (cs := #[.int .i64 0, .string ⟨#[]⟩, .string ⟨#[]⟩, .int .i64 0, .int .i64 0, .slice none 0 0, .int .i64 0]) ?_ 2 _ rfl; (with_reducible repeat first | apply q1 | apply q2 | apply q3); refine blk_put (cs := #[.int .i64 0, .string ⟨#[]⟩, .string ⟨#[]⟩, .int .i64 0, .int .i64 0, .slice none 0 0, .int .i64 0]) ?_ 1 _ rfl; (with_reducible repeat first | apply q1 | apply q2 | apply q3); refine blk_put (cs := #[.int .i64 0, .string ⟨#[]⟩, .string ⟨#[]⟩, .int .i64 0, .int .i64 0, .slice none 0 0, .int .i64 0]) ?_ 0 _ rfl; (with_reducible repeat first | apply q1 | apply q2 | apply q3); exact BK179.out⟩, ⟨by repeat (first | (with_reducible first | exact HB.out | apply s1 | apply s2 | apply s3 | refine s4 ?_ GE169.out | refine s4 ?_ GE179.out) | exact HB.out)⟩⟩
  case round =>
   clear H'
   try clear c1
   try clear p2
   try clear c3
   try clear c4
   try clear c11
   try clear hcz12_0
   try clear hcz12_1
   try clear hcz12_2
   try clear hcz12_3
   try clear hcz12_4
   try clear hcz12_5
   try clear hcz12_6
   try clear hfz12_0
   try clear hfz12_1
   try clear hfz12_2
   try clear hfz12_3
   try clear hfz12_4
   try clear hfz12_5
   try clear hfz12_6
   obtain ⟨x6_1, x180000_1, rfl, HA, HK1, HO_4, BK169, BK179, HB⟩ := hrel
   cases gk with
   | zero => exact absurd HA.out (by simp [hist_ParseOp.l0])
   | succ k1 =>
    have H := HA.out
    clear HA
    simp only [hist_ParseOp.l0] at H
    by_cases c13 : x6_1 ≤ 14
    ·rw [if_pos c13] at H
     have c13b0 : decide (x6_1 ≤ 14) = true := decide_eq_true c13
     clear c13
     replace H := Option.bind_eq_some_iff.mp H
     obtain ⟨t180, A140, H⟩ := H
     try dsimp only at H
     have A14 := Aside0.mk A140
     clear A140
     by_cases c15 : 0 < (y176.length : Int)
     ·rw [if_pos c15] at H
      have c15b0 : decide (0 < (y176.length : Int)) = true := decide_eq_true c15
      have c15b1 : decide (0 < y176.length) = true := decide_eq_true (by omega)
      clear c15
      by_cases c16 : t180.toList = (rdOf ByteArray.empty y176 0).toList
      ·rw [if_pos c16] at H
       have c16b0 : (t180.toList == (rdOf ByteArray.empty y176 0).toList) = true := beq_iff_eq.mpr c16
       have c16b1 : (t180.toList != (rdOf ByteArray.empty y176 0).toList) = false := bne_eq_false_iff_eq.mpr c16
       clear c16
       have H' := Aside0.mk H
       clear H
       try go_wp2
       have n0_ := Aside0.mk (Kd.R_drew HO_4.out)
       have n1_ := Aside0.mk (blk_drew BK169.out)
       have n2_ := Aside0.mk (blk_drew BK179.out)
       have n3_ := Aside0.mk (below_drew1 HB.out)
       clear HO_4
       clear BK169
       clear BK179
       clear HB
       have HO_4 := n0_
       have BK169 := n1_
       have BK179 := n2_
       have HB := n3_
       clear n0_ n1_ n2_ n3_
       obtain ⟨Ao18, co18, eo18⟩ := Kd.R_slice HO_4.out
       (first | subst eo18 | (injection eo18 with f1_ f2_ f3_; have f4_ := f1_.symm; have f5_ := f3_.symm; clear f1_ f2_ f3_; subst f4_; subst f5_))
       have p181 : 0 ≤ (0 : Int) := (by omega)
       have q181 : 0 < (y176.length : Int) := of_decide_eq_true (by first | (with_reducible assumption) | assumption)
       obtain ⟨ad181, e181, hx181_0⟩ := Kd.at_string (Kd.R_reads' HO_4.out).2.2 0 p181 q181
       cases e181
       have qi181 : (0 < y176.length) = True := eq_true (by omega)
       (try rw [show ((0 : Int)).toNat = 0 from rfl] at hx181_0)
       (try rw [Addr.add_zero'] at hx181_0)
       replace p181 := eq_true p181
       replace q181 := eq_true q181
       refine start_ (n := 6) (S := fun w' => w'.cell? ad181 = some (.string (rdOf ByteArray.empty y176 0))) (ds := []) #[false, false, false, false, false, false] (by kernel_rfl) rfl rfl (hx181_0) (fun hHeld => ?_)
       generalize wr.drew = w17 at HO_4 BK169 BK179 HB hx181_0 hHeld ⊢
       refine pure_ (i := 0) (N := some 17) (v := ?_) (a' := ?_) #[true, false, false, false, false, false] rfl rfl (by kernel_rfl) (fun _ _ _ h => h) (Or.inl ⟨by rfl, ?_⟩) ?_ ?_
       rotate_left
       ·intro w'
        go_simp
        with_reducible rfl
       rotate_left
       ·simp only [Act.put, List.setIfInBounds_toArray, List.set_cons_zero, List.set_cons_succ, i64_w, i32_w]
        rfl
       refine pure_ (i := 2) (N := some 19) (v := ?_) (a' := ?_) #[true, false, true, false, false, false] rfl rfl (by kernel_rfl) (fun _ _ _ h => h) (Or.inl ⟨by rfl, ?_⟩) ?_ ?_
       rotate_left
       ·intro w'
        go_simp
        with_reducible rfl
       rotate_left
       ·simp only [Act.put, List.setIfInBounds_toArray, List.set_cons_zero, List.set_cons_succ, i64_w, i32_w]
        rfl
       refine pure_ (i := 3) (N := some 20) (v := ?_) (a' := ?_) #[true, false, true, true, false, false] rfl rfl (by kernel_rfl) (fun _ _ _ h => h) (Or.inl ⟨by rfl, ?_⟩) ?_ ?_
       rotate_left
       ·intro w'
        go_simp
        with_reducible rfl
       rotate_left
       ·simp only [Act.put, List.setIfInBounds_toArray, List.set_cons_zero, List.set_cons_succ, i64_w, i32_w]
        rfl
       refine take_ (i := 4) (N := some 21) (v := ?_) (a' := ?_) #[true, false, true, true, true, false] rfl rfl (by kernel_rfl) (fun _ _ _ h => h) (Or.inl ⟨by rfl, ?_⟩) hHeld ?_ ?_
       rotate_left
       ·intro w' s0
        go_simp
        with_reducible rfl
       rotate_left
       ·simp only [Act.put, List.setIfInBounds_toArray, List.set_cons_zero, List.set_cons_succ, i64_w, i32_w]
        rfl
       refine one_ (i := 1) (N := some 18) #[true, true, true, true, true, false] rfl rfl (by kernel_rfl) (by decide) (fun K hK => ?_)
       refine goes_ Tryz.func32 (by kernel_rfl) rfl #[.int .i64 x6_1] (by rfl) rfl rfl (by (try simp only [List.map_toArray, List.map_cons, List.map_nil]); first | done | rfl | (simp only [List.length_drop, List.length_take]; rfl)) ?_
       with_reducible refine (hist_word.calls x6_1 t180 _ A14.out).mono ?_
       rintro e w19 ⟨rfl, hb⟩
       have HS0_ := (hb.cell (World.block_lt_of_cell? _ _ (hHeld))).trans (hHeld)
       refine ⟨_, rfl, ?_⟩
       have n0_ := Aside0.mk (Kd.R_below (by (with_reducible repeat first | apply r1 | apply r2 | apply r3); exact HO_4.out) hb)
       have n1_ := Aside0.mk (blk_below (g := gb169) (o := .cells #[.int .i64 0, .string ⟨#[]⟩, .string ⟨#[]⟩, .int .i64 0, .int .i64 0, .slice none 0 0, .int .i64 0] 24 (0, 0)) (by (with_reducible repeat first | apply q1 | apply q2 | apply q3); exact BK169.out) hb)
       have n2_ := Aside0.mk (blk_below (g := gb179) (o := .cells #[.int .i64 x180000_1, .string ⟨#[]⟩, .string ⟨#[]⟩, .int .i64 0, .int .i64 0, .slice none 0 0, .int .i64 0] 24 (0, 0)) (by (with_reducible repeat first | apply q1 | apply q2 | apply q3); exact BK179.out) hb)
       have n3_ := Aside0.mk (below_step (by repeat (first | (with_reducible first | exact HB.out | apply s1 | apply s2 | apply s3 | refine s4 ?_ GE169.out | refine s4 ?_ GE179.out) | exact HB.out)) hb)
       clear HO_4
       clear BK169
       clear BK179
       clear HB
       have HO_4 := n0_
       have BK169 := n1_
       have BK179 := n2_
       have HB := n3_
       clear n0_ n1_ n2_ n3_
       (try clear hb)
       (try clear hb2)
       (try clear hk)
       (try clear hi)
       refine hK.out _ _ (HS0_) (fun hHeld => ?_)
       clear hK K
       refine norm_ (a' := ?_) ?_ ?_
       rotate_left
       ·show Act.put _ (some 18) _ = _
        simp only [Act.put, List.setIfInBounds_toArray, List.set_cons_zero, List.set_cons_succ, i64_w, i32_w]
        rfl
       refine pure_ (i := 5) (N := some 22) (v := ?_) (a' := ?_) #[true, true, true, true, true, true] rfl rfl (by kernel_rfl) (fun _ _ _ h => h) (Or.inl ⟨by rfl, ?_⟩) ?_ ?_
       rotate_left
       ·intro w'
        go_simp
        with_reducible rfl
       rotate_left
       ·simp only [Act.put, List.setIfInBounds_toArray, List.set_cons_zero, List.set_cons_succ, i64_w, i32_w]
        rfl
       refine done_ (by kernel_rfl) ?_
       have hnb20 := NB179_169.out
       have hnc20 := NB169_179.out
       have hcz21_0 : w19.cell? ⟨gb179, 0, none⟩ = some (.int .i64 x180000_1) := (blk_cell BK179.out 0).trans rfl
       have hcz21_1 : w19.cell? ⟨gb179, 1, none⟩ = some (.string ⟨#[]⟩) := (blk_cell BK179.out 1).trans rfl
       have hcz21_2 : w19.cell? ⟨gb179, 2, none⟩ = some (.string ⟨#[]⟩) := (blk_cell BK179.out 2).trans rfl
       have hcz21_3 : w19.cell? ⟨gb179, 3, none⟩ = some (.int .i64 0) := (blk_cell BK179.out 3).trans rfl
       have hcz21_4 : w19.cell? ⟨gb179, 4, none⟩ = some (.int .i64 0) := (blk_cell BK179.out 4).trans rfl
       have hcz21_5 : w19.cell? ⟨gb179, 5, none⟩ = some (.slice none 0 0) := (blk_cell BK179.out 5).trans rfl
       have hcz21_6 : w19.cell? ⟨gb179, 6, none⟩ = some (.int .i64 0) := (blk_cell BK179.out 6).trans rfl
       have hfz21_0 := blk_frozen BK179.out 0
       have hfz21_1 := blk_frozen BK179.out 1
       have hfz21_2 := blk_frozen BK179.out 2
       have hfz21_3 := blk_frozen BK179.out 3
       have hfz21_4 := blk_frozen BK179.out 4
       have hfz21_5 := blk_frozen BK179.out 5
       have hfz21_6 := blk_frozen BK179.out 6
       try go_wp2
       go_roundg k1
       case measure => have := HK1.out; omega
       case rel => exact ⟨(wrap64 (x6_1 + 1)), (x6_1), (by first | rfl | (simp; done) | (simp [*]; done)), H', ⟨by have := HK1.out; omega⟩, ⟨by (with_reducible repeat first | apply r1 | apply r2 | apply r3); exact Kd.R_mono (Kd.R_far (p := ⟨gb179, 0, none⟩) (Kd.R_types HO_4.out BK179.out (by decide)) (fun _ hk => hk.2) (.int .i64 x6_1)) (fun _ hk => trivial)⟩, ⟨by (with_reducible repeat first | apply q1 | apply q2 | apply q3); refine blk_far ?_ NB169_179.out _; (with_reducible repeat first | apply q1 | apply q2 | apply q3); exact BK169.out⟩, ⟨by (with_reducible repeat first | apply q1 | apply q2 | apply q3); refine blk_put (cs := #[.int .i64 x180000_1, .string ⟨#[]⟩, .string ⟨#[]⟩, .int .i64 0, .int .i64 0, .slice none 0 0, .int .i64 0]) ?_ 0 _ rfl; (with_reducible repeat first | apply q1 | apply q2 | apply q3); exact BK179.out⟩, ⟨by repeat (first | (with_reducible first | exact HB.out | apply s1 | apply s2 | apply s3 | refine s4 ?_ GE169.out | refine s4 ?_ GE179.out) | exact HB.out)⟩⟩
      ·rw [if_neg c16] at H
       have c16b0 : (t180.toList == (rdOf ByteArray.empty y176 0).toList) = false := beq_eq_false_iff_ne.mpr c16
       have c16b1 : (t180.toList != (rdOf ByteArray.empty y176 0).toList) = true := bne_iff_ne.mpr c16
       have H' := Aside0.mk H
       clear H
       try go_wp2
       have n0_ := Aside0.mk (Kd.R_drew HO_4.out)
       have n1_ := Aside0.mk (blk_drew BK169.out)
       have n2_ := Aside0.mk (blk_drew BK179.out)
       have n3_ := Aside0.mk (below_drew1 HB.out)
       clear HO_4
       clear BK169
       clear BK179
       clear HB
       have HO_4 := n0_
       have BK169 := n1_
       have BK179 := n2_
       have HB := n3_
       clear n0_ n1_ n2_ n3_
       obtain ⟨Ao23, co23, eo23⟩ := Kd.R_slice HO_4.out
       (first | subst eo23 | (injection eo23 with f1_ f2_ f3_; have f4_ := f1_.symm; have f5_ := f3_.symm; clear f1_ f2_ f3_; subst f4_; subst f5_))
       have p181 : 0 ≤ (0 : Int) := (by omega)
       have q181 : 0 < (y176.length : Int) := of_decide_eq_true (by first | (with_reducible assumption) | assumption)
       obtain ⟨ad181, e181, hx181_0⟩ := Kd.at_string (Kd.R_reads' HO_4.out).2.2 0 p181 q181
       cases e181
       have qi181 : (0 < y176.length) = True := eq_true (by omega)
       (try rw [show ((0 : Int)).toNat = 0 from rfl] at hx181_0)
       (try rw [Addr.add_zero'] at hx181_0)
       replace p181 := eq_true p181
       replace q181 := eq_true q181
       refine start_ (n := 6) (S := fun w' => w'.cell? ad181 = some (.string (rdOf ByteArray.empty y176 0))) (ds := []) #[false, false, false, false, false, false] (by kernel_rfl) rfl rfl (hx181_0) (fun hHeld => ?_)
       generalize wr.drew = w22 at HO_4 BK169 BK179 HB hx181_0 hHeld ⊢
       refine pure_ (i := 0) (N := some 17) (v := ?_) (a' := ?_) #[true, false, false, false, false, false] rfl rfl (by kernel_rfl) (fun _ _ _ h => h) (Or.inl ⟨by rfl, ?_⟩) ?_ ?_
       rotate_left
       ·intro w'
        go_simp
        with_reducible rfl
       rotate_left
       ·simp only [Act.put, List.setIfInBounds_toArray, List.set_cons_zero, List.set_cons_succ, i64_w, i32_w]
        rfl
       refine pure_ (i := 2) (N := some 19) (v := ?_) (a' := ?_) #[true, false, true, false, false, false] rfl rfl (by kernel_rfl) (fun _ _ _ h => h) (Or.inl ⟨by rfl, ?_⟩) ?_ ?_
       rotate_left
       ·intro w'
        go_simp
        with_reducible rfl
       rotate_left
       ·simp only [Act.put, List.setIfInBounds_toArray, List.set_cons_zero, List.set_cons_succ, i64_w, i32_w]
        rfl
       refine pure_ (i := 3) (N := some 20) (v := ?_) (a' := ?_) #[true, false, true, true, false, false] rfl rfl (by kernel_rfl) (fun _ _ _ h => h) (Or.inl ⟨by rfl, ?_⟩) ?_ ?_
       rotate_left
       ·intro w'
        go_simp
        with_reducible rfl
       rotate_left
       ·simp only [Act.put, List.setIfInBounds_toArray, List.set_cons_zero, List.set_cons_succ, i64_w, i32_w]
        rfl
       refine take_ (i := 4) (N := some 21) (v := ?_) (a' := ?_) #[true, false, true, true, true, false] rfl rfl (by kernel_rfl) (fun _ _ _ h => h) (Or.inl ⟨by rfl, ?_⟩) hHeld ?_ ?_
       rotate_left
       ·intro w' s0
        go_simp
        with_reducible rfl
       rotate_left
       ·simp only [Act.put, List.setIfInBounds_toArray, List.set_cons_zero, List.set_cons_succ, i64_w, i32_w]
        rfl
       refine one_ (i := 1) (N := some 18) #[true, true, true, true, true, false] rfl rfl (by kernel_rfl) (by decide) (fun K hK => ?_)
       refine goes_ Tryz.func32 (by kernel_rfl) rfl #[.int .i64 x6_1] (by rfl) rfl rfl (by (try simp only [List.map_toArray, List.map_cons, List.map_nil]); first | done | rfl | (simp only [List.length_drop, List.length_take]; rfl)) ?_
       with_reducible refine (hist_word.calls x6_1 t180 _ A14.out).mono ?_
       rintro e w24 ⟨rfl, hb⟩
       have HS0_ := (hb.cell (World.block_lt_of_cell? _ _ (hHeld))).trans (hHeld)
       refine ⟨_, rfl, ?_⟩
       have n0_ := Aside0.mk (Kd.R_below (by (with_reducible repeat first | apply r1 | apply r2 | apply r3); exact HO_4.out) hb)
       have n1_ := Aside0.mk (blk_below (g := gb169) (o := .cells #[.int .i64 0, .string ⟨#[]⟩, .string ⟨#[]⟩, .int .i64 0, .int .i64 0, .slice none 0 0, .int .i64 0] 24 (0, 0)) (by (with_reducible repeat first | apply q1 | apply q2 | apply q3); exact BK169.out) hb)
       have n2_ := Aside0.mk (blk_below (g := gb179) (o := .cells #[.int .i64 x180000_1, .string ⟨#[]⟩, .string ⟨#[]⟩, .int .i64 0, .int .i64 0, .slice none 0 0, .int .i64 0] 24 (0, 0)) (by (with_reducible repeat first | apply q1 | apply q2 | apply q3); exact BK179.out) hb)
       have n3_ := Aside0.mk (below_step (by repeat (first | (with_reducible first | exact HB.out | apply s1 | apply s2 | apply s3 | refine s4 ?_ GE169.out | refine s4 ?_ GE179.out) | exact HB.out)) hb)
       clear HO_4
       clear BK169
       clear BK179
       clear HB
       have HO_4 := n0_
       have BK169 := n1_
       have BK179 := n2_
       have HB := n3_
       clear n0_ n1_ n2_ n3_
       (try clear hb)
       (try clear hb2)
       (try clear hk)
       (try clear hi)
       refine hK.out _ _ (HS0_) (fun hHeld => ?_)
       clear hK K
       refine norm_ (a' := ?_) ?_ ?_
       rotate_left
       ·show Act.put _ (some 18) _ = _
        simp only [Act.put, List.setIfInBounds_toArray, List.set_cons_zero, List.set_cons_succ, i64_w, i32_w]
        rfl
       refine pure_ (i := 5) (N := some 22) (v := ?_) (a' := ?_) #[true, true, true, true, true, true] rfl rfl (by kernel_rfl) (fun _ _ _ h => h) (Or.inl ⟨by rfl, ?_⟩) ?_ ?_
       rotate_left
       ·intro w'
        go_simp
        with_reducible rfl
       rotate_left
       ·simp only [Act.put, List.setIfInBounds_toArray, List.set_cons_zero, List.set_cons_succ, i64_w, i32_w]
        rfl
       refine done_ (by kernel_rfl) ?_
       try go_wp2
       go_roundg k1
       case measure => have := HK1.out; omega
       case rel => exact ⟨(wrap64 (x6_1 + 1)), (x180000_1), (by first | rfl | (simp; done) | (simp [*]; done)), H', ⟨by have := HK1.out; omega⟩, ⟨by (with_reducible repeat first | apply r1 | apply r2 | apply r3); exact HO_4.out⟩, ⟨by (with_reducible repeat first | apply q1 | apply q2 | apply q3); exact BK169.out⟩, ⟨by (with_reducible repeat first | apply q1 | apply q2 | apply q3); exact BK179.out⟩, ⟨by repeat (first | (with_reducible first | exact HB.out | apply s1 | apply s2 | apply s3 | refine s4 ?_ GE169.out | refine s4 ?_ GE179.out) | exact HB.out)⟩⟩
     ·rw [if_neg c15] at H
      exact absurd H (by simp)
    ·rw [if_neg c13] at H
     have c13b0 : decide (x6_1 ≤ 14) = false := decide_eq_false c13
     clear c13
     have HC25 := Aside0.mk H
     clear H
     have hnb26 := NB179_169.out
     have hnc26 := NB169_179.out
     have hcz27_0 : wr.cell? ⟨gb179, 0, none⟩ = some (.int .i64 x180000_1) := (blk_cell BK179.out 0).trans rfl
     have hcz27_1 : wr.cell? ⟨gb179, 1, none⟩ = some (.string ⟨#[]⟩) := (blk_cell BK179.out 1).trans rfl
     have hcz27_2 : wr.cell? ⟨gb179, 2, none⟩ = some (.string ⟨#[]⟩) := (blk_cell BK179.out 2).trans rfl
     have hcz27_3 : wr.cell? ⟨gb179, 3, none⟩ = some (.int .i64 0) := (blk_cell BK179.out 3).trans rfl
     have hcz27_4 : wr.cell? ⟨gb179, 4, none⟩ = some (.int .i64 0) := (blk_cell BK179.out 4).trans rfl
     have hcz27_5 : wr.cell? ⟨gb179, 5, none⟩ = some (.slice none 0 0) := (blk_cell BK179.out 5).trans rfl
     have hcz27_6 : wr.cell? ⟨gb179, 6, none⟩ = some (.int .i64 0) := (blk_cell BK179.out 6).trans rfl
     have hfz27_0 := blk_frozen BK179.out 0
     have hfz27_1 := blk_frozen BK179.out 1
     have hfz27_2 := blk_frozen BK179.out 2
     have hfz27_3 := blk_frozen BK179.out 3
     have hfz27_4 := blk_frozen BK179.out 4
     have hfz27_5 := blk_frozen BK179.out 5
     have hfz27_6 := blk_frozen BK179.out 6
     go_upto_if 27 with (fail)
     go_cut [] (fun wc => ∃ (kq : Nat) (x180001_24 : ByteArray) (x180006_24 : Int), Aside0 (hist_ParseOp.j1 kq a0 y176 x180000_1 x180001_24 (⟨#[]⟩ : ByteArray) 0 0 x180006_24 = some (r1, r2, r3, r4, r5, r6, r7, r8)) ∧ Aside0 (kq ≤ k1) ∧ Aside0 (Kd.R Kd.string 9 wc w.heap.size (fun _ => True) v177 y176) ∧ Aside0 (wc.heap[gb169]? = some (.cells #[.int .i64 0, .string ⟨#[]⟩, .string ⟨#[]⟩, .int .i64 0, .int .i64 0, (.slice none 0 0), .int .i64 0] 24 (0, 0))) ∧ Aside0 (wc.heap[gb179]? = some (.cells #[.int .i64 x180000_1, .string x180001_24, .string ⟨#[]⟩, .int .i64 0, .int .i64 0, (.slice none 0 0), .int .i64 x180006_24] 24 (0, 0))) ∧ Aside0 (Below w.heap.size w wc))
     case first =>
      have H := HC25.out
      clear HC25
      by_cases c28 : x180000_1 ≤ 11
      ·rw [if_pos c28] at H
       have c28b0 : decide (x180000_1 ≤ 11) = true := decide_eq_true c28
       clear c28
       (first | rw [c28b0] | (simp only [i64_w, i32_w]; rw [c28b0]) | skip)
       by_cases c29 : 1 < (y176.length : Int)
       ·rw [if_pos c29] at H
        have c29b0 : decide (1 < (y176.length : Int)) = true := decide_eq_true c29
        have c29b1 : decide (1 < y176.length) = true := decide_eq_true (by omega)
        clear c29
        replace H := Option.bind_eq_some_iff.mp H
        obtain ⟨t183, A300, H⟩ := H
        try dsimp only at H
        have A30 := Aside0.mk A300
        clear A300
        by_cases c31 : t183 ≥ 0
        ·rw [if_pos c31] at H
         have c31b0 : decide (0 ≤ t183) = true := decide_eq_true c31
         clear c31
         obtain ⟨ji32, hji32⟩ : ∃ j_ : Int, (wrap64 (t183 + 1)) = j_ := ⟨_, rfl⟩
         replace H : (if 0 ≤ (ji32) then (if (ji32) ≤ (a0.size : Int) then ((hist_Num.f (a0.extract ((ji32) : Int).toNat a0.size)).bind fun t184 => (hist_ParseOp.j1 k1 a0 y176 x180000_1 (rdOf ByteArray.empty y176 1) (⟨#[]⟩ : ByteArray) 0 0 t184)) else (none)) else (none)) = some (r1, r2, r3, r4, r5, r6, r7, r8) := by first | (rw [hji32] at H; exact H) | (simp only [hji32] at H ⊢; exact H)
         (try rw [hji32] at A30)
         have hji32w : (IntKind.i64.wrap (t183 + 1)) = ji32 := (i64_w _).trans hji32
         by_cases c33 : 0 ≤ (ji32)
         ·rw [if_pos c33] at H
          have c33b0 := eq_true c33
          have c33b1 : decide (0 ≤ (ji32)) = true := decide_eq_true c33
          clear c33
          by_cases c34 : (ji32) ≤ (a0.size : Int)
          ·rw [if_pos c34] at H
           have c34b0 := eq_true c34
           have c34b1 : decide ((ji32) ≤ (a0.size : Int)) = true := decide_eq_true c34
           clear c34
           replace H := Option.bind_eq_some_iff.mp H
           obtain ⟨t184, A350, H⟩ := H
           try dsimp only at H
           have A35 := Aside0.mk A350
           clear A350
           have H' := Aside0.mk H
           clear H
           obtain ⟨Ao36, co36, eo36⟩ := Kd.R_slice HO_4.out
           subst eo36
           have p182 : 0 ≤ (1 : Int) := (by omega)
           have q182 : 1 < (y176.length : Int) := of_decide_eq_true (by first | (with_reducible assumption) | assumption)
           obtain ⟨ad182, e182, hx182_0⟩ := Kd.at_string (Kd.R_reads' HO_4.out).2.2 1 p182 q182
           cases e182
           (try simp only [show (1 : Int).toNat = 1 from rfl, Nat.reduceMul, Nat.reduceEqDiff, Go.Addr.add, ↓reduceIte] at hx182_0)
           have qi182 : (1 < y176.length) = True := eq_true (by omega)
           (try rw [show ((1 : Int)).toNat = 1 from rfl] at hx182_0)
           replace p182 := eq_true p182
           replace q182 := eq_true q182
           have hnb37 := NB179_169.out
           have hnc37 := NB169_179.out
           have hcz38_0 : wr.cell? ⟨gb179, 0, none⟩ = some (.int .i64 x180000_1) := (blk_cell BK179.out 0).trans rfl
           have hcz38_1 : wr.cell? ⟨gb179, 1, none⟩ = some (.string ⟨#[]⟩) := (blk_cell BK179.out 1).trans rfl
           have hcz38_2 : wr.cell? ⟨gb179, 2, none⟩ = some (.string ⟨#[]⟩) := (blk_cell BK179.out 2).trans rfl
           have hcz38_3 : wr.cell? ⟨gb179, 3, none⟩ = some (.int .i64 0) := (blk_cell BK179.out 3).trans rfl
           have hcz38_4 : wr.cell? ⟨gb179, 4, none⟩ = some (.int .i64 0) := (blk_cell BK179.out 4).trans rfl
           have hcz38_5 : wr.cell? ⟨gb179, 5, none⟩ = some (.slice none 0 0) := (blk_cell BK179.out 5).trans rfl
           have hcz38_6 : wr.cell? ⟨gb179, 6, none⟩ = some (.int .i64 0) := (blk_cell BK179.out 6).trans rfl
           have hfz38_0 := blk_frozen BK179.out 0
           have hfz38_1 := blk_frozen BK179.out 1
           have hfz38_2 := blk_frozen BK179.out 2
           have hfz38_3 := blk_frozen BK179.out 3
           have hfz38_4 := blk_frozen BK179.out 4
           have hfz38_5 := blk_frozen BK179.out 5
           have hfz38_6 := blk_frozen BK179.out 6
           go_wp2_with (first | ((with_reducible refine gate_callee (f := 43) rfl ?_); refine goesL_ (some 33) rfl rfl Tryz.func43 (by kernel_rfl) rfl #[.string a0, .int .u8 64] rfl (by (try simp only [List.map_toArray, List.map_cons, List.map_nil]); first | done | rfl | (simp only [List.length_drop, List.length_take]; rfl)) ?_; (with_reducible refine (strings_LastIndexByte.calls a0 64 t183 _ A30.out).mono ?_); rintro e w' ⟨rfl, ⟨nd, rfl⟩⟩; refine ⟨_, rfl, ?_⟩) | ((with_reducible refine gate_callee (f := 44) rfl ?_); refine goesL_ (some 40) rfl rfl Tryz.func44 (by kernel_rfl) rfl #[.string (a0.extract ((ji32) : Int).toNat a0.size)] rfl (by (try simp only [List.map_toArray, List.map_cons, List.map_nil]); first | done | (simp only [hji32]; rfl) | rfl | (simp only [List.length_drop, List.length_take]; rfl)) ?_; (with_reducible refine (hist_Num.calls (a0.extract ((ji32) : Int).toNat a0.size) t184 _ A35.out ?hT_).mono ?_); (case hT_ => exact Tabs.after HT.out (by repeat (first | (with_reducible first | exact HB.out | apply s1 | apply s2 | apply s3 | refine s4 ?_ GE169.out | refine s4 ?_ GE179.out) | exact HB.out))); rintro e w39 ⟨rfl, hb⟩; refine ⟨_, rfl, ?_⟩; have n0_ := Aside0.mk (Kd.R_below (by (with_reducible repeat first | apply r1 | apply r2 | apply r3); exact (Kd.R_mono (Kd.R_far (p := ⟨gb179, 1, none⟩) (Kd.R_types HO_4.out BK179.out (by decide)) (fun _ hk => hk.2) (.string (rdOf ByteArray.empty y176 1))) (fun _ h_ => h_.1))) hb); have n1_ := Aside0.mk (blk_below (g := gb169) (o := .cells #[.int .i64 0, .string ⟨#[]⟩, .string ⟨#[]⟩, .int .i64 0, .int .i64 0, .slice none 0 0, .int .i64 0] 24 (0, 0)) (by (with_reducible repeat first | apply q1 | apply q2 | apply q3); refine blk_far ?_ NB169_179.out _; (with_reducible repeat first | apply q1 | apply q2 | apply q3); exact BK169.out) hb); have n2_ := Aside0.mk (blk_below (g := gb179) (o := .cells #[.int .i64 x180000_1, .string (rdOf ByteArray.empty y176 1), .string ⟨#[]⟩, .int .i64 0, .int .i64 0, .slice none 0 0, .int .i64 0] 24 (0, 0)) (by (with_reducible repeat first | apply q1 | apply q2 | apply q3); refine blk_put (cs := #[.int .i64 x180000_1, .string ⟨#[]⟩, .string ⟨#[]⟩, .int .i64 0, .int .i64 0, .slice none 0 0, .int .i64 0]) ?_ 1 _ rfl; (with_reducible repeat first | apply q1 | apply q2 | apply q3); exact BK179.out) hb); have n3_ := Aside0.mk (below_step (by repeat (first | (with_reducible first | exact HB.out | apply s1 | apply s2 | apply s3 | refine s4 ?_ GE169.out | refine s4 ?_ GE179.out) | exact HB.out)) hb); clear HO_4; clear BK169; clear BK179; clear HB; have HO_4 := n0_; have BK169 := n1_; have BK179 := n2_; have HB := n3_; clear n0_ n1_ n2_ n3_; (try clear hb); (try clear hb2); (try clear hk); (try clear hi); have hcz40_0 : w39.cell? ⟨gb179, 0, none⟩ = some (.int .i64 x180000_1) := (blk_cell BK179.out 0).trans rfl; have hcz40_1 : w39.cell? ⟨gb179, 1, none⟩ = some (.string (rdOf ByteArray.empty y176 1)) := (blk_cell BK179.out 1).trans rfl; have hcz40_2 : w39.cell? ⟨gb179, 2, none⟩ = some (.string ⟨#[]⟩) := (blk_cell BK179.out 2).trans rfl; have hcz40_3 : w39.cell? ⟨gb179, 3, none⟩ = some (.int .i64 0) := (blk_cell BK179.out 3).trans rfl; have hcz40_4 : w39.cell? ⟨gb179, 4, none⟩ = some (.int .i64 0) := (blk_cell BK179.out 4).trans rfl; have hcz40_5 : w39.cell? ⟨gb179, 5, none⟩ = some (.slice none 0 0) := (blk_cell BK179.out 5).trans rfl; have hcz40_6 : w39.cell? ⟨gb179, 6, none⟩ = some (.int .i64 0) := (blk_cell BK179.out 6).trans rfl; have hfz40_0 := blk_frozen BK179.out 0; have hfz40_1 := blk_frozen BK179.out 1; have hfz40_2 := blk_frozen BK179.out 2; have hfz40_3 := blk_frozen BK179.out 3; have hfz40_4 := blk_frozen BK179.out 4; have hfz40_5 := blk_frozen BK179.out 5; have hfz40_6 := blk_frozen BK179.out 6))
           go_meet
           case rel => exact ⟨_, (rdOf ByteArray.empty y176 1), (t184), H', ⟨by have := HK1.out; first | omega | exact Nat.le_refl _⟩, ⟨by (with_reducible repeat first | apply r1 | apply r2 | apply r3); exact Kd.R_mono (Kd.R_far (p := ⟨gb179, 6, none⟩) (Kd.R_types HO_4.out BK179.out (by decide)) (fun _ hk => hk.2) (.int .i64 t184)) (fun _ hk => trivial)⟩, ⟨by (with_reducible repeat first | apply q1 | apply q2 | apply q3); refine blk_far ?_ NB169_179.out _; (with_reducible repeat first | apply q1 | apply q2 | apply q3); exact BK169.out⟩, ⟨by (with_reducible repeat first | apply q1 | apply q2 | apply q3); refine blk_put (cs := #[.int .i64 x180000_1, .string (rdOf ByteArray.empty y176 1), .string ⟨#[]⟩, .int .i64 0, .int .i64 0, .slice none 0 0, .int .i64 0]) ?_ 6 _ rfl; (with_reducible repeat first | apply q1 | apply q2 | apply q3); exact BK179.out⟩, ⟨by repeat (first | (with_reducible first | exact HB.out | apply s1 | apply s2 | apply s3 | refine s4 ?_ GE169.out | refine s4 ?_ GE179.out) | exact HB.out)⟩⟩
          ·rw [if_neg c34] at H
           exact absurd H (by simp)
         ·rw [if_neg c33] at H
          exact absurd H (by simp)
        ·rw [if_neg c31] at H
         have c31b0 : decide (0 ≤ t183) = false := decide_eq_false c31
         clear c31
         have H' := Aside0.mk H
         clear H
         obtain ⟨Ao41, co41, eo41⟩ := Kd.R_slice HO_4.out
         subst eo41
         have p182 : 0 ≤ (1 : Int) := (by omega)
         have q182 : 1 < (y176.length : Int) := of_decide_eq_true (by first | (with_reducible assumption) | assumption)
         obtain ⟨ad182, e182, hx182_0⟩ := Kd.at_string (Kd.R_reads' HO_4.out).2.2 1 p182 q182
         cases e182
         (try simp only [show (1 : Int).toNat = 1 from rfl, Nat.reduceMul, Nat.reduceEqDiff, Go.Addr.add, ↓reduceIte] at hx182_0)
         have qi182 : (1 < y176.length) = True := eq_true (by omega)
         (try rw [show ((1 : Int)).toNat = 1 from rfl] at hx182_0)
         replace p182 := eq_true p182
         replace q182 := eq_true q182
         have hnb42 := NB179_169.out
         have hnc42 := NB169_179.out
         have hcz43_0 : wr.cell? ⟨gb179, 0, none⟩ = some (.int .i64 x180000_1) := (blk_cell BK179.out 0).trans rfl
         have hcz43_1 : wr.cell? ⟨gb179, 1, none⟩ = some (.string ⟨#[]⟩) := (blk_cell BK179.out 1).trans rfl
         have hcz43_2 : wr.cell? ⟨gb179, 2, none⟩ = some (.string ⟨#[]⟩) := (blk_cell BK179.out 2).trans rfl
         have hcz43_3 : wr.cell? ⟨gb179, 3, none⟩ = some (.int .i64 0) := (blk_cell BK179.out 3).trans rfl
         have hcz43_4 : wr.cell? ⟨gb179, 4, none⟩ = some (.int .i64 0) := (blk_cell BK179.out 4).trans rfl
         have hcz43_5 : wr.cell? ⟨gb179, 5, none⟩ = some (.slice none 0 0) := (blk_cell BK179.out 5).trans rfl
         have hcz43_6 : wr.cell? ⟨gb179, 6, none⟩ = some (.int .i64 0) := (blk_cell BK179.out 6).trans rfl
         have hfz43_0 := blk_frozen BK179.out 0
         have hfz43_1 := blk_frozen BK179.out 1
         have hfz43_2 := blk_frozen BK179.out 2
         have hfz43_3 := blk_frozen BK179.out 3
         have hfz43_4 := blk_frozen BK179.out 4
         have hfz43_5 := blk_frozen BK179.out 5
         have hfz43_6 := blk_frozen BK179.out 6
         go_wp2_with (first | ((with_reducible refine gate_callee (f := 43) rfl ?_); refine goesL_ (some 33) rfl rfl Tryz.func43 (by kernel_rfl) rfl #[.string a0, .int .u8 64] rfl (by (try simp only [List.map_toArray, List.map_cons, List.map_nil]); first | done | rfl | (simp only [List.length_drop, List.length_take]; rfl)) ?_; (with_reducible refine (strings_LastIndexByte.calls a0 64 t183 _ A30.out).mono ?_); rintro e w' ⟨rfl, ⟨nd, rfl⟩⟩; refine ⟨_, rfl, ?_⟩))
         go_meet
         case rel => exact ⟨_, (rdOf ByteArray.empty y176 1), (0), H', ⟨by have := HK1.out; first | omega | exact Nat.le_refl _⟩, ⟨by (with_reducible repeat first | apply r1 | apply r2 | apply r3); exact Kd.R_mono (Kd.R_far (p := ⟨gb179, 1, none⟩) (Kd.R_types HO_4.out BK179.out (by decide)) (fun _ hk => hk.2) (.string (rdOf ByteArray.empty y176 1))) (fun _ hk => trivial)⟩, ⟨by (with_reducible repeat first | apply q1 | apply q2 | apply q3); refine blk_far ?_ NB169_179.out _; (with_reducible repeat first | apply q1 | apply q2 | apply q3); exact BK169.out⟩, ⟨by (with_reducible repeat first | apply q1 | apply q2 | apply q3); refine blk_put (cs := #[.int .i64 x180000_1, .string ⟨#[]⟩, .string ⟨#[]⟩, .int .i64 0, .int .i64 0, .slice none 0 0, .int .i64 0]) ?_ 1 _ rfl; (with_reducible repeat first | apply q1 | apply q2 | apply q3); exact BK179.out⟩, ⟨by repeat (first | (with_reducible first | exact HB.out | apply s1 | apply s2 | apply s3 | refine s4 ?_ GE169.out | refine s4 ?_ GE179.out) | exact HB.out)⟩⟩
       ·rw [if_neg c29] at H
        exact absurd H (by simp)
      ·rw [if_neg c28] at H
       have c28b0 : decide (x180000_1 ≤ 11) = false := decide_eq_false c28
       clear c28
       (first | rw [c28b0] | (simp only [i64_w, i32_w]; rw [c28b0]) | skip)
       have H' := Aside0.mk H
       clear H
       go_wp2
       go_meet
       case rel => exact ⟨_, ((⟨#[]⟩ : ByteArray)), (0), H', ⟨by have := HK1.out; first | omega | exact Nat.le_refl _⟩, ⟨by (with_reducible repeat first | apply r1 | apply r2 | apply r3); exact HO_4.out⟩, ⟨by (with_reducible repeat first | apply q1 | apply q2 | apply q3); exact BK169.out⟩, ⟨by (with_reducible repeat first | apply q1 | apply q2 | apply q3); exact BK179.out⟩, ⟨by repeat (first | (with_reducible first | exact HB.out | apply s1 | apply s2 | apply s3 | refine s4 ?_ GE169.out | refine s4 ?_ GE179.out) | exact HB.out)⟩⟩
     case rest =>
      clear HC25
      try clear c1
      try clear p1
      try clear q1
      try clear hx1
      try clear qi1
      try clear c2
      try clear p2
      try clear c3
      try clear c4
      try clear p6
      try clear c11
      try clear c13
      try clear c13b0
      try clear c15
      try clear c15b0
      try clear c15b1
      try clear c16
      try clear c16b0
      try clear c16b1
      try clear p18
      try clear q18
      try clear hx18
      try clear qi18
      try clear c20
      try clear c26
      try clear c28
      try clear c28b0
      try clear c29
      try clear c29b0
      try clear c29b1
      try clear c31
      try clear c31b0
      try clear c32
      try clear c33
      try clear c33b0
      try clear c33b1
      try clear c34
      try clear c34b0
      try clear c34b1
      try clear c37
      try clear c42
      try clear c43
      try clear hcz12_0
      try clear hcz12_1
      try clear hcz12_2
      try clear hcz12_3
      try clear hcz12_4
      try clear hcz12_5
      try clear hcz12_6
      try clear hcz21_0
      try clear hcz21_1
      try clear hcz21_2
      try clear hcz21_3
      try clear hcz21_4
      try clear hcz21_5
      try clear hcz21_6
      try clear hcz27_0
      try clear hcz27_1
      try clear hcz27_2
      try clear hcz27_3
      try clear hcz27_4
      try clear hcz27_5
      try clear hcz27_6
      try clear hcz38_0
      try clear hcz38_1
      try clear hcz38_2
      try clear hcz38_3
      try clear hcz38_4
      try clear hcz38_5
      try clear hcz38_6
      try clear hcz40_0
      try clear hcz40_1
      try clear hcz40_2
      try clear hcz40_3
      try clear hcz40_4
      try clear hcz40_5
      try clear hcz40_6
      try clear hcz43_0
      try clear hcz43_1
      try clear hcz43_2
      try clear hcz43_3
      try clear hcz43_4
      try clear hcz43_5
      try clear hcz43_6
      try clear hfz12_0
      try clear hfz12_1
      try clear hfz12_2
      try clear hfz12_3
      try clear hfz12_4
      try clear hfz12_5
      try clear hfz12_6
      try clear hfz21_0
      try clear hfz21_1
      try clear hfz21_2
      try clear hfz21_3
      try clear hfz21_4
      try clear hfz21_5
      try clear hfz21_6
      try clear hfz27_0
      try clear hfz27_1
      try clear hfz27_2
      try clear hfz27_3
      try clear hfz27_4
      try clear hfz27_5
      try clear hfz27_6
      try clear hfz38_0
      try clear hfz38_1
      try clear hfz38_2
      try clear hfz38_3
      try clear hfz38_4
      try clear hfz38_5
      try clear hfz38_6
      try clear hfz40_0
      try clear hfz40_1
      try clear hfz40_2
      try clear hfz40_3
      try clear hfz40_4
      try clear hfz40_5
      try clear hfz40_6
      try clear hfz43_0
      try clear hfz43_1
      try clear hfz43_2
      try clear hfz43_3
      try clear hfz43_4
      try clear hfz43_5
      try clear hfz43_6
      try clear hx181_0
      try clear hx182_0
      try clear p181
      try clear p182
      try clear p2
      try clear q181
      try clear q182
      obtain ⟨kq, x180001_24, x180006_24, HA, HJ24, HO_4, BK169, BK179, HB⟩ := hcut
      cases kq with
      | zero => exact absurd HA.out (by simp [hist_ParseOp.j1])
      | succ kj24 =>
       have H := HA.out
       clear HA
       simp only [hist_ParseOp.j1] at H
       have HC44 := Aside0.mk H
       clear H
       have hnb45 := NB179_169.out
       have hnc45 := NB169_179.out
       have hcz46_0 : wc.cell? ⟨gb179, 0, none⟩ = some (.int .i64 x180000_1) := (blk_cell BK179.out 0).trans rfl
       have hcz46_1 : wc.cell? ⟨gb179, 1, none⟩ = some (.string x180001_24) := (blk_cell BK179.out 1).trans rfl
       have hcz46_2 : wc.cell? ⟨gb179, 2, none⟩ = some (.string ⟨#[]⟩) := (blk_cell BK179.out 2).trans rfl
       have hcz46_3 : wc.cell? ⟨gb179, 3, none⟩ = some (.int .i64 0) := (blk_cell BK179.out 3).trans rfl
       have hcz46_4 : wc.cell? ⟨gb179, 4, none⟩ = some (.int .i64 0) := (blk_cell BK179.out 4).trans rfl
       have hcz46_5 : wc.cell? ⟨gb179, 5, none⟩ = some (.slice none 0 0) := (blk_cell BK179.out 5).trans rfl
       have hcz46_6 : wc.cell? ⟨gb179, 6, none⟩ = some (.int .i64 x180006_24) := (blk_cell BK179.out 6).trans rfl
       have hfz46_0 := blk_frozen BK179.out 0
       have hfz46_1 := blk_frozen BK179.out 1
       have hfz46_2 := blk_frozen BK179.out 2
       have hfz46_3 := blk_frozen BK179.out 3
       have hfz46_4 := blk_frozen BK179.out 4
       have hfz46_5 := blk_frozen BK179.out 5
       have hfz46_6 := blk_frozen BK179.out 6
       go_upto_if 44 with (fail)
       go_cut [44] (fun v44 wc => ∃ (kq : Nat) (x44_43 : Bool), v44 = .bool x44_43 ∧ Aside0 (hist_ParseOp.j2 kq a0 y176 x180000_1 x44_43 x180000_1 x180001_24 (⟨#[]⟩ : ByteArray) 0 0 x180006_24 = some (r1, r2, r3, r4, r5, r6, r7, r8)) ∧ Aside0 (kq ≤ kj24) ∧ Aside0 (Kd.R Kd.string 9 wc w.heap.size (fun _ => True) v177 y176) ∧ Aside0 (wc.heap[gb169]? = some (.cells #[.int .i64 0, .string ⟨#[]⟩, .string ⟨#[]⟩, .int .i64 0, .int .i64 0, (.slice none 0 0), .int .i64 0] 24 (0, 0))) ∧ Aside0 (wc.heap[gb179]? = some (.cells #[.int .i64 x180000_1, .string x180001_24, .string ⟨#[]⟩, .int .i64 0, .int .i64 0, (.slice none 0 0), .int .i64 x180006_24] 24 (0, 0))) ∧ Aside0 (Below w.heap.size w wc))
       case first =>
        have H := HC44.out
        clear HC44
        by_cases c47 : x180000_1 = 5
        ·rw [if_pos c47] at H
         have c47b0 : (x180000_1 == 5) = true := beq_iff_eq.mpr c47
         have c47b1 : (x180000_1 != 5) = false := bne_eq_false_iff_eq.mpr c47
         clear c47
         (first | rw [c47b0] | (simp only [i64_w, i32_w]; rw [c47b0]) | skip)
         have H' := Aside0.mk H
         clear H
         go_wp2
         go_meet
         case rel => exact ⟨_, ((x180000_1 == 5)), (by first | rfl | (simp; done) | (simp [*]; done)), H', ⟨by have := HK1.out; have := HJ24.out; first | omega | exact Nat.le_refl _⟩, ⟨by (with_reducible repeat first | apply r1 | apply r2 | apply r3); exact HO_4.out⟩, ⟨by (with_reducible repeat first | apply q1 | apply q2 | apply q3); exact BK169.out⟩, ⟨by (with_reducible repeat first | apply q1 | apply q2 | apply q3); exact BK179.out⟩, ⟨by repeat (first | (with_reducible first | exact HB.out | apply s1 | apply s2 | apply s3 | refine s4 ?_ GE169.out | refine s4 ?_ GE179.out) | exact HB.out)⟩⟩
        ·rw [if_neg c47] at H
         have c47b0 : (x180000_1 == 5) = false := beq_eq_false_iff_ne.mpr c47
         have c47b1 : (x180000_1 != 5) = true := bne_iff_ne.mpr c47
         (first | rw [c47b0] | (simp only [i64_w, i32_w]; rw [c47b0]) | skip)
         have H' := Aside0.mk H
         clear H
         go_wp2
         go_meet
         case rel => exact ⟨_, ((x180000_1 == 6)), (by first | rfl | (simp; done) | (simp [*]; done)), H', ⟨by have := HK1.out; have := HJ24.out; first | omega | exact Nat.le_refl _⟩, ⟨by (with_reducible repeat first | apply r1 | apply r2 | apply r3); exact HO_4.out⟩, ⟨by (with_reducible repeat first | apply q1 | apply q2 | apply q3); exact BK169.out⟩, ⟨by (with_reducible repeat first | apply q1 | apply q2 | apply q3); exact BK179.out⟩, ⟨by repeat (first | (with_reducible first | exact HB.out | apply s1 | apply s2 | apply s3 | refine s4 ?_ GE169.out | refine s4 ?_ GE179.out) | exact HB.out)⟩⟩
       case rest =>
        clear HC44
        try clear c1
        try clear p1
        try clear q1
        try clear hx1
        try clear qi1
        try clear c2
        try clear p2
        try clear c3
        try clear c4
        try clear p6
        try clear c11
        try clear c13
        try clear c13b0
        try clear c15
        try clear c15b0
        try clear c15b1
        try clear c16
        try clear c16b0
        try clear c16b1
        try clear p18
        try clear q18
        try clear hx18
        try clear qi18
        try clear c20
        try clear c26
        try clear c28
        try clear c28b0
        try clear c29
        try clear c29b0
        try clear c29b1
        try clear c31
        try clear c31b0
        try clear c32
        try clear c33
        try clear c33b0
        try clear c33b1
        try clear c34
        try clear c34b0
        try clear c34b1
        try clear c37
        try clear c42
        try clear c43
        try clear c44
        try clear c45
        try clear c47
        try clear c47b0
        try clear c47b1
        try clear hcz12_0
        try clear hcz12_1
        try clear hcz12_2
        try clear hcz12_3
        try clear hcz12_4
        try clear hcz12_5
        try clear hcz12_6
        try clear hcz21_0
        try clear hcz21_1
        try clear hcz21_2
        try clear hcz21_3
        try clear hcz21_4
        try clear hcz21_5
        try clear hcz21_6
        try clear hcz27_0
        try clear hcz27_1
        try clear hcz27_2
        try clear hcz27_3
        try clear hcz27_4
        try clear hcz27_5
        try clear hcz27_6
        try clear hcz38_0
        try clear hcz38_1
        try clear hcz38_2
        try clear hcz38_3
        try clear hcz38_4
        try clear hcz38_5
        try clear hcz38_6
        try clear hcz40_0
        try clear hcz40_1
        try clear hcz40_2
        try clear hcz40_3
        try clear hcz40_4
        try clear hcz40_5
        try clear hcz40_6
        try clear hcz43_0
        try clear hcz43_1
        try clear hcz43_2
        try clear hcz43_3
        try clear hcz43_4
        try clear hcz43_5
        try clear hcz43_6
        try clear hcz46_0
        try clear hcz46_1
        try clear hcz46_2
        try clear hcz46_3
        try clear hcz46_4
        try clear hcz46_5
        try clear hcz46_6
        try clear hfz12_0
        try clear hfz12_1
        try clear hfz12_2
        try clear hfz12_3
        try clear hfz12_4
        try clear hfz12_5
        try clear hfz12_6
        try clear hfz21_0
        try clear hfz21_1
        try clear hfz21_2
        try clear hfz21_3
        try clear hfz21_4
        try clear hfz21_5
        try clear hfz21_6
        try clear hfz27_0
        try clear hfz27_1
        try clear hfz27_2
        try clear hfz27_3
        try clear hfz27_4
        try clear hfz27_5
        try clear hfz27_6
        try clear hfz38_0
        try clear hfz38_1
        try clear hfz38_2
        try clear hfz38_3
        try clear hfz38_4
        try clear hfz38_5
        try clear hfz38_6
        try clear hfz40_0
        try clear hfz40_1
        try clear hfz40_2
        try clear hfz40_3
        try clear hfz40_4
        try clear hfz40_5
        try clear hfz40_6
        try clear hfz43_0
        try clear hfz43_1
        try clear hfz43_2
        try clear hfz43_3
        try clear hfz43_4
        try clear hfz43_5
        try clear hfz43_6
        try clear hfz46_0
        try clear hfz46_1
        try clear hfz46_2
        try clear hfz46_3
        try clear hfz46_4
        try clear hfz46_5
        try clear hfz46_6
        try clear hx181_0
        try clear hx182_0
        try clear p1
        try clear p18
        try clear p181
        try clear p182
        try clear p2
        try clear p6
        try clear q1
        try clear q18
        try clear q181
        try clear q182
        obtain ⟨kq, x44_43, rfl, HA, HJ43, HO_4, BK169, BK179, HB⟩ := hcut
        cases kq with
        | zero => exact absurd HA.out (by simp [hist_ParseOp.j2])
        | succ kj43 =>
         have H := HA.out
         clear HA
         simp only [hist_ParseOp.j2] at H
         by_cases c48 : x44_43 = true
         ·subst c48
          have H1 : (if 2 < (y176.length : Int) then (if a0.toList = ([] : List UInt8) then (some (0, (⟨#[]⟩ : ByteArray), (⟨#[]⟩ : ByteArray), 0, 0, ([] : List Int), 0, some 14)) else ((hist_Op.f kj43 x180000_1 x180001_24 (rdOf ByteArray.empty y176 2) 0 0 ([] : List Int) x180006_24).bind fun t186 => (if t186.toList = a0.toList then (some (x180000_1, x180001_24, rdOf ByteArray.empty y176 2, 0, 0, ([] : List Int), x180006_24, none)) else (some (0, (⟨#[]⟩ : ByteArray), (⟨#[]⟩ : ByteArray), 0, 0, ([] : List Int), 0, some 14))))) else (none)) = some (r1, r2, r3, r4, r5, r6, r7, r8) := by rw [if_pos rfl] at H; exact H
          clear H
          have H := H1
          clear H1
          by_cases c49 : 2 < (y176.length : Int)
          ·rw [if_pos c49] at H
           have c49b0 : decide (2 < (y176.length : Int)) = true := decide_eq_true c49
           have c49b1 : decide (2 < y176.length) = true := decide_eq_true (by omega)
           clear c49
           by_cases c50 : a0.toList = ([] : List UInt8)
           ·rw [if_pos c50] at H
            have c50b0 : (a0.toList == ([] : List UInt8)) = true := beq_iff_eq.mpr c50
            have c50b1 : (a0.toList != ([] : List UInt8)) = false := bne_eq_false_iff_eq.mpr c50
            clear c50
            simp only [Option.some.injEq, Prod.mk.injEq] at H
            obtain ⟨rfl, rfl, rfl, rfl, rfl, rfl, rfl, rfl⟩ := H
            obtain ⟨Ao51, co51, eo51⟩ := Kd.R_slice HO_4.out
            subst eo51
            have p185 : 0 ≤ (2 : Int) := (by omega)
            have q185 : 2 < (y176.length : Int) := of_decide_eq_true (by first | (with_reducible assumption) | assumption)
            obtain ⟨ad185, e185, hx185_0⟩ := Kd.at_string (Kd.R_reads' HO_4.out).2.2 2 p185 q185
            cases e185
            (try simp only [show (2 : Int).toNat = 2 from rfl, Nat.reduceMul, Nat.reduceEqDiff, Go.Addr.add, ↓reduceIte] at hx185_0)
            have qi185 : (2 < y176.length) = True := eq_true (by omega)
            (try rw [show ((2 : Int)).toNat = 2 from rfl] at hx185_0)
            replace p185 := eq_true p185
            replace q185 := eq_true q185
            have hnb52 := NB179_169.out
            have hnc52 := NB169_179.out
            have hcz53_0 : wc.cell? ⟨gb179, 0, none⟩ = some (.int .i64 x180000_1) := (blk_cell BK179.out 0).trans rfl
            have hcz53_1 : wc.cell? ⟨gb179, 1, none⟩ = some (.string x180001_24) := (blk_cell BK179.out 1).trans rfl
            have hcz53_2 : wc.cell? ⟨gb179, 2, none⟩ = some (.string ⟨#[]⟩) := (blk_cell BK179.out 2).trans rfl
            have hcz53_3 : wc.cell? ⟨gb179, 3, none⟩ = some (.int .i64 0) := (blk_cell BK179.out 3).trans rfl
            have hcz53_4 : wc.cell? ⟨gb179, 4, none⟩ = some (.int .i64 0) := (blk_cell BK179.out 4).trans rfl
            have hcz53_5 : wc.cell? ⟨gb179, 5, none⟩ = some (.slice none 0 0) := (blk_cell BK179.out 5).trans rfl
            have hcz53_6 : wc.cell? ⟨gb179, 6, none⟩ = some (.int .i64 x180006_24) := (blk_cell BK179.out 6).trans rfl
            have hfz53_0 := blk_frozen BK179.out 0
            have hfz53_1 := blk_frozen BK179.out 1
            have hfz53_2 := blk_frozen BK179.out 2
            have hfz53_3 := blk_frozen BK179.out 3
            have hfz53_4 := blk_frozen BK179.out 4
            have hfz53_5 := blk_frozen BK179.out 5
            have hfz53_6 := blk_frozen BK179.out 6
            have hcz54_0 : wc.cell? ⟨gb169, 0, none⟩ = some (.int .i64 0) := (blk_cell BK169.out 0).trans rfl
            have hcz54_1 : wc.cell? ⟨gb169, 1, none⟩ = some (.string ⟨#[]⟩) := (blk_cell BK169.out 1).trans rfl
            have hcz54_2 : wc.cell? ⟨gb169, 2, none⟩ = some (.string ⟨#[]⟩) := (blk_cell BK169.out 2).trans rfl
            have hcz54_3 : wc.cell? ⟨gb169, 3, none⟩ = some (.int .i64 0) := (blk_cell BK169.out 3).trans rfl
            have hcz54_4 : wc.cell? ⟨gb169, 4, none⟩ = some (.int .i64 0) := (blk_cell BK169.out 4).trans rfl
            have hcz54_5 : wc.cell? ⟨gb169, 5, none⟩ = some (.slice none 0 0) := (blk_cell BK169.out 5).trans rfl
            have hcz54_6 : wc.cell? ⟨gb169, 6, none⟩ = some (.int .i64 0) := (blk_cell BK169.out 6).trans rfl
            have hfz54_0 := blk_frozen BK169.out 0
            have hfz54_1 := blk_frozen BK169.out 1
            have hfz54_2 := blk_frozen BK169.out 2
            have hfz54_3 := blk_frozen BK169.out 3
            have hfz54_4 := blk_frozen BK169.out 4
            have hfz54_5 := blk_frozen BK169.out 5
            have hfz54_6 := blk_frozen BK169.out 6
            go_wp2
            refine bodyPost_ret (results_ct rfl _ _ gb169 24 #[.int .i64 0, .string ⟨#[]⟩, .string ⟨#[]⟩, .int .i64 0, .int .i64 0, .slice none 0 0, .int .i64 0] (0, 0) _ rfl (by (with_reducible repeat first | apply q1 | apply q2 | apply q3); refine q5 ?_ 6 _ rfl; refine q5 ?_ 5 _ rfl; refine q5 ?_ 4 _ rfl; refine q5 ?_ 3 _ rfl; refine q5 ?_ 2 _ rfl; refine q5 ?_ 1 _ rfl; refine q5 ?_ 0 _ rfl; (with_reducible repeat first | apply q1 | apply q2 | apply q3); refine blk_far ?_ NB169_179.out _; (with_reducible repeat first | apply q1 | apply q2 | apply q3); exact BK169.out) Tryz.underlying24 rfl (by kernel_rfl)) rfl ?_
            exact ⟨_, by first | rfl | (simp [errW_none, errW_some] <;> rfl) | (simp [*, errW_none, errW_some] <;> rfl), by exact Kd.R_nil _ _ _ _ _, by repeat (first | (with_reducible first | exact HB.out | apply s1 | apply s2 | apply s3 | refine s4 ?_ GE169.out | refine s4 ?_ GE179.out) | exact HB.out)⟩
           ·rw [if_neg c50] at H
            have c50b0 : (a0.toList == ([] : List UInt8)) = false := beq_eq_false_iff_ne.mpr c50
            have c50b1 : (a0.toList != ([] : List UInt8)) = true := bne_iff_ne.mpr c50
            replace H := Option.bind_eq_some_iff.mp H
            obtain ⟨t186, A550, H⟩ := H
            try dsimp only at H
            have A55 := Aside0.mk A550
            clear A550
            by_cases c56 : t186.toList = a0.toList
            ·rw [if_pos c56] at H
             have c56b0 : (t186.toList == a0.toList) = true := beq_iff_eq.mpr c56
             have c56b1 : (t186.toList != a0.toList) = false := bne_eq_false_iff_eq.mpr c56
             clear c56
             simp only [Option.some.injEq, Prod.mk.injEq] at H
             obtain ⟨rfl, rfl, rfl, rfl, rfl, rfl, rfl, rfl⟩ := H
             obtain ⟨Ao57, co57, eo57⟩ := Kd.R_slice HO_4.out
             subst eo57
             have p185 : 0 ≤ (2 : Int) := (by omega)
             have q185 : 2 < (y176.length : Int) := of_decide_eq_true (by first | (with_reducible assumption) | assumption)
             obtain ⟨ad185, e185, hx185_0⟩ := Kd.at_string (Kd.R_reads' HO_4.out).2.2 2 p185 q185
             cases e185
             (try simp only [show (2 : Int).toNat = 2 from rfl, Nat.reduceMul, Nat.reduceEqDiff, Go.Addr.add, ↓reduceIte] at hx185_0)
             have qi185 : (2 < y176.length) = True := eq_true (by omega)
             (try rw [show ((2 : Int)).toNat = 2 from rfl] at hx185_0)
             replace p185 := eq_true p185
             replace q185 := eq_true q185
             have hnb58 := NB179_169.out
             have hnc58 := NB169_179.out
             have hcz59_0 : wc.cell? ⟨gb179, 0, none⟩ = some (.int .i64 x180000_1) := (blk_cell BK179.out 0).trans rfl
             have hcz59_1 : wc.cell? ⟨gb179, 1, none⟩ = some (.string x180001_24) := (blk_cell BK179.out 1).trans rfl
             have hcz59_2 : wc.cell? ⟨gb179, 2, none⟩ = some (.string ⟨#[]⟩) := (blk_cell BK179.out 2).trans rfl
             have hcz59_3 : wc.cell? ⟨gb179, 3, none⟩ = some (.int .i64 0) := (blk_cell BK179.out 3).trans rfl
             have hcz59_4 : wc.cell? ⟨gb179, 4, none⟩ = some (.int .i64 0) := (blk_cell BK179.out 4).trans rfl
             have hcz59_5 : wc.cell? ⟨gb179, 5, none⟩ = some (.slice none 0 0) := (blk_cell BK179.out 5).trans rfl
             have hcz59_6 : wc.cell? ⟨gb179, 6, none⟩ = some (.int .i64 x180006_24) := (blk_cell BK179.out 6).trans rfl
             have hfz59_0 := blk_frozen BK179.out 0
             have hfz59_1 := blk_frozen BK179.out 1
             have hfz59_2 := blk_frozen BK179.out 2
             have hfz59_3 := blk_frozen BK179.out 3
             have hfz59_4 := blk_frozen BK179.out 4
             have hfz59_5 := blk_frozen BK179.out 5
             have hfz59_6 := blk_frozen BK179.out 6
             go_wp2_with (first | (go_at_call 11; (refine (hist_Op.calls kj43 x180000_1 x180001_24 (rdOf ByteArray.empty y176 2) 0 0 _ _ ([] : List Int) x180006_24 t186 _ ?side1 ?side2 A55.out ?hT_).mono ?_); (case hT_ => exact Tabs.after HT.out (by repeat (first | (with_reducible first | exact HB.out | apply s1 | apply s2 | apply s3 | refine s4 ?_ GE169.out | refine s4 ?_ GE179.out) | exact HB.out))); (case side1 => exact Kd.C_nil _ _); (case side2 => exact Nat.le_refl _); rintro e w60 ⟨rfl, hb⟩; have n0_ := Aside0.mk (Kd.R_below (by (with_reducible repeat first | apply r1 | apply r2 | apply r3); exact (Kd.R_mono (Kd.R_far (p := ⟨gb179, 2, none⟩) (Kd.R_types HO_4.out BK179.out (by decide)) (fun _ hk => hk.2) (.string (rdOf ByteArray.empty y176 2))) (fun _ h_ => h_.1))) hb); have n1_ := Aside0.mk (blk_below (g := gb169) (o := .cells #[.int .i64 0, .string ⟨#[]⟩, .string ⟨#[]⟩, .int .i64 0, .int .i64 0, .slice none 0 0, .int .i64 0] 24 (0, 0)) (by (with_reducible repeat first | apply q1 | apply q2 | apply q3); refine blk_far ?_ NB169_179.out _; (with_reducible repeat first | apply q1 | apply q2 | apply q3); exact BK169.out) hb); have n2_ := Aside0.mk (blk_below (g := gb179) (o := .cells #[.int .i64 x180000_1, .string x180001_24, .string (rdOf ByteArray.empty y176 2), .int .i64 0, .int .i64 0, .slice none 0 0, .int .i64 x180006_24] 24 (0, 0)) (by (with_reducible repeat first | apply q1 | apply q2 | apply q3); refine blk_put (cs := #[.int .i64 x180000_1, .string x180001_24, .string ⟨#[]⟩, .int .i64 0, .int .i64 0, .slice none 0 0, .int .i64 x180006_24]) ?_ 2 _ rfl; (with_reducible repeat first | apply q1 | apply q2 | apply q3); exact BK179.out) hb); have n3_ := Aside0.mk (below_step (by repeat (first | (with_reducible first | exact HB.out | apply s1 | apply s2 | apply s3 | refine s4 ?_ GE169.out | refine s4 ?_ GE179.out) | exact HB.out)) hb); clear HO_4; clear BK169; clear BK179; clear HB; have HO_4 := n0_; have BK169 := n1_; have BK179 := n2_; have HB := n3_; clear n0_ n1_ n2_ n3_; (try clear hb); (try clear hb2); (try clear hk); (try clear hi); have hcz61_0 : w60.cell? ⟨gb179, 0, none⟩ = some (.int .i64 x180000_1) := (blk_cell BK179.out 0).trans rfl; have hcz61_1 : w60.cell? ⟨gb179, 1, none⟩ = some (.string x180001_24) := (blk_cell BK179.out 1).trans rfl; have hcz61_2 : w60.cell? ⟨gb179, 2, none⟩ = some (.string (rdOf ByteArray.empty y176 2)) := (blk_cell BK179.out 2).trans rfl; have hcz61_3 : w60.cell? ⟨gb179, 3, none⟩ = some (.int .i64 0) := (blk_cell BK179.out 3).trans rfl; have hcz61_4 : w60.cell? ⟨gb179, 4, none⟩ = some (.int .i64 0) := (blk_cell BK179.out 4).trans rfl; have hcz61_5 : w60.cell? ⟨gb179, 5, none⟩ = some (.slice none 0 0) := (blk_cell BK179.out 5).trans rfl; have hcz61_6 : w60.cell? ⟨gb179, 6, none⟩ = some (.int .i64 x180006_24) := (blk_cell BK179.out 6).trans rfl; have hfz61_0 := blk_frozen BK179.out 0; have hfz61_1 := blk_frozen BK179.out 1; have hfz61_2 := blk_frozen BK179.out 2; have hfz61_3 := blk_frozen BK179.out 3; have hfz61_4 := blk_frozen BK179.out 4; have hfz61_5 := blk_frozen BK179.out 5; have hfz61_6 := blk_frozen BK179.out 6; have hcz62_0 : w60.cell? ⟨gb169, 0, none⟩ = some (.int .i64 0) := (blk_cell BK169.out 0).trans rfl; have hcz62_1 : w60.cell? ⟨gb169, 1, none⟩ = some (.string ⟨#[]⟩) := (blk_cell BK169.out 1).trans rfl; have hcz62_2 : w60.cell? ⟨gb169, 2, none⟩ = some (.string ⟨#[]⟩) := (blk_cell BK169.out 2).trans rfl; have hcz62_3 : w60.cell? ⟨gb169, 3, none⟩ = some (.int .i64 0) := (blk_cell BK169.out 3).trans rfl; have hcz62_4 : w60.cell? ⟨gb169, 4, none⟩ = some (.int .i64 0) := (blk_cell BK169.out 4).trans rfl; have hcz62_5 : w60.cell? ⟨gb169, 5, none⟩ = some (.slice none 0 0) := (blk_cell BK169.out 5).trans rfl; have hcz62_6 : w60.cell? ⟨gb169, 6, none⟩ = some (.int .i64 0) := (blk_cell BK169.out 6).trans rfl; have hfz62_0 := blk_frozen BK169.out 0; have hfz62_1 := blk_frozen BK169.out 1; have hfz62_2 := blk_frozen BK169.out 2; have hfz62_3 := blk_frozen BK169.out 3; have hfz62_4 := blk_frozen BK169.out 4; have hfz62_5 := blk_frozen BK169.out 5; have hfz62_6 := blk_frozen BK169.out 6))
             refine bodyPost_ret (results_ct rfl _ _ gb169 24 #[.int .i64 x180000_1, .string x180001_24, .string (rdOf ByteArray.empty y176 2), .int .i64 0, .int .i64 0, .slice none 0 0, .int .i64 x180006_24] (0, 0) _ rfl (by (with_reducible repeat first | apply q1 | apply q2 | apply q3); refine blk_put (cs := #[.int .i64 x180000_1, .string x180001_24, .string (rdOf ByteArray.empty y176 2), .int .i64 0, .int .i64 0, .slice none 0 0, .int .i64 0]) ?_ 6 _ rfl; refine q5 ?_ 5 _ rfl; refine q5 ?_ 4 _ rfl; refine q5 ?_ 3 _ rfl; refine blk_put (cs := #[.int .i64 x180000_1, .string x180001_24, .string ⟨#[]⟩, .int .i64 0, .int .i64 0, .slice none 0 0, .int .i64 0]) ?_ 2 _ rfl; refine blk_put (cs := #[.int .i64 x180000_1, .string ⟨#[]⟩, .string ⟨#[]⟩, .int .i64 0, .int .i64 0, .slice none 0 0, .int .i64 0]) ?_ 1 _ rfl; refine blk_put (cs := #[.int .i64 0, .string ⟨#[]⟩, .string ⟨#[]⟩, .int .i64 0, .int .i64 0, .slice none 0 0, .int .i64 0]) ?_ 0 _ rfl; (with_reducible repeat first | apply q1 | apply q2 | apply q3); exact BK169.out) Tryz.underlying24 rfl (by kernel_rfl)) rfl ?_
             exact ⟨_, by first | rfl | (simp [errW_none, errW_some] <;> rfl) | (simp [*, errW_none, errW_some] <;> rfl), by exact Kd.R_nil _ _ _ _ _, by repeat (first | (with_reducible first | exact HB.out | apply s1 | apply s2 | apply s3 | refine s4 ?_ GE169.out | refine s4 ?_ GE179.out) | exact HB.out)⟩
            ·rw [if_neg c56] at H
             have c56b0 : (t186.toList == a0.toList) = false := beq_eq_false_iff_ne.mpr c56
             have c56b1 : (t186.toList != a0.toList) = true := bne_iff_ne.mpr c56
             simp only [Option.some.injEq, Prod.mk.injEq] at H
             obtain ⟨rfl, rfl, rfl, rfl, rfl, rfl, rfl, rfl⟩ := H
             obtain ⟨Ao63, co63, eo63⟩ := Kd.R_slice HO_4.out
             subst eo63
             have p185 : 0 ≤ (2 : Int) := (by omega)
             have q185 : 2 < (y176.length : Int) := of_decide_eq_true (by first | (with_reducible assumption) | assumption)
             obtain ⟨ad185, e185, hx185_0⟩ := Kd.at_string (Kd.R_reads' HO_4.out).2.2 2 p185 q185
             cases e185
             (try simp only [show (2 : Int).toNat = 2 from rfl, Nat.reduceMul, Nat.reduceEqDiff, Go.Addr.add, ↓reduceIte] at hx185_0)
             have qi185 : (2 < y176.length) = True := eq_true (by omega)
             (try rw [show ((2 : Int)).toNat = 2 from rfl] at hx185_0)
             replace p185 := eq_true p185
             replace q185 := eq_true q185
             have hnb64 := NB179_169.out
             have hnc64 := NB169_179.out
             have hcz65_0 : wc.cell? ⟨gb179, 0, none⟩ = some (.int .i64 x180000_1) := (blk_cell BK179.out 0).trans rfl
             have hcz65_1 : wc.cell? ⟨gb179, 1, none⟩ = some (.string x180001_24) := (blk_cell BK179.out 1).trans rfl
             have hcz65_2 : wc.cell? ⟨gb179, 2, none⟩ = some (.string ⟨#[]⟩) := (blk_cell BK179.out 2).trans rfl
             have hcz65_3 : wc.cell? ⟨gb179, 3, none⟩ = some (.int .i64 0) := (blk_cell BK179.out 3).trans rfl
             have hcz65_4 : wc.cell? ⟨gb179, 4, none⟩ = some (.int .i64 0) := (blk_cell BK179.out 4).trans rfl
             have hcz65_5 : wc.cell? ⟨gb179, 5, none⟩ = some (.slice none 0 0) := (blk_cell BK179.out 5).trans rfl
             have hcz65_6 : wc.cell? ⟨gb179, 6, none⟩ = some (.int .i64 x180006_24) := (blk_cell BK179.out 6).trans rfl
             have hfz65_0 := blk_frozen BK179.out 0
             have hfz65_1 := blk_frozen BK179.out 1
             have hfz65_2 := blk_frozen BK179.out 2
             have hfz65_3 := blk_frozen BK179.out 3
             have hfz65_4 := blk_frozen BK179.out 4
             have hfz65_5 := blk_frozen BK179.out 5
             have hfz65_6 := blk_frozen BK179.out 6
             go_wp2_with (first | (go_at_call 11; (refine (hist_Op.calls kj43 x180000_1 x180001_24 (rdOf ByteArray.empty y176 2) 0 0 _ _ ([] : List Int) x180006_24 t186 _ ?side1 ?side2 A55.out ?hT_).mono ?_); (case hT_ => exact Tabs.after HT.out (by repeat (first | (with_reducible first | exact HB.out | apply s1 | apply s2 | apply s3 | refine s4 ?_ GE169.out | refine s4 ?_ GE179.out) | exact HB.out))); (case side1 => exact Kd.C_nil _ _); (case side2 => exact Nat.le_refl _); rintro e w66 ⟨rfl, hb⟩; have n0_ := Aside0.mk (Kd.R_below (by (with_reducible repeat first | apply r1 | apply r2 | apply r3); exact (Kd.R_mono (Kd.R_far (p := ⟨gb179, 2, none⟩) (Kd.R_types HO_4.out BK179.out (by decide)) (fun _ hk => hk.2) (.string (rdOf ByteArray.empty y176 2))) (fun _ h_ => h_.1))) hb); have n1_ := Aside0.mk (blk_below (g := gb169) (o := .cells #[.int .i64 0, .string ⟨#[]⟩, .string ⟨#[]⟩, .int .i64 0, .int .i64 0, .slice none 0 0, .int .i64 0] 24 (0, 0)) (by (with_reducible repeat first | apply q1 | apply q2 | apply q3); refine blk_far ?_ NB169_179.out _; (with_reducible repeat first | apply q1 | apply q2 | apply q3); exact BK169.out) hb); have n2_ := Aside0.mk (blk_below (g := gb179) (o := .cells #[.int .i64 x180000_1, .string x180001_24, .string (rdOf ByteArray.empty y176 2), .int .i64 0, .int .i64 0, .slice none 0 0, .int .i64 x180006_24] 24 (0, 0)) (by (with_reducible repeat first | apply q1 | apply q2 | apply q3); refine blk_put (cs := #[.int .i64 x180000_1, .string x180001_24, .string ⟨#[]⟩, .int .i64 0, .int .i64 0, .slice none 0 0, .int .i64 x180006_24]) ?_ 2 _ rfl; (with_reducible repeat first | apply q1 | apply q2 | apply q3); exact BK179.out) hb); have n3_ := Aside0.mk (below_step (by repeat (first | (with_reducible first | exact HB.out | apply s1 | apply s2 | apply s3 | refine s4 ?_ GE169.out | refine s4 ?_ GE179.out) | exact HB.out)) hb); clear HO_4; clear BK169; clear BK179; clear HB; have HO_4 := n0_; have BK169 := n1_; have BK179 := n2_; have HB := n3_; clear n0_ n1_ n2_ n3_; (try clear hb); (try clear hb2); (try clear hk); (try clear hi); have hcz67_0 : w66.cell? ⟨gb169, 0, none⟩ = some (.int .i64 0) := (blk_cell BK169.out 0).trans rfl; have hcz67_1 : w66.cell? ⟨gb169, 1, none⟩ = some (.string ⟨#[]⟩) := (blk_cell BK169.out 1).trans rfl; have hcz67_2 : w66.cell? ⟨gb169, 2, none⟩ = some (.string ⟨#[]⟩) := (blk_cell BK169.out 2).trans rfl; have hcz67_3 : w66.cell? ⟨gb169, 3, none⟩ = some (.int .i64 0) := (blk_cell BK169.out 3).trans rfl; have hcz67_4 : w66.cell? ⟨gb169, 4, none⟩ = some (.int .i64 0) := (blk_cell BK169.out 4).trans rfl; have hcz67_5 : w66.cell? ⟨gb169, 5, none⟩ = some (.slice none 0 0) := (blk_cell BK169.out 5).trans rfl; have hcz67_6 : w66.cell? ⟨gb169, 6, none⟩ = some (.int .i64 0) := (blk_cell BK169.out 6).trans rfl; have hfz67_0 := blk_frozen BK169.out 0; have hfz67_1 := blk_frozen BK169.out 1; have hfz67_2 := blk_frozen BK169.out 2; have hfz67_3 := blk_frozen BK169.out 3; have hfz67_4 := blk_frozen BK169.out 4; have hfz67_5 := blk_frozen BK169.out 5; have hfz67_6 := blk_frozen BK169.out 6))
             refine bodyPost_ret (results_ct rfl _ _ gb169 24 #[.int .i64 0, .string ⟨#[]⟩, .string ⟨#[]⟩, .int .i64 0, .int .i64 0, .slice none 0 0, .int .i64 0] (0, 0) _ rfl (by (with_reducible repeat first | apply q1 | apply q2 | apply q3); refine q5 ?_ 6 _ rfl; refine q5 ?_ 5 _ rfl; refine q5 ?_ 4 _ rfl; refine q5 ?_ 3 _ rfl; refine q5 ?_ 2 _ rfl; refine q5 ?_ 1 _ rfl; refine q5 ?_ 0 _ rfl; (with_reducible repeat first | apply q1 | apply q2 | apply q3); exact BK169.out) Tryz.underlying24 rfl (by kernel_rfl)) rfl ?_
             exact ⟨_, by first | rfl | (simp [errW_none, errW_some] <;> rfl) | (simp [*, errW_none, errW_some] <;> rfl), by exact Kd.R_nil _ _ _ _ _, by repeat (first | (with_reducible first | exact HB.out | apply s1 | apply s2 | apply s3 | refine s4 ?_ GE169.out | refine s4 ?_ GE179.out) | exact HB.out)⟩
          ·rw [if_neg c49] at H
           exact absurd H (by simp)
         ·replace c48 := Bool.eq_false_iff.mpr c48
          subst c48
          have H1 : (if x180000_1 = 8 then (if 2 < (y176.length : Int) then ((hist_Num.f (rdOf ByteArray.empty y176 2)).bind fun t188 => (if 3 < (y176.length : Int) then ((dump_Unhex.f kj43 (rdOf ByteArray.empty y176 3)).bind fun bt190 => (if a0.toList = ([] : List UInt8) then (some (0, (⟨#[]⟩ : ByteArray), (⟨#[]⟩ : ByteArray), 0, 0, ([] : List Int), 0, some 14)) else ((hist_Op.f kj43 x180000_1 x180001_24 (⟨#[]⟩ : ByteArray) t188 0 bt190.1 x180006_24).bind fun t194 => (if t194.toList = a0.toList then (some (x180000_1, x180001_24, (⟨#[]⟩ : ByteArray), t188, 0, bt190.1, x180006_24, none)) else (some (0, (⟨#[]⟩ : ByteArray), (⟨#[]⟩ : ByteArray), 0, 0, ([] : List Int), 0, some 14)))))) else (none))) else (none)) else (if x180000_1 = 7 then (if 2 < (y176.length : Int) then ((hist_Num.f (rdOf ByteArray.empty y176 2)).bind fun t196 => (if 3 < (y176.length : Int) then ((hist_Num.f (rdOf ByteArray.empty y176 3)).bind fun t198 => (if a0.toList = ([] : List UInt8) then (some (0, (⟨#[]⟩ : ByteArray), (⟨#[]⟩ : ByteArray), 0, 0, ([] : List Int), 0, some 14)) else ((hist_Op.f kj43 x180000_1 x180001_24 (⟨#[]⟩ : ByteArray) t196 t198 ([] : List Int) x180006_24).bind fun t199 => (if t199.toList = a0.toList then (some (x180000_1, x180001_24, (⟨#[]⟩ : ByteArray), t196, t198, ([] : List Int), x180006_24, none)) else (some (0, (⟨#[]⟩ : ByteArray), (⟨#[]⟩ : ByteArray), 0, 0, ([] : List Int), 0, some 14)))))) else (none))) else (none)) else (if x180000_1 = 9 then (if 2 < (y176.length : Int) then ((hist_Num.f (rdOf ByteArray.empty y176 2)).bind fun t201 => (if a0.toList = ([] : List UInt8) then (some (0, (⟨#[]⟩ : ByteArray), (⟨#[]⟩ : ByteArray), 0, 0, ([] : List Int), 0, some 14)) else ((hist_Op.f kj43 x180000_1 x180001_24 (⟨#[]⟩ : ByteArray) 0 t201 ([] : List Int) x180006_24).bind fun t202 => (if t202.toList = a0.toList then (some (x180000_1, x180001_24, (⟨#[]⟩ : ByteArray), 0, t201, ([] : List Int), x180006_24, none)) else (some (0, (⟨#[]⟩ : ByteArray), (⟨#[]⟩ : ByteArray), 0, 0, ([] : List Int), 0, some 14)))))) else (none)) else (if x180000_1 = 13 then (if 1 < (y176.length : Int) then ((hist_Num.f (rdOf ByteArray.empty y176 1)).bind fun t204 => (if a0.toList = ([] : List UInt8) then (some (0, (⟨#[]⟩ : ByteArray), (⟨#[]⟩ : ByteArray), 0, 0, ([] : List Int), 0, some 14)) else ((hist_Op.f kj43 x180000_1 x180001_24 (⟨#[]⟩ : ByteArray) 0 0 ([] : List Int) t204).bind fun t205 => (if t205.toList = a0.toList then (some (x180000_1, x180001_24, (⟨#[]⟩ : ByteArray), 0, 0, ([] : List Int), t204, none)) else (some (0, (⟨#[]⟩ : ByteArray), (⟨#[]⟩ : ByteArray), 0, 0, ([] : List Int), 0, some 14)))))) else (none)) else (if a0.toList = ([] : List UInt8) then (some (0, (⟨#[]⟩ : ByteArray), (⟨#[]⟩ : ByteArray), 0, 0, ([] : List Int), 0, some 14)) else ((hist_Op.f kj43 x180000_1 x180001_24 (⟨#[]⟩ : ByteArray) 0 0 ([] : List Int) x180006_24).bind fun t206 => (if t206.toList = a0.toList then (some (x180000_1, x180001_24, (⟨#[]⟩ : ByteArray), 0, 0, ([] : List Int), x180006_24, none)) else (some (0, (⟨#[]⟩ : ByteArray), (⟨#[]⟩ : ByteArray), 0, 0, ([] : List Int), 0, some 14))))))))) = some (r1, r2, r3, r4, r5, r6, r7, r8) := by rw [if_neg (show ¬ (false = true) by decide)] at H; exact H
          clear H
          have H := H1
          clear H1
          by_cases c68 : x180000_1 = 8
          ·rw [if_pos c68] at H
           have c68b0 : (x180000_1 == 8) = true := beq_iff_eq.mpr c68
           have c68b1 : (x180000_1 != 8) = false := bne_eq_false_iff_eq.mpr c68
           clear c68
           by_cases c69 : 2 < (y176.length : Int)
           ·rw [if_pos c69] at H
            have c69b0 : decide (2 < (y176.length : Int)) = true := decide_eq_true c69
            have c69b1 : decide (2 < y176.length) = true := decide_eq_true (by omega)
            clear c69
            replace H := Option.bind_eq_some_iff.mp H
            obtain ⟨t188, A700, H⟩ := H
            try dsimp only at H
            have A70 := Aside0.mk A700
            clear A700
            by_cases c71 : 3 < (y176.length : Int)
            ·rw [if_pos c71] at H
             have c71b0 : decide (3 < (y176.length : Int)) = true := decide_eq_true c71
             have c71b1 : decide (3 < y176.length) = true := decide_eq_true (by omega)
             clear c71
             replace H := Option.bind_eq_some_iff.mp H
             obtain ⟨⟨t190, t191⟩, A720, H⟩ := H
             try dsimp only at H
             have A72 := Aside0.mk A720
             clear A720
             by_cases c73 : a0.toList = ([] : List UInt8)
             ·rw [if_pos c73] at H
              have c73b0 : (a0.toList == ([] : List UInt8)) = true := beq_iff_eq.mpr c73
              have c73b1 : (a0.toList != ([] : List UInt8)) = false := bne_eq_false_iff_eq.mpr c73
              clear c73
              simp only [Option.some.injEq, Prod.mk.injEq] at H
              obtain ⟨rfl, rfl, rfl, rfl, rfl, rfl, rfl, rfl⟩ := H
              obtain ⟨Ao74, co74, eo74⟩ := Kd.R_slice HO_4.out
              subst eo74
              have p187 : 0 ≤ (2 : Int) := (by omega)
              have q187 : 2 < (y176.length : Int) := of_decide_eq_true (by first | (with_reducible assumption) | assumption)
              obtain ⟨ad187, e187, hx187_0⟩ := Kd.at_string (Kd.R_reads' HO_4.out).2.2 2 p187 q187
              cases e187
              (try simp only [show (2 : Int).toNat = 2 from rfl, Nat.reduceMul, Nat.reduceEqDiff, Go.Addr.add, ↓reduceIte] at hx187_0)
              have qi187 : (2 < y176.length) = True := eq_true (by omega)
              (try rw [show ((2 : Int)).toNat = 2 from rfl] at hx187_0)
              replace p187 := eq_true p187
              replace q187 := eq_true q187
              go_wp2_with (first | ((with_reducible refine gate_callee (f := 44) rfl ?_); refine goesL_ (some 56) rfl rfl Tryz.func44 (by kernel_rfl) rfl #[.string (rdOf ByteArray.empty y176 2)] rfl (by (try simp only [List.map_toArray, List.map_cons, List.map_nil]); first | done | rfl | (simp only [List.length_drop, List.length_take]; rfl)) ?_; (with_reducible refine (hist_Num.calls (rdOf ByteArray.empty y176 2) t188 _ A70.out ?hT_).mono ?_); (case hT_ => exact Tabs.after HT.out (by repeat (first | (with_reducible first | exact HB.out | apply s1 | apply s2 | apply s3 | refine s4 ?_ GE169.out | refine s4 ?_ GE179.out) | exact HB.out))); rintro e w75 ⟨rfl, hb⟩; refine ⟨_, rfl, ?_⟩; have n0_ := Aside0.mk (Kd.R_below (by (with_reducible repeat first | apply r1 | apply r2 | apply r3); exact HO_4.out) hb); have n1_ := Aside0.mk (blk_below (g := gb169) (o := .cells #[.int .i64 0, .string ⟨#[]⟩, .string ⟨#[]⟩, .int .i64 0, .int .i64 0, .slice none 0 0, .int .i64 0] 24 (0, 0)) (by (with_reducible repeat first | apply q1 | apply q2 | apply q3); exact BK169.out) hb); have n2_ := Aside0.mk (blk_below (g := gb179) (o := .cells #[.int .i64 x180000_1, .string x180001_24, .string ⟨#[]⟩, .int .i64 0, .int .i64 0, .slice none 0 0, .int .i64 x180006_24] 24 (0, 0)) (by (with_reducible repeat first | apply q1 | apply q2 | apply q3); exact BK179.out) hb); have n3_ := Aside0.mk (below_step (by repeat (first | (with_reducible first | exact HB.out | apply s1 | apply s2 | apply s3 | refine s4 ?_ GE169.out | refine s4 ?_ GE179.out) | exact HB.out)) hb); clear HO_4; clear BK169; clear BK179; clear HB; have HO_4 := n0_; have BK169 := n1_; have BK179 := n2_; have HB := n3_; clear n0_ n1_ n2_ n3_; (try clear hb); (try clear hb2); (try clear hk); (try clear hi); have hnb76 := NB179_169.out; have hnc76 := NB169_179.out; have hcz77_0 : w75.cell? ⟨gb179, 0, none⟩ = some (.int .i64 x180000_1) := (blk_cell BK179.out 0).trans rfl; have hcz77_1 : w75.cell? ⟨gb179, 1, none⟩ = some (.string x180001_24) := (blk_cell BK179.out 1).trans rfl; have hcz77_2 : w75.cell? ⟨gb179, 2, none⟩ = some (.string ⟨#[]⟩) := (blk_cell BK179.out 2).trans rfl; have hcz77_3 : w75.cell? ⟨gb179, 3, none⟩ = some (.int .i64 0) := (blk_cell BK179.out 3).trans rfl; have hcz77_4 : w75.cell? ⟨gb179, 4, none⟩ = some (.int .i64 0) := (blk_cell BK179.out 4).trans rfl; have hcz77_5 : w75.cell? ⟨gb179, 5, none⟩ = some (.slice none 0 0) := (blk_cell BK179.out 5).trans rfl; have hcz77_6 : w75.cell? ⟨gb179, 6, none⟩ = some (.int .i64 x180006_24) := (blk_cell BK179.out 6).trans rfl; have hfz77_0 := blk_frozen BK179.out 0; have hfz77_1 := blk_frozen BK179.out 1; have hfz77_2 := blk_frozen BK179.out 2; have hfz77_3 := blk_frozen BK179.out 3; have hfz77_4 := blk_frozen BK179.out 4; have hfz77_5 := blk_frozen BK179.out 5; have hfz77_6 := blk_frozen BK179.out 6; have p189 : 0 ≤ (3 : Int) := (by omega); have q189 : 3 < (y176.length : Int) := of_decide_eq_true (by first | (with_reducible assumption) | assumption); obtain ⟨ad189, e189, hx189_0⟩ := Kd.at_string (Kd.R_reads' HO_4.out).2.2 3 p189 q189; obtain rfl : ad187 = ad189 := (by injection e189); (try simp only [show (3 : Int).toNat = 3 from rfl, Nat.reduceMul, Nat.reduceEqDiff, Go.Addr.add, ↓reduceIte] at hx189_0); have qi189 : (3 < y176.length) = True := eq_true (by omega); (try rw [show ((3 : Int)).toNat = 3 from rfl] at hx189_0); have hn189_0 : ad187.block ≠ gb179 := Kd.own_blk (Kd.R_ne HO_4.out BK179.out (by decide)); replace hx189_0 := (cell_far (p := ⟨gb179, 3, none⟩) (by first | (rw [add_block]; exact hn189_0) | (show (Addr.add _ _).block ≠ _; rw [add_block]; exact hn189_0) | exact hn189_0) (.int .i64 t188)).trans hx189_0; clear hn189_0; replace p189 := eq_true p189; replace q189 := eq_true q189) | ((with_reducible refine gate_callee (f := 45) rfl ?_); refine goesL_ (some 62) rfl rfl Tryz.func45 (by kernel_rfl) rfl #[.string (rdOf ByteArray.empty y176 3)] rfl (by (try simp only [List.map_toArray, List.map_cons, List.map_nil]); first | done | rfl | (simp only [List.length_drop, List.length_take]; rfl)) ?_; (with_reducible refine (dump_Unhex.calls kj43 (rdOf ByteArray.empty y176 3) t190 t191 _ A72.out).mono ?_); rintro e w78 ⟨v192, rfl, ho0, hb⟩; refine ⟨_, rfl, ?_⟩; have n0_ := Aside0.mk (Kd.R_below (by (with_reducible repeat first | apply r1 | apply r2 | apply r3); exact (Kd.R_mono (Kd.R_far (p := ⟨gb179, 3, none⟩) (Kd.R_types HO_4.out BK179.out (by decide)) (fun _ hk => hk.2) (.int .i64 t188)) (fun _ h_ => h_.1))) hb); have n1_ := Aside0.mk (Kd.R_lower ho0 (below_size (by repeat (first | (with_reducible first | exact HB.out | apply s1 | apply s2 | apply s3 | refine s4 ?_ GE169.out | refine s4 ?_ GE179.out) | exact HB.out)))); have n2_ := Aside0.mk (blk_below (g := gb169) (o := .cells #[.int .i64 0, .string ⟨#[]⟩, .string ⟨#[]⟩, .int .i64 0, .int .i64 0, .slice none 0 0, .int .i64 0] 24 (0, 0)) (by (with_reducible repeat first | apply q1 | apply q2 | apply q3); refine blk_far ?_ NB169_179.out _; (with_reducible repeat first | apply q1 | apply q2 | apply q3); exact BK169.out) hb); have n3_ := Aside0.mk (blk_below (g := gb179) (o := .cells #[.int .i64 x180000_1, .string x180001_24, .string ⟨#[]⟩, .int .i64 t188, .int .i64 0, .slice none 0 0, .int .i64 x180006_24] 24 (0, 0)) (by (with_reducible repeat first | apply q1 | apply q2 | apply q3); refine blk_put (cs := #[.int .i64 x180000_1, .string x180001_24, .string ⟨#[]⟩, .int .i64 0, .int .i64 0, .slice none 0 0, .int .i64 x180006_24]) ?_ 3 _ rfl; (with_reducible repeat first | apply q1 | apply q2 | apply q3); exact BK179.out) hb); have n4_ := Aside0.mk (below_step (by repeat (first | (with_reducible first | exact HB.out | apply s1 | apply s2 | apply s3 | refine s4 ?_ GE169.out | refine s4 ?_ GE179.out) | exact HB.out)) hb); clear HO_4; clear BK169; clear BK179; clear HB; have HO_4 := n0_; have HO193 := n1_; have BK169 := n2_; have BK179 := n3_; have HB := n4_; clear n0_ n1_ n2_ n3_ n4_; (try clear hb); (try clear hb2); (try clear hk); (try clear hi); (try clear ho0); obtain ⟨Ao79, co79, eo79⟩ := Kd.R_slice HO193.out; subst eo79; have hcz80_0 : w78.cell? ⟨gb179, 0, none⟩ = some (.int .i64 x180000_1) := (blk_cell BK179.out 0).trans rfl; have hcz80_1 : w78.cell? ⟨gb179, 1, none⟩ = some (.string x180001_24) := (blk_cell BK179.out 1).trans rfl; have hcz80_2 : w78.cell? ⟨gb179, 2, none⟩ = some (.string ⟨#[]⟩) := (blk_cell BK179.out 2).trans rfl; have hcz80_3 : w78.cell? ⟨gb179, 3, none⟩ = some (.int .i64 t188) := (blk_cell BK179.out 3).trans rfl; have hcz80_4 : w78.cell? ⟨gb179, 4, none⟩ = some (.int .i64 0) := (blk_cell BK179.out 4).trans rfl; have hcz80_5 : w78.cell? ⟨gb179, 5, none⟩ = some (.slice none 0 0) := (blk_cell BK179.out 5).trans rfl; have hcz80_6 : w78.cell? ⟨gb179, 6, none⟩ = some (.int .i64 x180006_24) := (blk_cell BK179.out 6).trans rfl; have hfz80_0 := blk_frozen BK179.out 0; have hfz80_1 := blk_frozen BK179.out 1; have hfz80_2 := blk_frozen BK179.out 2; have hfz80_3 := blk_frozen BK179.out 3; have hfz80_4 := blk_frozen BK179.out 4; have hfz80_5 := blk_frozen BK179.out 5; have hfz80_6 := blk_frozen BK179.out 6; have hcz81_0 : w78.cell? ⟨gb169, 0, none⟩ = some (.int .i64 0) := (blk_cell BK169.out 0).trans rfl; have hcz81_1 : w78.cell? ⟨gb169, 1, none⟩ = some (.string ⟨#[]⟩) := (blk_cell BK169.out 1).trans rfl; have hcz81_2 : w78.cell? ⟨gb169, 2, none⟩ = some (.string ⟨#[]⟩) := (blk_cell BK169.out 2).trans rfl; have hcz81_3 : w78.cell? ⟨gb169, 3, none⟩ = some (.int .i64 0) := (blk_cell BK169.out 3).trans rfl; have hcz81_4 : w78.cell? ⟨gb169, 4, none⟩ = some (.int .i64 0) := (blk_cell BK169.out 4).trans rfl; have hcz81_5 : w78.cell? ⟨gb169, 5, none⟩ = some (.slice none 0 0) := (blk_cell BK169.out 5).trans rfl; have hcz81_6 : w78.cell? ⟨gb169, 6, none⟩ = some (.int .i64 0) := (blk_cell BK169.out 6).trans rfl; have hfz81_0 := blk_frozen BK169.out 0; have hfz81_1 := blk_frozen BK169.out 1; have hfz81_2 := blk_frozen BK169.out 2; have hfz81_3 := blk_frozen BK169.out 3; have hfz81_4 := blk_frozen BK169.out 4; have hfz81_5 := blk_frozen BK169.out 5; have hfz81_6 := blk_frozen BK169.out 6))
              refine bodyPost_ret (results_ct rfl _ _ gb169 24 #[.int .i64 0, .string ⟨#[]⟩, .string ⟨#[]⟩, .int .i64 0, .int .i64 0, .slice none 0 0, .int .i64 0] (0, 0) _ rfl (by (with_reducible repeat first | apply q1 | apply q2 | apply q3); refine q5 ?_ 6 _ rfl; refine q5 ?_ 5 _ rfl; refine q5 ?_ 4 _ rfl; refine q5 ?_ 3 _ rfl; refine q5 ?_ 2 _ rfl; refine q5 ?_ 1 _ rfl; refine q5 ?_ 0 _ rfl; (with_reducible repeat first | apply q1 | apply q2 | apply q3); refine blk_far ?_ NB169_179.out _; (with_reducible repeat first | apply q1 | apply q2 | apply q3); exact BK169.out) Tryz.underlying24 rfl (by kernel_rfl)) rfl ?_
              exact ⟨_, by first | rfl | (simp [errW_none, errW_some] <;> rfl) | (simp [*, errW_none, errW_some] <;> rfl), by exact Kd.R_nil _ _ _ _ _, by repeat (first | (with_reducible first | exact HB.out | apply s1 | apply s2 | apply s3 | refine s4 ?_ GE169.out | refine s4 ?_ GE179.out) | exact HB.out)⟩
             ·rw [if_neg c73] at H
              have c73b0 : (a0.toList == ([] : List UInt8)) = false := beq_eq_false_iff_ne.mpr c73
              have c73b1 : (a0.toList != ([] : List UInt8)) = true := bne_iff_ne.mpr c73
              replace H := Option.bind_eq_some_iff.mp H
              obtain ⟨t194, A820, H⟩ := H
              try dsimp only at H
              have A82 := Aside0.mk A820
              clear A820
              by_cases c83 : t194.toList = a0.toList
              ·rw [if_pos c83] at H
               have c83b0 : (t194.toList == a0.toList) = true := beq_iff_eq.mpr c83
               have c83b1 : (t194.toList != a0.toList) = false := bne_eq_false_iff_eq.mpr c83
               clear c83
               simp only [Option.some.injEq, Prod.mk.injEq] at H
               obtain ⟨rfl, rfl, rfl, rfl, rfl, rfl, rfl, rfl⟩ := H
               obtain ⟨Ao84, co84, eo84⟩ := Kd.R_slice HO_4.out
               subst eo84
               have p187 : 0 ≤ (2 : Int) := (by omega)
               have q187 : 2 < (y176.length : Int) := of_decide_eq_true (by first | (with_reducible assumption) | assumption)
               obtain ⟨ad187, e187, hx187_0⟩ := Kd.at_string (Kd.R_reads' HO_4.out).2.2 2 p187 q187
               cases e187
               (try simp only [show (2 : Int).toNat = 2 from rfl, Nat.reduceMul, Nat.reduceEqDiff, Go.Addr.add, ↓reduceIte] at hx187_0)
               have qi187 : (2 < y176.length) = True := eq_true (by omega)
               (try rw [show ((2 : Int)).toNat = 2 from rfl] at hx187_0)
               replace p187 := eq_true p187
               replace q187 := eq_true q187
               go_wp2_with (first | ((with_reducible refine gate_callee (f := 44) rfl ?_); refine goesL_ (some 56) rfl rfl Tryz.func44 (by kernel_rfl) rfl #[.string (rdOf ByteArray.empty y176 2)] rfl (by (try simp only [List.map_toArray, List.map_cons, List.map_nil]); first | done | rfl | (simp only [List.length_drop, List.length_take]; rfl)) ?_; (with_reducible refine (hist_Num.calls (rdOf ByteArray.empty y176 2) t188 _ A70.out ?hT_).mono ?_); (case hT_ => exact Tabs.after HT.out (by repeat (first | (with_reducible first | exact HB.out | apply s1 | apply s2 | apply s3 | refine s4 ?_ GE169.out | refine s4 ?_ GE179.out) | exact HB.out))); rintro e w85 ⟨rfl, hb⟩; refine ⟨_, rfl, ?_⟩; have n0_ := Aside0.mk (Kd.R_below (by (with_reducible repeat first | apply r1 | apply r2 | apply r3); exact HO_4.out) hb); have n1_ := Aside0.mk (blk_below (g := gb169) (o := .cells #[.int .i64 0, .string ⟨#[]⟩, .string ⟨#[]⟩, .int .i64 0, .int .i64 0, .slice none 0 0, .int .i64 0] 24 (0, 0)) (by (with_reducible repeat first | apply q1 | apply q2 | apply q3); exact BK169.out) hb); have n2_ := Aside0.mk (blk_below (g := gb179) (o := .cells #[.int .i64 x180000_1, .string x180001_24, .string ⟨#[]⟩, .int .i64 0, .int .i64 0, .slice none 0 0, .int .i64 x180006_24] 24 (0, 0)) (by (with_reducible repeat first | apply q1 | apply q2 | apply q3); exact BK179.out) hb); have n3_ := Aside0.mk (below_step (by repeat (first | (with_reducible first | exact HB.out | apply s1 | apply s2 | apply s3 | refine s4 ?_ GE169.out | refine s4 ?_ GE179.out) | exact HB.out)) hb); clear HO_4; clear BK169; clear BK179; clear HB; have HO_4 := n0_; have BK169 := n1_; have BK179 := n2_; have HB := n3_; clear n0_ n1_ n2_ n3_; (try clear hb); (try clear hb2); (try clear hk); (try clear hi); have hnb86 := NB179_169.out; have hnc86 := NB169_179.out; have hcz87_0 : w85.cell? ⟨gb179, 0, none⟩ = some (.int .i64 x180000_1) := (blk_cell BK179.out 0).trans rfl; have hcz87_1 : w85.cell? ⟨gb179, 1, none⟩ = some (.string x180001_24) := (blk_cell BK179.out 1).trans rfl; have hcz87_2 : w85.cell? ⟨gb179, 2, none⟩ = some (.string ⟨#[]⟩) := (blk_cell BK179.out 2).trans rfl; have hcz87_3 : w85.cell? ⟨gb179, 3, none⟩ = some (.int .i64 0) := (blk_cell BK179.out 3).trans rfl; have hcz87_4 : w85.cell? ⟨gb179, 4, none⟩ = some (.int .i64 0) := (blk_cell BK179.out 4).trans rfl; have hcz87_5 : w85.cell? ⟨gb179, 5, none⟩ = some (.slice none 0 0) := (blk_cell BK179.out 5).trans rfl; have hcz87_6 : w85.cell? ⟨gb179, 6, none⟩ = some (.int .i64 x180006_24) := (blk_cell BK179.out 6).trans rfl; have hfz87_0 := blk_frozen BK179.out 0; have hfz87_1 := blk_frozen BK179.out 1; have hfz87_2 := blk_frozen BK179.out 2; have hfz87_3 := blk_frozen BK179.out 3; have hfz87_4 := blk_frozen BK179.out 4; have hfz87_5 := blk_frozen BK179.out 5; have hfz87_6 := blk_frozen BK179.out 6; have p189 : 0 ≤ (3 : Int) := (by omega); have q189 : 3 < (y176.length : Int) := of_decide_eq_true (by first | (with_reducible assumption) | assumption); obtain ⟨ad189, e189, hx189_0⟩ := Kd.at_string (Kd.R_reads' HO_4.out).2.2 3 p189 q189; obtain rfl : ad187 = ad189 := (by injection e189); (try simp only [show (3 : Int).toNat = 3 from rfl, Nat.reduceMul, Nat.reduceEqDiff, Go.Addr.add, ↓reduceIte] at hx189_0); have qi189 : (3 < y176.length) = True := eq_true (by omega); (try rw [show ((3 : Int)).toNat = 3 from rfl] at hx189_0); have hn189_0 : ad187.block ≠ gb179 := Kd.own_blk (Kd.R_ne HO_4.out BK179.out (by decide)); replace hx189_0 := (cell_far (p := ⟨gb179, 3, none⟩) (by first | (rw [add_block]; exact hn189_0) | (show (Addr.add _ _).block ≠ _; rw [add_block]; exact hn189_0) | exact hn189_0) (.int .i64 t188)).trans hx189_0; clear hn189_0; replace p189 := eq_true p189; replace q189 := eq_true q189) | ((with_reducible refine gate_callee (f := 45) rfl ?_); refine goesL_ (some 62) rfl rfl Tryz.func45 (by kernel_rfl) rfl #[.string (rdOf ByteArray.empty y176 3)] rfl (by (try simp only [List.map_toArray, List.map_cons, List.map_nil]); first | done | rfl | (simp only [List.length_drop, List.length_take]; rfl)) ?_; (with_reducible refine (dump_Unhex.calls kj43 (rdOf ByteArray.empty y176 3) t190 t191 _ A72.out).mono ?_); rintro e w88 ⟨v192, rfl, ho0, hb⟩; refine ⟨_, rfl, ?_⟩; have n0_ := Aside0.mk (Kd.R_below (by (with_reducible repeat first | apply r1 | apply r2 | apply r3); exact (Kd.R_mono (Kd.R_far (p := ⟨gb179, 3, none⟩) (Kd.R_types HO_4.out BK179.out (by decide)) (fun _ hk => hk.2) (.int .i64 t188)) (fun _ h_ => h_.1))) hb); have n1_ := Aside0.mk (Kd.R_lower ho0 (below_size (by repeat (first | (with_reducible first | exact HB.out | apply s1 | apply s2 | apply s3 | refine s4 ?_ GE169.out | refine s4 ?_ GE179.out) | exact HB.out)))); have n2_ := Aside0.mk (blk_below (g := gb169) (o := .cells #[.int .i64 0, .string ⟨#[]⟩, .string ⟨#[]⟩, .int .i64 0, .int .i64 0, .slice none 0 0, .int .i64 0] 24 (0, 0)) (by (with_reducible repeat first | apply q1 | apply q2 | apply q3); refine blk_far ?_ NB169_179.out _; (with_reducible repeat first | apply q1 | apply q2 | apply q3); exact BK169.out) hb); have n3_ := Aside0.mk (blk_below (g := gb179) (o := .cells #[.int .i64 x180000_1, .string x180001_24, .string ⟨#[]⟩, .int .i64 t188, .int .i64 0, .slice none 0 0, .int .i64 x180006_24] 24 (0, 0)) (by (with_reducible repeat first | apply q1 | apply q2 | apply q3); refine blk_put (cs := #[.int .i64 x180000_1, .string x180001_24, .string ⟨#[]⟩, .int .i64 0, .int .i64 0, .slice none 0 0, .int .i64 x180006_24]) ?_ 3 _ rfl; (with_reducible repeat first | apply q1 | apply q2 | apply q3); exact BK179.out) hb); have n4_ := Aside0.mk (below_step (by repeat (first | (with_reducible first | exact HB.out | apply s1 | apply s2 | apply s3 | refine s4 ?_ GE169.out | refine s4 ?_ GE179.out) | exact HB.out)) hb); clear HO_4; clear BK169; clear BK179; clear HB; have HO_4 := n0_; have HO193 := n1_; have BK169 := n2_; have BK179 := n3_; have HB := n4_; clear n0_ n1_ n2_ n3_ n4_; (try clear hb); (try clear hb2); (try clear hk); (try clear hi); (try clear ho0); obtain ⟨Ao89, co89, eo89⟩ := Kd.R_slice HO193.out; subst eo89; have hcz90_0 : w88.cell? ⟨gb179, 0, none⟩ = some (.int .i64 x180000_1) := (blk_cell BK179.out 0).trans rfl; have hcz90_1 : w88.cell? ⟨gb179, 1, none⟩ = some (.string x180001_24) := (blk_cell BK179.out 1).trans rfl; have hcz90_2 : w88.cell? ⟨gb179, 2, none⟩ = some (.string ⟨#[]⟩) := (blk_cell BK179.out 2).trans rfl; have hcz90_3 : w88.cell? ⟨gb179, 3, none⟩ = some (.int .i64 t188) := (blk_cell BK179.out 3).trans rfl; have hcz90_4 : w88.cell? ⟨gb179, 4, none⟩ = some (.int .i64 0) := (blk_cell BK179.out 4).trans rfl; have hcz90_5 : w88.cell? ⟨gb179, 5, none⟩ = some (.slice none 0 0) := (blk_cell BK179.out 5).trans rfl; have hcz90_6 : w88.cell? ⟨gb179, 6, none⟩ = some (.int .i64 x180006_24) := (blk_cell BK179.out 6).trans rfl; have hfz90_0 := blk_frozen BK179.out 0; have hfz90_1 := blk_frozen BK179.out 1; have hfz90_2 := blk_frozen BK179.out 2; have hfz90_3 := blk_frozen BK179.out 3; have hfz90_4 := blk_frozen BK179.out 4; have hfz90_5 := blk_frozen BK179.out 5; have hfz90_6 := blk_frozen BK179.out 6) | (go_at_call 11; (with_reducible refine (hist_Op.calls kj43 x180000_1 x180001_24 (⟨#[]⟩ : ByteArray) t188 0 _ _ t190 x180006_24 t194 _ ?side1 ?side2 A82.out ?hT_).mono ?_); (case hT_ => exact Tabs.after HT.out (by repeat (first | (with_reducible first | exact HB.out | apply s1 | apply s2 | apply s3 | refine s4 ?_ GE169.out | refine s4 ?_ GE179.out) | exact HB.out))); (case side1 => refine (Kd.R_reads' (e := 5) (base := w.heap.size) (ok := fun k_ => True) (n := t190.length) (c := co89) ?_).2.2; exact (by (with_reducible repeat first | apply r1 | apply r2 | apply r3); exact (Kd.R_mono (Kd.R_far (p := ⟨gb179, 5, none⟩) (Kd.R_types HO193.out BK179.out (by decide)) (fun _ hk => hk.2) (.slice Ao89 t190.length co89)) (fun _ h_ => h_.1)))); (case side2 => exact (Kd.R_reads' HO193.out).2.1); rintro e w91 ⟨rfl, hb⟩; have n0_ := Aside0.mk (Kd.R_below (by (with_reducible repeat first | apply r1 | apply r2 | apply r3); exact (Kd.R_mono (Kd.R_far (p := ⟨gb179, 5, none⟩) (Kd.R_types HO_4.out BK179.out (by decide)) (fun _ hk => hk.2) (.slice Ao89 t190.length co89)) (fun _ h_ => h_.1))) hb); have n1_ := Aside0.mk (Kd.R_below (by (with_reducible repeat first | apply r1 | apply r2 | apply r3); exact (Kd.R_mono (Kd.R_far (p := ⟨gb179, 5, none⟩) (Kd.R_types HO193.out BK179.out (by decide)) (fun _ hk => hk.2) (.slice Ao89 t190.length co89)) (fun _ h_ => h_.1))) hb); have n2_ := Aside0.mk (blk_below (g := gb169) (o := .cells #[.int .i64 0, .string ⟨#[]⟩, .string ⟨#[]⟩, .int .i64 0, .int .i64 0, .slice none 0 0, .int .i64 0] 24 (0, 0)) (by (with_reducible repeat first | apply q1 | apply q2 | apply q3); refine blk_far ?_ NB169_179.out _; (with_reducible repeat first | apply q1 | apply q2 | apply q3); exact BK169.out) hb); have n3_ := Aside0.mk (blk_below (g := gb179) (o := .cells #[.int .i64 x180000_1, .string x180001_24, .string ⟨#[]⟩, .int .i64 t188, .int .i64 0, .slice Ao89 t190.length co89, .int .i64 x180006_24] 24 (0, 0)) (by (with_reducible repeat first | apply q1 | apply q2 | apply q3); refine blk_put (cs := #[.int .i64 x180000_1, .string x180001_24, .string ⟨#[]⟩, .int .i64 t188, .int .i64 0, .slice none 0 0, .int .i64 x180006_24]) ?_ 5 _ rfl; (with_reducible repeat first | apply q1 | apply q2 | apply q3); exact BK179.out) hb); have n4_ := Aside0.mk (below_step (by repeat (first | (with_reducible first | exact HB.out | apply s1 | apply s2 | apply s3 | refine s4 ?_ GE169.out | refine s4 ?_ GE179.out) | exact HB.out)) hb); clear HO_4; clear HO193; clear BK169; clear BK179; clear HB; have HO_4 := n0_; have HO193 := n1_; have BK169 := n2_; have BK179 := n3_; have HB := n4_; clear n0_ n1_ n2_ n3_ n4_; (try clear hb); (try clear hb2); (try clear hk); (try clear hi); have hcz92_0 : w91.cell? ⟨gb179, 0, none⟩ = some (.int .i64 x180000_1) := (blk_cell BK179.out 0).trans rfl; have hcz92_1 : w91.cell? ⟨gb179, 1, none⟩ = some (.string x180001_24) := (blk_cell BK179.out 1).trans rfl; have hcz92_2 : w91.cell? ⟨gb179, 2, none⟩ = some (.string ⟨#[]⟩) := (blk_cell BK179.out 2).trans rfl; have hcz92_3 : w91.cell? ⟨gb179, 3, none⟩ = some (.int .i64 t188) := (blk_cell BK179.out 3).trans rfl; have hcz92_4 : w91.cell? ⟨gb179, 4, none⟩ = some (.int .i64 0) := (blk_cell BK179.out 4).trans rfl; have hcz92_5 : w91.cell? ⟨gb179, 5, none⟩ = some (.slice Ao89 t190.length co89) := (blk_cell BK179.out 5).trans rfl; have hcz92_6 : w91.cell? ⟨gb179, 6, none⟩ = some (.int .i64 x180006_24) := (blk_cell BK179.out 6).trans rfl; have hfz92_0 := blk_frozen BK179.out 0; have hfz92_1 := blk_frozen BK179.out 1; have hfz92_2 := blk_frozen BK179.out 2; have hfz92_3 := blk_frozen BK179.out 3; have hfz92_4 := blk_frozen BK179.out 4; have hfz92_5 := blk_frozen BK179.out 5; have hfz92_6 := blk_frozen BK179.out 6; have hcz93_0 : w91.cell? ⟨gb169, 0, none⟩ = some (.int .i64 0) := (blk_cell BK169.out 0).trans rfl; have hcz93_1 : w91.cell? ⟨gb169, 1, none⟩ = some (.string ⟨#[]⟩) := (blk_cell BK169.out 1).trans rfl; have hcz93_2 : w91.cell? ⟨gb169, 2, none⟩ = some (.string ⟨#[]⟩) := (blk_cell BK169.out 2).trans rfl; have hcz93_3 : w91.cell? ⟨gb169, 3, none⟩ = some (.int .i64 0) := (blk_cell BK169.out 3).trans rfl; have hcz93_4 : w91.cell? ⟨gb169, 4, none⟩ = some (.int .i64 0) := (blk_cell BK169.out 4).trans rfl; have hcz93_5 : w91.cell? ⟨gb169, 5, none⟩ = some (.slice none 0 0) := (blk_cell BK169.out 5).trans rfl; have hcz93_6 : w91.cell? ⟨gb169, 6, none⟩ = some (.int .i64 0) := (blk_cell BK169.out 6).trans rfl; have hfz93_0 := blk_frozen BK169.out 0; have hfz93_1 := blk_frozen BK169.out 1; have hfz93_2 := blk_frozen BK169.out 2; have hfz93_3 := blk_frozen BK169.out 3; have hfz93_4 := blk_frozen BK169.out 4; have hfz93_5 := blk_frozen BK169.out 5; have hfz93_6 := blk_frozen BK169.out 6))
               refine bodyPost_ret (results_ct rfl _ _ gb169 24 #[.int .i64 x180000_1, .string x180001_24, .string ⟨#[]⟩, .int .i64 t188, .int .i64 0, .slice Ao89 t190.length co89, .int .i64 x180006_24] (0, 0) _ rfl (by (with_reducible repeat first | apply q1 | apply q2 | apply q3); refine blk_put (cs := #[.int .i64 x180000_1, .string x180001_24, .string ⟨#[]⟩, .int .i64 t188, .int .i64 0, .slice Ao89 t190.length co89, .int .i64 0]) ?_ 6 _ rfl; refine blk_put (cs := #[.int .i64 x180000_1, .string x180001_24, .string ⟨#[]⟩, .int .i64 t188, .int .i64 0, .slice none 0 0, .int .i64 0]) ?_ 5 _ rfl; refine q5 ?_ 4 _ rfl; refine blk_put (cs := #[.int .i64 x180000_1, .string x180001_24, .string ⟨#[]⟩, .int .i64 0, .int .i64 0, .slice none 0 0, .int .i64 0]) ?_ 3 _ rfl; refine q5 ?_ 2 _ rfl; refine blk_put (cs := #[.int .i64 x180000_1, .string ⟨#[]⟩, .string ⟨#[]⟩, .int .i64 0, .int .i64 0, .slice none 0 0, .int .i64 0]) ?_ 1 _ rfl; refine blk_put (cs := #[.int .i64 0, .string ⟨#[]⟩, .string ⟨#[]⟩, .int .i64 0, .int .i64 0, .slice none 0 0, .int .i64 0]) ?_ 0 _ rfl; (with_reducible repeat first | apply q1 | apply q2 | apply q3); exact BK169.out) Tryz.underlying24 rfl (by kernel_rfl)) rfl ?_
               exact ⟨_, by first | rfl | (simp [errW_none, errW_some] <;> rfl) | (simp [*, errW_none, errW_some] <;> rfl), by (with_reducible repeat first | apply r1 | apply r2 | apply r3); exact Kd.R_mono (Kd.R_far (p := ⟨gb169, 6, none⟩) (Kd.R_far (p := ⟨gb169, 5, none⟩) (Kd.R_far (p := ⟨gb169, 4, none⟩) (Kd.R_far (p := ⟨gb169, 3, none⟩) (Kd.R_far (p := ⟨gb169, 2, none⟩) (Kd.R_far (p := ⟨gb169, 1, none⟩) (Kd.R_far (p := ⟨gb169, 0, none⟩) (Kd.R_types HO193.out BK169.out (by decide)) (fun _ hk => hk.2) (.int .i64 x180000_1)) (fun _ hk => hk.2) (.string x180001_24)) (fun _ hk => hk.2) (.string ⟨#[]⟩)) (fun _ hk => hk.2) (.int .i64 t188)) (fun _ hk => hk.2) (.int .i64 0)) (fun _ hk => hk.2) (.slice Ao89 t190.length co89)) (fun _ hk => hk.2) (.int .i64 x180006_24)) (fun _ hk => trivial), by repeat (first | (with_reducible first | exact HB.out | apply s1 | apply s2 | apply s3 | refine s4 ?_ GE169.out | refine s4 ?_ GE179.out) | exact HB.out)⟩
              ·rw [if_neg c83] at H
               have c83b0 : (t194.toList == a0.toList) = false := beq_eq_false_iff_ne.mpr c83
               have c83b1 : (t194.toList != a0.toList) = true := bne_iff_ne.mpr c83
               simp only [Option.some.injEq, Prod.mk.injEq] at H
               obtain ⟨rfl, rfl, rfl, rfl, rfl, rfl, rfl, rfl⟩ := H
               obtain ⟨Ao94, co94, eo94⟩ := Kd.R_slice HO_4.out
               subst eo94
               have p187 : 0 ≤ (2 : Int) := (by omega)
               have q187 : 2 < (y176.length : Int) := of_decide_eq_true (by first | (with_reducible assumption) | assumption)
               obtain ⟨ad187, e187, hx187_0⟩ := Kd.at_string (Kd.R_reads' HO_4.out).2.2 2 p187 q187
               cases e187
               (try simp only [show (2 : Int).toNat = 2 from rfl, Nat.reduceMul, Nat.reduceEqDiff, Go.Addr.add, ↓reduceIte] at hx187_0)
               have qi187 : (2 < y176.length) = True := eq_true (by omega)
               (try rw [show ((2 : Int)).toNat = 2 from rfl] at hx187_0)
               replace p187 := eq_true p187
               replace q187 := eq_true q187
               go_wp2_with (first | ((with_reducible refine gate_callee (f := 44) rfl ?_); refine goesL_ (some 56) rfl rfl Tryz.func44 (by kernel_rfl) rfl #[.string (rdOf ByteArray.empty y176 2)] rfl (by (try simp only [List.map_toArray, List.map_cons, List.map_nil]); first | done | rfl | (simp only [List.length_drop, List.length_take]; rfl)) ?_; (with_reducible refine (hist_Num.calls (rdOf ByteArray.empty y176 2) t188 _ A70.out ?hT_).mono ?_); (case hT_ => exact Tabs.after HT.out (by repeat (first | (with_reducible first | exact HB.out | apply s1 | apply s2 | apply s3 | refine s4 ?_ GE169.out | refine s4 ?_ GE179.out) | exact HB.out))); rintro e w95 ⟨rfl, hb⟩; refine ⟨_, rfl, ?_⟩; have n0_ := Aside0.mk (Kd.R_below (by (with_reducible repeat first | apply r1 | apply r2 | apply r3); exact HO_4.out) hb); have n1_ := Aside0.mk (blk_below (g := gb169) (o := .cells #[.int .i64 0, .string ⟨#[]⟩, .string ⟨#[]⟩, .int .i64 0, .int .i64 0, .slice none 0 0, .int .i64 0] 24 (0, 0)) (by (with_reducible repeat first | apply q1 | apply q2 | apply q3); exact BK169.out) hb); have n2_ := Aside0.mk (blk_below (g := gb179) (o := .cells #[.int .i64 x180000_1, .string x180001_24, .string ⟨#[]⟩, .int .i64 0, .int .i64 0, .slice none 0 0, .int .i64 x180006_24] 24 (0, 0)) (by (with_reducible repeat first | apply q1 | apply q2 | apply q3); exact BK179.out) hb); have n3_ := Aside0.mk (below_step (by repeat (first | (with_reducible first | exact HB.out | apply s1 | apply s2 | apply s3 | refine s4 ?_ GE169.out | refine s4 ?_ GE179.out) | exact HB.out)) hb); clear HO_4; clear BK169; clear BK179; clear HB; have HO_4 := n0_; have BK169 := n1_; have BK179 := n2_; have HB := n3_; clear n0_ n1_ n2_ n3_; (try clear hb); (try clear hb2); (try clear hk); (try clear hi); have hnb96 := NB179_169.out; have hnc96 := NB169_179.out; have hcz97_0 : w95.cell? ⟨gb179, 0, none⟩ = some (.int .i64 x180000_1) := (blk_cell BK179.out 0).trans rfl; have hcz97_1 : w95.cell? ⟨gb179, 1, none⟩ = some (.string x180001_24) := (blk_cell BK179.out 1).trans rfl; have hcz97_2 : w95.cell? ⟨gb179, 2, none⟩ = some (.string ⟨#[]⟩) := (blk_cell BK179.out 2).trans rfl; have hcz97_3 : w95.cell? ⟨gb179, 3, none⟩ = some (.int .i64 0) := (blk_cell BK179.out 3).trans rfl; have hcz97_4 : w95.cell? ⟨gb179, 4, none⟩ = some (.int .i64 0) := (blk_cell BK179.out 4).trans rfl; have hcz97_5 : w95.cell? ⟨gb179, 5, none⟩ = some (.slice none 0 0) := (blk_cell BK179.out 5).trans rfl; have hcz97_6 : w95.cell? ⟨gb179, 6, none⟩ = some (.int .i64 x180006_24) := (blk_cell BK179.out 6).trans rfl; have hfz97_0 := blk_frozen BK179.out 0; have hfz97_1 := blk_frozen BK179.out 1; have hfz97_2 := blk_frozen BK179.out 2; have hfz97_3 := blk_frozen BK179.out 3; have hfz97_4 := blk_frozen BK179.out 4; have hfz97_5 := blk_frozen BK179.out 5; have hfz97_6 := blk_frozen BK179.out 6; have p189 : 0 ≤ (3 : Int) := (by omega); have q189 : 3 < (y176.length : Int) := of_decide_eq_true (by first | (with_reducible assumption) | assumption); obtain ⟨ad189, e189, hx189_0⟩ := Kd.at_string (Kd.R_reads' HO_4.out).2.2 3 p189 q189; obtain rfl : ad187 = ad189 := (by injection e189); (try simp only [show (3 : Int).toNat = 3 from rfl, Nat.reduceMul, Nat.reduceEqDiff, Go.Addr.add, ↓reduceIte] at hx189_0); have qi189 : (3 < y176.length) = True := eq_true (by omega); (try rw [show ((3 : Int)).toNat = 3 from rfl] at hx189_0); have hn189_0 : ad187.block ≠ gb179 := Kd.own_blk (Kd.R_ne HO_4.out BK179.out (by decide)); replace hx189_0 := (cell_far (p := ⟨gb179, 3, none⟩) (by first | (rw [add_block]; exact hn189_0) | (show (Addr.add _ _).block ≠ _; rw [add_block]; exact hn189_0) | exact hn189_0) (.int .i64 t188)).trans hx189_0; clear hn189_0; replace p189 := eq_true p189; replace q189 := eq_true q189) | ((with_reducible refine gate_callee (f := 45) rfl ?_); refine goesL_ (some 62) rfl rfl Tryz.func45 (by kernel_rfl) rfl #[.string (rdOf ByteArray.empty y176 3)] rfl (by (try simp only [List.map_toArray, List.map_cons, List.map_nil]); first | done | rfl | (simp only [List.length_drop, List.length_take]; rfl)) ?_; (with_reducible refine (dump_Unhex.calls kj43 (rdOf ByteArray.empty y176 3) t190 t191 _ A72.out).mono ?_); rintro e w98 ⟨v192, rfl, ho0, hb⟩; refine ⟨_, rfl, ?_⟩; have n0_ := Aside0.mk (Kd.R_below (by (with_reducible repeat first | apply r1 | apply r2 | apply r3); exact (Kd.R_mono (Kd.R_far (p := ⟨gb179, 3, none⟩) (Kd.R_types HO_4.out BK179.out (by decide)) (fun _ hk => hk.2) (.int .i64 t188)) (fun _ h_ => h_.1))) hb); have n1_ := Aside0.mk (Kd.R_lower ho0 (below_size (by repeat (first | (with_reducible first | exact HB.out | apply s1 | apply s2 | apply s3 | refine s4 ?_ GE169.out | refine s4 ?_ GE179.out) | exact HB.out)))); have n2_ := Aside0.mk (blk_below (g := gb169) (o := .cells #[.int .i64 0, .string ⟨#[]⟩, .string ⟨#[]⟩, .int .i64 0, .int .i64 0, .slice none 0 0, .int .i64 0] 24 (0, 0)) (by (with_reducible repeat first | apply q1 | apply q2 | apply q3); refine blk_far ?_ NB169_179.out _; (with_reducible repeat first | apply q1 | apply q2 | apply q3); exact BK169.out) hb); have n3_ := Aside0.mk (blk_below (g := gb179) (o := .cells #[.int .i64 x180000_1, .string x180001_24, .string ⟨#[]⟩, .int .i64 t188, .int .i64 0, .slice none 0 0, .int .i64 x180006_24] 24 (0, 0)) (by (with_reducible repeat first | apply q1 | apply q2 | apply q3); refine blk_put (cs := #[.int .i64 x180000_1, .string x180001_24, .string ⟨#[]⟩, .int .i64 0, .int .i64 0, .slice none 0 0, .int .i64 x180006_24]) ?_ 3 _ rfl; (with_reducible repeat first | apply q1 | apply q2 | apply q3); exact BK179.out) hb); have n4_ := Aside0.mk (below_step (by repeat (first | (with_reducible first | exact HB.out | apply s1 | apply s2 | apply s3 | refine s4 ?_ GE169.out | refine s4 ?_ GE179.out) | exact HB.out)) hb); clear HO_4; clear BK169; clear BK179; clear HB; have HO_4 := n0_; have HO193 := n1_; have BK169 := n2_; have BK179 := n3_; have HB := n4_; clear n0_ n1_ n2_ n3_ n4_; (try clear hb); (try clear hb2); (try clear hk); (try clear hi); (try clear ho0); obtain ⟨Ao99, co99, eo99⟩ := Kd.R_slice HO193.out; subst eo99; have hcz100_0 : w98.cell? ⟨gb179, 0, none⟩ = some (.int .i64 x180000_1) := (blk_cell BK179.out 0).trans rfl; have hcz100_1 : w98.cell? ⟨gb179, 1, none⟩ = some (.string x180001_24) := (blk_cell BK179.out 1).trans rfl; have hcz100_2 : w98.cell? ⟨gb179, 2, none⟩ = some (.string ⟨#[]⟩) := (blk_cell BK179.out 2).trans rfl; have hcz100_3 : w98.cell? ⟨gb179, 3, none⟩ = some (.int .i64 t188) := (blk_cell BK179.out 3).trans rfl; have hcz100_4 : w98.cell? ⟨gb179, 4, none⟩ = some (.int .i64 0) := (blk_cell BK179.out 4).trans rfl; have hcz100_5 : w98.cell? ⟨gb179, 5, none⟩ = some (.slice none 0 0) := (blk_cell BK179.out 5).trans rfl; have hcz100_6 : w98.cell? ⟨gb179, 6, none⟩ = some (.int .i64 x180006_24) := (blk_cell BK179.out 6).trans rfl; have hfz100_0 := blk_frozen BK179.out 0; have hfz100_1 := blk_frozen BK179.out 1; have hfz100_2 := blk_frozen BK179.out 2; have hfz100_3 := blk_frozen BK179.out 3; have hfz100_4 := blk_frozen BK179.out 4; have hfz100_5 := blk_frozen BK179.out 5; have hfz100_6 := blk_frozen BK179.out 6) | (go_at_call 11; (with_reducible refine (hist_Op.calls kj43 x180000_1 x180001_24 (⟨#[]⟩ : ByteArray) t188 0 _ _ t190 x180006_24 t194 _ ?side1 ?side2 A82.out ?hT_).mono ?_); (case hT_ => exact Tabs.after HT.out (by repeat (first | (with_reducible first | exact HB.out | apply s1 | apply s2 | apply s3 | refine s4 ?_ GE169.out | refine s4 ?_ GE179.out) | exact HB.out))); (case side1 => refine (Kd.R_reads' (e := 5) (base := w.heap.size) (ok := fun k_ => True) (n := t190.length) (c := co99) ?_).2.2; exact (by (with_reducible repeat first | apply r1 | apply r2 | apply r3); exact (Kd.R_mono (Kd.R_far (p := ⟨gb179, 5, none⟩) (Kd.R_types HO193.out BK179.out (by decide)) (fun _ hk => hk.2) (.slice Ao99 t190.length co99)) (fun _ h_ => h_.1)))); (case side2 => exact (Kd.R_reads' HO193.out).2.1); rintro e w101 ⟨rfl, hb⟩; have n0_ := Aside0.mk (Kd.R_below (by (with_reducible repeat first | apply r1 | apply r2 | apply r3); exact (Kd.R_mono (Kd.R_far (p := ⟨gb179, 5, none⟩) (Kd.R_types HO_4.out BK179.out (by decide)) (fun _ hk => hk.2) (.slice Ao99 t190.length co99)) (fun _ h_ => h_.1))) hb); have n1_ := Aside0.mk (Kd.R_below (by (with_reducible repeat first | apply r1 | apply r2 | apply r3); exact (Kd.R_mono (Kd.R_far (p := ⟨gb179, 5, none⟩) (Kd.R_types HO193.out BK179.out (by decide)) (fun _ hk => hk.2) (.slice Ao99 t190.length co99)) (fun _ h_ => h_.1))) hb); have n2_ := Aside0.mk (blk_below (g := gb169) (o := .cells #[.int .i64 0, .string ⟨#[]⟩, .string ⟨#[]⟩, .int .i64 0, .int .i64 0, .slice none 0 0, .int .i64 0] 24 (0, 0)) (by (with_reducible repeat first | apply q1 | apply q2 | apply q3); refine blk_far ?_ NB169_179.out _; (with_reducible repeat first | apply q1 | apply q2 | apply q3); exact BK169.out) hb); have n3_ := Aside0.mk (blk_below (g := gb179) (o := .cells #[.int .i64 x180000_1, .string x180001_24, .string ⟨#[]⟩, .int .i64 t188, .int .i64 0, .slice Ao99 t190.length co99, .int .i64 x180006_24] 24 (0, 0)) (by (with_reducible repeat first | apply q1 | apply q2 | apply q3); refine blk_put (cs := #[.int .i64 x180000_1, .string x180001_24, .string ⟨#[]⟩, .int .i64 t188, .int .i64 0, .slice none 0 0, .int .i64 x180006_24]) ?_ 5 _ rfl; (with_reducible repeat first | apply q1 | apply q2 | apply q3); exact BK179.out) hb); have n4_ := Aside0.mk (below_step (by repeat (first | (with_reducible first | exact HB.out | apply s1 | apply s2 | apply s3 | refine s4 ?_ GE169.out | refine s4 ?_ GE179.out) | exact HB.out)) hb); clear HO_4; clear HO193; clear BK169; clear BK179; clear HB; have HO_4 := n0_; have HO193 := n1_; have BK169 := n2_; have BK179 := n3_; have HB := n4_; clear n0_ n1_ n2_ n3_ n4_; (try clear hb); (try clear hb2); (try clear hk); (try clear hi); have hcz102_0 : w101.cell? ⟨gb169, 0, none⟩ = some (.int .i64 0) := (blk_cell BK169.out 0).trans rfl; have hcz102_1 : w101.cell? ⟨gb169, 1, none⟩ = some (.string ⟨#[]⟩) := (blk_cell BK169.out 1).trans rfl; have hcz102_2 : w101.cell? ⟨gb169, 2, none⟩ = some (.string ⟨#[]⟩) := (blk_cell BK169.out 2).trans rfl; have hcz102_3 : w101.cell? ⟨gb169, 3, none⟩ = some (.int .i64 0) := (blk_cell BK169.out 3).trans rfl; have hcz102_4 : w101.cell? ⟨gb169, 4, none⟩ = some (.int .i64 0) := (blk_cell BK169.out 4).trans rfl; have hcz102_5 : w101.cell? ⟨gb169, 5, none⟩ = some (.slice none 0 0) := (blk_cell BK169.out 5).trans rfl; have hcz102_6 : w101.cell? ⟨gb169, 6, none⟩ = some (.int .i64 0) := (blk_cell BK169.out 6).trans rfl; have hfz102_0 := blk_frozen BK169.out 0; have hfz102_1 := blk_frozen BK169.out 1; have hfz102_2 := blk_frozen BK169.out 2; have hfz102_3 := blk_frozen BK169.out 3; have hfz102_4 := blk_frozen BK169.out 4; have hfz102_5 := blk_frozen BK169.out 5; have hfz102_6 := blk_frozen BK169.out 6))
               refine bodyPost_ret (results_ct rfl _ _ gb169 24 #[.int .i64 0, .string ⟨#[]⟩, .string ⟨#[]⟩, .int .i64 0, .int .i64 0, .slice none 0 0, .int .i64 0] (0, 0) _ rfl (by (with_reducible repeat first | apply q1 | apply q2 | apply q3); refine q5 ?_ 6 _ rfl; refine q5 ?_ 5 _ rfl; refine q5 ?_ 4 _ rfl; refine q5 ?_ 3 _ rfl; refine q5 ?_ 2 _ rfl; refine q5 ?_ 1 _ rfl; refine q5 ?_ 0 _ rfl; (with_reducible repeat first | apply q1 | apply q2 | apply q3); exact BK169.out) Tryz.underlying24 rfl (by kernel_rfl)) rfl ?_
               exact ⟨_, by first | rfl | (simp [errW_none, errW_some] <;> rfl) | (simp [*, errW_none, errW_some] <;> rfl), by exact Kd.R_nil _ _ _ _ _, by repeat (first | (with_reducible first | exact HB.out | apply s1 | apply s2 | apply s3 | refine s4 ?_ GE169.out | refine s4 ?_ GE179.out) | exact HB.out)⟩
            ·rw [if_neg c71] at H
             exact absurd H (by simp)
           ·rw [if_neg c69] at H
            exact absurd H (by simp)
          ·rw [if_neg c68] at H
           have c68b0 : (x180000_1 == 8) = false := beq_eq_false_iff_ne.mpr c68
           have c68b1 : (x180000_1 != 8) = true := bne_iff_ne.mpr c68
           by_cases c103 : x180000_1 = 7
           ·rw [if_pos c103] at H
            have c103b0 : (x180000_1 == 7) = true := beq_iff_eq.mpr c103
            have c103b1 : (x180000_1 != 7) = false := bne_eq_false_iff_eq.mpr c103
            clear c103
            by_cases c104 : 2 < (y176.length : Int)
            ·rw [if_pos c104] at H
             have c104b0 : decide (2 < (y176.length : Int)) = true := decide_eq_true c104
             have c104b1 : decide (2 < y176.length) = true := decide_eq_true (by omega)
             clear c104
             replace H := Option.bind_eq_some_iff.mp H
             obtain ⟨t196, A1050, H⟩ := H
             try dsimp only at H
             have A105 := Aside0.mk A1050
             clear A1050
             by_cases c106 : 3 < (y176.length : Int)
             ·rw [if_pos c106] at H
              have c106b0 : decide (3 < (y176.length : Int)) = true := decide_eq_true c106
              have c106b1 : decide (3 < y176.length) = true := decide_eq_true (by omega)
              clear c106
              replace H := Option.bind_eq_some_iff.mp H
              obtain ⟨t198, A1070, H⟩ := H
              try dsimp only at H
              have A107 := Aside0.mk A1070
              clear A1070
              by_cases c108 : a0.toList = ([] : List UInt8)
              ·rw [if_pos c108] at H
               have c108b0 : (a0.toList == ([] : List UInt8)) = true := beq_iff_eq.mpr c108
               have c108b1 : (a0.toList != ([] : List UInt8)) = false := bne_eq_false_iff_eq.mpr c108
               clear c108
               simp only [Option.some.injEq, Prod.mk.injEq] at H
               obtain ⟨rfl, rfl, rfl, rfl, rfl, rfl, rfl, rfl⟩ := H
               obtain ⟨Ao109, co109, eo109⟩ := Kd.R_slice HO_4.out
               subst eo109
               have p195 : 0 ≤ (2 : Int) := (by omega)
               have q195 : 2 < (y176.length : Int) := of_decide_eq_true (by first | (with_reducible assumption) | assumption)
               obtain ⟨ad195, e195, hx195_0⟩ := Kd.at_string (Kd.R_reads' HO_4.out).2.2 2 p195 q195
               cases e195
               (try simp only [show (2 : Int).toNat = 2 from rfl, Nat.reduceMul, Nat.reduceEqDiff, Go.Addr.add, ↓reduceIte] at hx195_0)
               have qi195 : (2 < y176.length) = True := eq_true (by omega)
               (try rw [show ((2 : Int)).toNat = 2 from rfl] at hx195_0)
               replace p195 := eq_true p195
               replace q195 := eq_true q195
               go_wp2_with (first | ((with_reducible refine gate_callee (f := 44) rfl ?_); refine goesL_ (some 71) rfl rfl Tryz.func44 (by kernel_rfl) rfl #[.string (rdOf ByteArray.empty y176 2)] rfl (by (try simp only [List.map_toArray, List.map_cons, List.map_nil]); first | done | rfl | (simp only [List.length_drop, List.length_take]; rfl)) ?_; (with_reducible refine (hist_Num.calls (rdOf ByteArray.empty y176 2) t196 _ A105.out ?hT_).mono ?_); (case hT_ => exact Tabs.after HT.out (by repeat (first | (with_reducible first | exact HB.out | apply s1 | apply s2 | apply s3 | refine s4 ?_ GE169.out | refine s4 ?_ GE179.out) | exact HB.out))); rintro e w110 ⟨rfl, hb⟩; refine ⟨_, rfl, ?_⟩; have n0_ := Aside0.mk (Kd.R_below (by (with_reducible repeat first | apply r1 | apply r2 | apply r3); exact HO_4.out) hb); have n1_ := Aside0.mk (blk_below (g := gb169) (o := .cells #[.int .i64 0, .string ⟨#[]⟩, .string ⟨#[]⟩, .int .i64 0, .int .i64 0, .slice none 0 0, .int .i64 0] 24 (0, 0)) (by (with_reducible repeat first | apply q1 | apply q2 | apply q3); exact BK169.out) hb); have n2_ := Aside0.mk (blk_below (g := gb179) (o := .cells #[.int .i64 x180000_1, .string x180001_24, .string ⟨#[]⟩, .int .i64 0, .int .i64 0, .slice none 0 0, .int .i64 x180006_24] 24 (0, 0)) (by (with_reducible repeat first | apply q1 | apply q2 | apply q3); exact BK179.out) hb); have n3_ := Aside0.mk (below_step (by repeat (first | (with_reducible first | exact HB.out | apply s1 | apply s2 | apply s3 | refine s4 ?_ GE169.out | refine s4 ?_ GE179.out) | exact HB.out)) hb); clear HO_4; clear BK169; clear BK179; clear HB; have HO_4 := n0_; have BK169 := n1_; have BK179 := n2_; have HB := n3_; clear n0_ n1_ n2_ n3_; (try clear hb); (try clear hb2); (try clear hk); (try clear hi); have hnb111 := NB179_169.out; have hnc111 := NB169_179.out; have hcz112_0 : w110.cell? ⟨gb179, 0, none⟩ = some (.int .i64 x180000_1) := (blk_cell BK179.out 0).trans rfl; have hcz112_1 : w110.cell? ⟨gb179, 1, none⟩ = some (.string x180001_24) := (blk_cell BK179.out 1).trans rfl; have hcz112_2 : w110.cell? ⟨gb179, 2, none⟩ = some (.string ⟨#[]⟩) := (blk_cell BK179.out 2).trans rfl; have hcz112_3 : w110.cell? ⟨gb179, 3, none⟩ = some (.int .i64 0) := (blk_cell BK179.out 3).trans rfl; have hcz112_4 : w110.cell? ⟨gb179, 4, none⟩ = some (.int .i64 0) := (blk_cell BK179.out 4).trans rfl; have hcz112_5 : w110.cell? ⟨gb179, 5, none⟩ = some (.slice none 0 0) := (blk_cell BK179.out 5).trans rfl; have hcz112_6 : w110.cell? ⟨gb179, 6, none⟩ = some (.int .i64 x180006_24) := (blk_cell BK179.out 6).trans rfl; have hfz112_0 := blk_frozen BK179.out 0; have hfz112_1 := blk_frozen BK179.out 1; have hfz112_2 := blk_frozen BK179.out 2; have hfz112_3 := blk_frozen BK179.out 3; have hfz112_4 := blk_frozen BK179.out 4; have hfz112_5 := blk_frozen BK179.out 5; have hfz112_6 := blk_frozen BK179.out 6; have p197 : 0 ≤ (3 : Int) := (by omega); have q197 : 3 < (y176.length : Int) := of_decide_eq_true (by first | (with_reducible assumption) | assumption); obtain ⟨ad197, e197, hx197_0⟩ := Kd.at_string (Kd.R_reads' HO_4.out).2.2 3 p197 q197; obtain rfl : ad195 = ad197 := (by injection e197); (try simp only [show (3 : Int).toNat = 3 from rfl, Nat.reduceMul, Nat.reduceEqDiff, Go.Addr.add, ↓reduceIte] at hx197_0); have qi197 : (3 < y176.length) = True := eq_true (by omega); (try rw [show ((3 : Int)).toNat = 3 from rfl] at hx197_0); have hn197_0 : ad195.block ≠ gb179 := Kd.own_blk (Kd.R_ne HO_4.out BK179.out (by decide)); replace hx197_0 := (cell_far (p := ⟨gb179, 3, none⟩) (by first | (rw [add_block]; exact hn197_0) | (show (Addr.add _ _).block ≠ _; rw [add_block]; exact hn197_0) | exact hn197_0) (.int .i64 t196)).trans hx197_0; clear hn197_0; replace p197 := eq_true p197; replace q197 := eq_true q197) | ((with_reducible refine gate_callee (f := 44) rfl ?_); refine goesL_ (some 76) rfl rfl Tryz.func44 (by kernel_rfl) rfl #[.string (rdOf ByteArray.empty y176 3)] rfl (by (try simp only [List.map_toArray, List.map_cons, List.map_nil]); first | done | rfl | (simp only [List.length_drop, List.length_take]; rfl)) ?_; (with_reducible refine (hist_Num.calls (rdOf ByteArray.empty y176 3) t198 _ A107.out ?hT_).mono ?_); (case hT_ => exact Tabs.after HT.out (by repeat (first | (with_reducible first | exact HB.out | apply s1 | apply s2 | apply s3 | refine s4 ?_ GE169.out | refine s4 ?_ GE179.out) | exact HB.out))); rintro e w113 ⟨rfl, hb⟩; refine ⟨_, rfl, ?_⟩; have n0_ := Aside0.mk (Kd.R_below (by (with_reducible repeat first | apply r1 | apply r2 | apply r3); exact (Kd.R_mono (Kd.R_far (p := ⟨gb179, 3, none⟩) (Kd.R_types HO_4.out BK179.out (by decide)) (fun _ hk => hk.2) (.int .i64 t196)) (fun _ h_ => h_.1))) hb); have n1_ := Aside0.mk (blk_below (g := gb169) (o := .cells #[.int .i64 0, .string ⟨#[]⟩, .string ⟨#[]⟩, .int .i64 0, .int .i64 0, .slice none 0 0, .int .i64 0] 24 (0, 0)) (by (with_reducible repeat first | apply q1 | apply q2 | apply q3); refine blk_far ?_ NB169_179.out _; (with_reducible repeat first | apply q1 | apply q2 | apply q3); exact BK169.out) hb); have n2_ := Aside0.mk (blk_below (g := gb179) (o := .cells #[.int .i64 x180000_1, .string x180001_24, .string ⟨#[]⟩, .int .i64 t196, .int .i64 0, .slice none 0 0, .int .i64 x180006_24] 24 (0, 0)) (by (with_reducible repeat first | apply q1 | apply q2 | apply q3); refine blk_put (cs := #[.int .i64 x180000_1, .string x180001_24, .string ⟨#[]⟩, .int .i64 0, .int .i64 0, .slice none 0 0, .int .i64 x180006_24]) ?_ 3 _ rfl; (with_reducible repeat first | apply q1 | apply q2 | apply q3); exact BK179.out) hb); have n3_ := Aside0.mk (below_step (by repeat (first | (with_reducible first | exact HB.out | apply s1 | apply s2 | apply s3 | refine s4 ?_ GE169.out | refine s4 ?_ GE179.out) | exact HB.out)) hb); clear HO_4; clear BK169; clear BK179; clear HB; have HO_4 := n0_; have BK169 := n1_; have BK179 := n2_; have HB := n3_; clear n0_ n1_ n2_ n3_; (try clear hb); (try clear hb2); (try clear hk); (try clear hi); have hcz114_0 : w113.cell? ⟨gb179, 0, none⟩ = some (.int .i64 x180000_1) := (blk_cell BK179.out 0).trans rfl; have hcz114_1 : w113.cell? ⟨gb179, 1, none⟩ = some (.string x180001_24) := (blk_cell BK179.out 1).trans rfl; have hcz114_2 : w113.cell? ⟨gb179, 2, none⟩ = some (.string ⟨#[]⟩) := (blk_cell BK179.out 2).trans rfl; have hcz114_3 : w113.cell? ⟨gb179, 3, none⟩ = some (.int .i64 t196) := (blk_cell BK179.out 3).trans rfl; have hcz114_4 : w113.cell? ⟨gb179, 4, none⟩ = some (.int .i64 0) := (blk_cell BK179.out 4).trans rfl; have hcz114_5 : w113.cell? ⟨gb179, 5, none⟩ = some (.slice none 0 0) := (blk_cell BK179.out 5).trans rfl; have hcz114_6 : w113.cell? ⟨gb179, 6, none⟩ = some (.int .i64 x180006_24) := (blk_cell BK179.out 6).trans rfl; have hfz114_0 := blk_frozen BK179.out 0; have hfz114_1 := blk_frozen BK179.out 1; have hfz114_2 := blk_frozen BK179.out 2; have hfz114_3 := blk_frozen BK179.out 3; have hfz114_4 := blk_frozen BK179.out 4; have hfz114_5 := blk_frozen BK179.out 5; have hfz114_6 := blk_frozen BK179.out 6; have hcz115_0 : w113.cell? ⟨gb169, 0, none⟩ = some (.int .i64 0) := (blk_cell BK169.out 0).trans rfl; have hcz115_1 : w113.cell? ⟨gb169, 1, none⟩ = some (.string ⟨#[]⟩) := (blk_cell BK169.out 1).trans rfl; have hcz115_2 : w113.cell? ⟨gb169, 2, none⟩ = some (.string ⟨#[]⟩) := (blk_cell BK169.out 2).trans rfl; have hcz115_3 : w113.cell? ⟨gb169, 3, none⟩ = some (.int .i64 0) := (blk_cell BK169.out 3).trans rfl; have hcz115_4 : w113.cell? ⟨gb169, 4, none⟩ = some (.int .i64 0) := (blk_cell BK169.out 4).trans rfl; have hcz115_5 : w113.cell? ⟨gb169, 5, none⟩ = some (.slice none 0 0) := (blk_cell BK169.out 5).trans rfl; have hcz115_6 : w113.cell? ⟨gb169, 6, none⟩ = some (.int .i64 0) := (blk_cell BK169.out 6).trans rfl; have hfz115_0 := blk_frozen BK169.out 0; have hfz115_1 := blk_frozen BK169.out 1; have hfz115_2 := blk_frozen BK169.out 2; have hfz115_3 := blk_frozen BK169.out 3; have hfz115_4 := blk_frozen BK169.out 4; have hfz115_5 := blk_frozen BK169.out 5; have hfz115_6 := blk_frozen BK169.out 6))
               refine bodyPost_ret (results_ct rfl _ _ gb169 24 #[.int .i64 0, .string ⟨#[]⟩, .string ⟨#[]⟩, .int .i64 0, .int .i64 0, .slice none 0 0, .int .i64 0] (0, 0) _ rfl (by (with_reducible repeat first | apply q1 | apply q2 | apply q3); refine q5 ?_ 6 _ rfl; refine q5 ?_ 5 _ rfl; refine q5 ?_ 4 _ rfl; refine q5 ?_ 3 _ rfl; refine q5 ?_ 2 _ rfl; refine q5 ?_ 1 _ rfl; refine q5 ?_ 0 _ rfl; (with_reducible repeat first | apply q1 | apply q2 | apply q3); refine blk_far ?_ NB169_179.out _; (with_reducible repeat first | apply q1 | apply q2 | apply q3); exact BK169.out) Tryz.underlying24 rfl (by kernel_rfl)) rfl ?_
               exact ⟨_, by first | rfl | (simp [errW_none, errW_some] <;> rfl) | (simp [*, errW_none, errW_some] <;> rfl), by exact Kd.R_nil _ _ _ _ _, by repeat (first | (with_reducible first | exact HB.out | apply s1 | apply s2 | apply s3 | refine s4 ?_ GE169.out | refine s4 ?_ GE179.out) | exact HB.out)⟩
              ·rw [if_neg c108] at H
               have c108b0 : (a0.toList == ([] : List UInt8)) = false := beq_eq_false_iff_ne.mpr c108
               have c108b1 : (a0.toList != ([] : List UInt8)) = true := bne_iff_ne.mpr c108
               replace H := Option.bind_eq_some_iff.mp H
               obtain ⟨t199, A1160, H⟩ := H
               try dsimp only at H
               have A116 := Aside0.mk A1160
               clear A1160
               by_cases c117 : t199.toList = a0.toList
               ·rw [if_pos c117] at H
                have c117b0 : (t199.toList == a0.toList) = true := beq_iff_eq.mpr c117
                have c117b1 : (t199.toList != a0.toList) = false := bne_eq_false_iff_eq.mpr c117
                clear c117
                simp only [Option.some.injEq, Prod.mk.injEq] at H
                obtain ⟨rfl, rfl, rfl, rfl, rfl, rfl, rfl, rfl⟩ := H
                obtain ⟨Ao118, co118, eo118⟩ := Kd.R_slice HO_4.out
                subst eo118
                have p195 : 0 ≤ (2 : Int) := (by omega)
                have q195 : 2 < (y176.length : Int) := of_decide_eq_true (by first | (with_reducible assumption) | assumption)
                obtain ⟨ad195, e195, hx195_0⟩ := Kd.at_string (Kd.R_reads' HO_4.out).2.2 2 p195 q195
                cases e195
                (try simp only [show (2 : Int).toNat = 2 from rfl, Nat.reduceMul, Nat.reduceEqDiff, Go.Addr.add, ↓reduceIte] at hx195_0)
                have qi195 : (2 < y176.length) = True := eq_true (by omega)
                (try rw [show ((2 : Int)).toNat = 2 from rfl] at hx195_0)
                replace p195 := eq_true p195
                replace q195 := eq_true q195
                go_wp2_with (first | ((with_reducible refine gate_callee (f := 44) rfl ?_); refine goesL_ (some 71) rfl rfl Tryz.func44 (by kernel_rfl) rfl #[.string (rdOf ByteArray.empty y176 2)] rfl (by (try simp only [List.map_toArray, List.map_cons, List.map_nil]); first | done | rfl | (simp only [List.length_drop, List.length_take]; rfl)) ?_; (with_reducible refine (hist_Num.calls (rdOf ByteArray.empty y176 2) t196 _ A105.out ?hT_).mono ?_); (case hT_ => exact Tabs.after HT.out (by repeat (first | (with_reducible first | exact HB.out | apply s1 | apply s2 | apply s3 | refine s4 ?_ GE169.out | refine s4 ?_ GE179.out) | exact HB.out))); rintro e w119 ⟨rfl, hb⟩; refine ⟨_, rfl, ?_⟩; have n0_ := Aside0.mk (Kd.R_below (by (with_reducible repeat first | apply r1 | apply r2 | apply r3); exact HO_4.out) hb); have n1_ := Aside0.mk (blk_below (g := gb169) (o := .cells #[.int .i64 0, .string ⟨#[]⟩, .string ⟨#[]⟩, .int .i64 0, .int .i64 0, .slice none 0 0, .int .i64 0] 24 (0, 0)) (by (with_reducible repeat first | apply q1 | apply q2 | apply q3); exact BK169.out) hb); have n2_ := Aside0.mk (blk_below (g := gb179) (o := .cells #[.int .i64 x180000_1, .string x180001_24, .string ⟨#[]⟩, .int .i64 0, .int .i64 0, .slice none 0 0, .int .i64 x180006_24] 24 (0, 0)) (by (with_reducible repeat first | apply q1 | apply q2 | apply q3); exact BK179.out) hb); have n3_ := Aside0.mk (below_step (by repeat (first | (with_reducible first | exact HB.out | apply s1 | apply s2 | apply s3 | refine s4 ?_ GE169.out | refine s4 ?_ GE179.out) | exact HB.out)) hb); clear HO_4; clear BK169; clear BK179; clear HB; have HO_4 := n0_; have BK169 := n1_; have BK179 := n2_; have HB := n3_; clear n0_ n1_ n2_ n3_; (try clear hb); (try clear hb2); (try clear hk); (try clear hi); have hnb120 := NB179_169.out; have hnc120 := NB169_179.out; have hcz121_0 : w119.cell? ⟨gb179, 0, none⟩ = some (.int .i64 x180000_1) := (blk_cell BK179.out 0).trans rfl; have hcz121_1 : w119.cell? ⟨gb179, 1, none⟩ = some (.string x180001_24) := (blk_cell BK179.out 1).trans rfl; have hcz121_2 : w119.cell? ⟨gb179, 2, none⟩ = some (.string ⟨#[]⟩) := (blk_cell BK179.out 2).trans rfl; have hcz121_3 : w119.cell? ⟨gb179, 3, none⟩ = some (.int .i64 0) := (blk_cell BK179.out 3).trans rfl; have hcz121_4 : w119.cell? ⟨gb179, 4, none⟩ = some (.int .i64 0) := (blk_cell BK179.out 4).trans rfl; have hcz121_5 : w119.cell? ⟨gb179, 5, none⟩ = some (.slice none 0 0) := (blk_cell BK179.out 5).trans rfl; have hcz121_6 : w119.cell? ⟨gb179, 6, none⟩ = some (.int .i64 x180006_24) := (blk_cell BK179.out 6).trans rfl; have hfz121_0 := blk_frozen BK179.out 0; have hfz121_1 := blk_frozen BK179.out 1; have hfz121_2 := blk_frozen BK179.out 2; have hfz121_3 := blk_frozen BK179.out 3; have hfz121_4 := blk_frozen BK179.out 4; have hfz121_5 := blk_frozen BK179.out 5; have hfz121_6 := blk_frozen BK179.out 6; have p197 : 0 ≤ (3 : Int) := (by omega); have q197 : 3 < (y176.length : Int) := of_decide_eq_true (by first | (with_reducible assumption) | assumption); obtain ⟨ad197, e197, hx197_0⟩ := Kd.at_string (Kd.R_reads' HO_4.out).2.2 3 p197 q197; obtain rfl : ad195 = ad197 := (by injection e197); (try simp only [show (3 : Int).toNat = 3 from rfl, Nat.reduceMul, Nat.reduceEqDiff, Go.Addr.add, ↓reduceIte] at hx197_0); have qi197 : (3 < y176.length) = True := eq_true (by omega); (try rw [show ((3 : Int)).toNat = 3 from rfl] at hx197_0); have hn197_0 : ad195.block ≠ gb179 := Kd.own_blk (Kd.R_ne HO_4.out BK179.out (by decide)); replace hx197_0 := (cell_far (p := ⟨gb179, 3, none⟩) (by first | (rw [add_block]; exact hn197_0) | (show (Addr.add _ _).block ≠ _; rw [add_block]; exact hn197_0) | exact hn197_0) (.int .i64 t196)).trans hx197_0; clear hn197_0; replace p197 := eq_true p197; replace q197 := eq_true q197) | ((with_reducible refine gate_callee (f := 44) rfl ?_); refine goesL_ (some 76) rfl rfl Tryz.func44 (by kernel_rfl) rfl #[.string (rdOf ByteArray.empty y176 3)] rfl (by (try simp only [List.map_toArray, List.map_cons, List.map_nil]); first | done | rfl | (simp only [List.length_drop, List.length_take]; rfl)) ?_; (with_reducible refine (hist_Num.calls (rdOf ByteArray.empty y176 3) t198 _ A107.out ?hT_).mono ?_); (case hT_ => exact Tabs.after HT.out (by repeat (first | (with_reducible first | exact HB.out | apply s1 | apply s2 | apply s3 | refine s4 ?_ GE169.out | refine s4 ?_ GE179.out) | exact HB.out))); rintro e w122 ⟨rfl, hb⟩; refine ⟨_, rfl, ?_⟩; have n0_ := Aside0.mk (Kd.R_below (by (with_reducible repeat first | apply r1 | apply r2 | apply r3); exact (Kd.R_mono (Kd.R_far (p := ⟨gb179, 3, none⟩) (Kd.R_types HO_4.out BK179.out (by decide)) (fun _ hk => hk.2) (.int .i64 t196)) (fun _ h_ => h_.1))) hb); have n1_ := Aside0.mk (blk_below (g := gb169) (o := .cells #[.int .i64 0, .string ⟨#[]⟩, .string ⟨#[]⟩, .int .i64 0, .int .i64 0, .slice none 0 0, .int .i64 0] 24 (0, 0)) (by (with_reducible repeat first | apply q1 | apply q2 | apply q3); refine blk_far ?_ NB169_179.out _; (with_reducible repeat first | apply q1 | apply q2 | apply q3); exact BK169.out) hb); have n2_ := Aside0.mk (blk_below (g := gb179) (o := .cells #[.int .i64 x180000_1, .string x180001_24, .string ⟨#[]⟩, .int .i64 t196, .int .i64 0, .slice none 0 0, .int .i64 x180006_24] 24 (0, 0)) (by (with_reducible repeat first | apply q1 | apply q2 | apply q3); refine blk_put (cs := #[.int .i64 x180000_1, .string x180001_24, .string ⟨#[]⟩, .int .i64 0, .int .i64 0, .slice none 0 0, .int .i64 x180006_24]) ?_ 3 _ rfl; (with_reducible repeat first | apply q1 | apply q2 | apply q3); exact BK179.out) hb); have n3_ := Aside0.mk (below_step (by repeat (first | (with_reducible first | exact HB.out | apply s1 | apply s2 | apply s3 | refine s4 ?_ GE169.out | refine s4 ?_ GE179.out) | exact HB.out)) hb); clear HO_4; clear BK169; clear BK179; clear HB; have HO_4 := n0_; have BK169 := n1_; have BK179 := n2_; have HB := n3_; clear n0_ n1_ n2_ n3_; (try clear hb); (try clear hb2); (try clear hk); (try clear hi); have hcz123_0 : w122.cell? ⟨gb179, 0, none⟩ = some (.int .i64 x180000_1) := (blk_cell BK179.out 0).trans rfl; have hcz123_1 : w122.cell? ⟨gb179, 1, none⟩ = some (.string x180001_24) := (blk_cell BK179.out 1).trans rfl; have hcz123_2 : w122.cell? ⟨gb179, 2, none⟩ = some (.string ⟨#[]⟩) := (blk_cell BK179.out 2).trans rfl; have hcz123_3 : w122.cell? ⟨gb179, 3, none⟩ = some (.int .i64 t196) := (blk_cell BK179.out 3).trans rfl; have hcz123_4 : w122.cell? ⟨gb179, 4, none⟩ = some (.int .i64 0) := (blk_cell BK179.out 4).trans rfl; have hcz123_5 : w122.cell? ⟨gb179, 5, none⟩ = some (.slice none 0 0) := (blk_cell BK179.out 5).trans rfl; have hcz123_6 : w122.cell? ⟨gb179, 6, none⟩ = some (.int .i64 x180006_24) := (blk_cell BK179.out 6).trans rfl; have hfz123_0 := blk_frozen BK179.out 0; have hfz123_1 := blk_frozen BK179.out 1; have hfz123_2 := blk_frozen BK179.out 2; have hfz123_3 := blk_frozen BK179.out 3; have hfz123_4 := blk_frozen BK179.out 4; have hfz123_5 := blk_frozen BK179.out 5; have hfz123_6 := blk_frozen BK179.out 6) | (go_at_call 11; (refine (hist_Op.calls kj43 x180000_1 x180001_24 (⟨#[]⟩ : ByteArray) t196 t198 _ _ ([] : List Int) x180006_24 t199 _ ?side1 ?side2 A116.out ?hT_).mono ?_); (case hT_ => exact Tabs.after HT.out (by repeat (first | (with_reducible first | exact HB.out | apply s1 | apply s2 | apply s3 | refine s4 ?_ GE169.out | refine s4 ?_ GE179.out) | exact HB.out))); (case side1 => exact Kd.C_nil _ _); (case side2 => exact Nat.le_refl _); rintro e w124 ⟨rfl, hb⟩; have n0_ := Aside0.mk (Kd.R_below (by (with_reducible repeat first | apply r1 | apply r2 | apply r3); exact (Kd.R_mono (Kd.R_far (p := ⟨gb179, 4, none⟩) (Kd.R_types HO_4.out BK179.out (by decide)) (fun _ hk => hk.2) (.int .i64 t198)) (fun _ h_ => h_.1))) hb); have n1_ := Aside0.mk (blk_below (g := gb169) (o := .cells #[.int .i64 0, .string ⟨#[]⟩, .string ⟨#[]⟩, .int .i64 0, .int .i64 0, .slice none 0 0, .int .i64 0] 24 (0, 0)) (by (with_reducible repeat first | apply q1 | apply q2 | apply q3); refine blk_far ?_ NB169_179.out _; (with_reducible repeat first | apply q1 | apply q2 | apply q3); exact BK169.out) hb); have n2_ := Aside0.mk (blk_below (g := gb179) (o := .cells #[.int .i64 x180000_1, .string x180001_24, .string ⟨#[]⟩, .int .i64 t196, .int .i64 t198, .slice none 0 0, .int .i64 x180006_24] 24 (0, 0)) (by (with_reducible repeat first | apply q1 | apply q2 | apply q3); refine blk_put (cs := #[.int .i64 x180000_1, .string x180001_24, .string ⟨#[]⟩, .int .i64 t196, .int .i64 0, .slice none 0 0, .int .i64 x180006_24]) ?_ 4 _ rfl; (with_reducible repeat first | apply q1 | apply q2 | apply q3); exact BK179.out) hb); have n3_ := Aside0.mk (below_step (by repeat (first | (with_reducible first | exact HB.out | apply s1 | apply s2 | apply s3 | refine s4 ?_ GE169.out | refine s4 ?_ GE179.out) | exact HB.out)) hb); clear HO_4; clear BK169; clear BK179; clear HB; have HO_4 := n0_; have BK169 := n1_; have BK179 := n2_; have HB := n3_; clear n0_ n1_ n2_ n3_; (try clear hb); (try clear hb2); (try clear hk); (try clear hi); have hcz125_0 : w124.cell? ⟨gb179, 0, none⟩ = some (.int .i64 x180000_1) := (blk_cell BK179.out 0).trans rfl; have hcz125_1 : w124.cell? ⟨gb179, 1, none⟩ = some (.string x180001_24) := (blk_cell BK179.out 1).trans rfl; have hcz125_2 : w124.cell? ⟨gb179, 2, none⟩ = some (.string ⟨#[]⟩) := (blk_cell BK179.out 2).trans rfl; have hcz125_3 : w124.cell? ⟨gb179, 3, none⟩ = some (.int .i64 t196) := (blk_cell BK179.out 3).trans rfl; have hcz125_4 : w124.cell? ⟨gb179, 4, none⟩ = some (.int .i64 t198) := (blk_cell BK179.out 4).trans rfl; have hcz125_5 : w124.cell? ⟨gb179, 5, none⟩ = some (.slice none 0 0) := (blk_cell BK179.out 5).trans rfl; have hcz125_6 : w124.cell? ⟨gb179, 6, none⟩ = some (.int .i64 x180006_24) := (blk_cell BK179.out 6).trans rfl; have hfz125_0 := blk_frozen BK179.out 0; have hfz125_1 := blk_frozen BK179.out 1; have hfz125_2 := blk_frozen BK179.out 2; have hfz125_3 := blk_frozen BK179.out 3; have hfz125_4 := blk_frozen BK179.out 4; have hfz125_5 := blk_frozen BK179.out 5; have hfz125_6 := blk_frozen BK179.out 6; have hcz126_0 : w124.cell? ⟨gb169, 0, none⟩ = some (.int .i64 0) := (blk_cell BK169.out 0).trans rfl; have hcz126_1 : w124.cell? ⟨gb169, 1, none⟩ = some (.string ⟨#[]⟩) := (blk_cell BK169.out 1).trans rfl; have hcz126_2 : w124.cell? ⟨gb169, 2, none⟩ = some (.string ⟨#[]⟩) := (blk_cell BK169.out 2).trans rfl; have hcz126_3 : w124.cell? ⟨gb169, 3, none⟩ = some (.int .i64 0) := (blk_cell BK169.out 3).trans rfl; have hcz126_4 : w124.cell? ⟨gb169, 4, none⟩ = some (.int .i64 0) := (blk_cell BK169.out 4).trans rfl; have hcz126_5 : w124.cell? ⟨gb169, 5, none⟩ = some (.slice none 0 0) := (blk_cell BK169.out 5).trans rfl; have hcz126_6 : w124.cell? ⟨gb169, 6, none⟩ = some (.int .i64 0) := (blk_cell BK169.out 6).trans rfl; have hfz126_0 := blk_frozen BK169.out 0; have hfz126_1 := blk_frozen BK169.out 1; have hfz126_2 := blk_frozen BK169.out 2; have hfz126_3 := blk_frozen BK169.out 3; have hfz126_4 := blk_frozen BK169.out 4; have hfz126_5 := blk_frozen BK169.out 5; have hfz126_6 := blk_frozen BK169.out 6))
                refine bodyPost_ret (results_ct rfl _ _ gb169 24 #[.int .i64 x180000_1, .string x180001_24, .string ⟨#[]⟩, .int .i64 t196, .int .i64 t198, .slice none 0 0, .int .i64 x180006_24] (0, 0) _ rfl (by (with_reducible repeat first | apply q1 | apply q2 | apply q3); refine blk_put (cs := #[.int .i64 x180000_1, .string x180001_24, .string ⟨#[]⟩, .int .i64 t196, .int .i64 t198, .slice none 0 0, .int .i64 0]) ?_ 6 _ rfl; refine q5 ?_ 5 _ rfl; refine blk_put (cs := #[.int .i64 x180000_1, .string x180001_24, .string ⟨#[]⟩, .int .i64 t196, .int .i64 0, .slice none 0 0, .int .i64 0]) ?_ 4 _ rfl; refine blk_put (cs := #[.int .i64 x180000_1, .string x180001_24, .string ⟨#[]⟩, .int .i64 0, .int .i64 0, .slice none 0 0, .int .i64 0]) ?_ 3 _ rfl; refine q5 ?_ 2 _ rfl; refine blk_put (cs := #[.int .i64 x180000_1, .string ⟨#[]⟩, .string ⟨#[]⟩, .int .i64 0, .int .i64 0, .slice none 0 0, .int .i64 0]) ?_ 1 _ rfl; refine blk_put (cs := #[.int .i64 0, .string ⟨#[]⟩, .string ⟨#[]⟩, .int .i64 0, .int .i64 0, .slice none 0 0, .int .i64 0]) ?_ 0 _ rfl; (with_reducible repeat first | apply q1 | apply q2 | apply q3); exact BK169.out) Tryz.underlying24 rfl (by kernel_rfl)) rfl ?_
                exact ⟨_, by first | rfl | (simp [errW_none, errW_some] <;> rfl) | (simp [*, errW_none, errW_some] <;> rfl), by exact Kd.R_nil _ _ _ _ _, by repeat (first | (with_reducible first | exact HB.out | apply s1 | apply s2 | apply s3 | refine s4 ?_ GE169.out | refine s4 ?_ GE179.out) | exact HB.out)⟩
               ·rw [if_neg c117] at H
                have c117b0 : (t199.toList == a0.toList) = false := beq_eq_false_iff_ne.mpr c117
                have c117b1 : (t199.toList != a0.toList) = true := bne_iff_ne.mpr c117
                simp only [Option.some.injEq, Prod.mk.injEq] at H
                obtain ⟨rfl, rfl, rfl, rfl, rfl, rfl, rfl, rfl⟩ := H
                obtain ⟨Ao127, co127, eo127⟩ := Kd.R_slice HO_4.out
                subst eo127
                have p195 : 0 ≤ (2 : Int) := (by omega)
                have q195 : 2 < (y176.length : Int) := of_decide_eq_true (by first | (with_reducible assumption) | assumption)
                obtain ⟨ad195, e195, hx195_0⟩ := Kd.at_string (Kd.R_reads' HO_4.out).2.2 2 p195 q195
                cases e195
                (try simp only [show (2 : Int).toNat = 2 from rfl, Nat.reduceMul, Nat.reduceEqDiff, Go.Addr.add, ↓reduceIte] at hx195_0)
                have qi195 : (2 < y176.length) = True := eq_true (by omega)
                (try rw [show ((2 : Int)).toNat = 2 from rfl] at hx195_0)
                replace p195 := eq_true p195
                replace q195 := eq_true q195
                go_wp2_with (first | ((with_reducible refine gate_callee (f := 44) rfl ?_); refine goesL_ (some 71) rfl rfl Tryz.func44 (by kernel_rfl) rfl #[.string (rdOf ByteArray.empty y176 2)] rfl (by (try simp only [List.map_toArray, List.map_cons, List.map_nil]); first | done | rfl | (simp only [List.length_drop, List.length_take]; rfl)) ?_; (with_reducible refine (hist_Num.calls (rdOf ByteArray.empty y176 2) t196 _ A105.out ?hT_).mono ?_); (case hT_ => exact Tabs.after HT.out (by repeat (first | (with_reducible first | exact HB.out | apply s1 | apply s2 | apply s3 | refine s4 ?_ GE169.out | refine s4 ?_ GE179.out) | exact HB.out))); rintro e w128 ⟨rfl, hb⟩; refine ⟨_, rfl, ?_⟩; have n0_ := Aside0.mk (Kd.R_below (by (with_reducible repeat first | apply r1 | apply r2 | apply r3); exact HO_4.out) hb); have n1_ := Aside0.mk (blk_below (g := gb169) (o := .cells #[.int .i64 0, .string ⟨#[]⟩, .string ⟨#[]⟩, .int .i64 0, .int .i64 0, .slice none 0 0, .int .i64 0] 24 (0, 0)) (by (with_reducible repeat first | apply q1 | apply q2 | apply q3); exact BK169.out) hb); have n2_ := Aside0.mk (blk_below (g := gb179) (o := .cells #[.int .i64 x180000_1, .string x180001_24, .string ⟨#[]⟩, .int .i64 0, .int .i64 0, .slice none 0 0, .int .i64 x180006_24] 24 (0, 0)) (by (with_reducible repeat first | apply q1 | apply q2 | apply q3); exact BK179.out) hb); have n3_ := Aside0.mk (below_step (by repeat (first | (with_reducible first | exact HB.out | apply s1 | apply s2 | apply s3 | refine s4 ?_ GE169.out | refine s4 ?_ GE179.out) | exact HB.out)) hb); clear HO_4; clear BK169; clear BK179; clear HB; have HO_4 := n0_; have BK169 := n1_; have BK179 := n2_; have HB := n3_; clear n0_ n1_ n2_ n3_; (try clear hb); (try clear hb2); (try clear hk); (try clear hi); have hnb129 := NB179_169.out; have hnc129 := NB169_179.out; have hcz130_0 : w128.cell? ⟨gb179, 0, none⟩ = some (.int .i64 x180000_1) := (blk_cell BK179.out 0).trans rfl; have hcz130_1 : w128.cell? ⟨gb179, 1, none⟩ = some (.string x180001_24) := (blk_cell BK179.out 1).trans rfl; have hcz130_2 : w128.cell? ⟨gb179, 2, none⟩ = some (.string ⟨#[]⟩) := (blk_cell BK179.out 2).trans rfl; have hcz130_3 : w128.cell? ⟨gb179, 3, none⟩ = some (.int .i64 0) := (blk_cell BK179.out 3).trans rfl; have hcz130_4 : w128.cell? ⟨gb179, 4, none⟩ = some (.int .i64 0) := (blk_cell BK179.out 4).trans rfl; have hcz130_5 : w128.cell? ⟨gb179, 5, none⟩ = some (.slice none 0 0) := (blk_cell BK179.out 5).trans rfl; have hcz130_6 : w128.cell? ⟨gb179, 6, none⟩ = some (.int .i64 x180006_24) := (blk_cell BK179.out 6).trans rfl; have hfz130_0 := blk_frozen BK179.out 0; have hfz130_1 := blk_frozen BK179.out 1; have hfz130_2 := blk_frozen BK179.out 2; have hfz130_3 := blk_frozen BK179.out 3; have hfz130_4 := blk_frozen BK179.out 4; have hfz130_5 := blk_frozen BK179.out 5; have hfz130_6 := blk_frozen BK179.out 6; have p197 : 0 ≤ (3 : Int) := (by omega); have q197 : 3 < (y176.length : Int) := of_decide_eq_true (by first | (with_reducible assumption) | assumption); obtain ⟨ad197, e197, hx197_0⟩ := Kd.at_string (Kd.R_reads' HO_4.out).2.2 3 p197 q197; obtain rfl : ad195 = ad197 := (by injection e197); (try simp only [show (3 : Int).toNat = 3 from rfl, Nat.reduceMul, Nat.reduceEqDiff, Go.Addr.add, ↓reduceIte] at hx197_0); have qi197 : (3 < y176.length) = True := eq_true (by omega); (try rw [show ((3 : Int)).toNat = 3 from rfl] at hx197_0); have hn197_0 : ad195.block ≠ gb179 := Kd.own_blk (Kd.R_ne HO_4.out BK179.out (by decide)); replace hx197_0 := (cell_far (p := ⟨gb179, 3, none⟩) (by first | (rw [add_block]; exact hn197_0) | (show (Addr.add _ _).block ≠ _; rw [add_block]; exact hn197_0) | exact hn197_0) (.int .i64 t196)).trans hx197_0; clear hn197_0; replace p197 := eq_true p197; replace q197 := eq_true q197) | ((with_reducible refine gate_callee (f := 44) rfl ?_); refine goesL_ (some 76) rfl rfl Tryz.func44 (by kernel_rfl) rfl #[.string (rdOf ByteArray.empty y176 3)] rfl (by (try simp only [List.map_toArray, List.map_cons, List.map_nil]); first | done | rfl | (simp only [List.length_drop, List.length_take]; rfl)) ?_; (with_reducible refine (hist_Num.calls (rdOf ByteArray.empty y176 3) t198 _ A107.out ?hT_).mono ?_); (case hT_ => exact Tabs.after HT.out (by repeat (first | (with_reducible first | exact HB.out | apply s1 | apply s2 | apply s3 | refine s4 ?_ GE169.out | refine s4 ?_ GE179.out) | exact HB.out))); rintro e w131 ⟨rfl, hb⟩; refine ⟨_, rfl, ?_⟩; have n0_ := Aside0.mk (Kd.R_below (by (with_reducible repeat first | apply r1 | apply r2 | apply r3); exact (Kd.R_mono (Kd.R_far (p := ⟨gb179, 3, none⟩) (Kd.R_types HO_4.out BK179.out (by decide)) (fun _ hk => hk.2) (.int .i64 t196)) (fun _ h_ => h_.1))) hb); have n1_ := Aside0.mk (blk_below (g := gb169) (o := .cells #[.int .i64 0, .string ⟨#[]⟩, .string ⟨#[]⟩, .int .i64 0, .int .i64 0, .slice none 0 0, .int .i64 0] 24 (0, 0)) (by (with_reducible repeat first | apply q1 | apply q2 | apply q3); refine blk_far ?_ NB169_179.out _; (with_reducible repeat first | apply q1 | apply q2 | apply q3); exact BK169.out) hb); have n2_ := Aside0.mk (blk_below (g := gb179) (o := .cells #[.int .i64 x180000_1, .string x180001_24, .string ⟨#[]⟩, .int .i64 t196, .int .i64 0, .slice none 0 0, .int .i64 x180006_24] 24 (0, 0)) (by (with_reducible repeat first | apply q1 | apply q2 | apply q3); refine blk_put (cs := #[.int .i64 x180000_1, .string x180001_24, .string ⟨#[]⟩, .int .i64 0, .int .i64 0, .slice none 0 0, .int .i64 x180006_24]) ?_ 3 _ rfl; (with_reducible repeat first | apply q1 | apply q2 | apply q3); exact BK179.out) hb); have n3_ := Aside0.mk (below_step (by repeat (first | (with_reducible first | exact HB.out | apply s1 | apply s2 | apply s3 | refine s4 ?_ GE169.out | refine s4 ?_ GE179.out) | exact HB.out)) hb); clear HO_4; clear BK169; clear BK179; clear HB; have HO_4 := n0_; have BK169 := n1_; have BK179 := n2_; have HB := n3_; clear n0_ n1_ n2_ n3_; (try clear hb); (try clear hb2); (try clear hk); (try clear hi); have hcz132_0 : w131.cell? ⟨gb179, 0, none⟩ = some (.int .i64 x180000_1) := (blk_cell BK179.out 0).trans rfl; have hcz132_1 : w131.cell? ⟨gb179, 1, none⟩ = some (.string x180001_24) := (blk_cell BK179.out 1).trans rfl; have hcz132_2 : w131.cell? ⟨gb179, 2, none⟩ = some (.string ⟨#[]⟩) := (blk_cell BK179.out 2).trans rfl; have hcz132_3 : w131.cell? ⟨gb179, 3, none⟩ = some (.int .i64 t196) := (blk_cell BK179.out 3).trans rfl; have hcz132_4 : w131.cell? ⟨gb179, 4, none⟩ = some (.int .i64 0) := (blk_cell BK179.out 4).trans rfl; have hcz132_5 : w131.cell? ⟨gb179, 5, none⟩ = some (.slice none 0 0) := (blk_cell BK179.out 5).trans rfl; have hcz132_6 : w131.cell? ⟨gb179, 6, none⟩ = some (.int .i64 x180006_24) := (blk_cell BK179.out 6).trans rfl; have hfz132_0 := blk_frozen BK179.out 0; have hfz132_1 := blk_frozen BK179.out 1; have hfz132_2 := blk_frozen BK179.out 2; have hfz132_3 := blk_frozen BK179.out 3; have hfz132_4 := blk_frozen BK179.out 4; have hfz132_5 := blk_frozen BK179.out 5; have hfz132_6 := blk_frozen BK179.out 6) | (go_at_call 11; (refine (hist_Op.calls kj43 x180000_1 x180001_24 (⟨#[]⟩ : ByteArray) t196 t198 _ _ ([] : List Int) x180006_24 t199 _ ?side1 ?side2 A116.out ?hT_).mono ?_); (case hT_ => exact Tabs.after HT.out (by repeat (first | (with_reducible first | exact HB.out | apply s1 | apply s2 | apply s3 | refine s4 ?_ GE169.out | refine s4 ?_ GE179.out) | exact HB.out))); (case side1 => exact Kd.C_nil _ _); (case side2 => exact Nat.le_refl _); rintro e w133 ⟨rfl, hb⟩; have n0_ := Aside0.mk (Kd.R_below (by (with_reducible repeat first | apply r1 | apply r2 | apply r3); exact (Kd.R_mono (Kd.R_far (p := ⟨gb179, 4, none⟩) (Kd.R_types HO_4.out BK179.out (by decide)) (fun _ hk => hk.2) (.int .i64 t198)) (fun _ h_ => h_.1))) hb); have n1_ := Aside0.mk (blk_below (g := gb169) (o := .cells #[.int .i64 0, .string ⟨#[]⟩, .string ⟨#[]⟩, .int .i64 0, .int .i64 0, .slice none 0 0, .int .i64 0] 24 (0, 0)) (by (with_reducible repeat first | apply q1 | apply q2 | apply q3); refine blk_far ?_ NB169_179.out _; (with_reducible repeat first | apply q1 | apply q2 | apply q3); exact BK169.out) hb); have n2_ := Aside0.mk (blk_below (g := gb179) (o := .cells #[.int .i64 x180000_1, .string x180001_24, .string ⟨#[]⟩, .int .i64 t196, .int .i64 t198, .slice none 0 0, .int .i64 x180006_24] 24 (0, 0)) (by (with_reducible repeat first | apply q1 | apply q2 | apply q3); refine blk_put (cs := #[.int .i64 x180000_1, .string x180001_24, .string ⟨#[]⟩, .int .i64 t196, .int .i64 0, .slice none 0 0, .int .i64 x180006_24]) ?_ 4 _ rfl; (with_reducible repeat first | apply q1 | apply q2 | apply q3); exact BK179.out) hb); have n3_ := Aside0.mk (below_step (by repeat (first | (with_reducible first | exact HB.out | apply s1 | apply s2 | apply s3 | refine s4 ?_ GE169.out | refine s4 ?_ GE179.out) | exact HB.out)) hb); clear HO_4; clear BK169; clear BK179; clear HB; have HO_4 := n0_; have BK169 := n1_; have BK179 := n2_; have HB := n3_; clear n0_ n1_ n2_ n3_; (try clear hb); (try clear hb2); (try clear hk); (try clear hi); have hcz134_0 : w133.cell? ⟨gb169, 0, none⟩ = some (.int .i64 0) := (blk_cell BK169.out 0).trans rfl; have hcz134_1 : w133.cell? ⟨gb169, 1, none⟩ = some (.string ⟨#[]⟩) := (blk_cell BK169.out 1).trans rfl; have hcz134_2 : w133.cell? ⟨gb169, 2, none⟩ = some (.string ⟨#[]⟩) := (blk_cell BK169.out 2).trans rfl; have hcz134_3 : w133.cell? ⟨gb169, 3, none⟩ = some (.int .i64 0) := (blk_cell BK169.out 3).trans rfl; have hcz134_4 : w133.cell? ⟨gb169, 4, none⟩ = some (.int .i64 0) := (blk_cell BK169.out 4).trans rfl; have hcz134_5 : w133.cell? ⟨gb169, 5, none⟩ = some (.slice none 0 0) := (blk_cell BK169.out 5).trans rfl; have hcz134_6 : w133.cell? ⟨gb169, 6, none⟩ = some (.int .i64 0) := (blk_cell BK169.out 6).trans rfl; have hfz134_0 := blk_frozen BK169.out 0; have hfz134_1 := blk_frozen BK169.out 1; have hfz134_2 := blk_frozen BK169.out 2; have hfz134_3 := blk_frozen BK169.out 3; have hfz134_4 := blk_frozen BK169.out 4; have hfz134_5 := blk_frozen BK169.out 5; have hfz134_6 := blk_frozen BK169.out 6))
                refine bodyPost_ret (results_ct rfl _ _ gb169 24 #[.int .i64 0, .string ⟨#[]⟩, .string ⟨#[]⟩, .int .i64 0, .int .i64 0, .slice none 0 0, .int .i64 0] (0, 0) _ rfl (by (with_reducible repeat first | apply q1 | apply q2 | apply q3); refine q5 ?_ 6 _ rfl; refine q5 ?_ 5 _ rfl; refine q5 ?_ 4 _ rfl; refine q5 ?_ 3 _ rfl; refine q5 ?_ 2 _ rfl; refine q5 ?_ 1 _ rfl; refine q5 ?_ 0 _ rfl; (with_reducible repeat first | apply q1 | apply q2 | apply q3); exact BK169.out) Tryz.underlying24 rfl (by kernel_rfl)) rfl ?_
                exact ⟨_, by first | rfl | (simp [errW_none, errW_some] <;> rfl) | (simp [*, errW_none, errW_some] <;> rfl), by exact Kd.R_nil _ _ _ _ _, by repeat (first | (with_reducible first | exact HB.out | apply s1 | apply s2 | apply s3 | refine s4 ?_ GE169.out | refine s4 ?_ GE179.out) | exact HB.out)⟩
             ·rw [if_neg c106] at H
              exact absurd H (by simp)
            ·rw [if_neg c104] at H
             exact absurd H (by simp)
           ·rw [if_neg c103] at H
            have c103b0 : (x180000_1 == 7) = false := beq_eq_false_iff_ne.mpr c103
            have c103b1 : (x180000_1 != 7) = true := bne_iff_ne.mpr c103
            by_cases c135 : x180000_1 = 9
            ·rw [if_pos c135] at H
             have c135b0 : (x180000_1 == 9) = true := beq_iff_eq.mpr c135
             have c135b1 : (x180000_1 != 9) = false := bne_eq_false_iff_eq.mpr c135
             clear c135
             by_cases c136 : 2 < (y176.length : Int)
             ·rw [if_pos c136] at H
              have c136b0 : decide (2 < (y176.length : Int)) = true := decide_eq_true c136
              have c136b1 : decide (2 < y176.length) = true := decide_eq_true (by omega)
              clear c136
              replace H := Option.bind_eq_some_iff.mp H
              obtain ⟨t201, A1370, H⟩ := H
              try dsimp only at H
              have A137 := Aside0.mk A1370
              clear A1370
              by_cases c138 : a0.toList = ([] : List UInt8)
              ·rw [if_pos c138] at H
               have c138b0 : (a0.toList == ([] : List UInt8)) = true := beq_iff_eq.mpr c138
               have c138b1 : (a0.toList != ([] : List UInt8)) = false := bne_eq_false_iff_eq.mpr c138
               clear c138
               simp only [Option.some.injEq, Prod.mk.injEq] at H
               obtain ⟨rfl, rfl, rfl, rfl, rfl, rfl, rfl, rfl⟩ := H
               obtain ⟨Ao139, co139, eo139⟩ := Kd.R_slice HO_4.out
               subst eo139
               have p200 : 0 ≤ (2 : Int) := (by omega)
               have q200 : 2 < (y176.length : Int) := of_decide_eq_true (by first | (with_reducible assumption) | assumption)
               obtain ⟨ad200, e200, hx200_0⟩ := Kd.at_string (Kd.R_reads' HO_4.out).2.2 2 p200 q200
               cases e200
               (try simp only [show (2 : Int).toNat = 2 from rfl, Nat.reduceMul, Nat.reduceEqDiff, Go.Addr.add, ↓reduceIte] at hx200_0)
               have qi200 : (2 < y176.length) = True := eq_true (by omega)
               (try rw [show ((2 : Int)).toNat = 2 from rfl] at hx200_0)
               replace p200 := eq_true p200
               replace q200 := eq_true q200
               go_wp2_with (first | ((with_reducible refine gate_callee (f := 44) rfl ?_); refine goesL_ (some 83) rfl rfl Tryz.func44 (by kernel_rfl) rfl #[.string (rdOf ByteArray.empty y176 2)] rfl (by (try simp only [List.map_toArray, List.map_cons, List.map_nil]); first | done | rfl | (simp only [List.length_drop, List.length_take]; rfl)) ?_; (with_reducible refine (hist_Num.calls (rdOf ByteArray.empty y176 2) t201 _ A137.out ?hT_).mono ?_); (case hT_ => exact Tabs.after HT.out (by repeat (first | (with_reducible first | exact HB.out | apply s1 | apply s2 | apply s3 | refine s4 ?_ GE169.out | refine s4 ?_ GE179.out) | exact HB.out))); rintro e w140 ⟨rfl, hb⟩; refine ⟨_, rfl, ?_⟩; have n0_ := Aside0.mk (Kd.R_below (by (with_reducible repeat first | apply r1 | apply r2 | apply r3); exact HO_4.out) hb); have n1_ := Aside0.mk (blk_below (g := gb169) (o := .cells #[.int .i64 0, .string ⟨#[]⟩, .string ⟨#[]⟩, .int .i64 0, .int .i64 0, .slice none 0 0, .int .i64 0] 24 (0, 0)) (by (with_reducible repeat first | apply q1 | apply q2 | apply q3); exact BK169.out) hb); have n2_ := Aside0.mk (blk_below (g := gb179) (o := .cells #[.int .i64 x180000_1, .string x180001_24, .string ⟨#[]⟩, .int .i64 0, .int .i64 0, .slice none 0 0, .int .i64 x180006_24] 24 (0, 0)) (by (with_reducible repeat first | apply q1 | apply q2 | apply q3); exact BK179.out) hb); have n3_ := Aside0.mk (below_step (by repeat (first | (with_reducible first | exact HB.out | apply s1 | apply s2 | apply s3 | refine s4 ?_ GE169.out | refine s4 ?_ GE179.out) | exact HB.out)) hb); clear HO_4; clear BK169; clear BK179; clear HB; have HO_4 := n0_; have BK169 := n1_; have BK179 := n2_; have HB := n3_; clear n0_ n1_ n2_ n3_; (try clear hb); (try clear hb2); (try clear hk); (try clear hi); have hnb141 := NB179_169.out; have hnc141 := NB169_179.out; have hcz142_0 : w140.cell? ⟨gb179, 0, none⟩ = some (.int .i64 x180000_1) := (blk_cell BK179.out 0).trans rfl; have hcz142_1 : w140.cell? ⟨gb179, 1, none⟩ = some (.string x180001_24) := (blk_cell BK179.out 1).trans rfl; have hcz142_2 : w140.cell? ⟨gb179, 2, none⟩ = some (.string ⟨#[]⟩) := (blk_cell BK179.out 2).trans rfl; have hcz142_3 : w140.cell? ⟨gb179, 3, none⟩ = some (.int .i64 0) := (blk_cell BK179.out 3).trans rfl; have hcz142_4 : w140.cell? ⟨gb179, 4, none⟩ = some (.int .i64 0) := (blk_cell BK179.out 4).trans rfl; have hcz142_5 : w140.cell? ⟨gb179, 5, none⟩ = some (.slice none 0 0) := (blk_cell BK179.out 5).trans rfl; have hcz142_6 : w140.cell? ⟨gb179, 6, none⟩ = some (.int .i64 x180006_24) := (blk_cell BK179.out 6).trans rfl; have hfz142_0 := blk_frozen BK179.out 0; have hfz142_1 := blk_frozen BK179.out 1; have hfz142_2 := blk_frozen BK179.out 2; have hfz142_3 := blk_frozen BK179.out 3; have hfz142_4 := blk_frozen BK179.out 4; have hfz142_5 := blk_frozen BK179.out 5; have hfz142_6 := blk_frozen BK179.out 6; have hcz143_0 : w140.cell? ⟨gb169, 0, none⟩ = some (.int .i64 0) := (blk_cell BK169.out 0).trans rfl; have hcz143_1 : w140.cell? ⟨gb169, 1, none⟩ = some (.string ⟨#[]⟩) := (blk_cell BK169.out 1).trans rfl; have hcz143_2 : w140.cell? ⟨gb169, 2, none⟩ = some (.string ⟨#[]⟩) := (blk_cell BK169.out 2).trans rfl; have hcz143_3 : w140.cell? ⟨gb169, 3, none⟩ = some (.int .i64 0) := (blk_cell BK169.out 3).trans rfl; have hcz143_4 : w140.cell? ⟨gb169, 4, none⟩ = some (.int .i64 0) := (blk_cell BK169.out 4).trans rfl; have hcz143_5 : w140.cell? ⟨gb169, 5, none⟩ = some (.slice none 0 0) := (blk_cell BK169.out 5).trans rfl; have hcz143_6 : w140.cell? ⟨gb169, 6, none⟩ = some (.int .i64 0) := (blk_cell BK169.out 6).trans rfl; have hfz143_0 := blk_frozen BK169.out 0; have hfz143_1 := blk_frozen BK169.out 1; have hfz143_2 := blk_frozen BK169.out 2; have hfz143_3 := blk_frozen BK169.out 3; have hfz143_4 := blk_frozen BK169.out 4; have hfz143_5 := blk_frozen BK169.out 5; have hfz143_6 := blk_frozen BK169.out 6))
               refine bodyPost_ret (results_ct rfl _ _ gb169 24 #[.int .i64 0, .string ⟨#[]⟩, .string ⟨#[]⟩, .int .i64 0, .int .i64 0, .slice none 0 0, .int .i64 0] (0, 0) _ rfl (by (with_reducible repeat first | apply q1 | apply q2 | apply q3); refine q5 ?_ 6 _ rfl; refine q5 ?_ 5 _ rfl; refine q5 ?_ 4 _ rfl; refine q5 ?_ 3 _ rfl; refine q5 ?_ 2 _ rfl; refine q5 ?_ 1 _ rfl; refine q5 ?_ 0 _ rfl; (with_reducible repeat first | apply q1 | apply q2 | apply q3); refine blk_far ?_ NB169_179.out _; (with_reducible repeat first | apply q1 | apply q2 | apply q3); exact BK169.out) Tryz.underlying24 rfl (by kernel_rfl)) rfl ?_
               exact ⟨_, by first | rfl | (simp [errW_none, errW_some] <;> rfl) | (simp [*, errW_none, errW_some] <;> rfl), by exact Kd.R_nil _ _ _ _ _, by repeat (first | (with_reducible first | exact HB.out | apply s1 | apply s2 | apply s3 | refine s4 ?_ GE169.out | refine s4 ?_ GE179.out) | exact HB.out)⟩
              ·rw [if_neg c138] at H
               have c138b0 : (a0.toList == ([] : List UInt8)) = false := beq_eq_false_iff_ne.mpr c138
               have c138b1 : (a0.toList != ([] : List UInt8)) = true := bne_iff_ne.mpr c138
               replace H := Option.bind_eq_some_iff.mp H
               obtain ⟨t202, A1440, H⟩ := H
               try dsimp only at H
               have A144 := Aside0.mk A1440
               clear A1440
               by_cases c145 : t202.toList = a0.toList
               ·rw [if_pos c145] at H
                have c145b0 : (t202.toList == a0.toList) = true := beq_iff_eq.mpr c145
                have c145b1 : (t202.toList != a0.toList) = false := bne_eq_false_iff_eq.mpr c145
                clear c145
                simp only [Option.some.injEq, Prod.mk.injEq] at H
                obtain ⟨rfl, rfl, rfl, rfl, rfl, rfl, rfl, rfl⟩ := H
                obtain ⟨Ao146, co146, eo146⟩ := Kd.R_slice HO_4.out
                subst eo146
                have p200 : 0 ≤ (2 : Int) := (by omega)
                have q200 : 2 < (y176.length : Int) := of_decide_eq_true (by first | (with_reducible assumption) | assumption)
                obtain ⟨ad200, e200, hx200_0⟩ := Kd.at_string (Kd.R_reads' HO_4.out).2.2 2 p200 q200
                cases e200
                (try simp only [show (2 : Int).toNat = 2 from rfl, Nat.reduceMul, Nat.reduceEqDiff, Go.Addr.add, ↓reduceIte] at hx200_0)
                have qi200 : (2 < y176.length) = True := eq_true (by omega)
                (try rw [show ((2 : Int)).toNat = 2 from rfl] at hx200_0)
                replace p200 := eq_true p200
                replace q200 := eq_true q200
                go_wp2_with (first | ((with_reducible refine gate_callee (f := 44) rfl ?_); refine goesL_ (some 83) rfl rfl Tryz.func44 (by kernel_rfl) rfl #[.string (rdOf ByteArray.empty y176 2)] rfl (by (try simp only [List.map_toArray, List.map_cons, List.map_nil]); first | done | rfl | (simp only [List.length_drop, List.length_take]; rfl)) ?_; (with_reducible refine (hist_Num.calls (rdOf ByteArray.empty y176 2) t201 _ A137.out ?hT_).mono ?_); (case hT_ => exact Tabs.after HT.out (by repeat (first | (with_reducible first | exact HB.out | apply s1 | apply s2 | apply s3 | refine s4 ?_ GE169.out | refine s4 ?_ GE179.out) | exact HB.out))); rintro e w147 ⟨rfl, hb⟩; refine ⟨_, rfl, ?_⟩; have n0_ := Aside0.mk (Kd.R_below (by (with_reducible repeat first | apply r1 | apply r2 | apply r3); exact HO_4.out) hb); have n1_ := Aside0.mk (blk_below (g := gb169) (o := .cells #[.int .i64 0, .string ⟨#[]⟩, .string ⟨#[]⟩, .int .i64 0, .int .i64 0, .slice none 0 0, .int .i64 0] 24 (0, 0)) (by (with_reducible repeat first | apply q1 | apply q2 | apply q3); exact BK169.out) hb); have n2_ := Aside0.mk (blk_below (g := gb179) (o := .cells #[.int .i64 x180000_1, .string x180001_24, .string ⟨#[]⟩, .int .i64 0, .int .i64 0, .slice none 0 0, .int .i64 x180006_24] 24 (0, 0)) (by (with_reducible repeat first | apply q1 | apply q2 | apply q3); exact BK179.out) hb); have n3_ := Aside0.mk (below_step (by repeat (first | (with_reducible first | exact HB.out | apply s1 | apply s2 | apply s3 | refine s4 ?_ GE169.out | refine s4 ?_ GE179.out) | exact HB.out)) hb); clear HO_4; clear BK169; clear BK179; clear HB; have HO_4 := n0_; have BK169 := n1_; have BK179 := n2_; have HB := n3_; clear n0_ n1_ n2_ n3_; (try clear hb); (try clear hb2); (try clear hk); (try clear hi); have hnb148 := NB179_169.out; have hnc148 := NB169_179.out; have hcz149_0 : w147.cell? ⟨gb179, 0, none⟩ = some (.int .i64 x180000_1) := (blk_cell BK179.out 0).trans rfl; have hcz149_1 : w147.cell? ⟨gb179, 1, none⟩ = some (.string x180001_24) := (blk_cell BK179.out 1).trans rfl; have hcz149_2 : w147.cell? ⟨gb179, 2, none⟩ = some (.string ⟨#[]⟩) := (blk_cell BK179.out 2).trans rfl; have hcz149_3 : w147.cell? ⟨gb179, 3, none⟩ = some (.int .i64 0) := (blk_cell BK179.out 3).trans rfl; have hcz149_4 : w147.cell? ⟨gb179, 4, none⟩ = some (.int .i64 0) := (blk_cell BK179.out 4).trans rfl; have hcz149_5 : w147.cell? ⟨gb179, 5, none⟩ = some (.slice none 0 0) := (blk_cell BK179.out 5).trans rfl; have hcz149_6 : w147.cell? ⟨gb179, 6, none⟩ = some (.int .i64 x180006_24) := (blk_cell BK179.out 6).trans rfl; have hfz149_0 := blk_frozen BK179.out 0; have hfz149_1 := blk_frozen BK179.out 1; have hfz149_2 := blk_frozen BK179.out 2; have hfz149_3 := blk_frozen BK179.out 3; have hfz149_4 := blk_frozen BK179.out 4; have hfz149_5 := blk_frozen BK179.out 5; have hfz149_6 := blk_frozen BK179.out 6) | (go_at_call 11; (refine (hist_Op.calls kj43 x180000_1 x180001_24 (⟨#[]⟩ : ByteArray) 0 t201 _ _ ([] : List Int) x180006_24 t202 _ ?side1 ?side2 A144.out ?hT_).mono ?_); (case hT_ => exact Tabs.after HT.out (by repeat (first | (with_reducible first | exact HB.out | apply s1 | apply s2 | apply s3 | refine s4 ?_ GE169.out | refine s4 ?_ GE179.out) | exact HB.out))); (case side1 => exact Kd.C_nil _ _); (case side2 => exact Nat.le_refl _); rintro e w150 ⟨rfl, hb⟩; have n0_ := Aside0.mk (Kd.R_below (by (with_reducible repeat first | apply r1 | apply r2 | apply r3); exact (Kd.R_mono (Kd.R_far (p := ⟨gb179, 4, none⟩) (Kd.R_types HO_4.out BK179.out (by decide)) (fun _ hk => hk.2) (.int .i64 t201)) (fun _ h_ => h_.1))) hb); have n1_ := Aside0.mk (blk_below (g := gb169) (o := .cells #[.int .i64 0, .string ⟨#[]⟩, .string ⟨#[]⟩, .int .i64 0, .int .i64 0, .slice none 0 0, .int .i64 0] 24 (0, 0)) (by (with_reducible repeat first | apply q1 | apply q2 | apply q3); refine blk_far ?_ NB169_179.out _; (with_reducible repeat first | apply q1 | apply q2 | apply q3); exact BK169.out) hb); have n2_ := Aside0.mk (blk_below (g := gb179) (o := .cells #[.int .i64 x180000_1, .string x180001_24, .string ⟨#[]⟩, .int .i64 0, .int .i64 t201, .slice none 0 0, .int .i64 x180006_24] 24 (0, 0)) (by (with_reducible repeat first | apply q1 | apply q2 | apply q3); refine blk_put (cs := #[.int .i64 x180000_1, .string x180001_24, .string ⟨#[]⟩, .int .i64 0, .int .i64 0, .slice none 0 0, .int .i64 x180006_24]) ?_ 4 _ rfl; (with_reducible repeat first | apply q1 | apply q2 | apply q3); exact BK179.out) hb); have n3_ := Aside0.mk (below_step (by repeat (first | (with_reducible first | exact HB.out | apply s1 | apply s2 | apply s3 | refine s4 ?_ GE169.out | refine s4 ?_ GE179.out) | exact HB.out)) hb); clear HO_4; clear BK169; clear BK179; clear HB; have HO_4 := n0_; have BK169 := n1_; have BK179 := n2_; have HB := n3_; clear n0_ n1_ n2_ n3_; (try clear hb); (try clear hb2); (try clear hk); (try clear hi); have hcz151_0 : w150.cell? ⟨gb179, 0, none⟩ = some (.int .i64 x180000_1) := (blk_cell BK179.out 0).trans rfl; have hcz151_1 : w150.cell? ⟨gb179, 1, none⟩ = some (.string x180001_24) := (blk_cell BK179.out 1).trans rfl; have hcz151_2 : w150.cell? ⟨gb179, 2, none⟩ = some (.string ⟨#[]⟩) := (blk_cell BK179.out 2).trans rfl; have hcz151_3 : w150.cell? ⟨gb179, 3, none⟩ = some (.int .i64 0) := (blk_cell BK179.out 3).trans rfl; have hcz151_4 : w150.cell? ⟨gb179, 4, none⟩ = some (.int .i64 t201) := (blk_cell BK179.out 4).trans rfl; have hcz151_5 : w150.cell? ⟨gb179, 5, none⟩ = some (.slice none 0 0) := (blk_cell BK179.out 5).trans rfl; have hcz151_6 : w150.cell? ⟨gb179, 6, none⟩ = some (.int .i64 x180006_24) := (blk_cell BK179.out 6).trans rfl; have hfz151_0 := blk_frozen BK179.out 0; have hfz151_1 := blk_frozen BK179.out 1; have hfz151_2 := blk_frozen BK179.out 2; have hfz151_3 := blk_frozen BK179.out 3; have hfz151_4 := blk_frozen BK179.out 4; have hfz151_5 := blk_frozen BK179.out 5; have hfz151_6 := blk_frozen BK179.out 6; have hcz152_0 : w150.cell? ⟨gb169, 0, none⟩ = some (.int .i64 0) := (blk_cell BK169.out 0).trans rfl; have hcz152_1 : w150.cell? ⟨gb169, 1, none⟩ = some (.string ⟨#[]⟩) := (blk_cell BK169.out 1).trans rfl; have hcz152_2 : w150.cell? ⟨gb169, 2, none⟩ = some (.string ⟨#[]⟩) := (blk_cell BK169.out 2).trans rfl; have hcz152_3 : w150.cell? ⟨gb169, 3, none⟩ = some (.int .i64 0) := (blk_cell BK169.out 3).trans rfl; have hcz152_4 : w150.cell? ⟨gb169, 4, none⟩ = some (.int .i64 0) := (blk_cell BK169.out 4).trans rfl; have hcz152_5 : w150.cell? ⟨gb169, 5, none⟩ = some (.slice none 0 0) := (blk_cell BK169.out 5).trans rfl; have hcz152_6 : w150.cell? ⟨gb169, 6, none⟩ = some (.int .i64 0) := (blk_cell BK169.out 6).trans rfl; have hfz152_0 := blk_frozen BK169.out 0; have hfz152_1 := blk_frozen BK169.out 1; have hfz152_2 := blk_frozen BK169.out 2; have hfz152_3 := blk_frozen BK169.out 3; have hfz152_4 := blk_frozen BK169.out 4; have hfz152_5 := blk_frozen BK169.out 5; have hfz152_6 := blk_frozen BK169.out 6))
                refine bodyPost_ret (results_ct rfl _ _ gb169 24 #[.int .i64 x180000_1, .string x180001_24, .string ⟨#[]⟩, .int .i64 0, .int .i64 t201, .slice none 0 0, .int .i64 x180006_24] (0, 0) _ rfl (by (with_reducible repeat first | apply q1 | apply q2 | apply q3); refine blk_put (cs := #[.int .i64 x180000_1, .string x180001_24, .string ⟨#[]⟩, .int .i64 0, .int .i64 t201, .slice none 0 0, .int .i64 0]) ?_ 6 _ rfl; refine q5 ?_ 5 _ rfl; refine blk_put (cs := #[.int .i64 x180000_1, .string x180001_24, .string ⟨#[]⟩, .int .i64 0, .int .i64 0, .slice none 0 0, .int .i64 0]) ?_ 4 _ rfl; refine q5 ?_ 3 _ rfl; refine q5 ?_ 2 _ rfl; refine blk_put (cs := #[.int .i64 x180000_1, .string ⟨#[]⟩, .string ⟨#[]⟩, .int .i64 0, .int .i64 0, .slice none 0 0, .int .i64 0]) ?_ 1 _ rfl; refine blk_put (cs := #[.int .i64 0, .string ⟨#[]⟩, .string ⟨#[]⟩, .int .i64 0, .int .i64 0, .slice none 0 0, .int .i64 0]) ?_ 0 _ rfl; (with_reducible repeat first | apply q1 | apply q2 | apply q3); exact BK169.out) Tryz.underlying24 rfl (by kernel_rfl)) rfl ?_
                exact ⟨_, by first | rfl | (simp [errW_none, errW_some] <;> rfl) | (simp [*, errW_none, errW_some] <;> rfl), by exact Kd.R_nil _ _ _ _ _, by repeat (first | (with_reducible first | exact HB.out | apply s1 | apply s2 | apply s3 | refine s4 ?_ GE169.out | refine s4 ?_ GE179.out) | exact HB.out)⟩
               ·rw [if_neg c145] at H
                have c145b0 : (t202.toList == a0.toList) = false := beq_eq_false_iff_ne.mpr c145
                have c145b1 : (t202.toList != a0.toList) = true := bne_iff_ne.mpr c145
                simp only [Option.some.injEq, Prod.mk.injEq] at H
                obtain ⟨rfl, rfl, rfl, rfl, rfl, rfl, rfl, rfl⟩ := H
                obtain ⟨Ao153, co153, eo153⟩ := Kd.R_slice HO_4.out
                subst eo153
                have p200 : 0 ≤ (2 : Int) := (by omega)
                have q200 : 2 < (y176.length : Int) := of_decide_eq_true (by first | (with_reducible assumption) | assumption)
                obtain ⟨ad200, e200, hx200_0⟩ := Kd.at_string (Kd.R_reads' HO_4.out).2.2 2 p200 q200
                cases e200
                (try simp only [show (2 : Int).toNat = 2 from rfl, Nat.reduceMul, Nat.reduceEqDiff, Go.Addr.add, ↓reduceIte] at hx200_0)
                have qi200 : (2 < y176.length) = True := eq_true (by omega)
                (try rw [show ((2 : Int)).toNat = 2 from rfl] at hx200_0)
                replace p200 := eq_true p200
                replace q200 := eq_true q200
                go_wp2_with (first | ((with_reducible refine gate_callee (f := 44) rfl ?_); refine goesL_ (some 83) rfl rfl Tryz.func44 (by kernel_rfl) rfl #[.string (rdOf ByteArray.empty y176 2)] rfl (by (try simp only [List.map_toArray, List.map_cons, List.map_nil]); first | done | rfl | (simp only [List.length_drop, List.length_take]; rfl)) ?_; (with_reducible refine (hist_Num.calls (rdOf ByteArray.empty y176 2) t201 _ A137.out ?hT_).mono ?_); (case hT_ => exact Tabs.after HT.out (by repeat (first | (with_reducible first | exact HB.out | apply s1 | apply s2 | apply s3 | refine s4 ?_ GE169.out | refine s4 ?_ GE179.out) | exact HB.out))); rintro e w154 ⟨rfl, hb⟩; refine ⟨_, rfl, ?_⟩; have n0_ := Aside0.mk (Kd.R_below (by (with_reducible repeat first | apply r1 | apply r2 | apply r3); exact HO_4.out) hb); have n1_ := Aside0.mk (blk_below (g := gb169) (o := .cells #[.int .i64 0, .string ⟨#[]⟩, .string ⟨#[]⟩, .int .i64 0, .int .i64 0, .slice none 0 0, .int .i64 0] 24 (0, 0)) (by (with_reducible repeat first | apply q1 | apply q2 | apply q3); exact BK169.out) hb); have n2_ := Aside0.mk (blk_below (g := gb179) (o := .cells #[.int .i64 x180000_1, .string x180001_24, .string ⟨#[]⟩, .int .i64 0, .int .i64 0, .slice none 0 0, .int .i64 x180006_24] 24 (0, 0)) (by (with_reducible repeat first | apply q1 | apply q2 | apply q3); exact BK179.out) hb); have n3_ := Aside0.mk (below_step (by repeat (first | (with_reducible first | exact HB.out | apply s1 | apply s2 | apply s3 | refine s4 ?_ GE169.out | refine s4 ?_ GE179.out) | exact HB.out)) hb); clear HO_4; clear BK169; clear BK179; clear HB; have HO_4 := n0_; have BK169 := n1_; have BK179 := n2_; have HB := n3_; clear n0_ n1_ n2_ n3_; (try clear hb); (try clear hb2); (try clear hk); (try clear hi); have hnb155 := NB179_169.out; have hnc155 := NB169_179.out; have hcz156_0 : w154.cell? ⟨gb179, 0, none⟩ = some (.int .i64 x180000_1) := (blk_cell BK179.out 0).trans rfl; have hcz156_1 : w154.cell? ⟨gb179, 1, none⟩ = some (.string x180001_24) := (blk_cell BK179.out 1).trans rfl; have hcz156_2 : w154.cell? ⟨gb179, 2, none⟩ = some (.string ⟨#[]⟩) := (blk_cell BK179.out 2).trans rfl; have hcz156_3 : w154.cell? ⟨gb179, 3, none⟩ = some (.int .i64 0) := (blk_cell BK179.out 3).trans rfl; have hcz156_4 : w154.cell? ⟨gb179, 4, none⟩ = some (.int .i64 0) := (blk_cell BK179.out 4).trans rfl; have hcz156_5 : w154.cell? ⟨gb179, 5, none⟩ = some (.slice none 0 0) := (blk_cell BK179.out 5).trans rfl; have hcz156_6 : w154.cell? ⟨gb179, 6, none⟩ = some (.int .i64 x180006_24) := (blk_cell BK179.out 6).trans rfl; have hfz156_0 := blk_frozen BK179.out 0; have hfz156_1 := blk_frozen BK179.out 1; have hfz156_2 := blk_frozen BK179.out 2; have hfz156_3 := blk_frozen BK179.out 3; have hfz156_4 := blk_frozen BK179.out 4; have hfz156_5 := blk_frozen BK179.out 5; have hfz156_6 := blk_frozen BK179.out 6) | (go_at_call 11; (refine (hist_Op.calls kj43 x180000_1 x180001_24 (⟨#[]⟩ : ByteArray) 0 t201 _ _ ([] : List Int) x180006_24 t202 _ ?side1 ?side2 A144.out ?hT_).mono ?_); (case hT_ => exact Tabs.after HT.out (by repeat (first | (with_reducible first | exact HB.out | apply s1 | apply s2 | apply s3 | refine s4 ?_ GE169.out | refine s4 ?_ GE179.out) | exact HB.out))); (case side1 => exact Kd.C_nil _ _); (case side2 => exact Nat.le_refl _); rintro e w157 ⟨rfl, hb⟩; have n0_ := Aside0.mk (Kd.R_below (by (with_reducible repeat first | apply r1 | apply r2 | apply r3); exact (Kd.R_mono (Kd.R_far (p := ⟨gb179, 4, none⟩) (Kd.R_types HO_4.out BK179.out (by decide)) (fun _ hk => hk.2) (.int .i64 t201)) (fun _ h_ => h_.1))) hb); have n1_ := Aside0.mk (blk_below (g := gb169) (o := .cells #[.int .i64 0, .string ⟨#[]⟩, .string ⟨#[]⟩, .int .i64 0, .int .i64 0, .slice none 0 0, .int .i64 0] 24 (0, 0)) (by (with_reducible repeat first | apply q1 | apply q2 | apply q3); refine blk_far ?_ NB169_179.out _; (with_reducible repeat first | apply q1 | apply q2 | apply q3); exact BK169.out) hb); have n2_ := Aside0.mk (blk_below (g := gb179) (o := .cells #[.int .i64 x180000_1, .string x180001_24, .string ⟨#[]⟩, .int .i64 0, .int .i64 t201, .slice none 0 0, .int .i64 x180006_24] 24 (0, 0)) (by (with_reducible repeat first | apply q1 | apply q2 | apply q3); refine blk_put (cs := #[.int .i64 x180000_1, .string x180001_24, .string ⟨#[]⟩, .int .i64 0, .int .i64 0, .slice none 0 0, .int .i64 x180006_24]) ?_ 4 _ rfl; (with_reducible repeat first | apply q1 | apply q2 | apply q3); exact BK179.out) hb); have n3_ := Aside0.mk (below_step (by repeat (first | (with_reducible first | exact HB.out | apply s1 | apply s2 | apply s3 | refine s4 ?_ GE169.out | refine s4 ?_ GE179.out) | exact HB.out)) hb); clear HO_4; clear BK169; clear BK179; clear HB; have HO_4 := n0_; have BK169 := n1_; have BK179 := n2_; have HB := n3_; clear n0_ n1_ n2_ n3_; (try clear hb); (try clear hb2); (try clear hk); (try clear hi); have hcz158_0 : w157.cell? ⟨gb169, 0, none⟩ = some (.int .i64 0) := (blk_cell BK169.out 0).trans rfl; have hcz158_1 : w157.cell? ⟨gb169, 1, none⟩ = some (.string ⟨#[]⟩) := (blk_cell BK169.out 1).trans rfl; have hcz158_2 : w157.cell? ⟨gb169, 2, none⟩ = some (.string ⟨#[]⟩) := (blk_cell BK169.out 2).trans rfl; have hcz158_3 : w157.cell? ⟨gb169, 3, none⟩ = some (.int .i64 0) := (blk_cell BK169.out 3).trans rfl; have hcz158_4 : w157.cell? ⟨gb169, 4, none⟩ = some (.int .i64 0) := (blk_cell BK169.out 4).trans rfl; have hcz158_5 : w157.cell? ⟨gb169, 5, none⟩ = some (.slice none 0 0) := (blk_cell BK169.out 5).trans rfl; have hcz158_6 : w157.cell? ⟨gb169, 6, none⟩ = some (.int .i64 0) := (blk_cell BK169.out 6).trans rfl; have hfz158_0 := blk_frozen BK169.out 0; have hfz158_1 := blk_frozen BK169.out 1; have hfz158_2 := blk_frozen BK169.out 2; have hfz158_3 := blk_frozen BK169.out 3; have hfz158_4 := blk_frozen BK169.out 4; have hfz158_5 := blk_frozen BK169.out 5; have hfz158_6 := blk_frozen BK169.out 6))
                refine bodyPost_ret (results_ct rfl _ _ gb169 24 #[.int .i64 0, .string ⟨#[]⟩, .string ⟨#[]⟩, .int .i64 0, .int .i64 0, .slice none 0 0, .int .i64 0] (0, 0) _ rfl (by (with_reducible repeat first | apply q1 | apply q2 | apply q3); refine q5 ?_ 6 _ rfl; refine q5 ?_ 5 _ rfl; refine q5 ?_ 4 _ rfl; refine q5 ?_ 3 _ rfl; refine q5 ?_ 2 _ rfl; refine q5 ?_ 1 _ rfl; refine q5 ?_ 0 _ rfl; (with_reducible repeat first | apply q1 | apply q2 | apply q3); exact BK169.out) Tryz.underlying24 rfl (by kernel_rfl)) rfl ?_
                exact ⟨_, by first | rfl | (simp [errW_none, errW_some] <;> rfl) | (simp [*, errW_none, errW_some] <;> rfl), by exact Kd.R_nil _ _ _ _ _, by repeat (first | (with_reducible first | exact HB.out | apply s1 | apply s2 | apply s3 | refine s4 ?_ GE169.out | refine s4 ?_ GE179.out) | exact HB.out)⟩
             ·rw [if_neg c136] at H
              exact absurd H (by simp)
            ·rw [if_neg c135] at H
             have c135b0 : (x180000_1 == 9) = false := beq_eq_false_iff_ne.mpr c135
             have c135b1 : (x180000_1 != 9) = true := bne_iff_ne.mpr c135
             by_cases c159 : x180000_1 = 13
             ·rw [if_pos c159] at H
              have c159b0 : (x180000_1 == 13) = true := beq_iff_eq.mpr c159
              have c159b1 : (x180000_1 != 13) = false := bne_eq_false_iff_eq.mpr c159
              clear c159
              by_cases c160 : 1 < (y176.length : Int)
              ·rw [if_pos c160] at H
               have c160b0 : decide (1 < (y176.length : Int)) = true := decide_eq_true c160
               have c160b1 : decide (1 < y176.length) = true := decide_eq_true (by omega)
               clear c160
               replace H := Option.bind_eq_some_iff.mp H
               obtain ⟨t204, A1610, H⟩ := H
               try dsimp only at H
               have A161 := Aside0.mk A1610
               clear A1610
               by_cases c162 : a0.toList = ([] : List UInt8)
               ·rw [if_pos c162] at H
                have c162b0 : (a0.toList == ([] : List UInt8)) = true := beq_iff_eq.mpr c162
                have c162b1 : (a0.toList != ([] : List UInt8)) = false := bne_eq_false_iff_eq.mpr c162
                clear c162
                simp only [Option.some.injEq, Prod.mk.injEq] at H
                obtain ⟨rfl, rfl, rfl, rfl, rfl, rfl, rfl, rfl⟩ := H
                obtain ⟨Ao163, co163, eo163⟩ := Kd.R_slice HO_4.out
                subst eo163
                have p203 : 0 ≤ (1 : Int) := (by omega)
                have q203 : 1 < (y176.length : Int) := of_decide_eq_true (by first | (with_reducible assumption) | assumption)
                obtain ⟨ad203, e203, hx203_0⟩ := Kd.at_string (Kd.R_reads' HO_4.out).2.2 1 p203 q203
                cases e203
                (try simp only [show (1 : Int).toNat = 1 from rfl, Nat.reduceMul, Nat.reduceEqDiff, Go.Addr.add, ↓reduceIte] at hx203_0)
                have qi203 : (1 < y176.length) = True := eq_true (by omega)
                (try rw [show ((1 : Int)).toNat = 1 from rfl] at hx203_0)
                replace p203 := eq_true p203
                replace q203 := eq_true q203
                go_wp2_with (first | ((with_reducible refine gate_callee (f := 44) rfl ?_); refine goesL_ (some 90) rfl rfl Tryz.func44 (by kernel_rfl) rfl #[.string (rdOf ByteArray.empty y176 1)] rfl (by (try simp only [List.map_toArray, List.map_cons, List.map_nil]); first | done | rfl | (simp only [List.length_drop, List.length_take]; rfl)) ?_; (with_reducible refine (hist_Num.calls (rdOf ByteArray.empty y176 1) t204 _ A161.out ?hT_).mono ?_); (case hT_ => exact Tabs.after HT.out (by repeat (first | (with_reducible first | exact HB.out | apply s1 | apply s2 | apply s3 | refine s4 ?_ GE169.out | refine s4 ?_ GE179.out) | exact HB.out))); rintro e w164 ⟨rfl, hb⟩; refine ⟨_, rfl, ?_⟩; have n0_ := Aside0.mk (Kd.R_below (by (with_reducible repeat first | apply r1 | apply r2 | apply r3); exact HO_4.out) hb); have n1_ := Aside0.mk (blk_below (g := gb169) (o := .cells #[.int .i64 0, .string ⟨#[]⟩, .string ⟨#[]⟩, .int .i64 0, .int .i64 0, .slice none 0 0, .int .i64 0] 24 (0, 0)) (by (with_reducible repeat first | apply q1 | apply q2 | apply q3); exact BK169.out) hb); have n2_ := Aside0.mk (blk_below (g := gb179) (o := .cells #[.int .i64 x180000_1, .string x180001_24, .string ⟨#[]⟩, .int .i64 0, .int .i64 0, .slice none 0 0, .int .i64 x180006_24] 24 (0, 0)) (by (with_reducible repeat first | apply q1 | apply q2 | apply q3); exact BK179.out) hb); have n3_ := Aside0.mk (below_step (by repeat (first | (with_reducible first | exact HB.out | apply s1 | apply s2 | apply s3 | refine s4 ?_ GE169.out | refine s4 ?_ GE179.out) | exact HB.out)) hb); clear HO_4; clear BK169; clear BK179; clear HB; have HO_4 := n0_; have BK169 := n1_; have BK179 := n2_; have HB := n3_; clear n0_ n1_ n2_ n3_; (try clear hb); (try clear hb2); (try clear hk); (try clear hi); have hnb165 := NB179_169.out; have hnc165 := NB169_179.out; have hcz166_0 : w164.cell? ⟨gb179, 0, none⟩ = some (.int .i64 x180000_1) := (blk_cell BK179.out 0).trans rfl; have hcz166_1 : w164.cell? ⟨gb179, 1, none⟩ = some (.string x180001_24) := (blk_cell BK179.out 1).trans rfl; have hcz166_2 : w164.cell? ⟨gb179, 2, none⟩ = some (.string ⟨#[]⟩) := (blk_cell BK179.out 2).trans rfl; have hcz166_3 : w164.cell? ⟨gb179, 3, none⟩ = some (.int .i64 0) := (blk_cell BK179.out 3).trans rfl; have hcz166_4 : w164.cell? ⟨gb179, 4, none⟩ = some (.int .i64 0) := (blk_cell BK179.out 4).trans rfl; have hcz166_5 : w164.cell? ⟨gb179, 5, none⟩ = some (.slice none 0 0) := (blk_cell BK179.out 5).trans rfl; have hcz166_6 : w164.cell? ⟨gb179, 6, none⟩ = some (.int .i64 x180006_24) := (blk_cell BK179.out 6).trans rfl; have hfz166_0 := blk_frozen BK179.out 0; have hfz166_1 := blk_frozen BK179.out 1; have hfz166_2 := blk_frozen BK179.out 2; have hfz166_3 := blk_frozen BK179.out 3; have hfz166_4 := blk_frozen BK179.out 4; have hfz166_5 := blk_frozen BK179.out 5; have hfz166_6 := blk_frozen BK179.out 6; have hcz167_0 : w164.cell? ⟨gb169, 0, none⟩ = some (.int .i64 0) := (blk_cell BK169.out 0).trans rfl; have hcz167_1 : w164.cell? ⟨gb169, 1, none⟩ = some (.string ⟨#[]⟩) := (blk_cell BK169.out 1).trans rfl; have hcz167_2 : w164.cell? ⟨gb169, 2, none⟩ = some (.string ⟨#[]⟩) := (blk_cell BK169.out 2).trans rfl; have hcz167_3 : w164.cell? ⟨gb169, 3, none⟩ = some (.int .i64 0) := (blk_cell BK169.out 3).trans rfl; have hcz167_4 : w164.cell? ⟨gb169, 4, none⟩ = some (.int .i64 0) := (blk_cell BK169.out 4).trans rfl; have hcz167_5 : w164.cell? ⟨gb169, 5, none⟩ = some (.slice none 0 0) := (blk_cell BK169.out 5).trans rfl; have hcz167_6 : w164.cell? ⟨gb169, 6, none⟩ = some (.int .i64 0) := (blk_cell BK169.out 6).trans rfl; have hfz167_0 := blk_frozen BK169.out 0; have hfz167_1 := blk_frozen BK169.out 1; have hfz167_2 := blk_frozen BK169.out 2; have hfz167_3 := blk_frozen BK169.out 3; have hfz167_4 := blk_frozen BK169.out 4; have hfz167_5 := blk_frozen BK169.out 5; have hfz167_6 := blk_frozen BK169.out 6))
                refine bodyPost_ret (results_ct rfl _ _ gb169 24 #[.int .i64 0, .string ⟨#[]⟩, .string ⟨#[]⟩, .int .i64 0, .int .i64 0, .slice none 0 0, .int .i64 0] (0, 0) _ rfl (by (with_reducible repeat first | apply q1 | apply q2 | apply q3); refine q5 ?_ 6 _ rfl; refine q5 ?_ 5 _ rfl; refine q5 ?_ 4 _ rfl; refine q5 ?_ 3 _ rfl; refine q5 ?_ 2 _ rfl; refine q5 ?_ 1 _ rfl; refine q5 ?_ 0 _ rfl; (with_reducible repeat first | apply q1 | apply q2 | apply q3); refine blk_far ?_ NB169_179.out _; (with_reducible repeat first | apply q1 | apply q2 | apply q3); exact BK169.out) Tryz.underlying24 rfl (by kernel_rfl)) rfl ?_
                exact ⟨_, by first | rfl | (simp [errW_none, errW_some] <;> rfl) | (simp [*, errW_none, errW_some] <;> rfl), by exact Kd.R_nil _ _ _ _ _, by repeat (first | (with_reducible first | exact HB.out | apply s1 | apply s2 | apply s3 | refine s4 ?_ GE169.out | refine s4 ?_ GE179.out) | exact HB.out)⟩
               ·rw [if_neg c162] at H
                have c162b0 : (a0.toList == ([] : List UInt8)) = false := beq_eq_false_iff_ne.mpr c162
                have c162b1 : (a0.toList != ([] : List UInt8)) = true := bne_iff_ne.mpr c162
                replace H := Option.bind_eq_some_iff.mp H
                obtain ⟨t205, A1680, H⟩ := H
                try dsimp only at H
                have A168 := Aside0.mk A1680
                clear A1680
                by_cases c169 : t205.toList = a0.toList
                ·rw [if_pos c169] at H
                 have c169b0 : (t205.toList == a0.toList) = true := beq_iff_eq.mpr c169
                 have c169b1 : (t205.toList != a0.toList) = false := bne_eq_false_iff_eq.mpr c169
                 clear c169
                 simp only [Option.some.injEq, Prod.mk.injEq] at H
                 obtain ⟨rfl, rfl, rfl, rfl, rfl, rfl, rfl, rfl⟩ := H
                 obtain ⟨Ao170, co170, eo170⟩ := Kd.R_slice HO_4.out
                 subst eo170
                 have p203 : 0 ≤ (1 : Int) := (by omega)
                 have q203 : 1 < (y176.length : Int) := of_decide_eq_true (by first | (with_reducible assumption) | assumption)
                 obtain ⟨ad203, e203, hx203_0⟩ := Kd.at_string (Kd.R_reads' HO_4.out).2.2 1 p203 q203
                 cases e203
                 (try simp only [show (1 : Int).toNat = 1 from rfl, Nat.reduceMul, Nat.reduceEqDiff, Go.Addr.add, ↓reduceIte] at hx203_0)
                 have qi203 : (1 < y176.length) = True := eq_true (by omega)
                 (try rw [show ((1 : Int)).toNat = 1 from rfl] at hx203_0)
                 replace p203 := eq_true p203
                 replace q203 := eq_true q203
                 go_wp2_with (first | ((with_reducible refine gate_callee (f := 44) rfl ?_); refine goesL_ (some 90) rfl rfl Tryz.func44 (by kernel_rfl) rfl #[.string (rdOf ByteArray.empty y176 1)] rfl (by (try simp only [List.map_toArray, List.map_cons, List.map_nil]); first | done | rfl | (simp only [List.length_drop, List.length_take]; rfl)) ?_; (with_reducible refine (hist_Num.calls (rdOf ByteArray.empty y176 1) t204 _ A161.out ?hT_).mono ?_); (case hT_ => exact Tabs.after HT.out (by repeat (first | (with_reducible first | exact HB.out | apply s1 | apply s2 | apply s3 | refine s4 ?_ GE169.out | refine s4 ?_ GE179.out) | exact HB.out))); rintro e w171 ⟨rfl, hb⟩; refine ⟨_, rfl, ?_⟩; have n0_ := Aside0.mk (Kd.R_below (by (with_reducible repeat first | apply r1 | apply r2 | apply r3); exact HO_4.out) hb); have n1_ := Aside0.mk (blk_below (g := gb169) (o := .cells #[.int .i64 0, .string ⟨#[]⟩, .string ⟨#[]⟩, .int .i64 0, .int .i64 0, .slice none 0 0, .int .i64 0] 24 (0, 0)) (by (with_reducible repeat first | apply q1 | apply q2 | apply q3); exact BK169.out) hb); have n2_ := Aside0.mk (blk_below (g := gb179) (o := .cells #[.int .i64 x180000_1, .string x180001_24, .string ⟨#[]⟩, .int .i64 0, .int .i64 0, .slice none 0 0, .int .i64 x180006_24] 24 (0, 0)) (by (with_reducible repeat first | apply q1 | apply q2 | apply q3); exact BK179.out) hb); have n3_ := Aside0.mk (below_step (by repeat (first | (with_reducible first | exact HB.out | apply s1 | apply s2 | apply s3 | refine s4 ?_ GE169.out | refine s4 ?_ GE179.out) | exact HB.out)) hb); clear HO_4; clear BK169; clear BK179; clear HB; have HO_4 := n0_; have BK169 := n1_; have BK179 := n2_; have HB := n3_; clear n0_ n1_ n2_ n3_; (try clear hb); (try clear hb2); (try clear hk); (try clear hi); have hnb172 := NB179_169.out; have hnc172 := NB169_179.out; have hcz173_0 : w171.cell? ⟨gb179, 0, none⟩ = some (.int .i64 x180000_1) := (blk_cell BK179.out 0).trans rfl; have hcz173_1 : w171.cell? ⟨gb179, 1, none⟩ = some (.string x180001_24) := (blk_cell BK179.out 1).trans rfl; have hcz173_2 : w171.cell? ⟨gb179, 2, none⟩ = some (.string ⟨#[]⟩) := (blk_cell BK179.out 2).trans rfl; have hcz173_3 : w171.cell? ⟨gb179, 3, none⟩ = some (.int .i64 0) := (blk_cell BK179.out 3).trans rfl; have hcz173_4 : w171.cell? ⟨gb179, 4, none⟩ = some (.int .i64 0) := (blk_cell BK179.out 4).trans rfl; have hcz173_5 : w171.cell? ⟨gb179, 5, none⟩ = some (.slice none 0 0) := (blk_cell BK179.out 5).trans rfl; have hcz173_6 : w171.cell? ⟨gb179, 6, none⟩ = some (.int .i64 x180006_24) := (blk_cell BK179.out 6).trans rfl; have hfz173_0 := blk_frozen BK179.out 0; have hfz173_1 := blk_frozen BK179.out 1; have hfz173_2 := blk_frozen BK179.out 2; have hfz173_3 := blk_frozen BK179.out 3; have hfz173_4 := blk_frozen BK179.out 4; have hfz173_5 := blk_frozen BK179.out 5; have hfz173_6 := blk_frozen BK179.out 6) | (go_at_call 11; (refine (hist_Op.calls kj43 x180000_1 x180001_24 (⟨#[]⟩ : ByteArray) 0 0 _ _ ([] : List Int) t204 t205 _ ?side1 ?side2 A168.out ?hT_).mono ?_); (case hT_ => exact Tabs.after HT.out (by repeat (first | (with_reducible first | exact HB.out | apply s1 | apply s2 | apply s3 | refine s4 ?_ GE169.out | refine s4 ?_ GE179.out) | exact HB.out))); (case side1 => exact Kd.C_nil _ _); (case side2 => exact Nat.le_refl _); rintro e w174 ⟨rfl, hb⟩; have n0_ := Aside0.mk (Kd.R_below (by (with_reducible repeat first | apply r1 | apply r2 | apply r3); exact (Kd.R_mono (Kd.R_far (p := ⟨gb179, 6, none⟩) (Kd.R_types HO_4.out BK179.out (by decide)) (fun _ hk => hk.2) (.int .i64 t204)) (fun _ h_ => h_.1))) hb); have n1_ := Aside0.mk (blk_below (g := gb169) (o := .cells #[.int .i64 0, .string ⟨#[]⟩, .string ⟨#[]⟩, .int .i64 0, .int .i64 0, .slice none 0 0, .int .i64 0] 24 (0, 0)) (by (with_reducible repeat first | apply q1 | apply q2 | apply q3); refine blk_far ?_ NB169_179.out _; (with_reducible repeat first | apply q1 | apply q2 | apply q3); exact BK169.out) hb); have n2_ := Aside0.mk (blk_below (g := gb179) (o := .cells #[.int .i64 x180000_1, .string x180001_24, .string ⟨#[]⟩, .int .i64 0, .int .i64 0, .slice none 0 0, .int .i64 t204] 24 (0, 0)) (by (with_reducible repeat first | apply q1 | apply q2 | apply q3); refine blk_put (cs := #[.int .i64 x180000_1, .string x180001_24, .string ⟨#[]⟩, .int .i64 0, .int .i64 0, .slice none 0 0, .int .i64 x180006_24]) ?_ 6 _ rfl; (with_reducible repeat first | apply q1 | apply q2 | apply q3); exact BK179.out) hb); have n3_ := Aside0.mk (below_step (by repeat (first | (with_reducible first | exact HB.out | apply s1 | apply s2 | apply s3 | refine s4 ?_ GE169.out | refine s4 ?_ GE179.out) | exact HB.out)) hb); clear HO_4; clear BK169; clear BK179; clear HB; have HO_4 := n0_; have BK169 := n1_; have BK179 := n2_; have HB := n3_; clear n0_ n1_ n2_ n3_; (try clear hb); (try clear hb2); (try clear hk); (try clear hi); have hcz175_0 : w174.cell? ⟨gb179, 0, none⟩ = some (.int .i64 x180000_1) := (blk_cell BK179.out 0).trans rfl; have hcz175_1 : w174.cell? ⟨gb179, 1, none⟩ = some (.string x180001_24) := (blk_cell BK179.out 1).trans rfl; have hcz175_2 : w174.cell? ⟨gb179, 2, none⟩ = some (.string ⟨#[]⟩) := (blk_cell BK179.out 2).trans rfl; have hcz175_3 : w174.cell? ⟨gb179, 3, none⟩ = some (.int .i64 0) := (blk_cell BK179.out 3).trans rfl; have hcz175_4 : w174.cell? ⟨gb179, 4, none⟩ = some (.int .i64 0) := (blk_cell BK179.out 4).trans rfl; have hcz175_5 : w174.cell? ⟨gb179, 5, none⟩ = some (.slice none 0 0) := (blk_cell BK179.out 5).trans rfl; have hcz175_6 : w174.cell? ⟨gb179, 6, none⟩ = some (.int .i64 t204) := (blk_cell BK179.out 6).trans rfl; have hfz175_0 := blk_frozen BK179.out 0; have hfz175_1 := blk_frozen BK179.out 1; have hfz175_2 := blk_frozen BK179.out 2; have hfz175_3 := blk_frozen BK179.out 3; have hfz175_4 := blk_frozen BK179.out 4; have hfz175_5 := blk_frozen BK179.out 5; have hfz175_6 := blk_frozen BK179.out 6; have hcz176_0 : w174.cell? ⟨gb169, 0, none⟩ = some (.int .i64 0) := (blk_cell BK169.out 0).trans rfl; have hcz176_1 : w174.cell? ⟨gb169, 1, none⟩ = some (.string ⟨#[]⟩) := (blk_cell BK169.out 1).trans rfl; have hcz176_2 : w174.cell? ⟨gb169, 2, none⟩ = some (.string ⟨#[]⟩) := (blk_cell BK169.out 2).trans rfl; have hcz176_3 : w174.cell? ⟨gb169, 3, none⟩ = some (.int .i64 0) := (blk_cell BK169.out 3).trans rfl; have hcz176_4 : w174.cell? ⟨gb169, 4, none⟩ = some (.int .i64 0) := (blk_cell BK169.out 4).trans rfl; have hcz176_5 : w174.cell? ⟨gb169, 5, none⟩ = some (.slice none 0 0) := (blk_cell BK169.out 5).trans rfl; have hcz176_6 : w174.cell? ⟨gb169, 6, none⟩ = some (.int .i64 0) := (blk_cell BK169.out 6).trans rfl; have hfz176_0 := blk_frozen BK169.out 0; have hfz176_1 := blk_frozen BK169.out 1; have hfz176_2 := blk_frozen BK169.out 2; have hfz176_3 := blk_frozen BK169.out 3; have hfz176_4 := blk_frozen BK169.out 4; have hfz176_5 := blk_frozen BK169.out 5; have hfz176_6 := blk_frozen BK169.out 6))
                 refine bodyPost_ret (results_ct rfl _ _ gb169 24 #[.int .i64 x180000_1, .string x180001_24, .string ⟨#[]⟩, .int .i64 0, .int .i64 0, .slice none 0 0, .int .i64 t204] (0, 0) _ rfl (by (with_reducible repeat first | apply q1 | apply q2 | apply q3); refine blk_put (cs := #[.int .i64 x180000_1, .string x180001_24, .string ⟨#[]⟩, .int .i64 0, .int .i64 0, .slice none 0 0, .int .i64 0]) ?_ 6 _ rfl; refine q5 ?_ 5 _ rfl; refine q5 ?_ 4 _ rfl; refine q5 ?_ 3 _ rfl; refine q5 ?_ 2 _ rfl; refine blk_put (cs := #[.int .i64 x180000_1, .string ⟨#[]⟩, .string ⟨#[]⟩, .int .i64 0, .int .i64 0, .slice none 0 0, .int .i64 0]) ?_ 1 _ rfl; refine blk_put (cs := #[.int .i64 0, .string ⟨#[]⟩, .string ⟨#[]⟩, .int .i64 0, .int .i64 0, .slice none 0 0, .int .i64 0]) ?_ 0 _ rfl; (with_reducible repeat first | apply q1 | apply q2 | apply q3); exact BK169.out) Tryz.underlying24 rfl (by kernel_rfl)) rfl ?_
                 exact ⟨_, by first | rfl | (simp [errW_none, errW_some] <;> rfl) | (simp [*, errW_none, errW_some] <;> rfl), by exact Kd.R_nil _ _ _ _ _, by repeat (first | (with_reducible first | exact HB.out | apply s1 | apply s2 | apply s3 | refine s4 ?_ GE169.out | refine s4 ?_ GE179.out) | exact HB.out)⟩
                ·rw [if_neg c169] at H
                 have c169b0 : (t205.toList == a0.toList) = false := beq_eq_false_iff_ne.mpr c169
                 have c169b1 : (t205.toList != a0.toList) = true := bne_iff_ne.mpr c169
                 simp only [Option.some.injEq, Prod.mk.injEq] at H
                 obtain ⟨rfl, rfl, rfl, rfl, rfl, rfl, rfl, rfl⟩ := H
                 obtain ⟨Ao177, co177, eo177⟩ := Kd.R_slice HO_4.out
                 subst eo177
                 have p203 : 0 ≤ (1 : Int) := (by omega)
                 have q203 : 1 < (y176.length : Int) := of_decide_eq_true (by first | (with_reducible assumption) | assumption)
                 obtain ⟨ad203, e203, hx203_0⟩ := Kd.at_string (Kd.R_reads' HO_4.out).2.2 1 p203 q203
                 cases e203
                 (try simp only [show (1 : Int).toNat = 1 from rfl, Nat.reduceMul, Nat.reduceEqDiff, Go.Addr.add, ↓reduceIte] at hx203_0)
                 have qi203 : (1 < y176.length) = True := eq_true (by omega)
                 (try rw [show ((1 : Int)).toNat = 1 from rfl] at hx203_0)
                 replace p203 := eq_true p203
                 replace q203 := eq_true q203
                 go_wp2_with (first | ((with_reducible refine gate_callee (f := 44) rfl ?_); refine goesL_ (some 90) rfl rfl Tryz.func44 (by kernel_rfl) rfl #[.string (rdOf ByteArray.empty y176 1)] rfl (by (try simp only [List.map_toArray, List.map_cons, List.map_nil]); first | done | rfl | (simp only [List.length_drop, List.length_take]; rfl)) ?_; (with_reducible refine (hist_Num.calls (rdOf ByteArray.empty y176 1) t204 _ A161.out ?hT_).mono ?_); (case hT_ => exact Tabs.after HT.out (by repeat (first | (with_reducible first | exact HB.out | apply s1 | apply s2 | apply s3 | refine s4 ?_ GE169.out | refine s4 ?_ GE179.out) | exact HB.out))); rintro e w178 ⟨rfl, hb⟩; refine ⟨_, rfl, ?_⟩; have n0_ := Aside0.mk (Kd.R_below (by (with_reducible repeat first | apply r1 | apply r2 | apply r3); exact HO_4.out) hb); have n1_ := Aside0.mk (blk_below (g := gb169) (o := .cells #[.int .i64 0, .string ⟨#[]⟩, .string ⟨#[]⟩, .int .i64 0, .int .i64 0, .slice none 0 0, .int .i64 0] 24 (0, 0)) (by (with_reducible repeat first | apply q1 | apply q2 | apply q3); exact BK169.out) hb); have n2_ := Aside0.mk (blk_below (g := gb179) (o := .cells #[.int .i64 x180000_1, .string x180001_24, .string ⟨#[]⟩, .int .i64 0, .int .i64 0, .slice none 0 0, .int .i64 x180006_24] 24 (0, 0)) (by (with_reducible repeat first | apply q1 | apply q2 | apply q3); exact BK179.out) hb); have n3_ := Aside0.mk (below_step (by repeat (first | (with_reducible first | exact HB.out | apply s1 | apply s2 | apply s3 | refine s4 ?_ GE169.out | refine s4 ?_ GE179.out) | exact HB.out)) hb); clear HO_4; clear BK169; clear BK179; clear HB; have HO_4 := n0_; have BK169 := n1_; have BK179 := n2_; have HB := n3_; clear n0_ n1_ n2_ n3_; (try clear hb); (try clear hb2); (try clear hk); (try clear hi); have hnb179 := NB179_169.out; have hnc179 := NB169_179.out; have hcz180_0 : w178.cell? ⟨gb179, 0, none⟩ = some (.int .i64 x180000_1) := (blk_cell BK179.out 0).trans rfl; have hcz180_1 : w178.cell? ⟨gb179, 1, none⟩ = some (.string x180001_24) := (blk_cell BK179.out 1).trans rfl; have hcz180_2 : w178.cell? ⟨gb179, 2, none⟩ = some (.string ⟨#[]⟩) := (blk_cell BK179.out 2).trans rfl; have hcz180_3 : w178.cell? ⟨gb179, 3, none⟩ = some (.int .i64 0) := (blk_cell BK179.out 3).trans rfl; have hcz180_4 : w178.cell? ⟨gb179, 4, none⟩ = some (.int .i64 0) := (blk_cell BK179.out 4).trans rfl; have hcz180_5 : w178.cell? ⟨gb179, 5, none⟩ = some (.slice none 0 0) := (blk_cell BK179.out 5).trans rfl; have hcz180_6 : w178.cell? ⟨gb179, 6, none⟩ = some (.int .i64 x180006_24) := (blk_cell BK179.out 6).trans rfl; have hfz180_0 := blk_frozen BK179.out 0; have hfz180_1 := blk_frozen BK179.out 1; have hfz180_2 := blk_frozen BK179.out 2; have hfz180_3 := blk_frozen BK179.out 3; have hfz180_4 := blk_frozen BK179.out 4; have hfz180_5 := blk_frozen BK179.out 5; have hfz180_6 := blk_frozen BK179.out 6) | (go_at_call 11; (refine (hist_Op.calls kj43 x180000_1 x180001_24 (⟨#[]⟩ : ByteArray) 0 0 _ _ ([] : List Int) t204 t205 _ ?side1 ?side2 A168.out ?hT_).mono ?_); (case hT_ => exact Tabs.after HT.out (by repeat (first | (with_reducible first | exact HB.out | apply s1 | apply s2 | apply s3 | refine s4 ?_ GE169.out | refine s4 ?_ GE179.out) | exact HB.out))); (case side1 => exact Kd.C_nil _ _); (case side2 => exact Nat.le_refl _); rintro e w181 ⟨rfl, hb⟩; have n0_ := Aside0.mk (Kd.R_below (by (with_reducible repeat first | apply r1 | apply r2 | apply r3); exact (Kd.R_mono (Kd.R_far (p := ⟨gb179, 6, none⟩) (Kd.R_types HO_4.out BK179.out (by decide)) (fun _ hk => hk.2) (.int .i64 t204)) (fun _ h_ => h_.1))) hb); have n1_ := Aside0.mk (blk_below (g := gb169) (o := .cells #[.int .i64 0, .string ⟨#[]⟩, .string ⟨#[]⟩, .int .i64 0, .int .i64 0, .slice none 0 0, .int .i64 0] 24 (0, 0)) (by (with_reducible repeat first | apply q1 | apply q2 | apply q3); refine blk_far ?_ NB169_179.out _; (with_reducible repeat first | apply q1 | apply q2 | apply q3); exact BK169.out) hb); have n2_ := Aside0.mk (blk_below (g := gb179) (o := .cells #[.int .i64 x180000_1, .string x180001_24, .string ⟨#[]⟩, .int .i64 0, .int .i64 0, .slice none 0 0, .int .i64 t204] 24 (0, 0)) (by (with_reducible repeat first | apply q1 | apply q2 | apply q3); refine blk_put (cs := #[.int .i64 x180000_1, .string x180001_24, .string ⟨#[]⟩, .int .i64 0, .int .i64 0, .slice none 0 0, .int .i64 x180006_24]) ?_ 6 _ rfl; (with_reducible repeat first | apply q1 | apply q2 | apply q3); exact BK179.out) hb); have n3_ := Aside0.mk (below_step (by repeat (first | (with_reducible first | exact HB.out | apply s1 | apply s2 | apply s3 | refine s4 ?_ GE169.out | refine s4 ?_ GE179.out) | exact HB.out)) hb); clear HO_4; clear BK169; clear BK179; clear HB; have HO_4 := n0_; have BK169 := n1_; have BK179 := n2_; have HB := n3_; clear n0_ n1_ n2_ n3_; (try clear hb); (try clear hb2); (try clear hk); (try clear hi); have hcz182_0 : w181.cell? ⟨gb169, 0, none⟩ = some (.int .i64 0) := (blk_cell BK169.out 0).trans rfl; have hcz182_1 : w181.cell? ⟨gb169, 1, none⟩ = some (.string ⟨#[]⟩) := (blk_cell BK169.out 1).trans rfl; have hcz182_2 : w181.cell? ⟨gb169, 2, none⟩ = some (.string ⟨#[]⟩) := (blk_cell BK169.out 2).trans rfl; have hcz182_3 : w181.cell? ⟨gb169, 3, none⟩ = some (.int .i64 0) := (blk_cell BK169.out 3).trans rfl; have hcz182_4 : w181.cell? ⟨gb169, 4, none⟩ = some (.int .i64 0) := (blk_cell BK169.out 4).trans rfl; have hcz182_5 : w181.cell? ⟨gb169, 5, none⟩ = some (.slice none 0 0) := (blk_cell BK169.out 5).trans rfl; have hcz182_6 : w181.cell? ⟨gb169, 6, none⟩ = some (.int .i64 0) := (blk_cell BK169.out 6).trans rfl; have hfz182_0 := blk_frozen BK169.out 0; have hfz182_1 := blk_frozen BK169.out 1; have hfz182_2 := blk_frozen BK169.out 2; have hfz182_3 := blk_frozen BK169.out 3; have hfz182_4 := blk_frozen BK169.out 4; have hfz182_5 := blk_frozen BK169.out 5; have hfz182_6 := blk_frozen BK169.out 6))
                 refine bodyPost_ret (results_ct rfl _ _ gb169 24 #[.int .i64 0, .string ⟨#[]⟩, .string ⟨#[]⟩, .int .i64 0, .int .i64 0, .slice none 0 0, .int .i64 0] (0, 0) _ rfl (by (with_reducible repeat first | apply q1 | apply q2 | apply q3); refine q5 ?_ 6 _ rfl; refine q5 ?_ 5 _ rfl; refine q5 ?_ 4 _ rfl; refine q5 ?_ 3 _ rfl; refine q5 ?_ 2 _ rfl; refine q5 ?_ 1 _ rfl; refine q5 ?_ 0 _ rfl; (with_reducible repeat first | apply q1 | apply q2 | apply q3); exact BK169.out) Tryz.underlying24 rfl (by kernel_rfl)) rfl ?_
                 exact ⟨_, by first | rfl | (simp [errW_none, errW_some] <;> rfl) | (simp [*, errW_none, errW_some] <;> rfl), by exact Kd.R_nil _ _ _ _ _, by repeat (first | (with_reducible first | exact HB.out | apply s1 | apply s2 | apply s3 | refine s4 ?_ GE169.out | refine s4 ?_ GE179.out) | exact HB.out)⟩
              ·rw [if_neg c160] at H
               exact absurd H (by simp)
             ·rw [if_neg c159] at H
              have c159b0 : (x180000_1 == 13) = false := beq_eq_false_iff_ne.mpr c159
              have c159b1 : (x180000_1 != 13) = true := bne_iff_ne.mpr c159
              by_cases c183 : a0.toList = ([] : List UInt8)
              ·rw [if_pos c183] at H
               have c183b0 : (a0.toList == ([] : List UInt8)) = true := beq_iff_eq.mpr c183
               have c183b1 : (a0.toList != ([] : List UInt8)) = false := bne_eq_false_iff_eq.mpr c183
               clear c183
               simp only [Option.some.injEq, Prod.mk.injEq] at H
               obtain ⟨rfl, rfl, rfl, rfl, rfl, rfl, rfl, rfl⟩ := H
               have hnb184 := NB169_179.out
               have hnc184 := NB179_169.out
               have hcz185_0 : wc.cell? ⟨gb169, 0, none⟩ = some (.int .i64 0) := (blk_cell BK169.out 0).trans rfl
               have hcz185_1 : wc.cell? ⟨gb169, 1, none⟩ = some (.string ⟨#[]⟩) := (blk_cell BK169.out 1).trans rfl
               have hcz185_2 : wc.cell? ⟨gb169, 2, none⟩ = some (.string ⟨#[]⟩) := (blk_cell BK169.out 2).trans rfl
               have hcz185_3 : wc.cell? ⟨gb169, 3, none⟩ = some (.int .i64 0) := (blk_cell BK169.out 3).trans rfl
               have hcz185_4 : wc.cell? ⟨gb169, 4, none⟩ = some (.int .i64 0) := (blk_cell BK169.out 4).trans rfl
               have hcz185_5 : wc.cell? ⟨gb169, 5, none⟩ = some (.slice none 0 0) := (blk_cell BK169.out 5).trans rfl
               have hcz185_6 : wc.cell? ⟨gb169, 6, none⟩ = some (.int .i64 0) := (blk_cell BK169.out 6).trans rfl
               have hfz185_0 := blk_frozen BK169.out 0
               have hfz185_1 := blk_frozen BK169.out 1
               have hfz185_2 := blk_frozen BK169.out 2
               have hfz185_3 := blk_frozen BK169.out 3
               have hfz185_4 := blk_frozen BK169.out 4
               have hfz185_5 := blk_frozen BK169.out 5
               have hfz185_6 := blk_frozen BK169.out 6
               go_wp2
               refine bodyPost_ret (results_ct rfl _ _ gb169 24 #[.int .i64 0, .string ⟨#[]⟩, .string ⟨#[]⟩, .int .i64 0, .int .i64 0, .slice none 0 0, .int .i64 0] (0, 0) _ rfl (by (with_reducible repeat first | apply q1 | apply q2 | apply q3); refine q5 ?_ 6 _ rfl; refine q5 ?_ 5 _ rfl; refine q5 ?_ 4 _ rfl; refine q5 ?_ 3 _ rfl; refine q5 ?_ 2 _ rfl; refine q5 ?_ 1 _ rfl; refine q5 ?_ 0 _ rfl; (with_reducible repeat first | apply q1 | apply q2 | apply q3); exact BK169.out) Tryz.underlying24 rfl (by kernel_rfl)) rfl ?_
               exact ⟨_, by first | rfl | (simp [errW_none, errW_some] <;> rfl) | (simp [*, errW_none, errW_some] <;> rfl), by exact Kd.R_nil _ _ _ _ _, by repeat (first | (with_reducible first | exact HB.out | apply s1 | apply s2 | apply s3 | refine s4 ?_ GE169.out | refine s4 ?_ GE179.out) | exact HB.out)⟩
              ·rw [if_neg c183] at H
               have c183b0 : (a0.toList == ([] : List UInt8)) = false := beq_eq_false_iff_ne.mpr c183
               have c183b1 : (a0.toList != ([] : List UInt8)) = true := bne_iff_ne.mpr c183
               replace H := Option.bind_eq_some_iff.mp H
               obtain ⟨t206, A1860, H⟩ := H
               try dsimp only at H
               have A186 := Aside0.mk A1860
               clear A1860
               by_cases c187 : t206.toList = a0.toList
               ·rw [if_pos c187] at H
                have c187b0 : (t206.toList == a0.toList) = true := beq_iff_eq.mpr c187
                have c187b1 : (t206.toList != a0.toList) = false := bne_eq_false_iff_eq.mpr c187
                clear c187
                simp only [Option.some.injEq, Prod.mk.injEq] at H
                obtain ⟨rfl, rfl, rfl, rfl, rfl, rfl, rfl, rfl⟩ := H
                have hnb188 := NB179_169.out
                have hnc188 := NB169_179.out
                have hcz189_0 : wc.cell? ⟨gb179, 0, none⟩ = some (.int .i64 x180000_1) := (blk_cell BK179.out 0).trans rfl
                have hcz189_1 : wc.cell? ⟨gb179, 1, none⟩ = some (.string x180001_24) := (blk_cell BK179.out 1).trans rfl
                have hcz189_2 : wc.cell? ⟨gb179, 2, none⟩ = some (.string ⟨#[]⟩) := (blk_cell BK179.out 2).trans rfl
                have hcz189_3 : wc.cell? ⟨gb179, 3, none⟩ = some (.int .i64 0) := (blk_cell BK179.out 3).trans rfl
                have hcz189_4 : wc.cell? ⟨gb179, 4, none⟩ = some (.int .i64 0) := (blk_cell BK179.out 4).trans rfl
                have hcz189_5 : wc.cell? ⟨gb179, 5, none⟩ = some (.slice none 0 0) := (blk_cell BK179.out 5).trans rfl
                have hcz189_6 : wc.cell? ⟨gb179, 6, none⟩ = some (.int .i64 x180006_24) := (blk_cell BK179.out 6).trans rfl
                have hfz189_0 := blk_frozen BK179.out 0
                have hfz189_1 := blk_frozen BK179.out 1
                have hfz189_2 := blk_frozen BK179.out 2
                have hfz189_3 := blk_frozen BK179.out 3
                have hfz189_4 := blk_frozen BK179.out 4
                have hfz189_5 := blk_frozen BK179.out 5
                have hfz189_6 := blk_frozen BK179.out 6
                go_wp2_with (first | (go_at_call 11; (refine (hist_Op.calls kj43 x180000_1 x180001_24 (⟨#[]⟩ : ByteArray) 0 0 _ _ ([] : List Int) x180006_24 t206 _ ?side1 ?side2 A186.out ?hT_).mono ?_); (case hT_ => exact Tabs.after HT.out (by repeat (first | (with_reducible first | exact HB.out | apply s1 | apply s2 | apply s3 | refine s4 ?_ GE169.out | refine s4 ?_ GE179.out) | exact HB.out))); (case side1 => exact Kd.C_nil _ _); (case side2 => exact Nat.le_refl _); rintro e w190 ⟨rfl, hb⟩; have n0_ := Aside0.mk (Kd.R_below (by (with_reducible repeat first | apply r1 | apply r2 | apply r3); exact HO_4.out) hb); have n1_ := Aside0.mk (blk_below (g := gb169) (o := .cells #[.int .i64 0, .string ⟨#[]⟩, .string ⟨#[]⟩, .int .i64 0, .int .i64 0, .slice none 0 0, .int .i64 0] 24 (0, 0)) (by (with_reducible repeat first | apply q1 | apply q2 | apply q3); exact BK169.out) hb); have n2_ := Aside0.mk (blk_below (g := gb179) (o := .cells #[.int .i64 x180000_1, .string x180001_24, .string ⟨#[]⟩, .int .i64 0, .int .i64 0, .slice none 0 0, .int .i64 x180006_24] 24 (0, 0)) (by (with_reducible repeat first | apply q1 | apply q2 | apply q3); exact BK179.out) hb); have n3_ := Aside0.mk (below_step (by repeat (first | (with_reducible first | exact HB.out | apply s1 | apply s2 | apply s3 | refine s4 ?_ GE169.out | refine s4 ?_ GE179.out) | exact HB.out)) hb); clear HO_4; clear BK169; clear BK179; clear HB; have HO_4 := n0_; have BK169 := n1_; have BK179 := n2_; have HB := n3_; clear n0_ n1_ n2_ n3_; (try clear hb); (try clear hb2); (try clear hk); (try clear hi); have hcz191_0 : w190.cell? ⟨gb179, 0, none⟩ = some (.int .i64 x180000_1) := (blk_cell BK179.out 0).trans rfl; have hcz191_1 : w190.cell? ⟨gb179, 1, none⟩ = some (.string x180001_24) := (blk_cell BK179.out 1).trans rfl; have hcz191_2 : w190.cell? ⟨gb179, 2, none⟩ = some (.string ⟨#[]⟩) := (blk_cell BK179.out 2).trans rfl; have hcz191_3 : w190.cell? ⟨gb179, 3, none⟩ = some (.int .i64 0) := (blk_cell BK179.out 3).trans rfl; have hcz191_4 : w190.cell? ⟨gb179, 4, none⟩ = some (.int .i64 0) := (blk_cell BK179.out 4).trans rfl; have hcz191_5 : w190.cell? ⟨gb179, 5, none⟩ = some (.slice none 0 0) := (blk_cell BK179.out 5).trans rfl; have hcz191_6 : w190.cell? ⟨gb179, 6, none⟩ = some (.int .i64 x180006_24) := (blk_cell BK179.out 6).trans rfl; have hfz191_0 := blk_frozen BK179.out 0; have hfz191_1 := blk_frozen BK179.out 1; have hfz191_2 := blk_frozen BK179.out 2; have hfz191_3 := blk_frozen BK179.out 3; have hfz191_4 := blk_frozen BK179.out 4; have hfz191_5 := blk_frozen BK179.out 5; have hfz191_6 := blk_frozen BK179.out 6; have hcz192_0 : w190.cell? ⟨gb169, 0, none⟩ = some (.int .i64 0) := (blk_cell BK169.out 0).trans rfl; have hcz192_1 : w190.cell? ⟨gb169, 1, none⟩ = some (.string ⟨#[]⟩) := (blk_cell BK169.out 1).trans rfl; have hcz192_2 : w190.cell? ⟨gb169, 2, none⟩ = some (.string ⟨#[]⟩) := (blk_cell BK169.out 2).trans rfl; have hcz192_3 : w190.cell? ⟨gb169, 3, none⟩ = some (.int .i64 0) := (blk_cell BK169.out 3).trans rfl; have hcz192_4 : w190.cell? ⟨gb169, 4, none⟩ = some (.int .i64 0) := (blk_cell BK169.out 4).trans rfl; have hcz192_5 : w190.cell? ⟨gb169, 5, none⟩ = some (.slice none 0 0) := (blk_cell BK169.out 5).trans rfl; have hcz192_6 : w190.cell? ⟨gb169, 6, none⟩ = some (.int .i64 0) := (blk_cell BK169.out 6).trans rfl; have hfz192_0 := blk_frozen BK169.out 0; have hfz192_1 := blk_frozen BK169.out 1; have hfz192_2 := blk_frozen BK169.out 2; have hfz192_3 := blk_frozen BK169.out 3; have hfz192_4 := blk_frozen BK169.out 4; have hfz192_5 := blk_frozen BK169.out 5; have hfz192_6 := blk_frozen BK169.out 6))
                refine bodyPost_ret (results_ct rfl _ _ gb169 24 #[.int .i64 x180000_1, .string x180001_24, .string ⟨#[]⟩, .int .i64 0, .int .i64 0, .slice none 0 0, .int .i64 x180006_24] (0, 0) _ rfl (by (with_reducible repeat first | apply q1 | apply q2 | apply q3); refine blk_put (cs := #[.int .i64 x180000_1, .string x180001_24, .string ⟨#[]⟩, .int .i64 0, .int .i64 0, .slice none 0 0, .int .i64 0]) ?_ 6 _ rfl; refine q5 ?_ 5 _ rfl; refine q5 ?_ 4 _ rfl; refine q5 ?_ 3 _ rfl; refine q5 ?_ 2 _ rfl; refine blk_put (cs := #[.int .i64 x180000_1, .string ⟨#[]⟩, .string ⟨#[]⟩, .int .i64 0, .int .i64 0, .slice none 0 0, .int .i64 0]) ?_ 1 _ rfl; refine blk_put (cs := #[.int .i64 0, .string ⟨#[]⟩, .string ⟨#[]⟩, .int .i64 0, .int .i64 0, .slice none 0 0, .int .i64 0]) ?_ 0 _ rfl; (with_reducible repeat first | apply q1 | apply q2 | apply q3); exact BK169.out) Tryz.underlying24 rfl (by kernel_rfl)) rfl ?_
                exact ⟨_, by first | rfl | (simp [errW_none, errW_some] <;> rfl) | (simp [*, errW_none, errW_some] <;> rfl), by exact Kd.R_nil _ _ _ _ _, by repeat (first | (with_reducible first | exact HB.out | apply s1 | apply s2 | apply s3 | refine s4 ?_ GE169.out | refine s4 ?_ GE179.out) | exact HB.out)⟩
               ·rw [if_neg c187] at H
                have c187b0 : (t206.toList == a0.toList) = false := beq_eq_false_iff_ne.mpr c187
                have c187b1 : (t206.toList != a0.toList) = true := bne_iff_ne.mpr c187
                simp only [Option.some.injEq, Prod.mk.injEq] at H
                obtain ⟨rfl, rfl, rfl, rfl, rfl, rfl, rfl, rfl⟩ := H
                have hnb193 := NB179_169.out
                have hnc193 := NB169_179.out
                have hcz194_0 : wc.cell? ⟨gb179, 0, none⟩ = some (.int .i64 x180000_1) := (blk_cell BK179.out 0).trans rfl
                have hcz194_1 : wc.cell? ⟨gb179, 1, none⟩ = some (.string x180001_24) := (blk_cell BK179.out 1).trans rfl
                have hcz194_2 : wc.cell? ⟨gb179, 2, none⟩ = some (.string ⟨#[]⟩) := (blk_cell BK179.out 2).trans rfl
                have hcz194_3 : wc.cell? ⟨gb179, 3, none⟩ = some (.int .i64 0) := (blk_cell BK179.out 3).trans rfl
                have hcz194_4 : wc.cell? ⟨gb179, 4, none⟩ = some (.int .i64 0) := (blk_cell BK179.out 4).trans rfl
                have hcz194_5 : wc.cell? ⟨gb179, 5, none⟩ = some (.slice none 0 0) := (blk_cell BK179.out 5).trans rfl
                have hcz194_6 : wc.cell? ⟨gb179, 6, none⟩ = some (.int .i64 x180006_24) := (blk_cell BK179.out 6).trans rfl
                have hfz194_0 := blk_frozen BK179.out 0
                have hfz194_1 := blk_frozen BK179.out 1
                have hfz194_2 := blk_frozen BK179.out 2
                have hfz194_3 := blk_frozen BK179.out 3
                have hfz194_4 := blk_frozen BK179.out 4
                have hfz194_5 := blk_frozen BK179.out 5
                have hfz194_6 := blk_frozen BK179.out 6
                go_wp2_with (first | (go_at_call 11; (refine (hist_Op.calls kj43 x180000_1 x180001_24 (⟨#[]⟩ : ByteArray) 0 0 _ _ ([] : List Int) x180006_24 t206 _ ?side1 ?side2 A186.out ?hT_).mono ?_); (case hT_ => exact Tabs.after HT.out (by repeat (first | (with_reducible first | exact HB.out | apply s1 | apply s2 | apply s3 | refine s4 ?_ GE169.out | refine s4 ?_ GE179.out) | exact HB.out))); (case side1 => exact Kd.C_nil _ _); (case side2 => exact Nat.le_refl _); rintro e w195 ⟨rfl, hb⟩; have n0_ := Aside0.mk (Kd.R_below (by (with_reducible repeat first | apply r1 | apply r2 | apply r3); exact HO_4.out) hb); have n1_ := Aside0.mk (blk_below (g := gb169) (o := .cells #[.int .i64 0, .string ⟨#[]⟩, .string ⟨#[]⟩, .int .i64 0, .int .i64 0, .slice none 0 0, .int .i64 0] 24 (0, 0)) (by (with_reducible repeat first | apply q1 | apply q2 | apply q3); exact BK169.out) hb); have n2_ := Aside0.mk (blk_below (g := gb179) (o := .cells #[.int .i64 x180000_1, .string x180001_24, .string ⟨#[]⟩, .int .i64 0, .int .i64 0, .slice none 0 0, .int .i64 x180006_24] 24 (0, 0)) (by (with_reducible repeat first | apply q1 | apply q2 | apply q3); exact BK179.out) hb); have n3_ := Aside0.mk (below_step (by repeat (first | (with_reducible first | exact HB.out | apply s1 | apply s2 | apply s3 | refine s4 ?_ GE169.out | refine s4 ?_ GE179.out) | exact HB.out)) hb); clear HO_4; clear BK169; clear BK179; clear HB; have HO_4 := n0_; have BK169 := n1_; have BK179 := n2_; have HB := n3_; clear n0_ n1_ n2_ n3_; (try clear hb); (try clear hb2); (try clear hk); (try clear hi); have hcz196_0 : w195.cell? ⟨gb169, 0, none⟩ = some (.int .i64 0) := (blk_cell BK169.out 0).trans rfl; have hcz196_1 : w195.cell? ⟨gb169, 1, none⟩ = some (.string ⟨#[]⟩) := (blk_cell BK169.out 1).trans rfl; have hcz196_2 : w195.cell? ⟨gb169, 2, none⟩ = some (.string ⟨#[]⟩) := (blk_cell BK169.out 2).trans rfl; have hcz196_3 : w195.cell? ⟨gb169, 3, none⟩ = some (.int .i64 0) := (blk_cell BK169.out 3).trans rfl; have hcz196_4 : w195.cell? ⟨gb169, 4, none⟩ = some (.int .i64 0) := (blk_cell BK169.out 4).trans rfl; have hcz196_5 : w195.cell? ⟨gb169, 5, none⟩ = some (.slice none 0 0) := (blk_cell BK169.out 5).trans rfl; have hcz196_6 : w195.cell? ⟨gb169, 6, none⟩ = some (.int .i64 0) := (blk_cell BK169.out 6).trans rfl; have hfz196_0 := blk_frozen BK169.out 0; have hfz196_1 := blk_frozen BK169.out 1; have hfz196_2 := blk_frozen BK169.out 2; have hfz196_3 := blk_frozen BK169.out 3; have hfz196_4 := blk_frozen BK169.out 4; have hfz196_5 := blk_frozen BK169.out 5; have hfz196_6 := blk_frozen BK169.out 6))
                refine bodyPost_ret (results_ct rfl _ _ gb169 24 #[.int .i64 0, .string ⟨#[]⟩, .string ⟨#[]⟩, .int .i64 0, .int .i64 0, .slice none 0 0, .int .i64 0] (0, 0) _ rfl (by (with_reducible repeat first | apply q1 | apply q2 | apply q3); refine q5 ?_ 6 _ rfl; refine q5 ?_ 5 _ rfl; refine q5 ?_ 4 _ rfl; refine q5 ?_ 3 _ rfl; refine q5 ?_ 2 _ rfl; refine q5 ?_ 1 _ rfl; refine q5 ?_ 0 _ rfl; (with_reducible repeat first | apply q1 | apply q2 | apply q3); exact BK169.out) Tryz.underlying24 rfl (by kernel_rfl)) rfl ?_
                exact ⟨_, by first | rfl | (simp [errW_none, errW_some] <;> rfl) | (simp [*, errW_none, errW_some] <;> rfl), by exact Kd.R_nil _ _ _ _ _, by repeat (first | (with_reducible first | exact HB.out | apply s1 | apply s2 | apply s3 | refine s4 ?_ GE169.out | refine s4 ?_ GE179.out) | exact HB.out)⟩
 ·rw [if_neg c3] at H
  exact absurd H (by simp)

end Go.Proofs.YtcbmbjapcpbnnaaGreatDoor.G
