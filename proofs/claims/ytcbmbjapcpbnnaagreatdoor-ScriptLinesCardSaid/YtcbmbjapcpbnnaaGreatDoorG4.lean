-- WRITTEN BY a program of this session (wip/gprint.py) out of the translation
import Derived.Test.YtcbmbjapcpbnnaaGreatDoorTabs
import Derived.Test.YtcbmbjapcpbnnaaGreatDoorG0
import Derived.Test.YtcbmbjapcpbnnaaGreatDoorG1
import Derived.Test.YtcbmbjapcpbnnaaGreatDoorG2
import Derived.Test.YtcbmbjapcpbnnaaGreatDoorG3
import Derived.Test.YtcbmbjapcpbnnaaGreatDoorGvStr
namespace Go.Proofs.YtcbmbjapcpbnnaaGreatDoor.G
open Go.RowKit Go.Proofs.YtcbmbjapcpbnnaaGreatDoorW.PrintWords Go.Proofs.YtcbmbjapcpbnnaaGreatDoorW.PrintLast Go.Proofs.YtcbmbjapcpbnnaaGreatDoorW.PrintMore
attribute [local go_sem] max2_int min2_int max_two min_two max_three min_three max_four min_four   -- for this text's walks alone
set_option linter.unusedVariables false
set_option linter.unusedSimpArgs false

/-! ### hist_Op: function 11 -/
mutual
def hist_Op.j0 : Nat → List ByteArray → Int → ByteArray → ByteArray → Int → Int → List Int → Int → Option (ByteArray)
 | 0, _, _, _, _, _, _, _, _ => none
 | k + 1, x3, x121000, x121001, x121002, x121003, x121004, x121005, x121006 => if x121000 = 5 then (hist_Op.j1 k x3 x121000 (x121000 == 5) x121000 x121001 x121002 x121003 x121004 x121005 x121006) else (hist_Op.j1 k x3 x121000 (x121000 == 6) x121000 x121001 x121002 x121003 x121004 x121005 x121006)
def hist_Op.j2 : Nat → List ByteArray → Int → ByteArray → ByteArray → Int → Int → List Int → Int → Option (ByteArray)
 | 0, _, _, _, _, _, _, _, _ => none
 | k + 1, x3, x121000, x121001, x121002, x121003, x121004, x121005, x121006 => if x121000 ≤ 11 then (hist_Op.j3 k x3 (x121006 != 0) x121000 x121001 x121002 x121003 x121004 x121005 x121006) else (hist_Op.j3 k x3 false x121000 x121001 x121002 x121003 x121004 x121005 x121006)
def hist_Op.j3 : Nat → List ByteArray → Bool → Int → ByteArray → ByteArray → Int → Int → List Int → Int → Option (ByteArray)
 | 0, _, _, _, _, _, _, _, _, _ => none
 | k + 1, x3, x72, x121000, x121001, x121002, x121003, x121004, x121005, x121006 => if x72 = true then ((hist_num.f x121006).bind fun t157 => (if 1 + t157.size ≤ 9223372036854775807 then (if x3.length < 8796093022208 then ((hist_num.f x121006).bind fun t161 => (if t161.toList = ([] : List UInt8) then (some (⟨#[]⟩ : ByteArray)) else (hist_Op.j4 k (x3 ++ [(⟨#[64]⟩ : ByteArray) ++ t157])))) else (none)) else (none))) else (hist_Op.j4 k x3)
def hist_Op.j4 : Nat → List ByteArray → Option (ByteArray)
 | 0, _ => none
 | k + 1, x3 => hist_Op.l0 k x3 x3 (x3.length : Int) 0
def hist_Op.l0 : Nat → List ByteArray → List ByteArray → Int → Int → Option (ByteArray)
 | 0, _, _, _, _ => none
 | k + 1, x3, x84, x85, x86 => if x86 < x85 then (if 0 ≤ x86 then (if x86 < (x84.length : Int) then (if (rdOf ByteArray.empty x84 x86).toList = ([] : List UInt8) then (some (⟨#[]⟩ : ByteArray)) else (hist_Op.l0 k x3 x84 x85 (wrap64 (x86 + 1)))) else (none)) else (none)) else ((strings_Join.f x3 (⟨#[32]⟩ : ByteArray)).bind fun t163 => (some t163))
def hist_Op.j1 : Nat → List ByteArray → Int → Bool → Int → ByteArray → ByteArray → Int → Int → List Int → Int → Option (ByteArray)
 | 0, _, _, _, _, _, _, _, _, _, _ => none
 | k + 1, x3, x20, x21, x121000, x121001, x121002, x121003, x121004, x121005, x121006 => if x21 = true then ((hist_path.f x121002).bind fun t129 => (if x3.length < 8796093022208 then (hist_Op.j2 k (x3 ++ [t129]) x121000 x121001 x121002 x121003 x121004 x121005 x121006) else (none))) else (if x20 = 8 then ((hist_num.f x121003).bind fun t149 => ((dump_Hex.f k x121005).bind fun t150 => ((some (([t149, t150] : List ByteArray) : List ByteArray)).bind fun y151 => (if x3.length + y151.length < 8796093022208 then (hist_Op.j2 k (x3 ++ y151) x121000 x121001 x121002 x121003 x121004 x121005 x121006) else (none))))) else (if x20 = 7 then ((hist_num.f x121003).bind fun t133 => (if x3.length < 8796093022208 then ((some (x3 ++ [t133] : List ByteArray)).bind fun y134 => ((hist_num.f x121004).bind fun t137 => (if y134.length < 8796093022208 then (hist_Op.j2 k (y134 ++ [t137]) x121000 x121001 x121002 x121003 x121004 x121005 x121006) else (none)))) else (none))) else (if x20 = 9 then ((hist_num.f x121004).bind fun t141 => (if x3.length < 8796093022208 then (hist_Op.j2 k (x3 ++ [t141]) x121000 x121001 x121002 x121003 x121004 x121005 x121006) else (none))) else (if x20 = 13 then ((hist_num.f x121006).bind fun t145 => (if x3.length < 8796093022208 then (hist_Op.j2 k (x3 ++ [t145]) x121000 x121001 x121002 x121003 x121004 x121005 x121006) else (none))) else (hist_Op.j2 k x3 x121000 x121001 x121002 x121003 x121004 x121005 x121006)))))
end
def hist_Op.f (k : Nat) (a0_0 : Int) (a0_1 : ByteArray) (a0_2 : ByteArray) (a0_3 : Int) (a0_4 : Int) (l0_5 : List Int) (a0_6 : Int) : Option (ByteArray) := (hist_word.f a0_0).bind fun t121 => ((some (([t121] : List ByteArray) : List ByteArray)).bind fun y122 => (if a0_0 ≤ 11 then ((hist_path.f a0_1).bind fun t125 => (if y122.length < 8796093022208 then (hist_Op.j0 k (y122 ++ [t125]) a0_0 a0_1 a0_2 a0_3 a0_4 l0_5 a0_6) else (none))) else (hist_Op.j0 k y122 a0_0 a0_1 a0_2 a0_3 a0_4 l0_5 a0_6)))
theorem hist_Op.mono_l : ∀ k, (∀ y0 y1 y2 y3 y4 y5 y6 y7, LeO (hist_Op.j0 k y0 y1 y2 y3 y4 y5 y6 y7) (hist_Op.j0 (k + 1) y0 y1 y2 y3 y4 y5 y6 y7)) ∧ (∀ y0 y1 y2 y3 y4 y5 y6 y7, LeO (hist_Op.j2 k y0 y1 y2 y3 y4 y5 y6 y7) (hist_Op.j2 (k + 1) y0 y1 y2 y3 y4 y5 y6 y7)) ∧ (∀ y0 y1 y2 y3 y4 y5 y6 y7 y8, LeO (hist_Op.j3 k y0 y1 y2 y3 y4 y5 y6 y7 y8) (hist_Op.j3 (k + 1) y0 y1 y2 y3 y4 y5 y6 y7 y8)) ∧ (∀ y0, LeO (hist_Op.j4 k y0) (hist_Op.j4 (k + 1) y0)) ∧ (∀ y0 y1 y2 y3, LeO (hist_Op.l0 k y0 y1 y2 y3) (hist_Op.l0 (k + 1) y0 y1 y2 y3)) ∧ (∀ y0 y1 y2 y3 y4 y5 y6 y7 y8 y9, LeO (hist_Op.j1 k y0 y1 y2 y3 y4 y5 y6 y7 y8 y9) (hist_Op.j1 (k + 1) y0 y1 y2 y3 y4 y5 y6 y7 y8 y9))
 | 0 => ⟨fun _ _ _ _ _ _ _ _ r h => by simp [hist_Op.j0] at h, fun _ _ _ _ _ _ _ _ r h => by simp [hist_Op.j2] at h, fun _ _ _ _ _ _ _ _ _ r h => by simp [hist_Op.j3] at h, fun _ r h => by simp [hist_Op.j4] at h, fun _ _ _ _ r h => by simp [hist_Op.l0] at h, fun _ _ _ _ _ _ _ _ _ _ r h => by simp [hist_Op.j1] at h⟩
 | k + 1 => by
  obtain ⟨ih0, ih1, ih2, ih3, ih4, ih5⟩ := hist_Op.mono_l k
  refine ⟨?_, ?_, ?_, ?_, ?_, ?_⟩
  ·intro y0 y1 y2 y3 y4 y5 y6 y7
   unfold hist_Op.j0
   repeat' first
   | (with_reducible exact ih0 _ _ _ _ _ _ _ _)
   | (with_reducible exact ih1 _ _ _ _ _ _ _ _)
   | (with_reducible exact ih2 _ _ _ _ _ _ _ _ _)
   | (with_reducible exact ih3 _)
   | (with_reducible exact ih4 _ _ _ _)
   | (with_reducible exact ih5 _ _ _ _ _ _ _ _ _ _)
   | (with_reducible exact dump_Hex.mono _ _)
   | (with_reducible exact LeO.refl _)
   | (with_reducible exact LeO.none _)
   | (with_reducible refine LeO.ite ?_ ?_)
   | (with_reducible refine LeO.bind ?_ (fun _ => ?_))
   | exact ih0 _ _ _ _ _ _ _ _
   | exact ih1 _ _ _ _ _ _ _ _
   | exact ih2 _ _ _ _ _ _ _ _ _
   | exact ih3 _
   | exact ih4 _ _ _ _
   | exact ih5 _ _ _ _ _ _ _ _ _ _
   | exact dump_Hex.mono _ _
   | exact LeO.none _
   | refine LeO.ite ?_ ?_
   | refine LeO.bind ?_ (fun _ => ?_)
  ·intro y0 y1 y2 y3 y4 y5 y6 y7
   unfold hist_Op.j2
   repeat' first
   | (with_reducible exact ih0 _ _ _ _ _ _ _ _)
   | (with_reducible exact ih1 _ _ _ _ _ _ _ _)
   | (with_reducible exact ih2 _ _ _ _ _ _ _ _ _)
   | (with_reducible exact ih3 _)
   | (with_reducible exact ih4 _ _ _ _)
   | (with_reducible exact ih5 _ _ _ _ _ _ _ _ _ _)
   | (with_reducible exact dump_Hex.mono _ _)
   | (with_reducible exact LeO.refl _)
   | (with_reducible exact LeO.none _)
   | (with_reducible refine LeO.ite ?_ ?_)
   | (with_reducible refine LeO.bind ?_ (fun _ => ?_))
   | exact ih0 _ _ _ _ _ _ _ _
   | exact ih1 _ _ _ _ _ _ _ _
   | exact ih2 _ _ _ _ _ _ _ _ _
   | exact ih3 _
   | exact ih4 _ _ _ _
   | exact ih5 _ _ _ _ _ _ _ _ _ _
   | exact dump_Hex.mono _ _
   | exact LeO.none _
   | refine LeO.ite ?_ ?_
   | refine LeO.bind ?_ (fun _ => ?_)
  ·intro y0 y1 y2 y3 y4 y5 y6 y7 y8
   unfold hist_Op.j3
   repeat' first
   | (with_reducible exact ih0 _ _ _ _ _ _ _ _)
   | (with_reducible exact ih1 _ _ _ _ _ _ _ _)
   | (with_reducible exact ih2 _ _ _ _ _ _ _ _ _)
   | (with_reducible exact ih3 _)
   | (with_reducible exact ih4 _ _ _ _)
   | (with_reducible exact ih5 _ _ _ _ _ _ _ _ _ _)
   | (with_reducible exact dump_Hex.mono _ _)
   | (with_reducible exact LeO.refl _)
   | (with_reducible exact LeO.none _)
   | (with_reducible refine LeO.ite ?_ ?_)
   | (with_reducible refine LeO.bind ?_ (fun _ => ?_))
   | exact ih0 _ _ _ _ _ _ _ _
   | exact ih1 _ _ _ _ _ _ _ _
   | exact ih2 _ _ _ _ _ _ _ _ _
   | exact ih3 _
   | exact ih4 _ _ _ _
   | exact ih5 _ _ _ _ _ _ _ _ _ _
   | exact dump_Hex.mono _ _
   | exact LeO.none _
   | refine LeO.ite ?_ ?_
   | refine LeO.bind ?_ (fun _ => ?_)
  ·intro y0
   unfold hist_Op.j4
   repeat' first
   | (with_reducible exact ih0 _ _ _ _ _ _ _ _)
   | (with_reducible exact ih1 _ _ _ _ _ _ _ _)
   | (with_reducible exact ih2 _ _ _ _ _ _ _ _ _)
   | (with_reducible exact ih3 _)
   | (with_reducible exact ih4 _ _ _ _)
   | (with_reducible exact ih5 _ _ _ _ _ _ _ _ _ _)
   | (with_reducible exact dump_Hex.mono _ _)
   | (with_reducible exact LeO.refl _)
   | (with_reducible exact LeO.none _)
   | (with_reducible refine LeO.ite ?_ ?_)
   | (with_reducible refine LeO.bind ?_ (fun _ => ?_))
   | exact ih0 _ _ _ _ _ _ _ _
   | exact ih1 _ _ _ _ _ _ _ _
   | exact ih2 _ _ _ _ _ _ _ _ _
   | exact ih3 _
   | exact ih4 _ _ _ _
   | exact ih5 _ _ _ _ _ _ _ _ _ _
   | exact dump_Hex.mono _ _
   | exact LeO.none _
   | refine LeO.ite ?_ ?_
   | refine LeO.bind ?_ (fun _ => ?_)
  ·intro y0 y1 y2 y3
   unfold hist_Op.l0
   repeat' first
   | (with_reducible exact ih0 _ _ _ _ _ _ _ _)
   | (with_reducible exact ih1 _ _ _ _ _ _ _ _)
   | (with_reducible exact ih2 _ _ _ _ _ _ _ _ _)
   | (with_reducible exact ih3 _)
   | (with_reducible exact ih4 _ _ _ _)
   | (with_reducible exact ih5 _ _ _ _ _ _ _ _ _ _)
   | (with_reducible exact dump_Hex.mono _ _)
   | (with_reducible exact LeO.refl _)
   | (with_reducible exact LeO.none _)
   | (with_reducible refine LeO.ite ?_ ?_)
   | (with_reducible refine LeO.bind ?_ (fun _ => ?_))
   | exact ih0 _ _ _ _ _ _ _ _
   | exact ih1 _ _ _ _ _ _ _ _
   | exact ih2 _ _ _ _ _ _ _ _ _
   | exact ih3 _
   | exact ih4 _ _ _ _
   | exact ih5 _ _ _ _ _ _ _ _ _ _
   | exact dump_Hex.mono _ _
   | exact LeO.none _
   | refine LeO.ite ?_ ?_
   | refine LeO.bind ?_ (fun _ => ?_)
  ·intro y0 y1 y2 y3 y4 y5 y6 y7 y8 y9
   unfold hist_Op.j1
   repeat' first
   | (with_reducible exact ih0 _ _ _ _ _ _ _ _)
   | (with_reducible exact ih1 _ _ _ _ _ _ _ _)
   | (with_reducible exact ih2 _ _ _ _ _ _ _ _ _)
   | (with_reducible exact ih3 _)
   | (with_reducible exact ih4 _ _ _ _)
   | (with_reducible exact ih5 _ _ _ _ _ _ _ _ _ _)
   | (with_reducible exact dump_Hex.mono _ _)
   | (with_reducible exact LeO.refl _)
   | (with_reducible exact LeO.none _)
   | (with_reducible refine LeO.ite ?_ ?_)
   | (with_reducible refine LeO.bind ?_ (fun _ => ?_))
   | exact ih0 _ _ _ _ _ _ _ _
   | exact ih1 _ _ _ _ _ _ _ _
   | exact ih2 _ _ _ _ _ _ _ _ _
   | exact ih3 _
   | exact ih4 _ _ _ _
   | exact ih5 _ _ _ _ _ _ _ _ _ _
   | exact dump_Hex.mono _ _
   | exact LeO.none _
   | refine LeO.ite ?_ ?_
   | refine LeO.bind ?_ (fun _ => ?_)
theorem hist_Op.mono : ∀ a0 a1 a2 a3 a4 a5 a6 k, LeO (hist_Op.f k a0 a1 a2 a3 a4 a5 a6) (hist_Op.f (k + 1) a0 a1 a2 a3 a4 a5 a6) := by
 intro a0 a1 a2 a3 a4 a5 a6 k
 obtain ⟨ih0, ih1, ih2, ih3, ih4, ih5⟩ := hist_Op.mono_l k
 unfold hist_Op.f
 repeat' first
   | (with_reducible exact ih0 _ _ _ _ _ _ _ _)
   | (with_reducible exact ih1 _ _ _ _ _ _ _ _)
   | (with_reducible exact ih2 _ _ _ _ _ _ _ _ _)
   | (with_reducible exact ih3 _)
   | (with_reducible exact ih4 _ _ _ _)
   | (with_reducible exact ih5 _ _ _ _ _ _ _ _ _ _)
   | (with_reducible exact dump_Hex.mono _ _)
   | (with_reducible exact LeO.refl _)
   | (with_reducible exact LeO.none _)
   | (with_reducible refine LeO.ite ?_ ?_)
   | (with_reducible refine LeO.bind ?_ (fun _ => ?_))
   | exact ih0 _ _ _ _ _ _ _ _
   | exact ih1 _ _ _ _ _ _ _ _
   | exact ih2 _ _ _ _ _ _ _ _ _
   | exact ih3 _
   | exact ih4 _ _ _ _
   | exact ih5 _ _ _ _ _ _ _ _ _ _
   | exact dump_Hex.mono _ _
   | exact LeO.none _
   | refine LeO.ite ?_ ?_
   | refine LeO.bind ?_ (fun _ => ?_)
def hist_Op.T12 : Bool × List (List Nat × List Nat) := (true, [([], []), ([], []), ([1], [1]), ([2], [2]), ([], []), ([4], [4]), ([5, 3], [5]), ([3, 6], [3, 6]), ([0, 7, 6], [0, 7]), ([8, 8, 0, 1, 2, 3, 4, 5, 6, 7, 8], [0, 8])])
def hist_Op.B12 : List Nat := [0, 0, 2, 6, 0, 16, 62, 126, 255, 511]
theorem hist_Op.tab12 : rtab .any (opsOf Tryz.f11 12) = hist_Op.T12 := by kernel_rfl
theorem hist_Op.bits12 : waitsOk hist_Op.T12.2 hist_Op.B12 = true := by kernel_rfl
set_option maxHeartbeats 8000000 in
set_option maxRecDepth 100000 in
theorem hist_Op.calls (k : Nat) (a0_0 : Int) (a0_1 : ByteArray) (a0_2 : ByteArray) (a0_3 : Int) (a0_4 : Int) (A0_5 : Option Addr) (c0_5 : Nat) (l0_5 : List Int) (a0_6 : Int) (r : ByteArray) (w : World) (hr0_5 : Kd.C (Kd.int .u8) w A0_5 l0_5.length l0_5) (hc0_5 : l0_5.length ≤ c0_5) (h : hist_Op.f k a0_0 a0_1 a0_2 a0_3 a0_4 l0_5 a0_6 = some r) (hT : Tabs w) :
  Calls Tryz.prog 11 #[.agg #[.int .i64 a0_0, .string a0_1, .string a0_2, .int .i64 a0_3, .int .i64 a0_4, .slice A0_5 l0_5.length c0_5, .int .i64 a0_6]] w fun e w' => e = .returned (.string r) ∧ Below w.heap.size w w' := by
 have HT := Aside0.mk hT
 clear hT
 have hu24 := Tryz.underlying24
 have HR0_5 := Aside0.mk hr0_5
 have HC0_5 := Aside0.mk hc0_5
 clear hr0_5 hc0_5
 have HB := Aside0.mk (Below.refl w.heap.size w)
 have H : ((hist_word.f a0_0).bind fun t121 => ((some (([t121] : List ByteArray) : List ByteArray)).bind fun y122 => (if a0_0 ≤ 11 then ((hist_path.f a0_1).bind fun t125 => (if y122.length < 8796093022208 then (hist_Op.j0 k (y122 ++ [t125]) a0_0 a0_1 a0_2 a0_3 a0_4 l0_5 a0_6) else (none))) else (hist_Op.j0 k y122 a0_0 a0_1 a0_2 a0_3 a0_4 l0_5 a0_6)))) = some r := h
 clear h
 replace H := Option.bind_eq_some_iff.mp H
 obtain ⟨t121, A20, H⟩ := H
 replace H : ((some (([t121] : List ByteArray) : List ByteArray)).bind fun y122 => (if a0_0 ≤ 11 then ((hist_path.f a0_1).bind fun t125 => (if y122.length < 8796093022208 then (hist_Op.j0 k (y122 ++ [t125]) a0_0 a0_1 a0_2 a0_3 a0_4 l0_5 a0_6) else (none))) else (hist_Op.j0 k y122 a0_0 a0_1 a0_2 a0_3 a0_4 l0_5 a0_6))) = some r := H
 have A2 := Aside0.mk A20
 clear A20
 obtain ⟨y122, hy122⟩ : ∃ y_ : List ByteArray, y_ = (([t121] : List ByteArray)) := ⟨_, rfl⟩
 replace H : (if a0_0 ≤ 11 then ((hist_path.f a0_1).bind fun t125 => (if y122.length < 8796093022208 then (hist_Op.j0 k (y122 ++ [t125]) a0_0 a0_1 a0_2 a0_3 a0_4 l0_5 a0_6) else (none))) else (hist_Op.j0 k y122 a0_0 a0_1 a0_2 a0_3 a0_4 l0_5 a0_6)) = some r := by first | (rw [hy122]; with_reducible exact H) | (have H2_ := (Option.bind_some _ _).symm.trans H; rw [hy122]; with_reducible exact H2_) | (have H2_ := (Option.bind_some _ _).symm.trans H; with_reducible exact H2_) | with_reducible exact H | (rw [hy122]; exact H) | exact H
 have Ny122 := Aside0.mk hy122
 clear hy122
 have HC3 := Aside0.mk H
 clear H
 go_enter Tryz.func11, Tryz.ntmps11
 go_upto_if 12 with (first | ((with_reducible refine gate_dst (N := 1) rfl ?_); refine box_event ?hg (N := 1) ?hd (cs := #[.int .i64 a0_0, .string a0_1, .string a0_2, .int .i64 a0_3, .int .i64 a0_4, .slice A0_5 l0_5.length c0_5, .int .i64 a0_6]) (t := 24) ?hr ?_; (case hd => rfl); (case hg => rfl); (case hr => first | (go_simp; done) | (go_simp; rfl)); intro gb120 hg w4 hbox hb; have n0_ := Aside0.mk (below_step (by repeat (first | (with_reducible first | exact HB.out | apply s1 | apply s2 | apply s3) | exact HB.out)) hb); have n1_ := Aside0.mk (hbox); have n2_ := Aside0.mk ((by rw [hg]; exact (below_size (by repeat (first | (with_reducible first | exact HB.out | apply s1 | apply s2 | apply s3) | exact HB.out))) : w.heap.size ≤ gb120)); have n3_ := Aside0.mk ((by rw [hg]; exact (below_size (by repeat (first | (with_reducible first | exact HB.out | apply s1 | apply s2 | apply s3) | exact HB.out))) : w.heap.size ≤ gb120)); clear HB; have HB := n0_; have BK120 := n1_; have GW120 := n2_; have GE120 := n3_; clear n0_ n1_ n2_ n3_; clear hb hbox hg; have hcz5_0 : w4.cell? ⟨gb120, 0, none⟩ = some (.int .i64 a0_0) := (blk_cell BK120.out 0).trans rfl; have hcz5_1 : w4.cell? ⟨gb120, 1, none⟩ = some (.string a0_1) := (blk_cell BK120.out 1).trans rfl; have hcz5_2 : w4.cell? ⟨gb120, 2, none⟩ = some (.string a0_2) := (blk_cell BK120.out 2).trans rfl; have hcz5_3 : w4.cell? ⟨gb120, 3, none⟩ = some (.int .i64 a0_3) := (blk_cell BK120.out 3).trans rfl; have hcz5_4 : w4.cell? ⟨gb120, 4, none⟩ = some (.int .i64 a0_4) := (blk_cell BK120.out 4).trans rfl; have hcz5_5 : w4.cell? ⟨gb120, 5, none⟩ = some (.slice A0_5 l0_5.length c0_5) := (blk_cell BK120.out 5).trans rfl; have hcz5_6 : w4.cell? ⟨gb120, 6, none⟩ = some (.int .i64 a0_6) := (blk_cell BK120.out 6).trans rfl; have hfz5_0 := blk_frozen BK120.out 0; have hfz5_1 := blk_frozen BK120.out 1; have hfz5_2 := blk_frozen BK120.out 2; have hfz5_3 := blk_frozen BK120.out 3; have hfz5_4 := blk_frozen BK120.out 4; have hfz5_5 := blk_frozen BK120.out 5; have hfz5_6 := blk_frozen BK120.out 6) | ((with_reducible refine gate_callee (f := 32) rfl ?_); refine goesL_ (some 8) rfl rfl Tryz.func32 (by kernel_rfl) rfl #[.int .i64 a0_0] rfl (by (try simp only [List.map_toArray, List.map_cons, List.map_nil]); first | done | rfl | (simp only [List.length_drop, List.length_take]; rfl)) ?_; (with_reducible refine (hist_word.calls a0_0 t121 _ A2.out).mono ?_); rintro e w6 ⟨rfl, hb⟩; refine ⟨_, rfl, ?_⟩; have n0_ := Aside0.mk (blk_below (g := gb120) (o := .cells #[.int .i64 a0_0, .string a0_1, .string a0_2, .int .i64 a0_3, .int .i64 a0_4, .slice A0_5 l0_5.length c0_5, .int .i64 a0_6] 24 (0, 0)) (by (with_reducible repeat first | apply q1 | apply q2 | apply q3); exact BK120.out) hb); have n1_ := Aside0.mk (below_step (by repeat (first | (with_reducible first | exact HB.out | apply s1 | apply s2 | apply s3 | refine s4 ?_ GE120.out) | exact HB.out)) hb); clear BK120; clear HB; have BK120 := n0_; have HB := n1_; clear n0_ n1_; (try clear hb); (try clear hb2); (try clear hk); (try clear hi)) | ((with_reducible refine gate_dst (N := 9) rfl ?_); refine Kd.R_lit Kd.string _ 9 ?hg (N := 9) ?hd (xs := ([t121] : List ByteArray)) (inner := [.string t121]) (ok := fun _ => True) (okp := fun _ => True) ?hr ?hp (fun _ hk => hk) trivial (Below.refl _ _) (Nat.le_refl _) (by simp) ?_; (case hd => rfl); (case hg => rfl); (case hr => first | (go_simp; done) | (go_simp; rfl)); (case hp => exact (Reps.one (show Kd.M Kd.string _ _ _ t121 [.string t121] from rfl) (Reps.none _ _))); intro v123 w7 ho8 hb hg_ hnew_; clear hg_ hnew_; (first | rw [← Ny122.out] at ho8 | (simp only [Int.reduceToNat] at ho8; rw [← Ny122.out] at ho8)); have n0_ := Aside0.mk (Kd.R_lower ho8 (below_size (by repeat (first | (with_reducible first | exact HB.out | apply s1 | apply s2 | apply s3 | refine s4 ?_ GE120.out) | exact HB.out)))); have n1_ := Aside0.mk (blk_below (g := gb120) (o := .cells #[.int .i64 a0_0, .string a0_1, .string a0_2, .int .i64 a0_3, .int .i64 a0_4, .slice A0_5 l0_5.length c0_5, .int .i64 a0_6] 24 (0, 0)) (by (with_reducible repeat first | apply q1 | apply q2 | apply q3); exact BK120.out) hb); have n2_ := Aside0.mk (below_step (by repeat (first | (with_reducible first | exact HB.out | apply s1 | apply s2 | apply s3 | refine s4 ?_ GE120.out) | exact HB.out)) hb); clear BK120; clear HB; have HO124 := n0_; have BK120 := n1_; have HB := n2_; clear n0_ n1_ n2_; clear hb ho8; have hcz9_0 : w7.cell? ⟨gb120, 0, none⟩ = some (.int .i64 a0_0) := (blk_cell BK120.out 0).trans rfl; have hcz9_1 : w7.cell? ⟨gb120, 1, none⟩ = some (.string a0_1) := (blk_cell BK120.out 1).trans rfl; have hcz9_2 : w7.cell? ⟨gb120, 2, none⟩ = some (.string a0_2) := (blk_cell BK120.out 2).trans rfl; have hcz9_3 : w7.cell? ⟨gb120, 3, none⟩ = some (.int .i64 a0_3) := (blk_cell BK120.out 3).trans rfl; have hcz9_4 : w7.cell? ⟨gb120, 4, none⟩ = some (.int .i64 a0_4) := (blk_cell BK120.out 4).trans rfl; have hcz9_5 : w7.cell? ⟨gb120, 5, none⟩ = some (.slice A0_5 l0_5.length c0_5) := (blk_cell BK120.out 5).trans rfl; have hcz9_6 : w7.cell? ⟨gb120, 6, none⟩ = some (.int .i64 a0_6) := (blk_cell BK120.out 6).trans rfl; have hfz9_0 := blk_frozen BK120.out 0; have hfz9_1 := blk_frozen BK120.out 1; have hfz9_2 := blk_frozen BK120.out 2; have hfz9_3 := blk_frozen BK120.out 3; have hfz9_4 := blk_frozen BK120.out 4; have hfz9_5 := blk_frozen BK120.out 5; have hfz9_6 := blk_frozen BK120.out 6))
 (try simp only [Act.put, List.setIfInBounds_toArray, List.set_cons_zero, List.set_cons_succ])
 go_cut [3] (fun v3 wc => ∃ (kq : Nat) (x3_2 : List ByteArray), Aside0 (hist_Op.j0 kq x3_2 a0_0 a0_1 a0_2 a0_3 a0_4 l0_5 a0_6 = some r) ∧ Aside0 (kq ≤ k) ∧ Aside0 (Kd.R Kd.string 9 wc w.heap.size (fun _ => True) v3 x3_2) ∧ Aside0 (wc.heap[gb120]? = some (.cells #[.int .i64 a0_0, .string a0_1, .string a0_2, .int .i64 a0_3, .int .i64 a0_4, (.slice A0_5 l0_5.length c0_5), .int .i64 a0_6] 24 (0, 0))) ∧ Aside0 (Below w.heap.size w wc))
 case first =>
  have H := HC3.out
  clear HC3
  by_cases c10 : a0_0 ≤ 11
  ·rw [if_pos c10] at H
   have c10b0 : decide (a0_0 ≤ 11) = true := decide_eq_true c10
   clear c10
   (first | rw [c10b0] | (simp only [i64_w, i32_w]; rw [c10b0]) | skip)
   replace H := Option.bind_eq_some_iff.mp H
   obtain ⟨t125, A110, H⟩ := H
   replace H : (if y122.length < 8796093022208 then (hist_Op.j0 k (y122 ++ [t125]) a0_0 a0_1 a0_2 a0_3 a0_4 l0_5 a0_6) else (none)) = some r := H
   have A11 := Aside0.mk A110
   clear A110
   by_cases c12 : y122.length < 8796093022208
   ·rw [if_pos c12] at H
    have LMc12 := Aside0.mk c12
    clear c12
    obtain ⟨y126, hy126⟩ : ∃ y_ : List ByteArray, y_ = (y122 ++ [t125]) := ⟨_, rfl⟩
    replace H : (hist_Op.j0 k y126 a0_0 a0_1 a0_2 a0_3 a0_4 l0_5 a0_6) = some r := by first | (rw [hy126]; with_reducible exact H) | (have H2_ := (Option.bind_some _ _).symm.trans H; rw [hy126]; with_reducible exact H2_) | (have H2_ := (Option.bind_some _ _).symm.trans H; with_reducible exact H2_) | with_reducible exact H | (rw [hy126]; exact H) | exact H
    have Ny126 := Aside0.mk hy126
    clear hy126
    have H' := Aside0.mk H
    clear H
    have hcz13_0 : w7.cell? ⟨gb120, 0, none⟩ = some (.int .i64 a0_0) := (blk_cell BK120.out 0).trans rfl
    have hcz13_1 : w7.cell? ⟨gb120, 1, none⟩ = some (.string a0_1) := (blk_cell BK120.out 1).trans rfl
    have hcz13_2 : w7.cell? ⟨gb120, 2, none⟩ = some (.string a0_2) := (blk_cell BK120.out 2).trans rfl
    have hcz13_3 : w7.cell? ⟨gb120, 3, none⟩ = some (.int .i64 a0_3) := (blk_cell BK120.out 3).trans rfl
    have hcz13_4 : w7.cell? ⟨gb120, 4, none⟩ = some (.int .i64 a0_4) := (blk_cell BK120.out 4).trans rfl
    have hcz13_5 : w7.cell? ⟨gb120, 5, none⟩ = some (.slice A0_5 l0_5.length c0_5) := (blk_cell BK120.out 5).trans rfl
    have hcz13_6 : w7.cell? ⟨gb120, 6, none⟩ = some (.int .i64 a0_6) := (blk_cell BK120.out 6).trans rfl
    have hfz13_0 := blk_frozen BK120.out 0
    have hfz13_1 := blk_frozen BK120.out 1
    have hfz13_2 := blk_frozen BK120.out 2
    have hfz13_3 := blk_frozen BK120.out 3
    have hfz13_4 := blk_frozen BK120.out 4
    have hfz13_5 := blk_frozen BK120.out 5
    have hfz13_6 := blk_frozen BK120.out 6
    go_wp2_with (first | ((with_reducible refine gate_callee (f := 33) rfl ?_); refine goesL_ (some 16) rfl rfl Tryz.func33 (by kernel_rfl) rfl #[.string a0_1] rfl (by (try simp only [List.map_toArray, List.map_cons, List.map_nil]); first | done | rfl | (simp only [List.length_drop, List.length_take]; rfl)) ?_; (with_reducible refine (hist_path.calls a0_1 t125 _ A11.out).mono ?_); rintro e w14 ⟨rfl, hb⟩; refine ⟨_, rfl, ?_⟩; have n0_ := Aside0.mk (Kd.R_below (by (with_reducible repeat first | apply r1 | apply r2 | apply r3); exact HO124.out) hb); have n1_ := Aside0.mk (blk_below (g := gb120) (o := .cells #[.int .i64 a0_0, .string a0_1, .string a0_2, .int .i64 a0_3, .int .i64 a0_4, .slice A0_5 l0_5.length c0_5, .int .i64 a0_6] 24 (0, 0)) (by (with_reducible repeat first | apply q1 | apply q2 | apply q3); exact BK120.out) hb); have n2_ := Aside0.mk (below_step (by repeat (first | (with_reducible first | exact HB.out | apply s1 | apply s2 | apply s3 | refine s4 ?_ GE120.out) | exact HB.out)) hb); clear HO124; clear BK120; clear HB; have HO124 := n0_; have BK120 := n1_; have HB := n2_; clear n0_ n1_ n2_; (try clear hb); (try clear hb2); (try clear hk); (try clear hi)) | ((with_reducible refine gate_builtin (b := .append) (xs := #[.tmp 13, .tmp 17]) rfl ?_); at_builtin; refine Kd.R_append Kd.string (w0 := w) w.heap.size rfl (.tmp 13) (.tmp 17) 38 9 (.string ⟨#[]⟩) 16 rfl Tryz.underlying38 info9 rfl (by decide) (by omega) v123 y122 t125 [.string t125] (fun _ => True) (fun _ => False) rfl rfl ?aP (fun _ hk => hk.elim) ?aF ?aO ?aB ?aS ?aL ?_; (case aP => exact rfl); (case aB => exact (by repeat (first | (with_reducible first | exact HB.out | apply s1 | apply s2 | apply s3 | refine s4 ?_ GE120.out) | exact HB.out))); (case aF => exact (fun _ _ => trivial)); (case aO => exact (by (with_reducible repeat first | apply r1 | apply r2 | apply r3); exact HO124.out)); (case aS => exact (below_size (by repeat (first | (with_reducible first | exact HB.out | apply s1 | apply s2 | apply s3 | refine s4 ?_ GE120.out) | exact HB.out)))); (case aL => have := LMc12.out; omega); intro v127 w15 ho hb hg hat; rw [← Ny126.out] at ho; have n0_ := Aside0.mk (blk_grown (g := gb120) (o := .cells #[.int .i64 a0_0, .string a0_1, .string a0_2, .int .i64 a0_3, .int .i64 a0_4, .slice A0_5 l0_5.length c0_5, .int .i64 a0_6] 24 (0, 0)) (by (with_reducible repeat first | apply q1 | apply q2 | apply q3); exact BK120.out) hg (Kd.R_ne HO124.out BK120.out (by decide))); have n1_ := Aside0.mk (hb); have n2_ := Aside0.mk (ho); clear BK120; clear HB; clear HO124; have BK120 := n0_; have HB := n1_; have HO128 := n2_; clear n0_ n1_ n2_; clear ho hb hg hat))
    go_meet
    case rel => exact ⟨_, (y126), H', ⟨by first | omega | exact Nat.le_refl _⟩, ⟨by (with_reducible repeat first | apply r1 | apply r2 | apply r3); exact HO128.out⟩, ⟨by (with_reducible repeat first | apply q1 | apply q2 | apply q3); exact BK120.out⟩, ⟨by repeat (first | (with_reducible first | exact HB.out | apply s1 | apply s2 | apply s3 | refine s4 ?_ GE120.out) | exact HB.out)⟩⟩
   ·rw [if_neg c12] at H
    exact absurd H (by simp)
  ·rw [if_neg c10] at H
   have c10b0 : decide (a0_0 ≤ 11) = false := decide_eq_false c10
   clear c10
   (first | rw [c10b0] | (simp only [i64_w, i32_w]; rw [c10b0]) | skip)
   have H' := Aside0.mk H
   clear H
   go_wp2
   go_meet
   case rel => exact ⟨_, (y122), H', ⟨by first | omega | exact Nat.le_refl _⟩, ⟨by (with_reducible repeat first | apply r1 | apply r2 | apply r3); exact HO124.out⟩, ⟨by (with_reducible repeat first | apply q1 | apply q2 | apply q3); exact BK120.out⟩, ⟨by repeat (first | (with_reducible first | exact HB.out | apply s1 | apply s2 | apply s3 | refine s4 ?_ GE120.out) | exact HB.out)⟩⟩
 case rest =>
  clear HC3
  try clear c1
  try clear p2
  try clear c3
  try clear c10
  try clear c10b0
  try clear c11
  try clear c12
  try clear hcz13_0
  try clear hcz13_1
  try clear hcz13_2
  try clear hcz13_3
  try clear hcz13_4
  try clear hcz13_5
  try clear hcz13_6
  try clear hcz5_0
  try clear hcz5_1
  try clear hcz5_2
  try clear hcz5_3
  try clear hcz5_4
  try clear hcz5_5
  try clear hcz5_6
  try clear hcz9_0
  try clear hcz9_1
  try clear hcz9_2
  try clear hcz9_3
  try clear hcz9_4
  try clear hcz9_5
  try clear hcz9_6
  try clear hfz13_0
  try clear hfz13_1
  try clear hfz13_2
  try clear hfz13_3
  try clear hfz13_4
  try clear hfz13_5
  try clear hfz13_6
  try clear hfz5_0
  try clear hfz5_1
  try clear hfz5_2
  try clear hfz5_3
  try clear hfz5_4
  try clear hfz5_5
  try clear hfz5_6
  try clear hfz9_0
  try clear hfz9_1
  try clear hfz9_2
  try clear hfz9_3
  try clear hfz9_4
  try clear hfz9_5
  try clear hfz9_6
  obtain ⟨kq, x3_2, HA, HJ2, HO_3, BK120, HB⟩ := hcut
  cases kq with
  | zero => exact absurd HA.out (by simp [hist_Op.j0])
  | succ kj2 =>
   have H := HA.out
   clear HA
   simp only [hist_Op.j0] at H
   have HC16 := Aside0.mk H
   clear H
   have hcz17_0 : wc.cell? ⟨gb120, 0, none⟩ = some (.int .i64 a0_0) := (blk_cell BK120.out 0).trans rfl
   have hcz17_1 : wc.cell? ⟨gb120, 1, none⟩ = some (.string a0_1) := (blk_cell BK120.out 1).trans rfl
   have hcz17_2 : wc.cell? ⟨gb120, 2, none⟩ = some (.string a0_2) := (blk_cell BK120.out 2).trans rfl
   have hcz17_3 : wc.cell? ⟨gb120, 3, none⟩ = some (.int .i64 a0_3) := (blk_cell BK120.out 3).trans rfl
   have hcz17_4 : wc.cell? ⟨gb120, 4, none⟩ = some (.int .i64 a0_4) := (blk_cell BK120.out 4).trans rfl
   have hcz17_5 : wc.cell? ⟨gb120, 5, none⟩ = some (.slice A0_5 l0_5.length c0_5) := (blk_cell BK120.out 5).trans rfl
   have hcz17_6 : wc.cell? ⟨gb120, 6, none⟩ = some (.int .i64 a0_6) := (blk_cell BK120.out 6).trans rfl
   have hfz17_0 := blk_frozen BK120.out 0
   have hfz17_1 := blk_frozen BK120.out 1
   have hfz17_2 := blk_frozen BK120.out 2
   have hfz17_3 := blk_frozen BK120.out 3
   have hfz17_4 := blk_frozen BK120.out 4
   have hfz17_5 := blk_frozen BK120.out 5
   have hfz17_6 := blk_frozen BK120.out 6
   go_upto_block 0 with (fail)
   go_cut [3] (fun v3 wc => ∃ (kq : Nat) (x3_15 : List ByteArray), Aside0 (hist_Op.j2 kq x3_15 a0_0 a0_1 a0_2 a0_3 a0_4 l0_5 a0_6 = some r) ∧ Aside0 (kq ≤ kj2) ∧ Aside0 (Kd.R Kd.string 9 wc w.heap.size (fun _ => True) v3 x3_15) ∧ Aside0 (wc.heap[gb120]? = some (.cells #[.int .i64 a0_0, .string a0_1, .string a0_2, .int .i64 a0_3, .int .i64 a0_4, (.slice A0_5 l0_5.length c0_5), .int .i64 a0_6] 24 (0, 0))) ∧ Aside0 (Below w.heap.size w wc))
   case first =>
    have H := HC16.out
    clear HC16
    have HC18 := Aside0.mk H
    clear H
    go_upto_if 21 with (fail)
    go_cut [21] (fun v21 wc => ∃ (kq : Nat) (x21_17 : Bool), v21 = .bool x21_17 ∧ Aside0 (hist_Op.j1 kq x3_2 a0_0 x21_17 a0_0 a0_1 a0_2 a0_3 a0_4 l0_5 a0_6 = some r) ∧ Aside0 (kq ≤ kj2) ∧ Aside0 (Kd.R Kd.string 9 wc w.heap.size (fun _ => True) u3 x3_2) ∧ Aside0 (wc.heap[gb120]? = some (.cells #[.int .i64 a0_0, .string a0_1, .string a0_2, .int .i64 a0_3, .int .i64 a0_4, (.slice A0_5 l0_5.length c0_5), .int .i64 a0_6] 24 (0, 0))) ∧ Aside0 (Below w.heap.size w wc))
    case first =>
     have H := HC18.out
     clear HC18
     by_cases c19 : a0_0 = 5
     ·rw [if_pos c19] at H
      have c19b0 : (a0_0 == 5) = true := beq_iff_eq.mpr c19
      have c19b1 : (a0_0 != 5) = false := bne_eq_false_iff_eq.mpr c19
      clear c19
      (first | rw [c19b0] | (simp only [i64_w, i32_w]; rw [c19b0]) | skip)
      have H' := Aside0.mk H
      clear H
      go_wp2
      go_meet
      case rel => exact ⟨_, ((a0_0 == 5)), (by first | rfl | (simp; done) | (simp [*]; done)), H', ⟨by have := HJ2.out; first | omega | exact Nat.le_refl _⟩, ⟨by (with_reducible repeat first | apply r1 | apply r2 | apply r3); exact HO_3.out⟩, ⟨by (with_reducible repeat first | apply q1 | apply q2 | apply q3); exact BK120.out⟩, ⟨by repeat (first | (with_reducible first | exact HB.out | apply s1 | apply s2 | apply s3 | refine s4 ?_ GE120.out) | exact HB.out)⟩⟩
     ·rw [if_neg c19] at H
      have c19b0 : (a0_0 == 5) = false := beq_eq_false_iff_ne.mpr c19
      have c19b1 : (a0_0 != 5) = true := bne_iff_ne.mpr c19
      (first | rw [c19b0] | (simp only [i64_w, i32_w]; rw [c19b0]) | skip)
      have H' := Aside0.mk H
      clear H
      go_wp2
      go_meet
      case rel => exact ⟨_, ((a0_0 == 6)), (by first | rfl | (simp; done) | (simp [*]; done)), H', ⟨by have := HJ2.out; first | omega | exact Nat.le_refl _⟩, ⟨by (with_reducible repeat first | apply r1 | apply r2 | apply r3); exact HO_3.out⟩, ⟨by (with_reducible repeat first | apply q1 | apply q2 | apply q3); exact BK120.out⟩, ⟨by repeat (first | (with_reducible first | exact HB.out | apply s1 | apply s2 | apply s3 | refine s4 ?_ GE120.out) | exact HB.out)⟩⟩
    case rest =>
     clear HC18
     try clear c1
     try clear p2
     try clear c3
     try clear c10
     try clear c10b0
     try clear c11
     try clear c12
     try clear c19
     try clear c19b0
     try clear c19b1
     try clear hcz13_0
     try clear hcz13_1
     try clear hcz13_2
     try clear hcz13_3
     try clear hcz13_4
     try clear hcz13_5
     try clear hcz13_6
     try clear hcz17_0
     try clear hcz17_1
     try clear hcz17_2
     try clear hcz17_3
     try clear hcz17_4
     try clear hcz17_5
     try clear hcz17_6
     try clear hcz5_0
     try clear hcz5_1
     try clear hcz5_2
     try clear hcz5_3
     try clear hcz5_4
     try clear hcz5_5
     try clear hcz5_6
     try clear hcz9_0
     try clear hcz9_1
     try clear hcz9_2
     try clear hcz9_3
     try clear hcz9_4
     try clear hcz9_5
     try clear hcz9_6
     try clear hfz13_0
     try clear hfz13_1
     try clear hfz13_2
     try clear hfz13_3
     try clear hfz13_4
     try clear hfz13_5
     try clear hfz13_6
     try clear hfz17_0
     try clear hfz17_1
     try clear hfz17_2
     try clear hfz17_3
     try clear hfz17_4
     try clear hfz17_5
     try clear hfz17_6
     try clear hfz5_0
     try clear hfz5_1
     try clear hfz5_2
     try clear hfz5_3
     try clear hfz5_4
     try clear hfz5_5
     try clear hfz5_6
     try clear hfz9_0
     try clear hfz9_1
     try clear hfz9_2
     try clear hfz9_3
     try clear hfz9_4
     try clear hfz9_5
     try clear hfz9_6
     try clear p2
     obtain ⟨kq, x21_17, rfl, HA, HJ17, HO_3, BK120, HB⟩ := hcut
     cases kq with
     | zero => exact absurd HA.out (by simp [hist_Op.j1])
     | succ kj17 =>
      have H := HA.out
      clear HA
      simp only [hist_Op.j1] at H
      by_cases c20 : x21_17 = true
      ·subst c20
       have H1 : ((hist_path.f a0_2).bind fun t129 => (if x3_2.length < 8796093022208 then (hist_Op.j2 kj17 (x3_2 ++ [t129]) a0_0 a0_1 a0_2 a0_3 a0_4 l0_5 a0_6) else (none))) = some r := by rw [if_pos rfl] at H; exact H
       clear H
       have H := H1
       clear H1
       replace H := Option.bind_eq_some_iff.mp H
       obtain ⟨t129, A210, H⟩ := H
       replace H : (if x3_2.length < 8796093022208 then (hist_Op.j2 kj17 (x3_2 ++ [t129]) a0_0 a0_1 a0_2 a0_3 a0_4 l0_5 a0_6) else (none)) = some r := H
       have A21 := Aside0.mk A210
       clear A210
       by_cases c22 : x3_2.length < 8796093022208
       ·rw [if_pos c22] at H
        have LMc22 := Aside0.mk c22
        clear c22
        obtain ⟨y130, hy130⟩ : ∃ y_ : List ByteArray, y_ = (x3_2 ++ [t129]) := ⟨_, rfl⟩
        replace H : (hist_Op.j2 kj17 y130 a0_0 a0_1 a0_2 a0_3 a0_4 l0_5 a0_6) = some r := by first | (rw [hy130]; with_reducible exact H) | (have H2_ := (Option.bind_some _ _).symm.trans H; rw [hy130]; with_reducible exact H2_) | (have H2_ := (Option.bind_some _ _).symm.trans H; with_reducible exact H2_) | with_reducible exact H | (rw [hy130]; exact H) | exact H
        have Ny130 := Aside0.mk hy130
        clear hy130
        have H' := Aside0.mk H
        clear H
        have hcz23_0 : wc.cell? ⟨gb120, 0, none⟩ = some (.int .i64 a0_0) := (blk_cell BK120.out 0).trans rfl
        have hcz23_1 : wc.cell? ⟨gb120, 1, none⟩ = some (.string a0_1) := (blk_cell BK120.out 1).trans rfl
        have hcz23_2 : wc.cell? ⟨gb120, 2, none⟩ = some (.string a0_2) := (blk_cell BK120.out 2).trans rfl
        have hcz23_3 : wc.cell? ⟨gb120, 3, none⟩ = some (.int .i64 a0_3) := (blk_cell BK120.out 3).trans rfl
        have hcz23_4 : wc.cell? ⟨gb120, 4, none⟩ = some (.int .i64 a0_4) := (blk_cell BK120.out 4).trans rfl
        have hcz23_5 : wc.cell? ⟨gb120, 5, none⟩ = some (.slice A0_5 l0_5.length c0_5) := (blk_cell BK120.out 5).trans rfl
        have hcz23_6 : wc.cell? ⟨gb120, 6, none⟩ = some (.int .i64 a0_6) := (blk_cell BK120.out 6).trans rfl
        have hfz23_0 := blk_frozen BK120.out 0
        have hfz23_1 := blk_frozen BK120.out 1
        have hfz23_2 := blk_frozen BK120.out 2
        have hfz23_3 := blk_frozen BK120.out 3
        have hfz23_4 := blk_frozen BK120.out 4
        have hfz23_5 := blk_frozen BK120.out 5
        have hfz23_6 := blk_frozen BK120.out 6
        go_wp2_with (first | ((with_reducible refine gate_callee (f := 33) rfl ?_); refine goesL_ (some 35) rfl rfl Tryz.func33 (by kernel_rfl) rfl #[.string a0_2] rfl (by (try simp only [List.map_toArray, List.map_cons, List.map_nil]); first | done | rfl | (simp only [List.length_drop, List.length_take]; rfl)) ?_; (with_reducible refine (hist_path.calls a0_2 t129 _ A21.out).mono ?_); rintro e w24 ⟨rfl, hb⟩; refine ⟨_, rfl, ?_⟩; have n0_ := Aside0.mk (Kd.R_below (by (with_reducible repeat first | apply r1 | apply r2 | apply r3); exact HO_3.out) hb); have n1_ := Aside0.mk (blk_below (g := gb120) (o := .cells #[.int .i64 a0_0, .string a0_1, .string a0_2, .int .i64 a0_3, .int .i64 a0_4, .slice A0_5 l0_5.length c0_5, .int .i64 a0_6] 24 (0, 0)) (by (with_reducible repeat first | apply q1 | apply q2 | apply q3); exact BK120.out) hb); have n2_ := Aside0.mk (below_step (by repeat (first | (with_reducible first | exact HB.out | apply s1 | apply s2 | apply s3 | refine s4 ?_ GE120.out) | exact HB.out)) hb); clear HO_3; clear BK120; clear HB; have HO_3 := n0_; have BK120 := n1_; have HB := n2_; clear n0_ n1_ n2_; (try clear hb); (try clear hb2); (try clear hk); (try clear hi)) | ((with_reducible refine gate_builtin (b := .append) (xs := #[.tmp 32, .tmp 36]) rfl ?_); at_builtin; refine Kd.R_append Kd.string (w0 := w) w.heap.size rfl (.tmp 32) (.tmp 36) 38 9 (.string ⟨#[]⟩) 16 rfl Tryz.underlying38 info9 rfl (by decide) (by omega) u3 x3_2 t129 [.string t129] (fun _ => True) (fun _ => False) rfl rfl ?aP (fun _ hk => hk.elim) ?aF ?aO ?aB ?aS ?aL ?_; (case aP => exact rfl); (case aB => exact (by repeat (first | (with_reducible first | exact HB.out | apply s1 | apply s2 | apply s3 | refine s4 ?_ GE120.out) | exact HB.out))); (case aF => exact (fun _ _ => trivial)); (case aO => exact (by (with_reducible repeat first | apply r1 | apply r2 | apply r3); exact HO_3.out)); (case aS => exact (below_size (by repeat (first | (with_reducible first | exact HB.out | apply s1 | apply s2 | apply s3 | refine s4 ?_ GE120.out) | exact HB.out)))); (case aL => have := LMc22.out; omega); intro v131 w25 ho hb hg hat; rw [← Ny130.out] at ho; have n0_ := Aside0.mk (blk_grown (g := gb120) (o := .cells #[.int .i64 a0_0, .string a0_1, .string a0_2, .int .i64 a0_3, .int .i64 a0_4, .slice A0_5 l0_5.length c0_5, .int .i64 a0_6] 24 (0, 0)) (by (with_reducible repeat first | apply q1 | apply q2 | apply q3); exact BK120.out) hg (Kd.R_ne HO_3.out BK120.out (by decide))); have n1_ := Aside0.mk (hb); have n2_ := Aside0.mk (ho); clear BK120; clear HB; clear HO_3; have BK120 := n0_; have HB := n1_; have HO132 := n2_; clear n0_ n1_ n2_; clear ho hb hg hat))
        go_meet
        case rel => exact ⟨_, (y130), H', ⟨by have := HJ2.out; have := HJ17.out; first | omega | exact Nat.le_refl _⟩, ⟨by (with_reducible repeat first | apply r1 | apply r2 | apply r3); exact HO132.out⟩, ⟨by (with_reducible repeat first | apply q1 | apply q2 | apply q3); exact BK120.out⟩, ⟨by repeat (first | (with_reducible first | exact HB.out | apply s1 | apply s2 | apply s3 | refine s4 ?_ GE120.out) | exact HB.out)⟩⟩
       ·rw [if_neg c22] at H
        exact absurd H (by simp)
      ·replace c20 := Bool.eq_false_iff.mpr c20
       subst c20
       have H1 : (if a0_0 = 8 then ((hist_num.f a0_3).bind fun t149 => ((dump_Hex.f kj17 l0_5).bind fun t150 => ((some (([t149, t150] : List ByteArray) : List ByteArray)).bind fun y151 => (if x3_2.length + y151.length < 8796093022208 then (hist_Op.j2 kj17 (x3_2 ++ y151) a0_0 a0_1 a0_2 a0_3 a0_4 l0_5 a0_6) else (none))))) else (if a0_0 = 7 then ((hist_num.f a0_3).bind fun t133 => (if x3_2.length < 8796093022208 then ((some (x3_2 ++ [t133] : List ByteArray)).bind fun y134 => ((hist_num.f a0_4).bind fun t137 => (if y134.length < 8796093022208 then (hist_Op.j2 kj17 (y134 ++ [t137]) a0_0 a0_1 a0_2 a0_3 a0_4 l0_5 a0_6) else (none)))) else (none))) else (if a0_0 = 9 then ((hist_num.f a0_4).bind fun t141 => (if x3_2.length < 8796093022208 then (hist_Op.j2 kj17 (x3_2 ++ [t141]) a0_0 a0_1 a0_2 a0_3 a0_4 l0_5 a0_6) else (none))) else (if a0_0 = 13 then ((hist_num.f a0_6).bind fun t145 => (if x3_2.length < 8796093022208 then (hist_Op.j2 kj17 (x3_2 ++ [t145]) a0_0 a0_1 a0_2 a0_3 a0_4 l0_5 a0_6) else (none))) else (hist_Op.j2 kj17 x3_2 a0_0 a0_1 a0_2 a0_3 a0_4 l0_5 a0_6))))) = some r := by rw [if_neg (show ¬ (false = true) by decide)] at H; exact H
       clear H
       have H := H1
       clear H1
       by_cases c26 : a0_0 = 8
       ·rw [if_pos c26] at H
        have c26b0 : (a0_0 == 8) = true := beq_iff_eq.mpr c26
        have c26b1 : (a0_0 != 8) = false := bne_eq_false_iff_eq.mpr c26
        clear c26
        replace H := Option.bind_eq_some_iff.mp H
        obtain ⟨t149, A270, H⟩ := H
        replace H : ((dump_Hex.f kj17 l0_5).bind fun t150 => ((some (([t149, t150] : List ByteArray) : List ByteArray)).bind fun y151 => (if x3_2.length + y151.length < 8796093022208 then (hist_Op.j2 kj17 (x3_2 ++ y151) a0_0 a0_1 a0_2 a0_3 a0_4 l0_5 a0_6) else (none)))) = some r := H
        have A27 := Aside0.mk A270
        clear A270
        replace H := Option.bind_eq_some_iff.mp H
        obtain ⟨t150, A280, H⟩ := H
        replace H : ((some (([t149, t150] : List ByteArray) : List ByteArray)).bind fun y151 => (if x3_2.length + y151.length < 8796093022208 then (hist_Op.j2 kj17 (x3_2 ++ y151) a0_0 a0_1 a0_2 a0_3 a0_4 l0_5 a0_6) else (none))) = some r := H
        have A28 := Aside0.mk A280
        clear A280
        obtain ⟨y151, hy151⟩ : ∃ y_ : List ByteArray, y_ = (([t149, t150] : List ByteArray)) := ⟨_, rfl⟩
        replace H : (if x3_2.length + y151.length < 8796093022208 then (hist_Op.j2 kj17 (x3_2 ++ y151) a0_0 a0_1 a0_2 a0_3 a0_4 l0_5 a0_6) else (none)) = some r := by first | (rw [hy151]; with_reducible exact H) | (have H2_ := (Option.bind_some _ _).symm.trans H; rw [hy151]; with_reducible exact H2_) | (have H2_ := (Option.bind_some _ _).symm.trans H; with_reducible exact H2_) | with_reducible exact H | (rw [hy151]; exact H) | exact H
        have Ny151 := Aside0.mk hy151
        clear hy151
        by_cases c29 : x3_2.length + y151.length < 8796093022208
        ·rw [if_pos c29] at H
         have LMc29 := Aside0.mk c29
         clear c29
         obtain ⟨y154, hy154⟩ : ∃ y_ : List ByteArray, y_ = (x3_2 ++ y151) := ⟨_, rfl⟩
         replace H : (hist_Op.j2 kj17 y154 a0_0 a0_1 a0_2 a0_3 a0_4 l0_5 a0_6) = some r := by first | (rw [hy154]; with_reducible exact H) | (have H2_ := (Option.bind_some _ _).symm.trans H; rw [hy154]; with_reducible exact H2_) | (have H2_ := (Option.bind_some _ _).symm.trans H; with_reducible exact H2_) | with_reducible exact H | (rw [hy154]; exact H) | exact H
         have Ny154 := Aside0.mk hy154
         clear hy154
         have H' := Aside0.mk H
         clear H
         try go_wp2
         have n0_ := Aside0.mk (Kd.R_drew HO_3.out)
         have n1_ := Aside0.mk (blk_drew BK120.out)
         have n2_ := Aside0.mk (below_drew1 HB.out)
         clear HO_3
         clear BK120
         clear HB
         have HO_3 := n0_
         have BK120 := n1_
         have HB := n2_
         clear n0_ n1_ n2_
         refine start_ (n := 10) (S := fun w' => w'.cell? ⟨gb120, 0, none⟩ = some (.int .i64 a0_0) ∧ w'.cell? ⟨gb120, 1, none⟩ = some (.string a0_1) ∧ w'.cell? ⟨gb120, 2, none⟩ = some (.string a0_2) ∧ w'.cell? ⟨gb120, 3, none⟩ = some (.int .i64 a0_3) ∧ w'.cell? ⟨gb120, 4, none⟩ = some (.int .i64 a0_4) ∧ w'.cell? ⟨gb120, 5, none⟩ = some (.slice A0_5 l0_5.length c0_5) ∧ w'.cell? ⟨gb120, 6, none⟩ = some (.int .i64 a0_6)) (ds := []) #[false, false, false, false, false, false, false, false, false, false] (by kernel_rfl) rfl rfl ⟨(blk_cell BK120.out 0).trans rfl, (blk_cell BK120.out 1).trans rfl, (blk_cell BK120.out 2).trans rfl, (blk_cell BK120.out 3).trans rfl, (blk_cell BK120.out 4).trans rfl, (blk_cell BK120.out 5).trans rfl, (blk_cell BK120.out 6).trans rfl⟩ (fun hHeld => ?_); refine with_tabW hist_Op.tab12 hist_Op.bits12 (fun HT_ HW_ => ?_)
         generalize wc.drew = w30 at HO_3 BK120 HB hHeld ⊢
         refine pure_ (i := 0) (N := some 38) (v := ?_) (a' := ?_) #[true, false, false, false, false, false, false, false, false, false] rfl rfl (any_of HT_.out (by kernel_rfl)) (fun _ _ _ h => h) (Or.inl ⟨by rfl, ?_⟩) ?_ ?_
         rotate_left
         ·intro w'
          go_simp
          with_reducible rfl
         rotate_left
         ·simp only [Act.put, List.setIfInBounds_toArray, List.set_cons_zero, List.set_cons_succ, i64_w, i32_w]
          rfl
         refine pure_ (i := 1) (N := some 39) (v := ?_) (a' := ?_) #[true, true, false, false, false, false, false, false, false, false] rfl rfl (any_of HT_.out (by kernel_rfl)) (fun _ _ _ h => h) (Or.inl ⟨by rfl, ?_⟩) ?_ ?_
         rotate_left
         ·intro w'
          go_simp
          with_reducible rfl
         rotate_left
         ·simp only [Act.put, List.setIfInBounds_toArray, List.set_cons_zero, List.set_cons_succ, i64_w, i32_w]
          rfl
         refine pure_ (i := 4) (N := some 42) (v := ?_) (a' := ?_) #[true, true, false, false, true, false, false, false, false, false] rfl rfl (any_of HT_.out (by kernel_rfl)) (fun _ _ _ h => h) (Or.inl ⟨by rfl, ?_⟩) ?_ ?_
         rotate_left
         ·intro w'
          go_simp
          with_reducible rfl
         rotate_left
         ·simp only [Act.put, List.setIfInBounds_toArray, List.set_cons_zero, List.set_cons_succ, i64_w, i32_w]
          rfl
         refine take_ (i := 2) (N := some 40) (v := ?_) (a' := ?_) #[true, true, true, false, true, false, false, false, false, false] rfl rfl (take_ofW HT_.out HW_.out (by kernel_rfl)) (fun _ _ _ h => h) (Or.inl ⟨by rfl, ?_⟩) hHeld ?_ ?_
         rotate_left
         ·rintro w' ⟨s0, s1, s2, s3, s4, s5, s6⟩
          go_simp
          with_reducible rfl
         rotate_left
         ·simp only [Act.put, List.setIfInBounds_toArray, List.set_cons_zero, List.set_cons_succ, i64_w, i32_w]
          rfl
         refine take_ (i := 5) (N := some 43) (v := ?_) (a' := ?_) #[true, true, true, false, true, true, false, false, false, false] rfl rfl (take_ofW HT_.out HW_.out (by kernel_rfl)) (fun _ _ _ h => h) (Or.inl ⟨by rfl, ?_⟩) hHeld ?_ ?_
         rotate_left
         ·rintro w' ⟨s0, s1, s2, s3, s4, s5, s6⟩
          go_simp
          with_reducible rfl
         rotate_left
         ·simp only [Act.put, List.setIfInBounds_toArray, List.set_cons_zero, List.set_cons_succ, i64_w, i32_w]
          rfl
         refine one_ (i := 3) (N := some 41) #[true, true, true, true, true, true, false, false, false, false] rfl rfl (one_of HT_.out (by kernel_rfl)) (by decide) (fun K hK => ?_)
         refine goes_ Tryz.func34 (by kernel_rfl) rfl #[.int .i64 a0_3] (by rfl) rfl rfl (by (try simp only [List.map_toArray, List.map_cons, List.map_nil]); first | done | rfl | (simp only [List.length_drop, List.length_take]; rfl)) ?_
         with_reducible refine (hist_num.calls a0_3 t149 _ A27.out ?hT_).mono ?_
         case hT_ => exact Tabs.after HT.out (by repeat (first | (with_reducible first | exact HB.out | apply s1 | apply s2 | apply s3 | refine s4 ?_ GE120.out) | exact HB.out))
         rintro e w31 ⟨rfl, hb⟩
         refine ⟨_, rfl, ?_⟩
         have n0_ := Aside0.mk (Kd.R_below (by (with_reducible repeat first | apply r1 | apply r2 | apply r3); exact HO_3.out) hb)
         have n1_ := Aside0.mk (blk_below (g := gb120) (o := .cells #[.int .i64 a0_0, .string a0_1, .string a0_2, .int .i64 a0_3, .int .i64 a0_4, .slice A0_5 l0_5.length c0_5, .int .i64 a0_6] 24 (0, 0)) (by (with_reducible repeat first | apply q1 | apply q2 | apply q3); exact BK120.out) hb)
         have n2_ := Aside0.mk (below_step (by repeat (first | (with_reducible first | exact HB.out | apply s1 | apply s2 | apply s3 | refine s4 ?_ GE120.out) | exact HB.out)) hb)
         clear HO_3
         clear BK120
         clear HB
         have HO_3 := n0_
         have BK120 := n1_
         have HB := n2_
         clear n0_ n1_ n2_
         (try clear hb)
         (try clear hb2)
         (try clear hk)
         (try clear hi)
         refine hK.out _ _ ⟨(blk_cell BK120.out 0).trans rfl, (blk_cell BK120.out 1).trans rfl, (blk_cell BK120.out 2).trans rfl, (blk_cell BK120.out 3).trans rfl, (blk_cell BK120.out 4).trans rfl, (blk_cell BK120.out 5).trans rfl, (blk_cell BK120.out 6).trans rfl⟩ (fun hHeld => ?_)
         clear hK K
         refine norm_ (a' := ?_) ?_ ?_
         rotate_left
         ·show Act.put _ (some 41) _ = _
          simp only [Act.put, List.setIfInBounds_toArray, List.set_cons_zero, List.set_cons_succ, i64_w, i32_w]
          rfl
         refine one_ (i := 6) (N := some 44) #[true, true, true, true, true, true, true, false, false, false] rfl rfl (one_of HT_.out (by kernel_rfl)) (by decide) (fun K hK => ?_)
         refine goes_ Tryz.func35 (by kernel_rfl) rfl #[.slice A0_5 l0_5.length c0_5] (by rfl) rfl rfl (by (try simp only [List.map_toArray, List.map_cons, List.map_nil]); first | done | rfl | (simp only [List.length_drop, List.length_take]; rfl)) ?_
         with_reducible refine (dump_Hex.calls kj17 _ _ l0_5 t150 _ ?side1 ?side2 A28.out).mono ?_
         (case side1 => repeat (first | exact (Kd.C_below HR0_5.out HB.out) | (with_reducible refine Kd.C_alloc ?_ _) | (with_reducible refine Kd.C_drewN ?_ _) | (with_reducible refine Kd.C_drew ?_)))
         (case side2 => exact HC0_5.out)
         rintro e w32 ⟨rfl, hb⟩
         refine ⟨_, rfl, ?_⟩
         have n0_ := Aside0.mk (Kd.R_below (by (with_reducible repeat first | apply r1 | apply r2 | apply r3); exact HO_3.out) hb)
         have n1_ := Aside0.mk (blk_below (g := gb120) (o := .cells #[.int .i64 a0_0, .string a0_1, .string a0_2, .int .i64 a0_3, .int .i64 a0_4, .slice A0_5 l0_5.length c0_5, .int .i64 a0_6] 24 (0, 0)) (by (with_reducible repeat first | apply q1 | apply q2 | apply q3); exact BK120.out) hb)
         have n2_ := Aside0.mk (below_step (by repeat (first | (with_reducible first | exact HB.out | apply s1 | apply s2 | apply s3 | refine s4 ?_ GE120.out) | exact HB.out)) hb)
         clear HO_3
         clear BK120
         clear HB
         have HO_3 := n0_
         have BK120 := n1_
         have HB := n2_
         clear n0_ n1_ n2_
         (try clear hb)
         (try clear hb2)
         (try clear hk)
         (try clear hi)
         refine hK.out _ _ ⟨(blk_cell BK120.out 0).trans rfl, (blk_cell BK120.out 1).trans rfl, (blk_cell BK120.out 2).trans rfl, (blk_cell BK120.out 3).trans rfl, (blk_cell BK120.out 4).trans rfl, (blk_cell BK120.out 5).trans rfl, (blk_cell BK120.out 6).trans rfl⟩ (fun hHeld => ?_)
         clear hK K
         refine norm_ (a' := ?_) ?_ ?_
         rotate_left
         ·show Act.put _ (some 44) _ = _
          simp only [Act.put, List.setIfInBounds_toArray, List.set_cons_zero, List.set_cons_succ, i64_w, i32_w]
          rfl
         refine one_ (i := 7) (N := some 45) #[true, true, true, true, true, true, true, true, false, false] rfl rfl (one_of HT_.out (by kernel_rfl)) (by decide) (fun K hK => ?_)
         refine Kd.R_lit_step Kd.string _ 9 ?hg (N := 45) ?hd (xs := ([t149, t150] : List ByteArray)) (inner := [.string t149, .string t150]) (ok := fun _ => True) (okp := fun _ => True) ?hr ?hp (fun _ hk => hk) trivial (Below.refl _ _) (Nat.le_refl _) (by simp) ?_; (case hd => rfl); (case hg => rfl); (case hr => first | (go_simp; done) | (go_simp; rfl)); (case hp => exact (Reps.one (show Kd.M Kd.string _ _ _ t149 [.string t149] from rfl) (Reps.one (show Kd.M Kd.string _ _ _ t150 [.string t150] from rfl) (Reps.none _ _))))
         intro v152 w33 ho34 hb hg_ hnew_
         clear hg_ hnew_
         (first | rw [← Ny151.out] at ho34 | (simp only [Int.reduceToNat] at ho34; rw [← Ny151.out] at ho34))
         have n0_ := Aside0.mk (Kd.R_elder' (by (with_reducible repeat first | apply r1 | apply r2 | apply r3); exact HO_3.out) (Kd.R_base ho34) hb)
         have n1_ := Aside0.mk (Kd.R_lower (Kd.R_new' ho34 (Kd.R_lt (by (with_reducible repeat first | apply r1 | apply r2 | apply r3); exact HO_3.out))) (below_size (by repeat (first | (with_reducible first | exact HB.out | apply s1 | apply s2 | apply s3 | refine s4 ?_ GE120.out) | exact HB.out))))
         have n2_ := Aside0.mk (blk_below (g := gb120) (o := .cells #[.int .i64 a0_0, .string a0_1, .string a0_2, .int .i64 a0_3, .int .i64 a0_4, .slice A0_5 l0_5.length c0_5, .int .i64 a0_6] 24 (0, 0)) (by (with_reducible repeat first | apply q1 | apply q2 | apply q3); exact BK120.out) hb)
         have n3_ := Aside0.mk (below_step (by repeat (first | (with_reducible first | exact HB.out | apply s1 | apply s2 | apply s3 | refine s4 ?_ GE120.out) | exact HB.out)) hb)
         clear HO_3
         clear BK120
         clear HB
         have HO_3 := n0_
         have HO153 := n1_
         have BK120 := n2_
         have HB := n3_
         clear n0_ n1_ n2_ n3_
         clear hb ho34
         obtain ⟨Ao36, co36, eo36⟩ := Kd.R_slice HO153.out
         (first | subst eo36 | (injection eo36 with f1_ f2_ f3_; have f4_ := f1_.symm; have f5_ := f3_.symm; clear f1_ f2_ f3_; subst f4_; subst f5_))
         refine hK.out _ _ ⟨(blk_cell BK120.out 0).trans rfl, (blk_cell BK120.out 1).trans rfl, (blk_cell BK120.out 2).trans rfl, (blk_cell BK120.out 3).trans rfl, (blk_cell BK120.out 4).trans rfl, (blk_cell BK120.out 5).trans rfl, (blk_cell BK120.out 6).trans rfl⟩ (fun hHeld => ?_)
         clear hK K
         refine norm_ (a' := ?_) ?_ ?_
         rotate_left
         ·show Act.put _ (some 45) _ = _
          simp only [Act.put, List.setIfInBounds_toArray, List.set_cons_zero, List.set_cons_succ, i64_w, i32_w]
          rfl
         refine one_ (i := 8) (N := some 46) #[true, true, true, true, true, true, true, true, true, false] rfl rfl (one_of HT_.out (by kernel_rfl)) (by decide) (fun K hK => ?_)
         refine Kd.R_append_rows_step Kd.string (w0 := w) w.heap.size (by rfl) (.tmp 38) (.tmp 45) 38 9 (.string ⟨#[]⟩) 16 rfl Tryz.underlying38 info9 rfl (by decide) (by omega) u3 x3_2 y151 _ _ _ (fun k_ => some k_ ≠ (.slice Ao36 y151.length co36 : Value).ownBlock) (fun _ => False) rfl rfl ?aO ?aR (fun _ _ h => h) (fun _ h => h.elim) ?aF ?aB ?aS ?aL ?_
         (case aR => repeat (first | exact (Kd.R_reads' HO153.out).2.2 | (with_reducible refine Kd.C_alloc ?_ _) | (with_reducible refine Kd.C_drewN ?_ _) | (with_reducible refine Kd.C_drew ?_)))
         (case aB => exact (by repeat (first | (with_reducible first | exact HB.out | apply s1 | apply s2 | apply s3 | refine s4 ?_ GE120.out) | exact HB.out)))
         (case aF => exact (fun k_ hk => Kd.fresh' (Kd.R_lt (by (with_reducible repeat first | apply r1 | apply r2 | apply r3); exact HO153.out)) k_ hk))
         (case aO => exact (by (with_reducible repeat first | apply r1 | apply r2 | apply r3); exact Kd.R_mono HO_3.out (fun _ hk => hk.2)))
         (case aS => exact (below_size (by repeat (first | (with_reducible first | exact HB.out | apply s1 | apply s2 | apply s3 | refine s4 ?_ GE120.out) | exact HB.out))))
         (case aL => have := LMc29.out; omega)
         intro v155 w35 ho hb hg hat
         rw [← Ny154.out] at ho
         have n0_ := Aside0.mk (blk_grown (g := gb120) (o := .cells #[.int .i64 a0_0, .string a0_1, .string a0_2, .int .i64 a0_3, .int .i64 a0_4, .slice A0_5 l0_5.length c0_5, .int .i64 a0_6] 24 (0, 0)) (by (with_reducible repeat first | apply q1 | apply q2 | apply q3); exact BK120.out) hg (Kd.R_ne HO_3.out BK120.out (by decide)))
         have n1_ := Aside0.mk (Kd.R_after (ok := (fun _ => True)) (by (with_reducible repeat first | apply r1 | apply r2 | apply r3); exact HO153.out) hg hat)
         have n2_ := Aside0.mk (hb)
         have n3_ := Aside0.mk (ho)
         clear BK120
         clear HO153
         clear HB
         clear HO_3
         have BK120 := n0_
         have HO153 := n1_
         have HB := n2_
         have HO156 := n3_
         clear n0_ n1_ n2_ n3_
         clear ho hb hg hat
         refine hK.out _ _ ⟨(blk_cell BK120.out 0).trans rfl, (blk_cell BK120.out 1).trans rfl, (blk_cell BK120.out 2).trans rfl, (blk_cell BK120.out 3).trans rfl, (blk_cell BK120.out 4).trans rfl, (blk_cell BK120.out 5).trans rfl, (blk_cell BK120.out 6).trans rfl⟩ (fun hHeld => ?_)
         clear hK K
         refine norm_ (a' := ?_) ?_ ?_
         rotate_left
         ·show Act.put _ (some 46) _ = _
          simp only [Act.put, List.setIfInBounds_toArray, List.set_cons_zero, List.set_cons_succ, i64_w, i32_w]
          rfl
         refine pure_ (i := 9) (N := some 3) (v := ?_) (a' := ?_) #[true, true, true, true, true, true, true, true, true, true] rfl rfl (any_of HT_.out (by kernel_rfl)) (fun _ _ _ h => h) (Or.inl ⟨by rfl, ?_⟩) ?_ ?_
         rotate_left
         ·intro w'
          go_simp
          with_reducible rfl
         rotate_left
         ·simp only [Act.put, List.setIfInBounds_toArray, List.set_cons_zero, List.set_cons_succ, i64_w, i32_w]
          rfl
         refine done_ (done_of HT_.out (by kernel_rfl)) ?_
         try go_wp2
         go_meet
         case rel => exact ⟨_, (y154), H', ⟨by have := HJ2.out; have := HJ17.out; first | omega | exact Nat.le_refl _⟩, ⟨by (with_reducible repeat first | apply r1 | apply r2 | apply r3); exact Kd.R_mono HO156.out (fun _ hk => trivial)⟩, ⟨by (with_reducible repeat first | apply q1 | apply q2 | apply q3); exact BK120.out⟩, ⟨by repeat (first | (with_reducible first | exact HB.out | apply s1 | apply s2 | apply s3 | refine s4 ?_ GE120.out) | exact HB.out)⟩⟩
        ·rw [if_neg c29] at H
         exact absurd H (by simp)
       ·rw [if_neg c26] at H
        have c26b0 : (a0_0 == 8) = false := beq_eq_false_iff_ne.mpr c26
        have c26b1 : (a0_0 != 8) = true := bne_iff_ne.mpr c26
        by_cases c37 : a0_0 = 7
        ·rw [if_pos c37] at H
         have c37b0 : (a0_0 == 7) = true := beq_iff_eq.mpr c37
         have c37b1 : (a0_0 != 7) = false := bne_eq_false_iff_eq.mpr c37
         clear c37
         replace H := Option.bind_eq_some_iff.mp H
         obtain ⟨t133, A380, H⟩ := H
         replace H : (if x3_2.length < 8796093022208 then ((some (x3_2 ++ [t133] : List ByteArray)).bind fun y134 => ((hist_num.f a0_4).bind fun t137 => (if y134.length < 8796093022208 then (hist_Op.j2 kj17 (y134 ++ [t137]) a0_0 a0_1 a0_2 a0_3 a0_4 l0_5 a0_6) else (none)))) else (none)) = some r := H
         have A38 := Aside0.mk A380
         clear A380
         by_cases c39 : x3_2.length < 8796093022208
         ·rw [if_pos c39] at H
          have LMc39 := Aside0.mk c39
          clear c39
          obtain ⟨y134, hy134⟩ : ∃ y_ : List ByteArray, y_ = (x3_2 ++ [t133]) := ⟨_, rfl⟩
          replace H : ((hist_num.f a0_4).bind fun t137 => (if y134.length < 8796093022208 then (hist_Op.j2 kj17 (y134 ++ [t137]) a0_0 a0_1 a0_2 a0_3 a0_4 l0_5 a0_6) else (none))) = some r := by first | (rw [hy134]; with_reducible exact H) | (have H2_ := (Option.bind_some _ _).symm.trans H; rw [hy134]; with_reducible exact H2_) | (have H2_ := (Option.bind_some _ _).symm.trans H; with_reducible exact H2_) | with_reducible exact H | (rw [hy134]; exact H) | exact H
          have Ny134 := Aside0.mk hy134
          clear hy134
          replace H := Option.bind_eq_some_iff.mp H
          obtain ⟨t137, A400, H⟩ := H
          replace H : (if y134.length < 8796093022208 then (hist_Op.j2 kj17 (y134 ++ [t137]) a0_0 a0_1 a0_2 a0_3 a0_4 l0_5 a0_6) else (none)) = some r := H
          have A40 := Aside0.mk A400
          clear A400
          by_cases c41 : y134.length < 8796093022208
          ·rw [if_pos c41] at H
           have LMc41 := Aside0.mk c41
           clear c41
           obtain ⟨y138, hy138⟩ : ∃ y_ : List ByteArray, y_ = (y134 ++ [t137]) := ⟨_, rfl⟩
           replace H : (hist_Op.j2 kj17 y138 a0_0 a0_1 a0_2 a0_3 a0_4 l0_5 a0_6) = some r := by first | (rw [hy138]; with_reducible exact H) | (have H2_ := (Option.bind_some _ _).symm.trans H; rw [hy138]; with_reducible exact H2_) | (have H2_ := (Option.bind_some _ _).symm.trans H; with_reducible exact H2_) | with_reducible exact H | (rw [hy138]; exact H) | exact H
           have Ny138 := Aside0.mk hy138
           clear hy138
           have H' := Aside0.mk H
           clear H
           have hcz42_0 : wc.cell? ⟨gb120, 0, none⟩ = some (.int .i64 a0_0) := (blk_cell BK120.out 0).trans rfl
           have hcz42_1 : wc.cell? ⟨gb120, 1, none⟩ = some (.string a0_1) := (blk_cell BK120.out 1).trans rfl
           have hcz42_2 : wc.cell? ⟨gb120, 2, none⟩ = some (.string a0_2) := (blk_cell BK120.out 2).trans rfl
           have hcz42_3 : wc.cell? ⟨gb120, 3, none⟩ = some (.int .i64 a0_3) := (blk_cell BK120.out 3).trans rfl
           have hcz42_4 : wc.cell? ⟨gb120, 4, none⟩ = some (.int .i64 a0_4) := (blk_cell BK120.out 4).trans rfl
           have hcz42_5 : wc.cell? ⟨gb120, 5, none⟩ = some (.slice A0_5 l0_5.length c0_5) := (blk_cell BK120.out 5).trans rfl
           have hcz42_6 : wc.cell? ⟨gb120, 6, none⟩ = some (.int .i64 a0_6) := (blk_cell BK120.out 6).trans rfl
           have hfz42_0 := blk_frozen BK120.out 0
           have hfz42_1 := blk_frozen BK120.out 1
           have hfz42_2 := blk_frozen BK120.out 2
           have hfz42_3 := blk_frozen BK120.out 3
           have hfz42_4 := blk_frozen BK120.out 4
           have hfz42_5 := blk_frozen BK120.out 5
           have hfz42_6 := blk_frozen BK120.out 6
           go_wp2_with (first | ((with_reducible refine gate_callee (f := 34) rfl ?_); refine goesL_ (some 50) rfl rfl Tryz.func34 (by kernel_rfl) rfl #[.int .i64 a0_3] rfl (by (try simp only [List.map_toArray, List.map_cons, List.map_nil]); first | done | rfl | (simp only [List.length_drop, List.length_take]; rfl)) ?_; (with_reducible refine (hist_num.calls a0_3 t133 _ A38.out ?hT_).mono ?_); (case hT_ => exact Tabs.after HT.out (by repeat (first | (with_reducible first | exact HB.out | apply s1 | apply s2 | apply s3 | refine s4 ?_ GE120.out) | exact HB.out))); rintro e w43 ⟨rfl, hb⟩; refine ⟨_, rfl, ?_⟩; have n0_ := Aside0.mk (Kd.R_below (by (with_reducible repeat first | apply r1 | apply r2 | apply r3); exact HO_3.out) hb); have n1_ := Aside0.mk (blk_below (g := gb120) (o := .cells #[.int .i64 a0_0, .string a0_1, .string a0_2, .int .i64 a0_3, .int .i64 a0_4, .slice A0_5 l0_5.length c0_5, .int .i64 a0_6] 24 (0, 0)) (by (with_reducible repeat first | apply q1 | apply q2 | apply q3); exact BK120.out) hb); have n2_ := Aside0.mk (below_step (by repeat (first | (with_reducible first | exact HB.out | apply s1 | apply s2 | apply s3 | refine s4 ?_ GE120.out) | exact HB.out)) hb); clear HO_3; clear BK120; clear HB; have HO_3 := n0_; have BK120 := n1_; have HB := n2_; clear n0_ n1_ n2_; (try clear hb); (try clear hb2); (try clear hk); (try clear hi)) | ((with_reducible refine gate_builtin (b := .append) (xs := #[.tmp 47, .tmp 51]) rfl ?_); at_builtin; refine Kd.R_append Kd.string (w0 := w) w.heap.size rfl (.tmp 47) (.tmp 51) 38 9 (.string ⟨#[]⟩) 16 rfl Tryz.underlying38 info9 rfl (by decide) (by omega) u3 x3_2 t133 [.string t133] (fun _ => True) (fun _ => False) rfl rfl ?aP (fun _ hk => hk.elim) ?aF ?aO ?aB ?aS ?aL ?_; (case aP => exact rfl); (case aB => exact (by repeat (first | (with_reducible first | exact HB.out | apply s1 | apply s2 | apply s3 | refine s4 ?_ GE120.out) | exact HB.out))); (case aF => exact (fun _ _ => trivial)); (case aO => exact (by (with_reducible repeat first | apply r1 | apply r2 | apply r3); exact HO_3.out)); (case aS => exact (below_size (by repeat (first | (with_reducible first | exact HB.out | apply s1 | apply s2 | apply s3 | refine s4 ?_ GE120.out) | exact HB.out)))); (case aL => have := LMc39.out; omega); intro v135 w44 ho hb hg hat; rw [← Ny134.out] at ho; have n0_ := Aside0.mk (blk_grown (g := gb120) (o := .cells #[.int .i64 a0_0, .string a0_1, .string a0_2, .int .i64 a0_3, .int .i64 a0_4, .slice A0_5 l0_5.length c0_5, .int .i64 a0_6] 24 (0, 0)) (by (with_reducible repeat first | apply q1 | apply q2 | apply q3); exact BK120.out) hg (Kd.R_ne HO_3.out BK120.out (by decide))); have n1_ := Aside0.mk (hb); have n2_ := Aside0.mk (ho); clear BK120; clear HB; clear HO_3; have BK120 := n0_; have HB := n1_; have HO136 := n2_; clear n0_ n1_ n2_; clear ho hb hg hat; have hcz45_0 : w44.cell? ⟨gb120, 0, none⟩ = some (.int .i64 a0_0) := (blk_cell BK120.out 0).trans rfl; have hcz45_1 : w44.cell? ⟨gb120, 1, none⟩ = some (.string a0_1) := (blk_cell BK120.out 1).trans rfl; have hcz45_2 : w44.cell? ⟨gb120, 2, none⟩ = some (.string a0_2) := (blk_cell BK120.out 2).trans rfl; have hcz45_3 : w44.cell? ⟨gb120, 3, none⟩ = some (.int .i64 a0_3) := (blk_cell BK120.out 3).trans rfl; have hcz45_4 : w44.cell? ⟨gb120, 4, none⟩ = some (.int .i64 a0_4) := (blk_cell BK120.out 4).trans rfl; have hcz45_5 : w44.cell? ⟨gb120, 5, none⟩ = some (.slice A0_5 l0_5.length c0_5) := (blk_cell BK120.out 5).trans rfl; have hcz45_6 : w44.cell? ⟨gb120, 6, none⟩ = some (.int .i64 a0_6) := (blk_cell BK120.out 6).trans rfl; have hfz45_0 := blk_frozen BK120.out 0; have hfz45_1 := blk_frozen BK120.out 1; have hfz45_2 := blk_frozen BK120.out 2; have hfz45_3 := blk_frozen BK120.out 3; have hfz45_4 := blk_frozen BK120.out 4; have hfz45_5 := blk_frozen BK120.out 5; have hfz45_6 := blk_frozen BK120.out 6) | ((with_reducible refine gate_callee (f := 34) rfl ?_); refine goesL_ (some 56) rfl rfl Tryz.func34 (by kernel_rfl) rfl #[.int .i64 a0_4] rfl (by (try simp only [List.map_toArray, List.map_cons, List.map_nil]); first | done | rfl | (simp only [List.length_drop, List.length_take]; rfl)) ?_; (with_reducible refine (hist_num.calls a0_4 t137 _ A40.out ?hT_).mono ?_); (case hT_ => exact Tabs.after HT.out (by repeat (first | (with_reducible first | exact HB.out | apply s1 | apply s2 | apply s3 | refine s4 ?_ GE120.out) | exact HB.out))); rintro e w46 ⟨rfl, hb⟩; refine ⟨_, rfl, ?_⟩; have n0_ := Aside0.mk (Kd.R_below (by (with_reducible repeat first | apply r1 | apply r2 | apply r3); exact HO136.out) hb); have n1_ := Aside0.mk (blk_below (g := gb120) (o := .cells #[.int .i64 a0_0, .string a0_1, .string a0_2, .int .i64 a0_3, .int .i64 a0_4, .slice A0_5 l0_5.length c0_5, .int .i64 a0_6] 24 (0, 0)) (by (with_reducible repeat first | apply q1 | apply q2 | apply q3); exact BK120.out) hb); have n2_ := Aside0.mk (below_step (by repeat (first | (with_reducible first | exact HB.out | apply s1 | apply s2 | apply s3 | refine s4 ?_ GE120.out) | exact HB.out)) hb); clear HO136; clear BK120; clear HB; have HO136 := n0_; have BK120 := n1_; have HB := n2_; clear n0_ n1_ n2_; (try clear hb); (try clear hb2); (try clear hk); (try clear hi)) | ((with_reducible refine gate_builtin (b := .append) (xs := #[.tmp 53, .tmp 57]) rfl ?_); at_builtin; refine Kd.R_append Kd.string (w0 := w) w.heap.size rfl (.tmp 53) (.tmp 57) 38 9 (.string ⟨#[]⟩) 16 rfl Tryz.underlying38 info9 rfl (by decide) (by omega) v135 y134 t137 [.string t137] (fun _ => True) (fun _ => False) rfl rfl ?aP (fun _ hk => hk.elim) ?aF ?aO ?aB ?aS ?aL ?_; (case aP => exact rfl); (case aB => exact (by repeat (first | (with_reducible first | exact HB.out | apply s1 | apply s2 | apply s3 | refine s4 ?_ GE120.out) | exact HB.out))); (case aF => exact (fun _ _ => trivial)); (case aO => exact (by (with_reducible repeat first | apply r1 | apply r2 | apply r3); exact HO136.out)); (case aS => exact (below_size (by repeat (first | (with_reducible first | exact HB.out | apply s1 | apply s2 | apply s3 | refine s4 ?_ GE120.out) | exact HB.out)))); (case aL => have := LMc41.out; omega); intro v139 w47 ho hb hg hat; rw [← Ny138.out] at ho; have n0_ := Aside0.mk (blk_grown (g := gb120) (o := .cells #[.int .i64 a0_0, .string a0_1, .string a0_2, .int .i64 a0_3, .int .i64 a0_4, .slice A0_5 l0_5.length c0_5, .int .i64 a0_6] 24 (0, 0)) (by (with_reducible repeat first | apply q1 | apply q2 | apply q3); exact BK120.out) hg (Kd.R_ne HO136.out BK120.out (by decide))); have n1_ := Aside0.mk (hb); have n2_ := Aside0.mk (ho); clear BK120; clear HB; clear HO136; have BK120 := n0_; have HB := n1_; have HO140 := n2_; clear n0_ n1_ n2_; clear ho hb hg hat))
           go_meet
           case rel => exact ⟨_, (y138), H', ⟨by have := HJ2.out; have := HJ17.out; first | omega | exact Nat.le_refl _⟩, ⟨by (with_reducible repeat first | apply r1 | apply r2 | apply r3); exact HO140.out⟩, ⟨by (with_reducible repeat first | apply q1 | apply q2 | apply q3); exact BK120.out⟩, ⟨by repeat (first | (with_reducible first | exact HB.out | apply s1 | apply s2 | apply s3 | refine s4 ?_ GE120.out) | exact HB.out)⟩⟩
          ·rw [if_neg c41] at H
           exact absurd H (by simp)
         ·rw [if_neg c39] at H
          exact absurd H (by simp)
        ·rw [if_neg c37] at H
         have c37b0 : (a0_0 == 7) = false := beq_eq_false_iff_ne.mpr c37
         have c37b1 : (a0_0 != 7) = true := bne_iff_ne.mpr c37
         by_cases c48 : a0_0 = 9
         ·rw [if_pos c48] at H
          have c48b0 : (a0_0 == 9) = true := beq_iff_eq.mpr c48
          have c48b1 : (a0_0 != 9) = false := bne_eq_false_iff_eq.mpr c48
          clear c48
          replace H := Option.bind_eq_some_iff.mp H
          obtain ⟨t141, A490, H⟩ := H
          replace H : (if x3_2.length < 8796093022208 then (hist_Op.j2 kj17 (x3_2 ++ [t141]) a0_0 a0_1 a0_2 a0_3 a0_4 l0_5 a0_6) else (none)) = some r := H
          have A49 := Aside0.mk A490
          clear A490
          by_cases c50 : x3_2.length < 8796093022208
          ·rw [if_pos c50] at H
           have LMc50 := Aside0.mk c50
           clear c50
           obtain ⟨y142, hy142⟩ : ∃ y_ : List ByteArray, y_ = (x3_2 ++ [t141]) := ⟨_, rfl⟩
           replace H : (hist_Op.j2 kj17 y142 a0_0 a0_1 a0_2 a0_3 a0_4 l0_5 a0_6) = some r := by first | (rw [hy142]; with_reducible exact H) | (have H2_ := (Option.bind_some _ _).symm.trans H; rw [hy142]; with_reducible exact H2_) | (have H2_ := (Option.bind_some _ _).symm.trans H; with_reducible exact H2_) | with_reducible exact H | (rw [hy142]; exact H) | exact H
           have Ny142 := Aside0.mk hy142
           clear hy142
           have H' := Aside0.mk H
           clear H
           have hcz51_0 : wc.cell? ⟨gb120, 0, none⟩ = some (.int .i64 a0_0) := (blk_cell BK120.out 0).trans rfl
           have hcz51_1 : wc.cell? ⟨gb120, 1, none⟩ = some (.string a0_1) := (blk_cell BK120.out 1).trans rfl
           have hcz51_2 : wc.cell? ⟨gb120, 2, none⟩ = some (.string a0_2) := (blk_cell BK120.out 2).trans rfl
           have hcz51_3 : wc.cell? ⟨gb120, 3, none⟩ = some (.int .i64 a0_3) := (blk_cell BK120.out 3).trans rfl
           have hcz51_4 : wc.cell? ⟨gb120, 4, none⟩ = some (.int .i64 a0_4) := (blk_cell BK120.out 4).trans rfl
           have hcz51_5 : wc.cell? ⟨gb120, 5, none⟩ = some (.slice A0_5 l0_5.length c0_5) := (blk_cell BK120.out 5).trans rfl
           have hcz51_6 : wc.cell? ⟨gb120, 6, none⟩ = some (.int .i64 a0_6) := (blk_cell BK120.out 6).trans rfl
           have hfz51_0 := blk_frozen BK120.out 0
           have hfz51_1 := blk_frozen BK120.out 1
           have hfz51_2 := blk_frozen BK120.out 2
           have hfz51_3 := blk_frozen BK120.out 3
           have hfz51_4 := blk_frozen BK120.out 4
           have hfz51_5 := blk_frozen BK120.out 5
           have hfz51_6 := blk_frozen BK120.out 6
           go_wp2_with (first | ((with_reducible refine gate_callee (f := 34) rfl ?_); refine goesL_ (some 56) rfl rfl Tryz.func34 (by kernel_rfl) rfl #[.int .i64 a0_4] rfl (by (try simp only [List.map_toArray, List.map_cons, List.map_nil]); first | done | rfl | (simp only [List.length_drop, List.length_take]; rfl)) ?_; (with_reducible refine (hist_num.calls a0_4 t141 _ A49.out ?hT_).mono ?_); (case hT_ => exact Tabs.after HT.out (by repeat (first | (with_reducible first | exact HB.out | apply s1 | apply s2 | apply s3 | refine s4 ?_ GE120.out) | exact HB.out))); rintro e w52 ⟨rfl, hb⟩; refine ⟨_, rfl, ?_⟩; have n0_ := Aside0.mk (Kd.R_below (by (with_reducible repeat first | apply r1 | apply r2 | apply r3); exact HO_3.out) hb); have n1_ := Aside0.mk (blk_below (g := gb120) (o := .cells #[.int .i64 a0_0, .string a0_1, .string a0_2, .int .i64 a0_3, .int .i64 a0_4, .slice A0_5 l0_5.length c0_5, .int .i64 a0_6] 24 (0, 0)) (by (with_reducible repeat first | apply q1 | apply q2 | apply q3); exact BK120.out) hb); have n2_ := Aside0.mk (below_step (by repeat (first | (with_reducible first | exact HB.out | apply s1 | apply s2 | apply s3 | refine s4 ?_ GE120.out) | exact HB.out)) hb); clear HO_3; clear BK120; clear HB; have HO_3 := n0_; have BK120 := n1_; have HB := n2_; clear n0_ n1_ n2_; (try clear hb); (try clear hb2); (try clear hk); (try clear hi)) | ((with_reducible refine gate_builtin (b := .append) (xs := #[.tmp 53, .tmp 57]) rfl ?_); at_builtin; refine Kd.R_append Kd.string (w0 := w) w.heap.size rfl (.tmp 53) (.tmp 57) 38 9 (.string ⟨#[]⟩) 16 rfl Tryz.underlying38 info9 rfl (by decide) (by omega) u3 x3_2 t141 [.string t141] (fun _ => True) (fun _ => False) rfl rfl ?aP (fun _ hk => hk.elim) ?aF ?aO ?aB ?aS ?aL ?_; (case aP => exact rfl); (case aB => exact (by repeat (first | (with_reducible first | exact HB.out | apply s1 | apply s2 | apply s3 | refine s4 ?_ GE120.out) | exact HB.out))); (case aF => exact (fun _ _ => trivial)); (case aO => exact (by (with_reducible repeat first | apply r1 | apply r2 | apply r3); exact HO_3.out)); (case aS => exact (below_size (by repeat (first | (with_reducible first | exact HB.out | apply s1 | apply s2 | apply s3 | refine s4 ?_ GE120.out) | exact HB.out)))); (case aL => have := LMc50.out; omega); intro v143 w53 ho hb hg hat; rw [← Ny142.out] at ho; have n0_ := Aside0.mk (blk_grown (g := gb120) (o := .cells #[.int .i64 a0_0, .string a0_1, .string a0_2, .int .i64 a0_3, .int .i64 a0_4, .slice A0_5 l0_5.length c0_5, .int .i64 a0_6] 24 (0, 0)) (by (with_reducible repeat first | apply q1 | apply q2 | apply q3); exact BK120.out) hg (Kd.R_ne HO_3.out BK120.out (by decide))); have n1_ := Aside0.mk (hb); have n2_ := Aside0.mk (ho); clear BK120; clear HB; clear HO_3; have BK120 := n0_; have HB := n1_; have HO144 := n2_; clear n0_ n1_ n2_; clear ho hb hg hat))
           go_meet
           case rel => exact ⟨_, (y142), H', ⟨by have := HJ2.out; have := HJ17.out; first | omega | exact Nat.le_refl _⟩, ⟨by (with_reducible repeat first | apply r1 | apply r2 | apply r3); exact HO144.out⟩, ⟨by (with_reducible repeat first | apply q1 | apply q2 | apply q3); exact BK120.out⟩, ⟨by repeat (first | (with_reducible first | exact HB.out | apply s1 | apply s2 | apply s3 | refine s4 ?_ GE120.out) | exact HB.out)⟩⟩
          ·rw [if_neg c50] at H
           exact absurd H (by simp)
         ·rw [if_neg c48] at H
          have c48b0 : (a0_0 == 9) = false := beq_eq_false_iff_ne.mpr c48
          have c48b1 : (a0_0 != 9) = true := bne_iff_ne.mpr c48
          by_cases c54 : a0_0 = 13
          ·rw [if_pos c54] at H
           have c54b0 : (a0_0 == 13) = true := beq_iff_eq.mpr c54
           have c54b1 : (a0_0 != 13) = false := bne_eq_false_iff_eq.mpr c54
           clear c54
           replace H := Option.bind_eq_some_iff.mp H
           obtain ⟨t145, A550, H⟩ := H
           replace H : (if x3_2.length < 8796093022208 then (hist_Op.j2 kj17 (x3_2 ++ [t145]) a0_0 a0_1 a0_2 a0_3 a0_4 l0_5 a0_6) else (none)) = some r := H
           have A55 := Aside0.mk A550
           clear A550
           by_cases c56 : x3_2.length < 8796093022208
           ·rw [if_pos c56] at H
            have LMc56 := Aside0.mk c56
            clear c56
            obtain ⟨y146, hy146⟩ : ∃ y_ : List ByteArray, y_ = (x3_2 ++ [t145]) := ⟨_, rfl⟩
            replace H : (hist_Op.j2 kj17 y146 a0_0 a0_1 a0_2 a0_3 a0_4 l0_5 a0_6) = some r := by first | (rw [hy146]; with_reducible exact H) | (have H2_ := (Option.bind_some _ _).symm.trans H; rw [hy146]; with_reducible exact H2_) | (have H2_ := (Option.bind_some _ _).symm.trans H; with_reducible exact H2_) | with_reducible exact H | (rw [hy146]; exact H) | exact H
            have Ny146 := Aside0.mk hy146
            clear hy146
            have H' := Aside0.mk H
            clear H
            have hcz57_0 : wc.cell? ⟨gb120, 0, none⟩ = some (.int .i64 a0_0) := (blk_cell BK120.out 0).trans rfl
            have hcz57_1 : wc.cell? ⟨gb120, 1, none⟩ = some (.string a0_1) := (blk_cell BK120.out 1).trans rfl
            have hcz57_2 : wc.cell? ⟨gb120, 2, none⟩ = some (.string a0_2) := (blk_cell BK120.out 2).trans rfl
            have hcz57_3 : wc.cell? ⟨gb120, 3, none⟩ = some (.int .i64 a0_3) := (blk_cell BK120.out 3).trans rfl
            have hcz57_4 : wc.cell? ⟨gb120, 4, none⟩ = some (.int .i64 a0_4) := (blk_cell BK120.out 4).trans rfl
            have hcz57_5 : wc.cell? ⟨gb120, 5, none⟩ = some (.slice A0_5 l0_5.length c0_5) := (blk_cell BK120.out 5).trans rfl
            have hcz57_6 : wc.cell? ⟨gb120, 6, none⟩ = some (.int .i64 a0_6) := (blk_cell BK120.out 6).trans rfl
            have hfz57_0 := blk_frozen BK120.out 0
            have hfz57_1 := blk_frozen BK120.out 1
            have hfz57_2 := blk_frozen BK120.out 2
            have hfz57_3 := blk_frozen BK120.out 3
            have hfz57_4 := blk_frozen BK120.out 4
            have hfz57_5 := blk_frozen BK120.out 5
            have hfz57_6 := blk_frozen BK120.out 6
            go_wp2_with (first | ((with_reducible refine gate_callee (f := 34) rfl ?_); refine goesL_ (some 62) rfl rfl Tryz.func34 (by kernel_rfl) rfl #[.int .i64 a0_6] rfl (by (try simp only [List.map_toArray, List.map_cons, List.map_nil]); first | done | rfl | (simp only [List.length_drop, List.length_take]; rfl)) ?_; (with_reducible refine (hist_num.calls a0_6 t145 _ A55.out ?hT_).mono ?_); (case hT_ => exact Tabs.after HT.out (by repeat (first | (with_reducible first | exact HB.out | apply s1 | apply s2 | apply s3 | refine s4 ?_ GE120.out) | exact HB.out))); rintro e w58 ⟨rfl, hb⟩; refine ⟨_, rfl, ?_⟩; have n0_ := Aside0.mk (Kd.R_below (by (with_reducible repeat first | apply r1 | apply r2 | apply r3); exact HO_3.out) hb); have n1_ := Aside0.mk (blk_below (g := gb120) (o := .cells #[.int .i64 a0_0, .string a0_1, .string a0_2, .int .i64 a0_3, .int .i64 a0_4, .slice A0_5 l0_5.length c0_5, .int .i64 a0_6] 24 (0, 0)) (by (with_reducible repeat first | apply q1 | apply q2 | apply q3); exact BK120.out) hb); have n2_ := Aside0.mk (below_step (by repeat (first | (with_reducible first | exact HB.out | apply s1 | apply s2 | apply s3 | refine s4 ?_ GE120.out) | exact HB.out)) hb); clear HO_3; clear BK120; clear HB; have HO_3 := n0_; have BK120 := n1_; have HB := n2_; clear n0_ n1_ n2_; (try clear hb); (try clear hb2); (try clear hk); (try clear hi)) | ((with_reducible refine gate_builtin (b := .append) (xs := #[.tmp 59, .tmp 63]) rfl ?_); at_builtin; refine Kd.R_append Kd.string (w0 := w) w.heap.size rfl (.tmp 59) (.tmp 63) 38 9 (.string ⟨#[]⟩) 16 rfl Tryz.underlying38 info9 rfl (by decide) (by omega) u3 x3_2 t145 [.string t145] (fun _ => True) (fun _ => False) rfl rfl ?aP (fun _ hk => hk.elim) ?aF ?aO ?aB ?aS ?aL ?_; (case aP => exact rfl); (case aB => exact (by repeat (first | (with_reducible first | exact HB.out | apply s1 | apply s2 | apply s3 | refine s4 ?_ GE120.out) | exact HB.out))); (case aF => exact (fun _ _ => trivial)); (case aO => exact (by (with_reducible repeat first | apply r1 | apply r2 | apply r3); exact HO_3.out)); (case aS => exact (below_size (by repeat (first | (with_reducible first | exact HB.out | apply s1 | apply s2 | apply s3 | refine s4 ?_ GE120.out) | exact HB.out)))); (case aL => have := LMc56.out; omega); intro v147 w59 ho hb hg hat; rw [← Ny146.out] at ho; have n0_ := Aside0.mk (blk_grown (g := gb120) (o := .cells #[.int .i64 a0_0, .string a0_1, .string a0_2, .int .i64 a0_3, .int .i64 a0_4, .slice A0_5 l0_5.length c0_5, .int .i64 a0_6] 24 (0, 0)) (by (with_reducible repeat first | apply q1 | apply q2 | apply q3); exact BK120.out) hg (Kd.R_ne HO_3.out BK120.out (by decide))); have n1_ := Aside0.mk (hb); have n2_ := Aside0.mk (ho); clear BK120; clear HB; clear HO_3; have BK120 := n0_; have HB := n1_; have HO148 := n2_; clear n0_ n1_ n2_; clear ho hb hg hat))
            go_meet
            case rel => exact ⟨_, (y146), H', ⟨by have := HJ2.out; have := HJ17.out; first | omega | exact Nat.le_refl _⟩, ⟨by (with_reducible repeat first | apply r1 | apply r2 | apply r3); exact HO148.out⟩, ⟨by (with_reducible repeat first | apply q1 | apply q2 | apply q3); exact BK120.out⟩, ⟨by repeat (first | (with_reducible first | exact HB.out | apply s1 | apply s2 | apply s3 | refine s4 ?_ GE120.out) | exact HB.out)⟩⟩
           ·rw [if_neg c56] at H
            exact absurd H (by simp)
          ·rw [if_neg c54] at H
           have c54b0 : (a0_0 == 13) = false := beq_eq_false_iff_ne.mpr c54
           have c54b1 : (a0_0 != 13) = true := bne_iff_ne.mpr c54
           have H' := Aside0.mk H
           clear H
           go_wp2
           go_meet
           case rel => exact ⟨_, (x3_2), H', ⟨by have := HJ2.out; have := HJ17.out; first | omega | exact Nat.le_refl _⟩, ⟨by (with_reducible repeat first | apply r1 | apply r2 | apply r3); exact HO_3.out⟩, ⟨by (with_reducible repeat first | apply q1 | apply q2 | apply q3); exact BK120.out⟩, ⟨by repeat (first | (with_reducible first | exact HB.out | apply s1 | apply s2 | apply s3 | refine s4 ?_ GE120.out) | exact HB.out)⟩⟩
   case rest =>
    clear HC16
    try clear c1
    try clear c2
    try clear p2
    try clear c3
    try clear c4
    try clear c5
    try clear c10
    try clear c10b0
    try clear c11
    try clear c12
    try clear c19
    try clear c19b0
    try clear c19b1
    try clear c20
    try clear c22
    try clear c26
    try clear c26b0
    try clear c26b1
    try clear c29
    try clear c33
    try clear c34
    try clear c35
    try clear c37
    try clear c37b0
    try clear c37b1
    try clear c39
    try clear c41
    try clear c48
    try clear c48b0
    try clear c48b1
    try clear c50
    try clear c54
    try clear c54b0
    try clear c54b1
    try clear c56
    try clear hcz13_0
    try clear hcz13_1
    try clear hcz13_2
    try clear hcz13_3
    try clear hcz13_4
    try clear hcz13_5
    try clear hcz13_6
    try clear hcz17_0
    try clear hcz17_1
    try clear hcz17_2
    try clear hcz17_3
    try clear hcz17_4
    try clear hcz17_5
    try clear hcz17_6
    try clear hcz23_0
    try clear hcz23_1
    try clear hcz23_2
    try clear hcz23_3
    try clear hcz23_4
    try clear hcz23_5
    try clear hcz23_6
    try clear hcz42_0
    try clear hcz42_1
    try clear hcz42_2
    try clear hcz42_3
    try clear hcz42_4
    try clear hcz42_5
    try clear hcz42_6
    try clear hcz45_0
    try clear hcz45_1
    try clear hcz45_2
    try clear hcz45_3
    try clear hcz45_4
    try clear hcz45_5
    try clear hcz45_6
    try clear hcz51_0
    try clear hcz51_1
    try clear hcz51_2
    try clear hcz51_3
    try clear hcz51_4
    try clear hcz51_5
    try clear hcz51_6
    try clear hcz57_0
    try clear hcz57_1
    try clear hcz57_2
    try clear hcz57_3
    try clear hcz57_4
    try clear hcz57_5
    try clear hcz57_6
    try clear hcz5_0
    try clear hcz5_1
    try clear hcz5_2
    try clear hcz5_3
    try clear hcz5_4
    try clear hcz5_5
    try clear hcz5_6
    try clear hcz9_0
    try clear hcz9_1
    try clear hcz9_2
    try clear hcz9_3
    try clear hcz9_4
    try clear hcz9_5
    try clear hcz9_6
    try clear hfz13_0
    try clear hfz13_1
    try clear hfz13_2
    try clear hfz13_3
    try clear hfz13_4
    try clear hfz13_5
    try clear hfz13_6
    try clear hfz17_0
    try clear hfz17_1
    try clear hfz17_2
    try clear hfz17_3
    try clear hfz17_4
    try clear hfz17_5
    try clear hfz17_6
    try clear hfz23_0
    try clear hfz23_1
    try clear hfz23_2
    try clear hfz23_3
    try clear hfz23_4
    try clear hfz23_5
    try clear hfz23_6
    try clear hfz42_0
    try clear hfz42_1
    try clear hfz42_2
    try clear hfz42_3
    try clear hfz42_4
    try clear hfz42_5
    try clear hfz42_6
    try clear hfz45_0
    try clear hfz45_1
    try clear hfz45_2
    try clear hfz45_3
    try clear hfz45_4
    try clear hfz45_5
    try clear hfz45_6
    try clear hfz51_0
    try clear hfz51_1
    try clear hfz51_2
    try clear hfz51_3
    try clear hfz51_4
    try clear hfz51_5
    try clear hfz51_6
    try clear hfz57_0
    try clear hfz57_1
    try clear hfz57_2
    try clear hfz57_3
    try clear hfz57_4
    try clear hfz57_5
    try clear hfz57_6
    try clear hfz5_0
    try clear hfz5_1
    try clear hfz5_2
    try clear hfz5_3
    try clear hfz5_4
    try clear hfz5_5
    try clear hfz5_6
    try clear hfz9_0
    try clear hfz9_1
    try clear hfz9_2
    try clear hfz9_3
    try clear hfz9_4
    try clear hfz9_5
    try clear hfz9_6
    try clear p2
    obtain ⟨kq, x3_15, HA, HJ15, HO_3, BK120, HB⟩ := hcut
    cases kq with
    | zero => exact absurd HA.out (by simp [hist_Op.j2])
    | succ kj15 =>
     have H := HA.out
     clear HA
     simp only [hist_Op.j2] at H
     have HC60 := Aside0.mk H
     clear H
     go_upto_region 16 with (fail)
     go_cut [72] (fun v72 wc => ∃ (kq : Nat) (x72_59 : Bool), v72 = .bool x72_59 ∧ Aside0 (hist_Op.j3 kq x3_15 x72_59 a0_0 a0_1 a0_2 a0_3 a0_4 l0_5 a0_6 = some r) ∧ Aside0 (kq ≤ kj15) ∧ Aside0 (Kd.R Kd.string 9 wc w.heap.size (fun _ => True) u3 x3_15) ∧ Aside0 (wc.heap[gb120]? = some (.cells #[.int .i64 a0_0, .string a0_1, .string a0_2, .int .i64 a0_3, .int .i64 a0_4, (.slice A0_5 l0_5.length c0_5), .int .i64 a0_6] 24 (0, 0))) ∧ Aside0 (Below w.heap.size w wc))
     case first =>
      have H := HC60.out
      clear HC60
      by_cases c61 : a0_0 ≤ 11
      ·rw [if_pos c61] at H
       have c61b0 : decide (a0_0 ≤ 11) = true := decide_eq_true c61
       clear c61
       (first | rw [c61b0] | (simp only [i64_w, i32_w]; rw [c61b0]) | skip)
       have H' := Aside0.mk H
       clear H
       have hcz62_0 : wc.cell? ⟨gb120, 0, none⟩ = some (.int .i64 a0_0) := (blk_cell BK120.out 0).trans rfl
       have hcz62_1 : wc.cell? ⟨gb120, 1, none⟩ = some (.string a0_1) := (blk_cell BK120.out 1).trans rfl
       have hcz62_2 : wc.cell? ⟨gb120, 2, none⟩ = some (.string a0_2) := (blk_cell BK120.out 2).trans rfl
       have hcz62_3 : wc.cell? ⟨gb120, 3, none⟩ = some (.int .i64 a0_3) := (blk_cell BK120.out 3).trans rfl
       have hcz62_4 : wc.cell? ⟨gb120, 4, none⟩ = some (.int .i64 a0_4) := (blk_cell BK120.out 4).trans rfl
       have hcz62_5 : wc.cell? ⟨gb120, 5, none⟩ = some (.slice A0_5 l0_5.length c0_5) := (blk_cell BK120.out 5).trans rfl
       have hcz62_6 : wc.cell? ⟨gb120, 6, none⟩ = some (.int .i64 a0_6) := (blk_cell BK120.out 6).trans rfl
       have hfz62_0 := blk_frozen BK120.out 0
       have hfz62_1 := blk_frozen BK120.out 1
       have hfz62_2 := blk_frozen BK120.out 2
       have hfz62_3 := blk_frozen BK120.out 3
       have hfz62_4 := blk_frozen BK120.out 4
       have hfz62_5 := blk_frozen BK120.out 5
       have hfz62_6 := blk_frozen BK120.out 6
       go_wp2
       go_meet
       case rel => exact ⟨_, ((a0_6 != 0)), (by first | rfl | (simp; done) | (simp [*]; done)), H', ⟨by have := HJ2.out; have := HJ15.out; first | omega | exact Nat.le_refl _⟩, ⟨by (with_reducible repeat first | apply r1 | apply r2 | apply r3); exact HO_3.out⟩, ⟨by (with_reducible repeat first | apply q1 | apply q2 | apply q3); exact BK120.out⟩, ⟨by repeat (first | (with_reducible first | exact HB.out | apply s1 | apply s2 | apply s3 | refine s4 ?_ GE120.out) | exact HB.out)⟩⟩
      ·rw [if_neg c61] at H
       have c61b0 : decide (a0_0 ≤ 11) = false := decide_eq_false c61
       clear c61
       (first | rw [c61b0] | (simp only [i64_w, i32_w]; rw [c61b0]) | skip)
       have H' := Aside0.mk H
       clear H
       have hcz63_0 : wc.cell? ⟨gb120, 0, none⟩ = some (.int .i64 a0_0) := (blk_cell BK120.out 0).trans rfl
       have hcz63_1 : wc.cell? ⟨gb120, 1, none⟩ = some (.string a0_1) := (blk_cell BK120.out 1).trans rfl
       have hcz63_2 : wc.cell? ⟨gb120, 2, none⟩ = some (.string a0_2) := (blk_cell BK120.out 2).trans rfl
       have hcz63_3 : wc.cell? ⟨gb120, 3, none⟩ = some (.int .i64 a0_3) := (blk_cell BK120.out 3).trans rfl
       have hcz63_4 : wc.cell? ⟨gb120, 4, none⟩ = some (.int .i64 a0_4) := (blk_cell BK120.out 4).trans rfl
       have hcz63_5 : wc.cell? ⟨gb120, 5, none⟩ = some (.slice A0_5 l0_5.length c0_5) := (blk_cell BK120.out 5).trans rfl
       have hcz63_6 : wc.cell? ⟨gb120, 6, none⟩ = some (.int .i64 a0_6) := (blk_cell BK120.out 6).trans rfl
       have hfz63_0 := blk_frozen BK120.out 0
       have hfz63_1 := blk_frozen BK120.out 1
       have hfz63_2 := blk_frozen BK120.out 2
       have hfz63_3 := blk_frozen BK120.out 3
       have hfz63_4 := blk_frozen BK120.out 4
       have hfz63_5 := blk_frozen BK120.out 5
       have hfz63_6 := blk_frozen BK120.out 6
       go_wp2
       go_meet
       case rel => exact ⟨_, (false), (by first | rfl | (simp; done) | (simp [*]; done)), H', ⟨by have := HJ2.out; have := HJ15.out; first | omega | exact Nat.le_refl _⟩, ⟨by (with_reducible repeat first | apply r1 | apply r2 | apply r3); exact HO_3.out⟩, ⟨by (with_reducible repeat first | apply q1 | apply q2 | apply q3); exact BK120.out⟩, ⟨by repeat (first | (with_reducible first | exact HB.out | apply s1 | apply s2 | apply s3 | refine s4 ?_ GE120.out) | exact HB.out)⟩⟩
     case rest =>
      clear HC60
      try clear c1
      try clear c2
      try clear p2
      try clear c3
      try clear c4
      try clear c5
      try clear c6
      try clear c10
      try clear c10b0
      try clear c11
      try clear c12
      try clear c19
      try clear c19b0
      try clear c19b1
      try clear c20
      try clear c22
      try clear c26
      try clear c26b0
      try clear c26b1
      try clear c29
      try clear c33
      try clear c34
      try clear c35
      try clear c37
      try clear c37b0
      try clear c37b1
      try clear c39
      try clear c41
      try clear c48
      try clear c48b0
      try clear c48b1
      try clear c50
      try clear c54
      try clear c54b0
      try clear c54b1
      try clear c56
      try clear c61
      try clear c61b0
      try clear hcz13_0
      try clear hcz13_1
      try clear hcz13_2
      try clear hcz13_3
      try clear hcz13_4
      try clear hcz13_5
      try clear hcz13_6
      try clear hcz17_0
      try clear hcz17_1
      try clear hcz17_2
      try clear hcz17_3
      try clear hcz17_4
      try clear hcz17_5
      try clear hcz17_6
      try clear hcz23_0
      try clear hcz23_1
      try clear hcz23_2
      try clear hcz23_3
      try clear hcz23_4
      try clear hcz23_5
      try clear hcz23_6
      try clear hcz42_0
      try clear hcz42_1
      try clear hcz42_2
      try clear hcz42_3
      try clear hcz42_4
      try clear hcz42_5
      try clear hcz42_6
      try clear hcz45_0
      try clear hcz45_1
      try clear hcz45_2
      try clear hcz45_3
      try clear hcz45_4
      try clear hcz45_5
      try clear hcz45_6
      try clear hcz51_0
      try clear hcz51_1
      try clear hcz51_2
      try clear hcz51_3
      try clear hcz51_4
      try clear hcz51_5
      try clear hcz51_6
      try clear hcz57_0
      try clear hcz57_1
      try clear hcz57_2
      try clear hcz57_3
      try clear hcz57_4
      try clear hcz57_5
      try clear hcz57_6
      try clear hcz5_0
      try clear hcz5_1
      try clear hcz5_2
      try clear hcz5_3
      try clear hcz5_4
      try clear hcz5_5
      try clear hcz5_6
      try clear hcz62_0
      try clear hcz62_1
      try clear hcz62_2
      try clear hcz62_3
      try clear hcz62_4
      try clear hcz62_5
      try clear hcz62_6
      try clear hcz63_0
      try clear hcz63_1
      try clear hcz63_2
      try clear hcz63_3
      try clear hcz63_4
      try clear hcz63_5
      try clear hcz63_6
      try clear hcz9_0
      try clear hcz9_1
      try clear hcz9_2
      try clear hcz9_3
      try clear hcz9_4
      try clear hcz9_5
      try clear hcz9_6
      try clear hfz13_0
      try clear hfz13_1
      try clear hfz13_2
      try clear hfz13_3
      try clear hfz13_4
      try clear hfz13_5
      try clear hfz13_6
      try clear hfz17_0
      try clear hfz17_1
      try clear hfz17_2
      try clear hfz17_3
      try clear hfz17_4
      try clear hfz17_5
      try clear hfz17_6
      try clear hfz23_0
      try clear hfz23_1
      try clear hfz23_2
      try clear hfz23_3
      try clear hfz23_4
      try clear hfz23_5
      try clear hfz23_6
      try clear hfz42_0
      try clear hfz42_1
      try clear hfz42_2
      try clear hfz42_3
      try clear hfz42_4
      try clear hfz42_5
      try clear hfz42_6
      try clear hfz45_0
      try clear hfz45_1
      try clear hfz45_2
      try clear hfz45_3
      try clear hfz45_4
      try clear hfz45_5
      try clear hfz45_6
      try clear hfz51_0
      try clear hfz51_1
      try clear hfz51_2
      try clear hfz51_3
      try clear hfz51_4
      try clear hfz51_5
      try clear hfz51_6
      try clear hfz57_0
      try clear hfz57_1
      try clear hfz57_2
      try clear hfz57_3
      try clear hfz57_4
      try clear hfz57_5
      try clear hfz57_6
      try clear hfz5_0
      try clear hfz5_1
      try clear hfz5_2
      try clear hfz5_3
      try clear hfz5_4
      try clear hfz5_5
      try clear hfz5_6
      try clear hfz62_0
      try clear hfz62_1
      try clear hfz62_2
      try clear hfz62_3
      try clear hfz62_4
      try clear hfz62_5
      try clear hfz62_6
      try clear hfz63_0
      try clear hfz63_1
      try clear hfz63_2
      try clear hfz63_3
      try clear hfz63_4
      try clear hfz63_5
      try clear hfz63_6
      try clear hfz9_0
      try clear hfz9_1
      try clear hfz9_2
      try clear hfz9_3
      try clear hfz9_4
      try clear hfz9_5
      try clear hfz9_6
      try clear p2
      obtain ⟨kq, x72_59, rfl, HA, HJ59, HO_3, BK120, HB⟩ := hcut
      cases kq with
      | zero => exact absurd HA.out (by simp [hist_Op.j3])
      | succ kj59 =>
       have H := HA.out
       clear HA
       simp only [hist_Op.j3] at H
       have HC64 := Aside0.mk H
       clear H
       go_upto_if 72 with (fail)
       go_cut [3] (fun v3 wc => ∃ (kq : Nat) (x3_63 : List ByteArray), Aside0 (hist_Op.j4 kq x3_63 = some r) ∧ Aside0 (kq ≤ kj59) ∧ Aside0 (Kd.R Kd.string 9 wc w.heap.size (fun _ => True) v3 x3_63) ∧ Aside0 (wc.heap[gb120]? = some (.cells #[.int .i64 a0_0, .string a0_1, .string a0_2, .int .i64 a0_3, .int .i64 a0_4, (.slice A0_5 l0_5.length c0_5), .int .i64 a0_6] 24 (0, 0))) ∧ Aside0 (Below w.heap.size w wc))
       case first =>
        have H := HC64.out
        clear HC64
        by_cases c65 : x72_59 = true
        ·subst c65
         have H1 : ((hist_num.f a0_6).bind fun t157 => (if 1 + t157.size ≤ 9223372036854775807 then (if x3_15.length < 8796093022208 then ((hist_num.f a0_6).bind fun t161 => (if t161.toList = ([] : List UInt8) then (some (⟨#[]⟩ : ByteArray)) else (hist_Op.j4 kj59 (x3_15 ++ [(⟨#[64]⟩ : ByteArray) ++ t157])))) else (none)) else (none))) = some r := by rw [if_pos rfl] at H; exact H
         clear H
         have H := H1
         clear H1
         replace H := Option.bind_eq_some_iff.mp H
         obtain ⟨t157, A660, H⟩ := H
         replace H : (if 1 + t157.size ≤ 9223372036854775807 then (if x3_15.length < 8796093022208 then ((hist_num.f a0_6).bind fun t161 => (if t161.toList = ([] : List UInt8) then (some (⟨#[]⟩ : ByteArray)) else (hist_Op.j4 kj59 (x3_15 ++ [(⟨#[64]⟩ : ByteArray) ++ t157])))) else (none)) else (none)) = some r := H
         have A66 := Aside0.mk A660
         clear A660
         by_cases c67 : 1 + t157.size ≤ 9223372036854775807
         ·rw [if_pos c67] at H
          have c67b0 := eq_true c67
          have c67b1 : decide (1 + t157.size ≤ 9223372036854775807) = true := decide_eq_true c67
          try have c67b2 : (9223372036854775807 < 1 + t157.size) = False := eq_false (Nat.not_lt.2 c67)
          by_cases c68 : x3_15.length < 8796093022208
          ·rw [if_pos c68] at H
           have LMc68 := Aside0.mk c68
           clear c68
           obtain ⟨y158, hy158⟩ : ∃ y_ : List ByteArray, y_ = (x3_15 ++ [(⟨#[64]⟩ : ByteArray) ++ t157]) := ⟨_, rfl⟩
           replace H : ((hist_num.f a0_6).bind fun t161 => (if t161.toList = ([] : List UInt8) then (some (⟨#[]⟩ : ByteArray)) else (hist_Op.j4 kj59 y158))) = some r := by first | (rw [hy158]; with_reducible exact H) | (have H2_ := (Option.bind_some _ _).symm.trans H; rw [hy158]; with_reducible exact H2_) | (have H2_ := (Option.bind_some _ _).symm.trans H; with_reducible exact H2_) | with_reducible exact H | (rw [hy158]; exact H) | exact H
           have Ny158 := Aside0.mk hy158
           clear hy158
           replace H := Option.bind_eq_some_iff.mp H
           obtain ⟨t161, A690, H⟩ := H
           replace H : (if t161.toList = ([] : List UInt8) then (some (⟨#[]⟩ : ByteArray)) else (hist_Op.j4 kj59 y158)) = some r := H
           have A69 := Aside0.mk A690
           clear A690
           by_cases c70 : t161.toList = ([] : List UInt8)
           ·rw [if_pos c70] at H
            have c70b0 : (t161.toList == ([] : List UInt8)) = true := beq_iff_eq.mpr c70
            have c70b1 : (t161.toList != ([] : List UInt8)) = false := bne_eq_false_iff_eq.mpr c70
            clear c70
            (first | rw [c70b0] | (simp only [i64_w, i32_w]; rw [c70b0]) | skip)
            obtain rfl := Option.some.inj H
            have hcz71_0 : wc.cell? ⟨gb120, 0, none⟩ = some (.int .i64 a0_0) := (blk_cell BK120.out 0).trans rfl
            have hcz71_1 : wc.cell? ⟨gb120, 1, none⟩ = some (.string a0_1) := (blk_cell BK120.out 1).trans rfl
            have hcz71_2 : wc.cell? ⟨gb120, 2, none⟩ = some (.string a0_2) := (blk_cell BK120.out 2).trans rfl
            have hcz71_3 : wc.cell? ⟨gb120, 3, none⟩ = some (.int .i64 a0_3) := (blk_cell BK120.out 3).trans rfl
            have hcz71_4 : wc.cell? ⟨gb120, 4, none⟩ = some (.int .i64 a0_4) := (blk_cell BK120.out 4).trans rfl
            have hcz71_5 : wc.cell? ⟨gb120, 5, none⟩ = some (.slice A0_5 l0_5.length c0_5) := (blk_cell BK120.out 5).trans rfl
            have hcz71_6 : wc.cell? ⟨gb120, 6, none⟩ = some (.int .i64 a0_6) := (blk_cell BK120.out 6).trans rfl
            have hfz71_0 := blk_frozen BK120.out 0
            have hfz71_1 := blk_frozen BK120.out 1
            have hfz71_2 := blk_frozen BK120.out 2
            have hfz71_3 := blk_frozen BK120.out 3
            have hfz71_4 := blk_frozen BK120.out 4
            have hfz71_5 := blk_frozen BK120.out 5
            have hfz71_6 := blk_frozen BK120.out 6
            go_wp2_with (first | ((with_reducible refine gate_callee (f := 34) rfl ?_); refine goesL_ (some 76) rfl rfl Tryz.func34 (by kernel_rfl) rfl #[.int .i64 a0_6] rfl (by (try simp only [List.map_toArray, List.map_cons, List.map_nil]); first | done | rfl | (simp only [List.length_drop, List.length_take]; rfl)) ?_; (with_reducible refine (hist_num.calls a0_6 t157 _ A66.out ?hT_).mono ?_); (case hT_ => exact Tabs.after HT.out (by repeat (first | (with_reducible first | exact HB.out | apply s1 | apply s2 | apply s3 | refine s4 ?_ GE120.out) | exact HB.out))); rintro e w72 ⟨rfl, hb⟩; refine ⟨_, rfl, ?_⟩; have n0_ := Aside0.mk (Kd.R_below (by (with_reducible repeat first | apply r1 | apply r2 | apply r3); exact HO_3.out) hb); have n1_ := Aside0.mk (blk_below (g := gb120) (o := .cells #[.int .i64 a0_0, .string a0_1, .string a0_2, .int .i64 a0_3, .int .i64 a0_4, .slice A0_5 l0_5.length c0_5, .int .i64 a0_6] 24 (0, 0)) (by (with_reducible repeat first | apply q1 | apply q2 | apply q3); exact BK120.out) hb); have n2_ := Aside0.mk (below_step (by repeat (first | (with_reducible first | exact HB.out | apply s1 | apply s2 | apply s3 | refine s4 ?_ GE120.out) | exact HB.out)) hb); clear HO_3; clear BK120; clear HB; have HO_3 := n0_; have BK120 := n1_; have HB := n2_; clear n0_ n1_ n2_; (try clear hb); (try clear hb2); (try clear hk); (try clear hi)) | ((with_reducible refine gate_builtin (b := .append) (xs := #[.tmp 73, .tmp 78]) rfl ?_); at_builtin; refine Kd.R_append Kd.string (w0 := w) w.heap.size rfl (.tmp 73) (.tmp 78) 38 9 (.string ⟨#[]⟩) 16 rfl Tryz.underlying38 info9 rfl (by decide) (by omega) u3 x3_15 ((⟨#[64]⟩ : ByteArray) ++ t157) [.string ((⟨#[64]⟩ : ByteArray) ++ t157)] (fun _ => True) (fun _ => False) rfl rfl ?aP (fun _ hk => hk.elim) ?aF ?aO ?aB ?aS ?aL ?_; (case aP => exact rfl); (case aB => exact (by repeat (first | (with_reducible first | exact HB.out | apply s1 | apply s2 | apply s3 | refine s4 ?_ GE120.out) | exact HB.out))); (case aF => exact (fun _ _ => trivial)); (case aO => exact (by (with_reducible repeat first | apply r1 | apply r2 | apply r3); exact HO_3.out)); (case aS => exact (below_size (by repeat (first | (with_reducible first | exact HB.out | apply s1 | apply s2 | apply s3 | refine s4 ?_ GE120.out) | exact HB.out)))); (case aL => have := LMc68.out; omega); intro v159 w73 ho hb hg hat; rw [← Ny158.out] at ho; have n0_ := Aside0.mk (blk_grown (g := gb120) (o := .cells #[.int .i64 a0_0, .string a0_1, .string a0_2, .int .i64 a0_3, .int .i64 a0_4, .slice A0_5 l0_5.length c0_5, .int .i64 a0_6] 24 (0, 0)) (by (with_reducible repeat first | apply q1 | apply q2 | apply q3); exact BK120.out) hg (Kd.R_ne HO_3.out BK120.out (by decide))); have n1_ := Aside0.mk (hb); have n2_ := Aside0.mk (ho); clear BK120; clear HB; clear HO_3; have BK120 := n0_; have HB := n1_; have HO160 := n2_; clear n0_ n1_ n2_; clear ho hb hg hat; have hcz74_0 : w73.cell? ⟨gb120, 0, none⟩ = some (.int .i64 a0_0) := (blk_cell BK120.out 0).trans rfl; have hcz74_1 : w73.cell? ⟨gb120, 1, none⟩ = some (.string a0_1) := (blk_cell BK120.out 1).trans rfl; have hcz74_2 : w73.cell? ⟨gb120, 2, none⟩ = some (.string a0_2) := (blk_cell BK120.out 2).trans rfl; have hcz74_3 : w73.cell? ⟨gb120, 3, none⟩ = some (.int .i64 a0_3) := (blk_cell BK120.out 3).trans rfl; have hcz74_4 : w73.cell? ⟨gb120, 4, none⟩ = some (.int .i64 a0_4) := (blk_cell BK120.out 4).trans rfl; have hcz74_5 : w73.cell? ⟨gb120, 5, none⟩ = some (.slice A0_5 l0_5.length c0_5) := (blk_cell BK120.out 5).trans rfl; have hcz74_6 : w73.cell? ⟨gb120, 6, none⟩ = some (.int .i64 a0_6) := (blk_cell BK120.out 6).trans rfl; have hfz74_0 := blk_frozen BK120.out 0; have hfz74_1 := blk_frozen BK120.out 1; have hfz74_2 := blk_frozen BK120.out 2; have hfz74_3 := blk_frozen BK120.out 3; have hfz74_4 := blk_frozen BK120.out 4; have hfz74_5 := blk_frozen BK120.out 5; have hfz74_6 := blk_frozen BK120.out 6) | ((with_reducible refine gate_callee (f := 34) rfl ?_); refine goesL_ (some 82) rfl rfl Tryz.func34 (by kernel_rfl) rfl #[.int .i64 a0_6] rfl (by (try simp only [List.map_toArray, List.map_cons, List.map_nil]); first | done | rfl | (simp only [List.length_drop, List.length_take]; rfl)) ?_; (with_reducible refine (hist_num.calls a0_6 t161 _ A69.out ?hT_).mono ?_); (case hT_ => exact Tabs.after HT.out (by repeat (first | (with_reducible first | exact HB.out | apply s1 | apply s2 | apply s3 | refine s4 ?_ GE120.out) | exact HB.out))); rintro e w75 ⟨rfl, hb⟩; refine ⟨_, rfl, ?_⟩; have n0_ := Aside0.mk (Kd.R_below (by (with_reducible repeat first | apply r1 | apply r2 | apply r3); exact HO160.out) hb); have n1_ := Aside0.mk (blk_below (g := gb120) (o := .cells #[.int .i64 a0_0, .string a0_1, .string a0_2, .int .i64 a0_3, .int .i64 a0_4, .slice A0_5 l0_5.length c0_5, .int .i64 a0_6] 24 (0, 0)) (by (with_reducible repeat first | apply q1 | apply q2 | apply q3); exact BK120.out) hb); have n2_ := Aside0.mk (below_step (by repeat (first | (with_reducible first | exact HB.out | apply s1 | apply s2 | apply s3 | refine s4 ?_ GE120.out) | exact HB.out)) hb); clear HO160; clear BK120; clear HB; have HO160 := n0_; have BK120 := n1_; have HB := n2_; clear n0_ n1_ n2_; (try clear hb); (try clear hb2); (try clear hk); (try clear hi)))
            go_ret
            exact ⟨by first | rfl | (simp [errW_none, errW_some] <;> rfl) | (simp [*, errW_none, errW_some] <;> rfl), by repeat (first | (with_reducible first | exact HB.out | apply s1 | apply s2 | apply s3 | refine s4 ?_ GE120.out) | exact HB.out)⟩
           ·rw [if_neg c70] at H
            have c70b0 : (t161.toList == ([] : List UInt8)) = false := beq_eq_false_iff_ne.mpr c70
            have c70b1 : (t161.toList != ([] : List UInt8)) = true := bne_iff_ne.mpr c70
            (first | rw [c70b0] | (simp only [i64_w, i32_w]; rw [c70b0]) | skip)
            have H' := Aside0.mk H
            clear H
            have hcz76_0 : wc.cell? ⟨gb120, 0, none⟩ = some (.int .i64 a0_0) := (blk_cell BK120.out 0).trans rfl
            have hcz76_1 : wc.cell? ⟨gb120, 1, none⟩ = some (.string a0_1) := (blk_cell BK120.out 1).trans rfl
            have hcz76_2 : wc.cell? ⟨gb120, 2, none⟩ = some (.string a0_2) := (blk_cell BK120.out 2).trans rfl
            have hcz76_3 : wc.cell? ⟨gb120, 3, none⟩ = some (.int .i64 a0_3) := (blk_cell BK120.out 3).trans rfl
            have hcz76_4 : wc.cell? ⟨gb120, 4, none⟩ = some (.int .i64 a0_4) := (blk_cell BK120.out 4).trans rfl
            have hcz76_5 : wc.cell? ⟨gb120, 5, none⟩ = some (.slice A0_5 l0_5.length c0_5) := (blk_cell BK120.out 5).trans rfl
            have hcz76_6 : wc.cell? ⟨gb120, 6, none⟩ = some (.int .i64 a0_6) := (blk_cell BK120.out 6).trans rfl
            have hfz76_0 := blk_frozen BK120.out 0
            have hfz76_1 := blk_frozen BK120.out 1
            have hfz76_2 := blk_frozen BK120.out 2
            have hfz76_3 := blk_frozen BK120.out 3
            have hfz76_4 := blk_frozen BK120.out 4
            have hfz76_5 := blk_frozen BK120.out 5
            have hfz76_6 := blk_frozen BK120.out 6
            go_wp2_with (first | ((with_reducible refine gate_callee (f := 34) rfl ?_); refine goesL_ (some 76) rfl rfl Tryz.func34 (by kernel_rfl) rfl #[.int .i64 a0_6] rfl (by (try simp only [List.map_toArray, List.map_cons, List.map_nil]); first | done | rfl | (simp only [List.length_drop, List.length_take]; rfl)) ?_; (with_reducible refine (hist_num.calls a0_6 t157 _ A66.out ?hT_).mono ?_); (case hT_ => exact Tabs.after HT.out (by repeat (first | (with_reducible first | exact HB.out | apply s1 | apply s2 | apply s3 | refine s4 ?_ GE120.out) | exact HB.out))); rintro e w77 ⟨rfl, hb⟩; refine ⟨_, rfl, ?_⟩; have n0_ := Aside0.mk (Kd.R_below (by (with_reducible repeat first | apply r1 | apply r2 | apply r3); exact HO_3.out) hb); have n1_ := Aside0.mk (blk_below (g := gb120) (o := .cells #[.int .i64 a0_0, .string a0_1, .string a0_2, .int .i64 a0_3, .int .i64 a0_4, .slice A0_5 l0_5.length c0_5, .int .i64 a0_6] 24 (0, 0)) (by (with_reducible repeat first | apply q1 | apply q2 | apply q3); exact BK120.out) hb); have n2_ := Aside0.mk (below_step (by repeat (first | (with_reducible first | exact HB.out | apply s1 | apply s2 | apply s3 | refine s4 ?_ GE120.out) | exact HB.out)) hb); clear HO_3; clear BK120; clear HB; have HO_3 := n0_; have BK120 := n1_; have HB := n2_; clear n0_ n1_ n2_; (try clear hb); (try clear hb2); (try clear hk); (try clear hi)) | ((with_reducible refine gate_builtin (b := .append) (xs := #[.tmp 73, .tmp 78]) rfl ?_); at_builtin; refine Kd.R_append Kd.string (w0 := w) w.heap.size rfl (.tmp 73) (.tmp 78) 38 9 (.string ⟨#[]⟩) 16 rfl Tryz.underlying38 info9 rfl (by decide) (by omega) u3 x3_15 ((⟨#[64]⟩ : ByteArray) ++ t157) [.string ((⟨#[64]⟩ : ByteArray) ++ t157)] (fun _ => True) (fun _ => False) rfl rfl ?aP (fun _ hk => hk.elim) ?aF ?aO ?aB ?aS ?aL ?_; (case aP => exact rfl); (case aB => exact (by repeat (first | (with_reducible first | exact HB.out | apply s1 | apply s2 | apply s3 | refine s4 ?_ GE120.out) | exact HB.out))); (case aF => exact (fun _ _ => trivial)); (case aO => exact (by (with_reducible repeat first | apply r1 | apply r2 | apply r3); exact HO_3.out)); (case aS => exact (below_size (by repeat (first | (with_reducible first | exact HB.out | apply s1 | apply s2 | apply s3 | refine s4 ?_ GE120.out) | exact HB.out)))); (case aL => have := LMc68.out; omega); intro v159 w78 ho hb hg hat; rw [← Ny158.out] at ho; have n0_ := Aside0.mk (blk_grown (g := gb120) (o := .cells #[.int .i64 a0_0, .string a0_1, .string a0_2, .int .i64 a0_3, .int .i64 a0_4, .slice A0_5 l0_5.length c0_5, .int .i64 a0_6] 24 (0, 0)) (by (with_reducible repeat first | apply q1 | apply q2 | apply q3); exact BK120.out) hg (Kd.R_ne HO_3.out BK120.out (by decide))); have n1_ := Aside0.mk (hb); have n2_ := Aside0.mk (ho); clear BK120; clear HB; clear HO_3; have BK120 := n0_; have HB := n1_; have HO160 := n2_; clear n0_ n1_ n2_; clear ho hb hg hat; have hcz79_0 : w78.cell? ⟨gb120, 0, none⟩ = some (.int .i64 a0_0) := (blk_cell BK120.out 0).trans rfl; have hcz79_1 : w78.cell? ⟨gb120, 1, none⟩ = some (.string a0_1) := (blk_cell BK120.out 1).trans rfl; have hcz79_2 : w78.cell? ⟨gb120, 2, none⟩ = some (.string a0_2) := (blk_cell BK120.out 2).trans rfl; have hcz79_3 : w78.cell? ⟨gb120, 3, none⟩ = some (.int .i64 a0_3) := (blk_cell BK120.out 3).trans rfl; have hcz79_4 : w78.cell? ⟨gb120, 4, none⟩ = some (.int .i64 a0_4) := (blk_cell BK120.out 4).trans rfl; have hcz79_5 : w78.cell? ⟨gb120, 5, none⟩ = some (.slice A0_5 l0_5.length c0_5) := (blk_cell BK120.out 5).trans rfl; have hcz79_6 : w78.cell? ⟨gb120, 6, none⟩ = some (.int .i64 a0_6) := (blk_cell BK120.out 6).trans rfl; have hfz79_0 := blk_frozen BK120.out 0; have hfz79_1 := blk_frozen BK120.out 1; have hfz79_2 := blk_frozen BK120.out 2; have hfz79_3 := blk_frozen BK120.out 3; have hfz79_4 := blk_frozen BK120.out 4; have hfz79_5 := blk_frozen BK120.out 5; have hfz79_6 := blk_frozen BK120.out 6) | ((with_reducible refine gate_callee (f := 34) rfl ?_); refine goesL_ (some 82) rfl rfl Tryz.func34 (by kernel_rfl) rfl #[.int .i64 a0_6] rfl (by (try simp only [List.map_toArray, List.map_cons, List.map_nil]); first | done | rfl | (simp only [List.length_drop, List.length_take]; rfl)) ?_; (with_reducible refine (hist_num.calls a0_6 t161 _ A69.out ?hT_).mono ?_); (case hT_ => exact Tabs.after HT.out (by repeat (first | (with_reducible first | exact HB.out | apply s1 | apply s2 | apply s3 | refine s4 ?_ GE120.out) | exact HB.out))); rintro e w80 ⟨rfl, hb⟩; refine ⟨_, rfl, ?_⟩; have n0_ := Aside0.mk (Kd.R_below (by (with_reducible repeat first | apply r1 | apply r2 | apply r3); exact HO160.out) hb); have n1_ := Aside0.mk (blk_below (g := gb120) (o := .cells #[.int .i64 a0_0, .string a0_1, .string a0_2, .int .i64 a0_3, .int .i64 a0_4, .slice A0_5 l0_5.length c0_5, .int .i64 a0_6] 24 (0, 0)) (by (with_reducible repeat first | apply q1 | apply q2 | apply q3); exact BK120.out) hb); have n2_ := Aside0.mk (below_step (by repeat (first | (with_reducible first | exact HB.out | apply s1 | apply s2 | apply s3 | refine s4 ?_ GE120.out) | exact HB.out)) hb); clear HO160; clear BK120; clear HB; have HO160 := n0_; have BK120 := n1_; have HB := n2_; clear n0_ n1_ n2_; (try clear hb); (try clear hb2); (try clear hk); (try clear hi)))
            go_meet
            case rel => exact ⟨_, (y158), H', ⟨by have := HJ2.out; have := HJ15.out; have := HJ59.out; first | omega | exact Nat.le_refl _⟩, ⟨by (with_reducible repeat first | apply r1 | apply r2 | apply r3); exact HO160.out⟩, ⟨by (with_reducible repeat first | apply q1 | apply q2 | apply q3); exact BK120.out⟩, ⟨by repeat (first | (with_reducible first | exact HB.out | apply s1 | apply s2 | apply s3 | refine s4 ?_ GE120.out) | exact HB.out)⟩⟩
          ·rw [if_neg c68] at H
           exact absurd H (by simp)
         ·rw [if_neg c67] at H
          exact absurd H (by simp)
        ·replace c65 := Bool.eq_false_iff.mpr c65
         subst c65
         have H1 : (hist_Op.j4 kj59 x3_15) = some r := by rw [if_neg (show ¬ (false = true) by decide)] at H; exact H
         clear H
         have H := H1
         clear H1
         have H' := Aside0.mk H
         clear H
         go_wp2
         go_meet
         case rel => exact ⟨_, (x3_15), H', ⟨by have := HJ2.out; have := HJ15.out; have := HJ59.out; first | omega | exact Nat.le_refl _⟩, ⟨by (with_reducible repeat first | apply r1 | apply r2 | apply r3); exact HO_3.out⟩, ⟨by (with_reducible repeat first | apply q1 | apply q2 | apply q3); exact BK120.out⟩, ⟨by repeat (first | (with_reducible first | exact HB.out | apply s1 | apply s2 | apply s3 | refine s4 ?_ GE120.out) | exact HB.out)⟩⟩
       case rest =>
        clear HC64
        try clear c1
        try clear c2
        try clear p2
        try clear c3
        try clear c4
        try clear c5
        try clear c6
        try clear c7
        try clear c10
        try clear c10b0
        try clear c11
        try clear c12
        try clear c19
        try clear c19b0
        try clear c19b1
        try clear c20
        try clear c22
        try clear c26
        try clear c26b0
        try clear c26b1
        try clear c29
        try clear c33
        try clear c34
        try clear c35
        try clear c37
        try clear c37b0
        try clear c37b1
        try clear c39
        try clear c41
        try clear c48
        try clear c48b0
        try clear c48b1
        try clear c50
        try clear c54
        try clear c54b0
        try clear c54b1
        try clear c56
        try clear c61
        try clear c61b0
        try clear c65
        try clear c67
        try clear c67b0
        try clear c67b1
        try clear c67b2
        try clear c68
        try clear c70
        try clear c70b0
        try clear c70b1
        try clear hcz13_0
        try clear hcz13_1
        try clear hcz13_2
        try clear hcz13_3
        try clear hcz13_4
        try clear hcz13_5
        try clear hcz13_6
        try clear hcz17_0
        try clear hcz17_1
        try clear hcz17_2
        try clear hcz17_3
        try clear hcz17_4
        try clear hcz17_5
        try clear hcz17_6
        try clear hcz23_0
        try clear hcz23_1
        try clear hcz23_2
        try clear hcz23_3
        try clear hcz23_4
        try clear hcz23_5
        try clear hcz23_6
        try clear hcz42_0
        try clear hcz42_1
        try clear hcz42_2
        try clear hcz42_3
        try clear hcz42_4
        try clear hcz42_5
        try clear hcz42_6
        try clear hcz45_0
        try clear hcz45_1
        try clear hcz45_2
        try clear hcz45_3
        try clear hcz45_4
        try clear hcz45_5
        try clear hcz45_6
        try clear hcz51_0
        try clear hcz51_1
        try clear hcz51_2
        try clear hcz51_3
        try clear hcz51_4
        try clear hcz51_5
        try clear hcz51_6
        try clear hcz57_0
        try clear hcz57_1
        try clear hcz57_2
        try clear hcz57_3
        try clear hcz57_4
        try clear hcz57_5
        try clear hcz57_6
        try clear hcz5_0
        try clear hcz5_1
        try clear hcz5_2
        try clear hcz5_3
        try clear hcz5_4
        try clear hcz5_5
        try clear hcz5_6
        try clear hcz62_0
        try clear hcz62_1
        try clear hcz62_2
        try clear hcz62_3
        try clear hcz62_4
        try clear hcz62_5
        try clear hcz62_6
        try clear hcz63_0
        try clear hcz63_1
        try clear hcz63_2
        try clear hcz63_3
        try clear hcz63_4
        try clear hcz63_5
        try clear hcz63_6
        try clear hcz71_0
        try clear hcz71_1
        try clear hcz71_2
        try clear hcz71_3
        try clear hcz71_4
        try clear hcz71_5
        try clear hcz71_6
        try clear hcz74_0
        try clear hcz74_1
        try clear hcz74_2
        try clear hcz74_3
        try clear hcz74_4
        try clear hcz74_5
        try clear hcz74_6
        try clear hcz76_0
        try clear hcz76_1
        try clear hcz76_2
        try clear hcz76_3
        try clear hcz76_4
        try clear hcz76_5
        try clear hcz76_6
        try clear hcz79_0
        try clear hcz79_1
        try clear hcz79_2
        try clear hcz79_3
        try clear hcz79_4
        try clear hcz79_5
        try clear hcz79_6
        try clear hcz9_0
        try clear hcz9_1
        try clear hcz9_2
        try clear hcz9_3
        try clear hcz9_4
        try clear hcz9_5
        try clear hcz9_6
        try clear hfz13_0
        try clear hfz13_1
        try clear hfz13_2
        try clear hfz13_3
        try clear hfz13_4
        try clear hfz13_5
        try clear hfz13_6
        try clear hfz17_0
        try clear hfz17_1
        try clear hfz17_2
        try clear hfz17_3
        try clear hfz17_4
        try clear hfz17_5
        try clear hfz17_6
        try clear hfz23_0
        try clear hfz23_1
        try clear hfz23_2
        try clear hfz23_3
        try clear hfz23_4
        try clear hfz23_5
        try clear hfz23_6
        try clear hfz42_0
        try clear hfz42_1
        try clear hfz42_2
        try clear hfz42_3
        try clear hfz42_4
        try clear hfz42_5
        try clear hfz42_6
        try clear hfz45_0
        try clear hfz45_1
        try clear hfz45_2
        try clear hfz45_3
        try clear hfz45_4
        try clear hfz45_5
        try clear hfz45_6
        try clear hfz51_0
        try clear hfz51_1
        try clear hfz51_2
        try clear hfz51_3
        try clear hfz51_4
        try clear hfz51_5
        try clear hfz51_6
        try clear hfz57_0
        try clear hfz57_1
        try clear hfz57_2
        try clear hfz57_3
        try clear hfz57_4
        try clear hfz57_5
        try clear hfz57_6
        try clear hfz5_0
        try clear hfz5_1
        try clear hfz5_2
        try clear hfz5_3
        try clear hfz5_4
        try clear hfz5_5
        try clear hfz5_6
        try clear hfz62_0
        try clear hfz62_1
        try clear hfz62_2
        try clear hfz62_3
        try clear hfz62_4
        try clear hfz62_5
        try clear hfz62_6
        try clear hfz63_0
        try clear hfz63_1
        try clear hfz63_2
        try clear hfz63_3
        try clear hfz63_4
        try clear hfz63_5
        try clear hfz63_6
        try clear hfz71_0
        try clear hfz71_1
        try clear hfz71_2
        try clear hfz71_3
        try clear hfz71_4
        try clear hfz71_5
        try clear hfz71_6
        try clear hfz74_0
        try clear hfz74_1
        try clear hfz74_2
        try clear hfz74_3
        try clear hfz74_4
        try clear hfz74_5
        try clear hfz74_6
        try clear hfz76_0
        try clear hfz76_1
        try clear hfz76_2
        try clear hfz76_3
        try clear hfz76_4
        try clear hfz76_5
        try clear hfz76_6
        try clear hfz79_0
        try clear hfz79_1
        try clear hfz79_2
        try clear hfz79_3
        try clear hfz79_4
        try clear hfz79_5
        try clear hfz79_6
        try clear hfz9_0
        try clear hfz9_1
        try clear hfz9_2
        try clear hfz9_3
        try clear hfz9_4
        try clear hfz9_5
        try clear hfz9_6
        try clear p2
        obtain ⟨kq, x3_63, HA, HJ63, HO_3, BK120, HB⟩ := hcut
        cases kq with
        | zero => exact absurd HA.out (by simp [hist_Op.j4])
        | succ kj63 =>
         have H := HA.out
         clear HA
         simp only [hist_Op.j4] at H
         have H' := Aside0.mk H
         clear H
         obtain ⟨Ao81, co81, eo81⟩ := Kd.R_slice HO_3.out
         subst eo81
         go_wp2
         go_loopg [86] kj63 (fun kq v86 w' => ∃ (x86_5 : Int), v86 = .int .i64 x86_5 ∧ Aside0 (hist_Op.l0 kq x3_63 x3_63 (x3_63.length : Int) x86_5 = some r) ∧ Aside0 (kq ≤ kj63) ∧ Aside0 (Kd.R Kd.string 9 w' w.heap.size (fun _ => True) (.slice Ao81 x3_63.length co81) x3_63) ∧ Aside0 (Kd.R Kd.string 9 w' w.heap.size (fun _ => True) (.slice Ao81 x3_63.length co81) x3_63) ∧ Aside0 (w'.heap[gb120]? = some (.cells #[.int .i64 a0_0, .string a0_1, .string a0_2, .int .i64 a0_3, .int .i64 a0_4, (.slice A0_5 l0_5.length c0_5), .int .i64 a0_6] 24 (0, 0))) ∧ Aside0 (Below w.heap.size w w'))
         case atStart => exact ⟨(0), (by first | rfl | (simp; done) | (simp [*]; done)), H', ⟨Nat.le_refl _⟩, ⟨by (with_reducible repeat first | apply r1 | apply r2 | apply r3); exact HO_3.out⟩, ⟨by (with_reducible repeat first | apply r1 | apply r2 | apply r3); exact HO_3.out⟩, ⟨by (with_reducible repeat first | apply q1 | apply q2 | apply q3); exact BK120.out⟩, ⟨by repeat (first | (with_reducible first | exact HB.out | apply s1 | apply s2 | apply s3 | refine s4 ?_ GE120.out) | exact HB.out)⟩⟩
         case round =>
          clear H'
          try clear c1
          try clear c2
          try clear p2
          try clear c3
          try clear c4
          try clear c5
          try clear c6
          try clear c7
          try clear c10
          try clear c10b0
          try clear c11
          try clear c12
          try clear c19
          try clear c19b0
          try clear c19b1
          try clear c20
          try clear c22
          try clear c26
          try clear c26b0
          try clear c26b1
          try clear c29
          try clear c33
          try clear c34
          try clear c35
          try clear c37
          try clear c37b0
          try clear c37b1
          try clear c39
          try clear c41
          try clear c48
          try clear c48b0
          try clear c48b1
          try clear c50
          try clear c54
          try clear c54b0
          try clear c54b1
          try clear c56
          try clear c61
          try clear c61b0
          try clear c65
          try clear c67
          try clear c67b0
          try clear c67b1
          try clear c67b2
          try clear c68
          try clear c70
          try clear c70b0
          try clear c70b1
          try clear hcz13_0
          try clear hcz13_1
          try clear hcz13_2
          try clear hcz13_3
          try clear hcz13_4
          try clear hcz13_5
          try clear hcz13_6
          try clear hcz17_0
          try clear hcz17_1
          try clear hcz17_2
          try clear hcz17_3
          try clear hcz17_4
          try clear hcz17_5
          try clear hcz17_6
          try clear hcz23_0
          try clear hcz23_1
          try clear hcz23_2
          try clear hcz23_3
          try clear hcz23_4
          try clear hcz23_5
          try clear hcz23_6
          try clear hcz42_0
          try clear hcz42_1
          try clear hcz42_2
          try clear hcz42_3
          try clear hcz42_4
          try clear hcz42_5
          try clear hcz42_6
          try clear hcz45_0
          try clear hcz45_1
          try clear hcz45_2
          try clear hcz45_3
          try clear hcz45_4
          try clear hcz45_5
          try clear hcz45_6
          try clear hcz51_0
          try clear hcz51_1
          try clear hcz51_2
          try clear hcz51_3
          try clear hcz51_4
          try clear hcz51_5
          try clear hcz51_6
          try clear hcz57_0
          try clear hcz57_1
          try clear hcz57_2
          try clear hcz57_3
          try clear hcz57_4
          try clear hcz57_5
          try clear hcz57_6
          try clear hcz5_0
          try clear hcz5_1
          try clear hcz5_2
          try clear hcz5_3
          try clear hcz5_4
          try clear hcz5_5
          try clear hcz5_6
          try clear hcz62_0
          try clear hcz62_1
          try clear hcz62_2
          try clear hcz62_3
          try clear hcz62_4
          try clear hcz62_5
          try clear hcz62_6
          try clear hcz63_0
          try clear hcz63_1
          try clear hcz63_2
          try clear hcz63_3
          try clear hcz63_4
          try clear hcz63_5
          try clear hcz63_6
          try clear hcz71_0
          try clear hcz71_1
          try clear hcz71_2
          try clear hcz71_3
          try clear hcz71_4
          try clear hcz71_5
          try clear hcz71_6
          try clear hcz74_0
          try clear hcz74_1
          try clear hcz74_2
          try clear hcz74_3
          try clear hcz74_4
          try clear hcz74_5
          try clear hcz74_6
          try clear hcz76_0
          try clear hcz76_1
          try clear hcz76_2
          try clear hcz76_3
          try clear hcz76_4
          try clear hcz76_5
          try clear hcz76_6
          try clear hcz79_0
          try clear hcz79_1
          try clear hcz79_2
          try clear hcz79_3
          try clear hcz79_4
          try clear hcz79_5
          try clear hcz79_6
          try clear hcz9_0
          try clear hcz9_1
          try clear hcz9_2
          try clear hcz9_3
          try clear hcz9_4
          try clear hcz9_5
          try clear hcz9_6
          try clear hfz13_0
          try clear hfz13_1
          try clear hfz13_2
          try clear hfz13_3
          try clear hfz13_4
          try clear hfz13_5
          try clear hfz13_6
          try clear hfz17_0
          try clear hfz17_1
          try clear hfz17_2
          try clear hfz17_3
          try clear hfz17_4
          try clear hfz17_5
          try clear hfz17_6
          try clear hfz23_0
          try clear hfz23_1
          try clear hfz23_2
          try clear hfz23_3
          try clear hfz23_4
          try clear hfz23_5
          try clear hfz23_6
          try clear hfz42_0
          try clear hfz42_1
          try clear hfz42_2
          try clear hfz42_3
          try clear hfz42_4
          try clear hfz42_5
          try clear hfz42_6
          try clear hfz45_0
          try clear hfz45_1
          try clear hfz45_2
          try clear hfz45_3
          try clear hfz45_4
          try clear hfz45_5
          try clear hfz45_6
          try clear hfz51_0
          try clear hfz51_1
          try clear hfz51_2
          try clear hfz51_3
          try clear hfz51_4
          try clear hfz51_5
          try clear hfz51_6
          try clear hfz57_0
          try clear hfz57_1
          try clear hfz57_2
          try clear hfz57_3
          try clear hfz57_4
          try clear hfz57_5
          try clear hfz57_6
          try clear hfz5_0
          try clear hfz5_1
          try clear hfz5_2
          try clear hfz5_3
          try clear hfz5_4
          try clear hfz5_5
          try clear hfz5_6
          try clear hfz62_0
          try clear hfz62_1
          try clear hfz62_2
          try clear hfz62_3
          try clear hfz62_4
          try clear hfz62_5
          try clear hfz62_6
          try clear hfz63_0
          try clear hfz63_1
          try clear hfz63_2
          try clear hfz63_3
          try clear hfz63_4
          try clear hfz63_5
          try clear hfz63_6
          try clear hfz71_0
          try clear hfz71_1
          try clear hfz71_2
          try clear hfz71_3
          try clear hfz71_4
          try clear hfz71_5
          try clear hfz71_6
          try clear hfz74_0
          try clear hfz74_1
          try clear hfz74_2
          try clear hfz74_3
          try clear hfz74_4
          try clear hfz74_5
          try clear hfz74_6
          try clear hfz76_0
          try clear hfz76_1
          try clear hfz76_2
          try clear hfz76_3
          try clear hfz76_4
          try clear hfz76_5
          try clear hfz76_6
          try clear hfz79_0
          try clear hfz79_1
          try clear hfz79_2
          try clear hfz79_3
          try clear hfz79_4
          try clear hfz79_5
          try clear hfz79_6
          try clear hfz9_0
          try clear hfz9_1
          try clear hfz9_2
          try clear hfz9_3
          try clear hfz9_4
          try clear hfz9_5
          try clear hfz9_6
          try clear p2
          obtain ⟨x86_5, rfl, HA, HK5, HO_3, HO_84, BK120, HB⟩ := hrel
          cases gk with
          | zero => exact absurd HA.out (by simp [hist_Op.l0])
          | succ k5 =>
           have H := HA.out
           clear HA
           simp only [hist_Op.l0] at H
           by_cases c82 : x86_5 < (x3_63.length : Int)
           ·rw [if_pos c82] at H
            have c82b0 : decide (x86_5 < (x3_63.length : Int)) = true := decide_eq_true c82
            clear c82
            by_cases c83 : 0 ≤ x86_5
            ·rw [if_pos c83] at H
             have c83b0 : decide (0 ≤ x86_5) = true := decide_eq_true c83
             clear c83
             by_cases c84 : x86_5 < (x3_63.length : Int)
             ·rw [if_pos c84] at H
              have c84b0 : decide (x86_5 < (x3_63.length : Int)) = true := decide_eq_true c84
              clear c84
              by_cases c85 : (rdOf ByteArray.empty x3_63 x86_5).toList = ([] : List UInt8)
              ·rw [if_pos c85] at H
               have c85b0 : ((rdOf ByteArray.empty x3_63 x86_5).toList == ([] : List UInt8)) = true := beq_iff_eq.mpr c85
               have c85b1 : ((rdOf ByteArray.empty x3_63 x86_5).toList != ([] : List UInt8)) = false := bne_eq_false_iff_eq.mpr c85
               clear c85
               obtain rfl := Option.some.inj H
               have p162 : 0 ≤ (x86_5 : Int) := of_decide_eq_true (by first | (with_reducible assumption) | assumption)
               have q162 : x86_5 < (x3_63.length : Int) := of_decide_eq_true (by first | (with_reducible assumption) | assumption)
               obtain ⟨ad162, e162, hx162_0⟩ := Kd.at_string (Kd.R_reads' HO_84.out).2.2 x86_5 p162 q162
               cases e162
               replace p162 := eq_true p162
               replace q162 := eq_true q162
               go_wp2
               go_ret
               exact ⟨by first | rfl | (simp [errW_none, errW_some] <;> rfl) | (simp [*, errW_none, errW_some] <;> rfl), by repeat (first | (with_reducible first | exact HB.out | apply s1 | apply s2 | apply s3 | refine s4 ?_ GE120.out) | exact HB.out)⟩
              ·rw [if_neg c85] at H
               have c85b0 : ((rdOf ByteArray.empty x3_63 x86_5).toList == ([] : List UInt8)) = false := beq_eq_false_iff_ne.mpr c85
               have c85b1 : ((rdOf ByteArray.empty x3_63 x86_5).toList != ([] : List UInt8)) = true := bne_iff_ne.mpr c85
               have H' := Aside0.mk H
               clear H
               have p162 : 0 ≤ (x86_5 : Int) := of_decide_eq_true (by first | (with_reducible assumption) | assumption)
               have q162 : x86_5 < (x3_63.length : Int) := of_decide_eq_true (by first | (with_reducible assumption) | assumption)
               obtain ⟨ad162, e162, hx162_0⟩ := Kd.at_string (Kd.R_reads' HO_84.out).2.2 x86_5 p162 q162
               cases e162
               replace p162 := eq_true p162
               replace q162 := eq_true q162
               go_wp2
               go_roundg k5
               case measure => have := HJ2.out; have := HJ15.out; have := HJ59.out; have := HJ63.out; have := HK5.out; omega
               case rel => exact ⟨(wrap64 (x86_5 + 1)), (by first | rfl | (simp; done) | (simp [*]; done)), H', ⟨by have := HJ2.out; have := HJ15.out; have := HJ59.out; have := HJ63.out; have := HK5.out; omega⟩, ⟨by (with_reducible repeat first | apply r1 | apply r2 | apply r3); exact HO_3.out⟩, ⟨by (with_reducible repeat first | apply r1 | apply r2 | apply r3); exact HO_84.out⟩, ⟨by (with_reducible repeat first | apply q1 | apply q2 | apply q3); exact BK120.out⟩, ⟨by repeat (first | (with_reducible first | exact HB.out | apply s1 | apply s2 | apply s3 | refine s4 ?_ GE120.out) | exact HB.out)⟩⟩
             ·rw [if_neg c84] at H
              exact absurd H (by simp)
            ·rw [if_neg c83] at H
             exact absurd H (by simp)
           ·rw [if_neg c82] at H
            have c82b0 : decide (x86_5 < (x3_63.length : Int)) = false := decide_eq_false c82
            clear c82
            replace H := Option.bind_eq_some_iff.mp H
            obtain ⟨t163, A860, H⟩ := H
            replace H : (some t163) = some r := H
            have A86 := Aside0.mk A860
            clear A860
            obtain rfl := Option.some.inj H
            go_wp2_with (first | ((with_reducible refine gate_callee (f := 36) rfl ?_); refine goesL_ (some 94) rfl rfl Tryz.func36 (by kernel_rfl) rfl #[.slice Ao81 x3_63.length co81, .string (⟨#[32]⟩ : ByteArray)] rfl (by (try simp only [List.map_toArray, List.map_cons, List.map_nil]); first | done | rfl | (simp only [List.length_drop, List.length_take]; rfl)) ?_; (with_reducible refine (strings_Join.calls _ _ x3_63 (⟨#[32]⟩ : ByteArray) t163 _ ?side1 ?side2 A86.out).mono ?_); (case side1 => repeat (first | exact (Kd.R_reads' HO_3.out).2.2 | (with_reducible refine Kd.C_alloc ?_ _) | (with_reducible refine Kd.C_drewN ?_ _) | (with_reducible refine Kd.C_drew ?_))); (case side2 => exact (Kd.R_reads' HO_3.out).2.1); rintro e w87 ⟨rfl, hb⟩; refine ⟨_, rfl, ?_⟩; have n0_ := Aside0.mk (Kd.R_below (by (with_reducible repeat first | apply r1 | apply r2 | apply r3); exact HO_3.out) hb); have n1_ := Aside0.mk (Kd.R_below (by (with_reducible repeat first | apply r1 | apply r2 | apply r3); exact HO_84.out) hb); have n2_ := Aside0.mk (blk_below (g := gb120) (o := .cells #[.int .i64 a0_0, .string a0_1, .string a0_2, .int .i64 a0_3, .int .i64 a0_4, .slice A0_5 l0_5.length c0_5, .int .i64 a0_6] 24 (0, 0)) (by (with_reducible repeat first | apply q1 | apply q2 | apply q3); exact BK120.out) hb); have n3_ := Aside0.mk (below_step (by repeat (first | (with_reducible first | exact HB.out | apply s1 | apply s2 | apply s3 | refine s4 ?_ GE120.out) | exact HB.out)) hb); clear HO_3; clear HO_84; clear BK120; clear HB; have HO_3 := n0_; have HO_84 := n1_; have BK120 := n2_; have HB := n3_; clear n0_ n1_ n2_ n3_; (try clear hb); (try clear hb2); (try clear hk); (try clear hi)))
            go_ret
            exact ⟨by first | rfl | (simp [errW_none, errW_some] <;> rfl) | (simp [*, errW_none, errW_some] <;> rfl), by repeat (first | (with_reducible first | exact HB.out | apply s1 | apply s2 | apply s3 | refine s4 ?_ GE120.out) | exact HB.out)⟩

end Go.Proofs.YtcbmbjapcpbnnaaGreatDoor.G
