/- An argument that is an api.Op, of a row, opened: its fields. -/
import Derived.Test.YtcbmbjapcpbnnaaGreatDoorG0
import Derived.Test.YtcbmbjapcpbnnaaGreatDoorWWords
import Derived.Test.YtcbmbjapcpbnnaaGreatDoorChecked
import Derived.Test.YtcbmbjapcpbnnaaGreatDoorProg
import Derived.ChangeArms
import Derived.ChangeSlices
import Derived.WideShapes
import Derived.OpenShut
namespace Go.Proofs.YtcbmbjapcpbnnaaGreatDoor.G
open Go Go.ChangeShapes Go.WideShapes Go.RowKit Go.Proofs.YtcbmbjapcpbnnaaGreatDoorW.PrintWords
set_option linter.unusedVariables false
set_option linter.constructorNameAsVariable false
theorem list7 {α : Type} : ∀ (l : List α), l.length = 7 → ∃ a b c d e f g, l = [a, b, c, d, e, f, g]
  | [a, b, c, d, e, f, g], _ => ⟨a, b, c, d, e, f, g, rfl⟩
set_option maxRecDepth 100000 in
theorem open_row_op {H : Type} {enc : TypeId × Value → H} {W : World} {base b0 : Nat} {r : Reach} {held : Bool} {v : Value} {d : DataW H} {ps : List MemPlace}
    (hval : Value.okWide Tryz.prog W r b0 24 v) (h : DataW.Trod enc Tryz.prog W base (fun _ => true) held 24 v d ps) :
    ∃ (a0 : Int) (a1 a2 : ByteArray) (a3 a4 : Int) (A5 : Option Addr) (c5 : Nat) (l5 : List Int) (a6 : Int),
      v = .agg #[.int .i64 a0, .string a1, .string a2, .int .i64 a3, .int .i64 a4, .slice A5 l5.length c5, .int .i64 a6] ∧ Kd.C (Kd.int .u8) W A5 l5.length l5 ∧ l5.length ≤ c5 ∧
      a1.size ≤ 9223372036854775807 ∧ a2.size ≤ 9223372036854775807 ∧ l5.length ≤ 9223372036854775807 ∧ ∀ x ∈ l5, 0 ≤ x ∧ x ≤ 255 := by
  simp only [Value.okWide, Tryz.underlying24] at hval
  obtain ⟨cs, rfl, hsz, _⟩ := hval
  obtain ⟨fuel, hf⟩ := h
  obtain ⟨xs, n, rfl, hdx, hl, hxl, hfld⟩ := DataW.trod_struct Tryz.underlying24 hf
  clear hdx hl
  have h7 : cs.size = 7 := hsz.trans (by kernel_rfl)
  obtain ⟨l⟩ := cs
  have h7' : l.length = 7 := h7
  have hx7 : xs.length = 7 := hxl
  clear h7 hsz hxl
  obtain ⟨c0, c1, c2, c3, c4, c5, c6, rfl⟩ := list7 l h7'
  obtain ⟨y0, y1, y2, y3, y4, y5, y6, rfl⟩ := list7 xs hx7
  have c3_ : Tryz.prog.cellsOf 3 = 1 := by kernel_rfl
  have c9_ : Tryz.prog.cellsOf 9 = 1 := by kernel_rfl
  have c22_ : Tryz.prog.cellsOf 22 = 1 := by kernel_rfl
  have c5_ : Tryz.prog.cellsOf 5 = 1 := by kernel_rfl
  have f0 : DataW.trod enc Tryz.prog W base (fun _ => true) held n 3 ((([c0, c1, c2, c3, c4, c5, c6] : List Value).drop 0).take (Tryz.prog.cellsOf 3)) = some y0 := hfld 0 _ rfl
  have f1 : DataW.trod enc Tryz.prog W base (fun _ => true) held n 9 ((([c0, c1, c2, c3, c4, c5, c6] : List Value).drop 1).take (Tryz.prog.cellsOf 9)) = some y1 := hfld 1 _ rfl
  have f2 : DataW.trod enc Tryz.prog W base (fun _ => true) held n 9 ((([c0, c1, c2, c3, c4, c5, c6] : List Value).drop 2).take (Tryz.prog.cellsOf 9)) = some y2 := hfld 2 _ rfl
  have f3 : DataW.trod enc Tryz.prog W base (fun _ => true) held n 3 ((([c0, c1, c2, c3, c4, c5, c6] : List Value).drop 3).take (Tryz.prog.cellsOf 3)) = some y3 := hfld 3 _ rfl
  have f4 : DataW.trod enc Tryz.prog W base (fun _ => true) held n 3 ((([c0, c1, c2, c3, c4, c5, c6] : List Value).drop 4).take (Tryz.prog.cellsOf 3)) = some y4 := hfld 4 _ rfl
  have f5 : DataW.trod enc Tryz.prog W base (fun _ => true) held n 22 ((([c0, c1, c2, c3, c4, c5, c6] : List Value).drop 5).take (Tryz.prog.cellsOf 22)) = some y5 := hfld 5 _ rfl
  have f6 : DataW.trod enc Tryz.prog W base (fun _ => true) held n 3 ((([c0, c1, c2, c3, c4, c5, c6] : List Value).drop 6).take (Tryz.prog.cellsOf 3)) = some y6 := hfld 6 _ rfl
  rw [c3_] at f0
  rw [c9_] at f1
  rw [c9_] at f2
  rw [c3_] at f3
  rw [c3_] at f4
  rw [c22_] at f5
  rw [c3_] at f6
  obtain ⟨a0, e0, _, _⟩ := DataW.trod_int Tryz.underlying3 f0
  obtain ⟨a1, e1, _, z1⟩ := DataW.trod_string Tryz.underlying9 f1
  obtain ⟨a2, e2, _, z2⟩ := DataW.trod_string Tryz.underlying9 f2
  obtain ⟨a3, e3, _, _⟩ := DataW.trod_int Tryz.underlying3 f3
  obtain ⟨a4, e4, _, _⟩ := DataW.trod_int Tryz.underlying3 f4
  obtain ⟨a6, e6, _, _⟩ := DataW.trod_int Tryz.underlying3 f6
  have o5 := open_ints Tryz.underlying22 Tryz.underlying5 c5_ f5
  simp only [List.drop_zero, List.drop_succ_cons, List.take_succ_cons, List.take_zero, List.cons.injEq, and_true] at e0 e1 e2 e3 e4 e6
  subst e0 e1 e2 e3 e4 e6
  have hmax : maxLen = 9223372036854775807 := rfl
  rw [hmax] at z1 z2
  rcases o5 with ⟨hcs, _⟩ | ⟨x, len, cap, zs, hcs, _, hle, hm, hz, hx, hcell, hwz⟩
  · simp at hcs
    subst hcs
    exact ⟨a0, a1, a2, a3, a4, none, 0, [], a6, rfl, ⟨rfl, by simp, fun h => absurd h (Nat.lt_irrefl _)⟩, Nat.le_refl _, z1, z2, by simp, by simp⟩
  · simp at hcs
    subst hcs
    rw [hmax] at hm
    have hl2 : len ≤ zs.length := by rw [hz]; exact hle
    have hlen : (zs.take len).length = len := by rw [List.length_take]; omega
    refine ⟨a0, a1, a2, a3, a4, some x, cap, zs.take len, a6, by rw [hlen], ?_, by rw [hlen]; exact hle, z1, z2, by rw [hlen]; omega, fun s hs => ?_⟩
    · rw [hlen]
      refine ⟨hlen, by omega, fun _ => ⟨x, rfl, fun i p hp => ?_⟩⟩
      have hi : i < len := by have := (List.getElem?_eq_some_iff.1 hp).1; omega
      have hq : zs[i]? = some p := by rw [List.getElem?_take_of_lt hi] at hp; exact hp
      refine ⟨[.int .u8 p], rfl, rfl, fun i' u hu' => ?_⟩
      cases i' with
      | zero =>
        simp at hu'
        subst hu'
        have := hcell i (by omega)
        rw [List.getD_eq_getElem?_getD, hq] at this
        simpa [Kd.int, Kd.scalar] using this
      | succ n => simp at hu'
    · exact bounds_u8 (hwz s (List.mem_of_mem_take hs))
end Go.Proofs.YtcbmbjapcpbnnaaGreatDoor.G
