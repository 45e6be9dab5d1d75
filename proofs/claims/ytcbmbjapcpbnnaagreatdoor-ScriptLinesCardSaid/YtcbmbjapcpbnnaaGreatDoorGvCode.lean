/- errors.Is at errors that are numbers (api.Errno), by its contracts; and alike.Code: the number of such an error. -/
import Derived.Test.YtcbmbjapcpbnnaaGreatDoorProg
import Derived.Test.YtcbmbjapcpbnnaaGreatDoorG0
import Derived.WalkKit
import Derived.LaidEql
import Derived.Stop.Asserts
import Derived.RowKitTokens
namespace Go.Proofs.YtcbmbjapcpbnnaaGreatDoor.G
open Go.RowKit Go.Extern.Stop Go.Stop Go.Extern Go.Proofs.YtcbmbjapcpbnnaaGreatDoorW.PrintWords Go.Proofs.YtcbmbjapcpbnnaaGreatDoorW.PrintLast
set_option linter.unusedVariables false

theorem iserr_equalIn (w : World) (d : Nat) {P : Program} {ti tn : TypeId} {ms : Array (String × TypeId)} {i : TypeInfo} {k : IntKind} (a b : Int)
    (hi : P.underlying ti = some (.interface ms)) (hn : P.underlying tn = some (.int k)) (hinfo : P.info? tn = some i) (hcomp : i.comparable = true) :
    (Op.equalIn (d + 2) ti (.iface tn (.int k a)) (.iface tn (.int k b))).run P w = .ok (a == b) w := by
  simp [Op.equalIn, run_underlying hi, run_underlying hn, typeInfo, hinfo, hcomp]
theorem iserr_eql (w : World) {P : Program} {ti tn : TypeId} {ms : Array (String × TypeId)} {i : TypeInfo} {k : IntKind} (a b : Int)
    (hi : P.underlying ti = some (.interface ms)) (hn : P.underlying tn = some (.int k)) (hinfo : P.info? tn = some i) (hcomp : i.comparable = true) :
    (binOp .eql ti (.iface tn (.int k a)) (.iface tn (.int k b))).run P w = .ok (.bool (a == b)) w := by
  simp only [binOp]
  simp [Op.equal, Op.maxDepth, iserr_equalIn w 9998 a b hi hn hinfo hcomp]

theorem iserr_type (v : Value) (w : World) : (Extern.ReflectliteType.typeOf #[.iface 42 v]).run Tryz.prog w = .ok (.iface 118 (.agg #[.pointer (some ⟨8, 42, none⟩)])) w := by kernel_rfl
theorem iserr_comparable (w : World) : ((Extern.ReflectliteType.method fun t => do Extern.Rtype.noPackHeld "Comparable" t; (fun a => Value.bool a.comparable) <$> typeInfo t) #[.agg #[.pointer (some ⟨8, 42, none⟩)]]).run Tryz.prog w = .ok (.bool true) w := by kernel_rfl
theorem iserr_method (v : Value) (w : World) : (Go.method 301 118 v "Comparable").run Tryz.prog w = .ok (144, v) w := by kernel_rfl
theorem iserr_comp : (Tryz.prog.info? 42).map (·.comparable) = some true := by kernel_rfl
theorem iserr_noIs (v : Value) (xT : TypeId) (w : World) : (Instr.typeAssert (.iface 42 v) xT 120 true).run Tryz.prog w = .ok (.tuple #[.nilIface, .bool false]) w := run_typeAssert_lacksB Tryz.underlying120 (by kernel_rfl) (by kernel_rfl) v xT w
theorem iserr_noUnwrap (v : Value) (xT : TypeId) (w : World) : (Instr.typeAssert (.iface 42 v) xT 123 true).run Tryz.prog w = .ok (.tuple #[.nilIface, .bool false]) w := run_typeAssert_lacksB Tryz.underlying123 (by kernel_rfl) (by kernel_rfl) v xT w
theorem iserr_noUnwraps (v : Value) (xT : TypeId) (w : World) : (Instr.typeAssert (.iface 42 v) xT 125 true).run Tryz.prog w = .ok (.tuple #[.nilIface, .bool false]) w := run_typeAssert_lacksB Tryz.underlying125 (by kernel_rfl) (by kernel_rfl) v xT w

set_option maxRecDepth 100000 in
/-- errors.Is between two numbers. -/
theorem iserr_yes (a b : Int) (hab : a = b) (w : World) :
    Calls Tryz.prog 46 #[.iface 42 (.int .i64 a), .iface 42 (.int .i64 b)] w fun e w' => e = .returned (.bool true) ∧ w = w' := by
  obtain ⟨i, hi, hcmp⟩ := Option.map_eq_some_iff.1 iserr_comp
  have h8 := @run_callFunc_extern Tryz.prog 65 _ Extern.ReflectliteType.typeOf Tryz.func65 (by kernel_rfl) (by kernel_rfl) (by kernel_rfl) (by kernel_rfl)
  have h32 := @run_callFunc_extern Tryz.prog 144 _ (Extern.ReflectliteType.method fun t => do Extern.Rtype.noPackHeld "Comparable" t; pure (.bool (← typeInfo t).comparable)) Tryz.func144 (by kernel_rfl) (by kernel_rfl) (by kernel_rfl) (by kernel_rfl)
  have tT := iserr_type
  have cT := iserr_comparable
  have mR := iserr_method
  have heq : (binOp .eql 29 (.iface 42 (.int .i64 a)) (.iface 42 (.int .i64 b))).run Tryz.prog w = .ok (.bool true) w := by
    rw [iserr_eql w a b Tryz.underlying29 Tryz.underlying42 hi hcmp]; simp [hab]
  clear hab
  go_enter Tryz.func46, Tryz.ntmps46
  go_wp2
  refine wp_loop_rounds 1 ?_
  rw [rounds_succ]
  go_wp2
  go_ret
  exact ⟨rfl, rfl⟩
set_option maxRecDepth 100000 in
theorem iserr_no (a b : Int) (hab : a ≠ b) (w : World) :
    Calls Tryz.prog 46 #[.iface 42 (.int .i64 a), .iface 42 (.int .i64 b)] w fun e w' => e = .returned (.bool false) ∧ w = w' := by
  obtain ⟨i, hi, hcmp⟩ := Option.map_eq_some_iff.1 iserr_comp
  have h8 := @run_callFunc_extern Tryz.prog 65 _ Extern.ReflectliteType.typeOf Tryz.func65 (by kernel_rfl) (by kernel_rfl) (by kernel_rfl) (by kernel_rfl)
  have h32 := @run_callFunc_extern Tryz.prog 144 _ (Extern.ReflectliteType.method fun t => do Extern.Rtype.noPackHeld "Comparable" t; pure (.bool (← typeInfo t).comparable)) Tryz.func144 (by kernel_rfl) (by kernel_rfl) (by kernel_rfl) (by kernel_rfl)
  have tT := iserr_type
  have cT := iserr_comparable
  have mR := iserr_method
  have nE := iserr_noIs
  have uE := iserr_noUnwrap
  have vE := iserr_noUnwraps
  have heq : (binOp .eql 29 (.iface 42 (.int .i64 a)) (.iface 42 (.int .i64 b))).run Tryz.prog w = .ok (.bool false) w := by
    rw [iserr_eql w a b Tryz.underlying29 Tryz.underlying42 hi hcmp]; simp [hab]
  clear hab
  go_enter Tryz.func46, Tryz.ntmps46
  go_wp2
  refine wp_loop_rounds 1 ?_
  rw [rounds_succ]
  go_wp2
  go_ret
  exact ⟨rfl, rfl⟩

/-- The number of an error: 0 of none; of an Errno from 1 to 19 that number; else -1. -/
def dolmenalike_Code.f (a0 : Option Int) : Option Int :=
  match a0 with
  | none => some 0
  | some c => if 1 ≤ c ∧ c ≤ 19 then some c else some (-1)

set_option maxRecDepth 100000 in
theorem dolmenalike_Code.calls (a0 : Option Int) (r : Int) (w : World) (h : dolmenalike_Code.f a0 = some r) :
    Calls Tryz.prog 14 #[errW a0] w fun e w' => e = .returned (.int .i64 r) ∧ Drawn0 w w' := by
  cases a0 with
  | none =>
    obtain rfl : 0 = r := by simpa [dolmenalike_Code.f] using h
    clear h
    rw [errW_none]
    go_enter Tryz.func14, Tryz.ntmps14
    go_wp2
    go_ret
    exact ⟨rfl, Drawn0.refl _⟩
  | some c =>
    have HR : Aside0 (r = if 1 ≤ c ∧ c ≤ 19 then c else -1) := ⟨by
      unfold dolmenalike_Code.f at h
      by_cases hc : 1 ≤ c ∧ c ≤ 19
      · rw [if_pos hc]; simp only [if_pos hc] at h; exact (Option.some.inj h).symm
      · rw [if_neg hc]; simp only [if_neg hc] at h; exact (Option.some.inj h).symm⟩
    clear h
    have hn := run_eql_held_nil (P := Tryz.prog)
    rw [errW_some]
    go_enter Tryz.func14, Tryz.ntmps14
    go_wp2_with fail
    go_loop [3] (fun i => ∃ k : Nat, 1 ≤ k ∧ k ≤ 20 ∧ i = .int .i64 k ∧ (c < 1 ∨ (k : Int) ≤ c)) (fun i => 20 - (intOf i).toNat)
    case atStart => exact ⟨1, by omega, by omega, rfl, by omega⟩
    case round =>
      obtain ⟨k, hk1, hk2, rfl, hk3⟩ := hrel
      by_cases hlt : k ≤ 19
      · by_cases hc : c = k
        · go_wp2_with (go_at_call 46; refine (iserr_yes _ _ (by omega) _).mono ?_; rintro e w' ⟨rfl, rfl⟩)
          go_ret
          exact ⟨by rw [HR.out, if_pos (by omega)]; simp [hc], Drawn0.refl _⟩
        · go_wp2_with (go_at_call 46; refine (iserr_no _ _ (by omega) _).mono ?_; rintro e w' ⟨rfl, rfl⟩)
          go_round
          case rel => exact ⟨k + 1, by omega, by omega, by go_num, by omega⟩
          case measure => simp [intOf]; omega
      · go_wp2_with fail
        go_ret
        exact ⟨by rw [HR.out, if_neg (by omega)]; simp, Drawn0.refl _⟩
end Go.Proofs.YtcbmbjapcpbnnaaGreatDoor.G
