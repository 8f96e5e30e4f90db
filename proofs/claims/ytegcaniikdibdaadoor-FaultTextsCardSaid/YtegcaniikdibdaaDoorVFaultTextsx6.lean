/- Contracts of functions of this seat: each call comes to what its Lean function computes; no condition beyond what each theorem states. Printed by a program of this session's own laid over the kit's printer. -/
import Derived.WalkKit
import Derived.LaidEql
import Derived.Stop.Asserts
import Derived.Test.YtegcaniikdibdaaDoorVFaultTextsx0
namespace Go.Proofs.YtegcaniikdibdaaDoor.VFaultTexts
open Go.RowKit Go.Proofs.YtegcaniikdibdaaDoorW.PrintWords Go.Proofs.YtegcaniikdibdaaDoorW.PrintLast Go.Proofs.YtegcaniikdibdaaDoorW.PrintMore
attribute [local go_sem] max2_int min2_int max_two min_two max_three min_three max_four min_four   -- for this text's walks alone
set_option linter.unusedVariables false
set_option linter.unusedSimpArgs false

-- @GIVEN errors_Is
/-! ### errors_Is: by hand -/
section
open Go.Extern.Stop Go.Stop Go.Extern
theorem is_equalIn (w : World) (d : Nat) {ti tn : TypeId} {ms : Array (String × TypeId)} {i : TypeInfo} {k : IntKind} (a b : Int) (hi : Tryd.prog.underlying ti = some (.interface ms)) (hn : Tryd.prog.underlying tn = some (.int k)) (hinfo : Tryd.prog.info? tn = some i) (hcomp : i.comparable = true) :
    (Op.equalIn (d + 2) ti (.iface tn (.int k a)) (.iface tn (.int k b))).run Tryd.prog w = .ok (a == b) w := by
  simp [Op.equalIn, run_underlying hi, run_underlying hn, typeInfo, hinfo, hcomp]
theorem is_eql (w : World) {ti tn : TypeId} {ms : Array (String × TypeId)} {i : TypeInfo} {k : IntKind} (a b : Int) (hi : Tryd.prog.underlying ti = some (.interface ms)) (hn : Tryd.prog.underlying tn = some (.int k)) (hinfo : Tryd.prog.info? tn = some i) (hcomp : i.comparable = true) :
    (binOp .eql ti (.iface tn (.int k a)) (.iface tn (.int k b))).run Tryd.prog w = .ok (.bool (a == b)) w := by
  simp only [binOp]
  simp [Op.equal, Op.maxDepth, is_equalIn w 9998 a b hi hn hinfo hcomp]
theorem is_info : (Tryd.prog.info? 36).map (·.comparable) = some true := by kernel_rfl
theorem is_eq (w : World) (a b : Int) : (binOp .eql 27 (.iface 36 (.int .i64 a)) (.iface 36 (.int .i64 b))).run Tryd.prog w = .ok (.bool (a == b)) w := by
  obtain ⟨i, hi, hc⟩ := Option.map_eq_some_iff.1 is_info
  exact is_eql w a b Tryd.underlying27 Tryd.underlying36 hi hc
theorem is_typeOf (v : Value) (w : World) : (ReflectliteType.typeOf #[.iface 36 v]).run Tryd.prog w = .ok (.iface 125 (.agg #[.pointer (some ⟨9, 36, none⟩)])) w := by kernel_rfl
theorem is_method (h : Value) (w : World) : (Go.method 343 125 (.agg #[h]) "Comparable").run Tryd.prog w = .ok (170, .agg #[h]) w := by kernel_rfl
theorem is_no1 (a : Value) (w : World) : (Instr.typeAssert (.iface 36 a) 27 127 true).run Tryd.prog w = .ok (.tuple #[.nilIface, .bool false]) w := run_typeAssert_lacksB Tryd.underlying127 (by kernel_rfl) (by kernel_rfl) a 27 w
theorem is_no2 (a : Value) (w : World) : (Instr.typeAssert (.iface 36 a) 27 129 true).run Tryd.prog w = .ok (.tuple #[.nilIface, .bool false]) w := run_typeAssert_lacksB Tryd.underlying129 (by kernel_rfl) (by kernel_rfl) a 27 w
theorem is_no3 (a : Value) (w : World) : (Instr.typeAssert (.iface 36 a) 27 130 true).run Tryd.prog w = .ok (.tuple #[.nilIface, .bool false]) w := run_typeAssert_lacksB Tryd.underlying130 (by kernel_rfl) (by kernel_rfl) a 27 w
set_option maxHeartbeats 4000000 in
set_option maxRecDepth 100000 in
theorem eis (n m : Int) (w : World) : Calls Tryd.prog 41 #[.iface 36 (.int .i64 n), .iface 36 (.int .i64 m), .bool true] w fun e w' => e = .returned (.bool (n == m)) ∧ w' = w := by
  have eq_ := is_eq
  have a1 := is_no1
  have a2 := is_no2
  have a3 := is_no3
  cases hc : (n == m)
  all_goals
    go_enter Tryd.func41, Tryd.ntmps41
    go_wp2_with fail
    refine wp_loop_rounds 1 ?_
    rw [rounds_succ]
    go_wp2_with fail
    go_ret
    exact ⟨rfl, rfl⟩
set_option maxHeartbeats 4000000 in
set_option maxRecDepth 100000 in
/-- Is one number the other one? -/
theorem eIs (n m : Int) (w : World) : Calls Tryd.prog 13 #[.iface 36 (.int .i64 n), .iface 36 (.int .i64 m)] w fun e w' => e = .returned (.bool (n == m)) ∧ w' = w := by
  have h10 := @run_callFunc_extern Tryd.prog 40 _ ReflectliteType.typeOf Tryd.func40 (by kernel_rfl) (by kernel_rfl) (by kernel_rfl) (by kernel_rfl)
  have h11 := @run_callFunc_extern Tryd.prog 170 _ (ReflectliteType.method fun t => do Rtype.noPackHeld "Comparable" t; pure (.bool (← typeInfo t).comparable)) Tryd.func170 (by kernel_rfl) (by kernel_rfl) (by kernel_rfl) (by kernel_rfl)
  have tO := is_typeOf
  have mC := is_method
  have cmp : ∀ w : World, ((ReflectliteType.method fun t => do Rtype.noPackHeld "Comparable" t; (fun a => Value.bool a.comparable) <$> typeInfo t) #[.agg #[.pointer (some ⟨9, 36, none⟩)]]).run Tryd.prog w = .ok (.bool true) w := fun w => by kernel_rfl
  go_enter Tryd.func13, Tryd.ntmps13
  go_wp2_with (go_at_call 41; (with_reducible refine (eis n m _).mono ?_); rintro e w5 ⟨rfl, rfl⟩)
  go_ret
  exact ⟨rfl, rfl⟩
end


end Go.Proofs.YtegcaniikdibdaaDoor.VFaultTexts
