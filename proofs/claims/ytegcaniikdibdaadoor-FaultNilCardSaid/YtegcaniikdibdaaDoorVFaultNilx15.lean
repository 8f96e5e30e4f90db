/- Contracts of functions of this seat: each call comes to what its Lean function computes; no condition beyond what each theorem states. Printed by a program of this session's own laid over the kit's printer. -/
import Derived.Test.YtegcaniikdibdaaDoorVFaultNilx0
import Derived.Test.YtegcaniikdibdaaDoorVFaultNilx3
import Derived.Test.YtegcaniikdibdaaDoorVFaultNilx4
import Derived.Test.YtegcaniikdibdaaDoorVFaultNilx8
import Derived.Test.YtegcaniikdibdaaDoorVFaultNilx9
import Derived.Test.YtegcaniikdibdaaDoorVFaultNilx13
namespace Go.Proofs.YtegcaniikdibdaaDoor.VFaultNil
open Go.RowKit Go.Proofs.YtegcaniikdibdaaDoorW.PrintWords Go.Proofs.YtegcaniikdibdaaDoorW.PrintLast Go.Proofs.YtegcaniikdibdaaDoorW.PrintMore
attribute [local go_sem] max2_int min2_int max_two min_two max_three min_three max_four min_four   -- for this text's walks alone
set_option linter.unusedVariables false
set_option linter.unusedSimpArgs false

-- @GIVEN lib_bare
section
open Go.Extern.Stop Go.Stop Go.Extern
theorem ta_nilE (w : World) : (Instr.typeAssert .nilIface 27 36 true).run Tryd.prog w = .ok (.tuple #[.int .i64 0, .bool false]) w := by kernel_rfl
set_option maxRecDepth 100000 in
theorem eText_nil (w : World) : Calls Tryd.prog 44 #[.nilIface] w fun r w' => r = .returned (.string ⟨#[63]⟩) ∧ w' = w := by
  have a1 := ta_nilF
  have a2 := ta_nilM
  have a3 := ta_nilE
  go_enter Tryd.func44, Tryd.ntmps44
  go_wp2
  go_ret
  exact ⟨rfl, rfl⟩
set_option maxHeartbeats 8000000 in
set_option maxRecDepth 100000 in
theorem eas_bare (t : Addr) (b g : Nat) (o : ByteArray) (p : Int) (w : World) (hg : w.heap[g]? = some (.cells #[.string o, .int .i64 p, .nilIface] 39 (0, 0))) :
    Calls Tryd.prog 49 #[.iface 37 (.pointer (some ⟨g, 0, none⟩)), .iface 91 (.pointer (some t)), .agg #[.pointer (some ⟨9, 91, none⟩), .pointer (some ⟨b, 0, none⟩), .int .u64 150], .iface 125 (.agg #[.pointer (some ⟨9, 36, none⟩)])] w fun r w' => r = .returned (.bool false) ∧ Below w.heap.size w w' := by
  have h10 := @run_callFunc_extern Tryd.prog 40 _ ReflectliteType.typeOf Tryd.func40 (by kernel_rfl) (by kernel_rfl) (by kernel_rfl) (by kernel_rfl)
  have h35 := @run_callFunc_extern Tryd.prog 169 _ (ReflectliteType.relation "AssignableTo" ReflectliteType.assignableTo) Tryd.func169 (by kernel_rfl) (by kernel_rfl) (by kernel_rfl) (by kernel_rfl)
  have tF := eas_typeOfF
  have mA := asx_methodAssignableTo
  have aF := eas_noF
  have bF := eas_aF
  have y2 := isY2
  have k2 := mUn
  have HG := Aside0.mk (blk_alloc hg (.cells #[.pointer (some ⟨9, 91, none⟩), .pointer (some ⟨b, 0, none⟩), .int .u64 150] 95))
  clear hg
  go_enter Tryd.func49, Tryd.ntmps49
  go_wp2_with fail
  refine wp_loop_rounds 1 ?_
  rw [rounds_succ]
  go_wp2_with (go_at_call 26; (with_reducible refine (eUnwrap g o p .nilIface _ HG.out).mono ?_); rintro r w6 ⟨rfl, rfl⟩)
  go_ret
  exact ⟨rfl, below_alloc (Below.refl _ _) _⟩
set_option maxHeartbeats 8000000 in
set_option maxRecDepth 100000 in
theorem as_bare (g : Nat) (o : ByteArray) (p : Int) (t : Addr) (w : World) (hg : w.cell? ⟨0, 0, none⟩ = some (.iface 125 (.agg #[.pointer (some ⟨9, 27, none⟩)]))) (hb : w.heap[g]? = some (.cells #[.string o, .int .i64 p, .nilIface] 39 (0, 0))) :
    Calls Tryd.prog 21 #[.iface 37 (.pointer (some ⟨g, 0, none⟩)), .iface 91 (.pointer (some t))] w fun r w' => r = .returned (.bool false) ∧ Below w.heap.size w w' := by
  have h6 := @run_callFunc_extern Tryd.prog 46 _ (fun args => ReflectliteValue.unpack (args.getD 0 (.tuple #[]))) Tryd.func46 (by kernel_rfl) (by kernel_rfl) (by kernel_rfl) (by kernel_rfl)
  have h7 := @run_callFunc_extern Tryd.prog 47 _ (ReflectliteValue.methodAny (ReflectliteValue.valueError "reflectlite.Value.Type" 0) (fun t _ _ _ => ReflectliteType.toType t)) Tryd.func47 (by kernel_rfl) (by kernel_rfl) (by kernel_rfl) (by kernel_rfl)
  have h8 := @run_callFunc_extern Tryd.prog 48 _ (ReflectliteValue.method (ReflectliteValue.valueError "reflectlite.Value.IsNil" 0) ReflectliteValue.isNil) Tryd.func48 (by kernel_rfl) (by kernel_rfl) (by kernel_rfl) (by kernel_rfl)
  have h27 := @run_callFunc_extern Tryd.prog 161 _ (ReflectliteType.abiMethod fun t => do pure (.int .u8 (← Rtype.kind t))) Tryd.func161 (by kernel_rfl) (by kernel_rfl) (by kernel_rfl) (by kernel_rfl)
  have h37 := @run_callFunc_extern Tryd.prog 171 _ (ReflectliteType.method ReflectliteType.elem) Tryd.func171 (by kernel_rfl) (by kernel_rfl) (by kernel_rfl) (by kernel_rfl)
  have h38 := @run_callFunc_extern Tryd.prog 172 _ (ReflectliteType.relation "Implements" ReflectliteType.implements_) Tryd.func172 (by kernel_rfl) (by kernel_rfl) (by kernel_rfl) (by kernel_rfl)
  have f6 := asx_valueOf27
  have f7 := asx_type27
  have mK := asx_methodKind
  have mE := asx_methodElem
  have mI := asx_methodImplements
  have k27 := asx_kind27
  have k25 := asx_kind25
  have e27 := asx_elem27
  have i25 := asx_implements25
  have hb1 := below_alloc (below_alloc (Below.refl w.heap.size w) (.cells #[.pointer (some t)] 91)) (.cells #[.pointer (some ⟨9, 91, none⟩), .pointer (some ⟨w.heap.size, 0, none⟩), .int .u64 150] 95)
  have hcb : ((w.alloc (.cells #[.pointer (some t)] 91)).alloc (.cells #[.pointer (some ⟨9, 91, none⟩), .pointer (some ⟨w.heap.size, 0, none⟩), .int .u64 150] 95)).cell? ⟨w.heap.size, 0, none⟩ = some (.pointer (some t)) := (blk_cell (blk_alloc (blk_new w _) _) 0).trans rfl
  have n8 := asx_isNil27 ⟨w.heap.size, 0, none⟩ t ((w.alloc (.cells #[.pointer (some t)] 91)).alloc (.cells #[.pointer (some ⟨9, 91, none⟩), .pointer (some ⟨w.heap.size, 0, none⟩), .int .u64 150] 95)) hcb
  have hg2 := pw_cell_below hb1 hg
  have HE := Aside0.mk (eas_bare t w.heap.size g o p _ (blk_below hb hb1))
  have HB1 := Aside0.mk hb1
  clear hg hb1 hcb hb
  go_enter Tryd.func21, Tryd.ntmps21
  go_wp2_with (go_at_call 49; (with_reducible refine HE.out.mono ?_); rintro r w7 ⟨rfl, hb7⟩; have HB7 := Aside0.mk (below_step HB1.out hb7); clear hb7)
  go_ret
  exact ⟨rfl, HB7.out⟩
set_option maxHeartbeats 4000000 in
set_option maxRecDepth 100000 in
theorem eNumber_bare (g : Nat) (o : ByteArray) (p : Int) (w : World) (hL_ : Laid w) (h : w.heap[g]? = some (.cells #[.string o, .int .i64 p, .nilIface] 39 (0, 0))) :
    Calls Tryd.prog 19 #[.iface 37 (.pointer (some ⟨g, 0, none⟩))] w fun r w' => r = .returned (.int .i64 17) ∧ Below w.heap.size w w' := by
  have hb := below_alloc (Below.refl w.heap.size w) (.cells #[.int .i64 0] 36)
  have HE := Aside0.mk (as_bare g o p ⟨w.heap.size, 0, none⟩ _ (Laid.errorType (Laid.below hL_ hb)) (blk_below h hb))
  have HB := Aside0.mk hb
  clear h hb hL_
  go_enter Tryd.func19, Tryd.ntmps19
  go_wp2_with (go_at_call 21; (with_reducible refine HE.out.mono ?_); rintro r w7 ⟨rfl, hb7⟩; have HB7 := Aside0.mk (below_step HB.out hb7); clear hb7)
  go_ret
  exact ⟨rfl, HB7.out⟩
end


end Go.Proofs.YtegcaniikdibdaaDoor.VFaultNil
