/- Contracts of functions of this seat: each call comes to what its Lean function computes; no condition beyond what each theorem states. Printed by a program of this session's own laid over the kit's printer. -/
import Derived.Test.YtegcaniikdibdaaDoorVFaultJoinsx0
import Derived.Test.YtegcaniikdibdaaDoorVFaultJoinsx6
import Derived.Test.YtegcaniikdibdaaDoorVFaultJoinsx8
import Derived.Test.YtegcaniikdibdaaDoorVFaultJoinsx9
namespace Go.Proofs.YtegcaniikdibdaaDoor.VFaultJoins
open Go.RowKit Go.Proofs.YtegcaniikdibdaaDoorW.PrintWords Go.Proofs.YtegcaniikdibdaaDoorW.PrintLast Go.Proofs.YtegcaniikdibdaaDoorW.PrintMore
attribute [local go_sem] max2_int min2_int max_two min_two max_three min_three max_four min_four   -- for this text's walks alone
set_option linter.unusedVariables false
set_option linter.unusedSimpArgs false

-- @GIVEN lib_asm
section
open Go.Extern.Stop Go.Stop Go.Extern
/-- reflect's facts of a pointer to many errors. -/
theorem asm_valueOfP (t : Addr) (w : World) : (ReflectliteValue.unpack (.iface 54 (.pointer (some t)))).run Tryd.prog w
    = .ok (.agg #[.pointer (some ⟨9, 54, none⟩), .pointer (some ⟨w.heap.size, 0, none⟩), .int .u64 150]) (w.alloc (.cells #[.pointer (some t)] 54)) := by kernel_rfl
theorem asm_typeP (a : Addr) (w : World) : (ReflectliteValue.methodAny (ReflectliteValue.valueError "reflectlite.Value.Type" 0) (fun t _ _ _ => ReflectliteType.toType t) #[.agg #[.pointer (some ⟨9, 54, none⟩), .pointer (some a), .int .u64 150]]).run Tryd.prog w
    = .ok (.iface 125 (.agg #[.pointer (some ⟨9, 54, none⟩)])) w := by kernel_rfl
theorem asm_kindP (w : World) : ((ReflectliteType.abiMethod fun t => (fun a : Nat => Value.int IntKind.u8 (a : Int)) <$> Rtype.kind t) #[.pointer (some ⟨9, 54, none⟩)]).run Tryd.prog w = .ok (.int .u8 22) w := by kernel_rfl
theorem asm_kindM (w : World) : ((ReflectliteType.abiMethod fun t => (fun a : Nat => Value.int IntKind.u8 (a : Int)) <$> Rtype.kind t) #[.pointer (some ⟨9, 52, none⟩)]).run Tryd.prog w = .ok (.int .u8 23) w := by kernel_rfl
theorem asm_partsP (a : Addr) (w : World) : (ReflectliteValue.parts (.agg #[.pointer (some ⟨9, 54, none⟩), .pointer (some a), .int .u64 150])).run Tryd.prog w = .ok (some (54, a, 150)) w := by kernel_rfl
theorem asm_isNilP (a p : Addr) (W : World) (ha : W.cell? a = some (.pointer (some p))) :
    (ReflectliteValue.method (ReflectliteValue.valueError "reflectlite.Value.IsNil" 0) ReflectliteValue.isNil #[.agg #[.pointer (some ⟨9, 54, none⟩), .pointer (some a), .int .u64 150]]).run Tryd.prog W = .ok (.bool false) W := by
  rw [rlm]
  simp only [Sem.run_bind, asm_partsP, Result.andThen]
  simp [ReflectliteValue.isNil, loadVar, isAgg, underlying, Tryd.underlying54, ha, Result.andThen]
theorem asm_elemP (w : World) : (ReflectliteType.method ReflectliteType.elem #[.agg #[.pointer (some ⟨9, 54, none⟩)]]).run Tryd.prog w = .ok (.iface 125 (.agg #[.pointer (some ⟨9, 52, none⟩)])) w := by kernel_rfl
theorem asm_implementsM (w : World) : (ReflectliteType.relation "Implements" ReflectliteType.implements_ #[.agg #[.pointer (some ⟨9, 52, none⟩)], .iface 125 (.agg #[.pointer (some ⟨9, 27, none⟩)])]).run Tryd.prog w = .ok (.bool true) w := by kernel_rfl
theorem asm_assignM (w : World) : (ReflectliteType.relation "AssignableTo" ReflectliteType.assignableTo #[.agg #[.pointer (some ⟨9, 52, none⟩)], .iface 125 (.agg #[.pointer (some ⟨9, 52, none⟩)])]).run Tryd.prog w = .ok (.bool true) w := by kernel_rfl
theorem asm_assignE (w : World) : (ReflectliteType.relation "AssignableTo" ReflectliteType.assignableTo #[.agg #[.pointer (some ⟨9, 36, none⟩)], .iface 125 (.agg #[.pointer (some ⟨9, 52, none⟩)])]).run Tryd.prog w = .ok (.bool false) w := by kernel_rfl
theorem asm_aE (a : Value) (w : World) : (Instr.typeAssert (.iface 36 a) 27 134 true).run Tryd.prog w = .ok (.tuple #[.nilIface, .bool false]) w := run_typeAssert_lacksB Tryd.underlying134 (by kernel_rfl) (by kernel_rfl) a 27 w
theorem asm_valueOfM (g : Option Addr) (n c : Nat) (w : World) : (ReflectliteValue.unpack (.iface 52 (.slice g n c))).run Tryd.prog w
    = .ok (.agg #[.pointer (some ⟨9, 52, none⟩), .pointer (some ⟨w.heap.size, 0, none⟩), .int .u64 151]) (w.alloc (.cells #[.slice g n c] 52)) := by kernel_rfl
theorem asm_elemOfP (w : World) : (Rtype.elem? 54).run Tryd.prog w = .ok (some 52) w := by kernel_rfl
theorem asm_mkM (p : Addr) (w : World) : (ReflectliteValue.mk 52 p ReflectliteValue.flagAddr).run Tryd.prog w = .ok (.agg #[.pointer (some ⟨9, 52, none⟩), .pointer (some p), .int .u64 407]) w := by kernel_rfl
theorem asm_elemV (a p : Addr) (W : World) (ha : W.cell? a = some (.pointer (some p))) :
    (ReflectliteValue.method (ReflectliteValue.valueError "reflectlite.Value.Elem" 0) ReflectliteValue.elem #[.agg #[.pointer (some ⟨9, 54, none⟩), .pointer (some a), .int .u64 150]]).run Tryd.prog W
      = .ok (.agg #[.pointer (some ⟨9, 52, none⟩), .pointer (some p), .int .u64 407]) W := by
  rw [rlm]
  simp only [Sem.run_bind, asm_partsP, Result.andThen]
  simp [ReflectliteValue.elem, loadVar, isAgg, underlying, Tryd.underlying54, ha, Result.andThen, asm_elemOfP, asm_mkM]
theorem asm_partsMa (a : Addr) (w : World) : (ReflectliteValue.parts (.agg #[.pointer (some ⟨9, 52, none⟩), .pointer (some a), .int .u64 407])).run Tryd.prog w = .ok (some (52, a, 407)) w := by kernel_rfl
theorem asm_partsM (a : Addr) (w : World) : (ReflectliteValue.parts (.agg #[.pointer (some ⟨9, 52, none⟩), .pointer (some a), .int .u64 151])).run Tryd.prog w = .ok (some (52, a, 151)) w := by kernel_rfl
theorem asm_directM (w : World) : (Rtype.directlyAssignable 52 52).run Tryd.prog w = .ok true w := by kernel_rfl
theorem asm_setM (ta b : Addr) (g : Option Addr) (n c : Nat) (old : Value) (W : World) (hb : W.cell? b = some (.slice g n c)) (ht : W.cell? ta = some old) (hf : W.frozen? ta = false) :
    (ReflectliteValue.set #[.agg #[.pointer (some ⟨9, 52, none⟩), .pointer (some ta), .int .u64 407], .agg #[.pointer (some ⟨9, 52, none⟩), .pointer (some b), .int .u64 151]]).run Tryd.prog W
      = .ok (.tuple #[]) (W.setCell ta (.slice g n c)) := by
  rw [rls]
  simp only [Sem.run_bind, asm_partsMa, asm_partsM, Result.andThen]
  simp [ReflectliteValue.flagAddr, loadVar, isAgg, underlying, Tryd.underlying52, hb, Result.andThen, asm_directM, storeVar, Value.cells, storeCells, Addr.add]
  rw [run_store Tryd.prog W ta _ _ (by rfl)]
  simp [ht, hf]
end
section
open Go.Extern.Stop Go.Stop Go.Extern
theorem asm_set (t : Addr) (g : Option Addr) (n c : Nat) (old : Value) (W : World) (ht : W.cell? t = some old) (hf : W.frozen? t = false) :
    (ReflectliteValue.set #[.agg #[.pointer (some ⟨9, 52, none⟩), .pointer (some t), .int .u64 407], .agg #[.pointer (some ⟨9, 52, none⟩), .pointer (some ⟨W.heap.size, 0, none⟩), .int .u64 151]]).run Tryd.prog (W.alloc (.cells #[.slice g n c] 52))
      = .ok (.tuple #[]) ((W.alloc (.cells #[.slice g n c] 52)).setCell t (.slice g n c)) := by
  have hb := below_alloc (Below.refl W.heap.size W) (.cells #[.slice g n c] 52)
  exact asm_setM t ⟨W.heap.size, 0, none⟩ g n c old _ ((blk_cell (blk_new W _) 0).trans rfl) (pw_cell_below hb ht) ((hb.frozen (World.block_lt_of_cell? W t ht)).trans hf)
set_option maxHeartbeats 8000000 in
set_option maxRecDepth 100000 in
/-- errors.As for many errors, of a number: none. -/
theorem asM_num (e : Int) (t : Addr) (old : Value) (w : World) (hg : w.cell? ⟨0, 0, none⟩ = some (.iface 125 (.agg #[.pointer (some ⟨9, 27, none⟩)]))) (ht0 : w.cell? t = some old) :
    Calls Tryd.prog 21 #[.iface 36 (.int .i64 e), .iface 54 (.pointer (some t))] w fun r w' => r = .returned (.bool false) ∧ Below w.heap.size w w' := by
  have h6 := @run_callFunc_extern Tryd.prog 46 _ (fun args => ReflectliteValue.unpack (args.getD 0 (.tuple #[]))) Tryd.func46 (by kernel_rfl) (by kernel_rfl) (by kernel_rfl) (by kernel_rfl)
  have h7 := @run_callFunc_extern Tryd.prog 47 _ (ReflectliteValue.methodAny (ReflectliteValue.valueError "reflectlite.Value.Type" 0) (fun t _ _ _ => ReflectliteType.toType t)) Tryd.func47 (by kernel_rfl) (by kernel_rfl) (by kernel_rfl) (by kernel_rfl)
  have h8 := @run_callFunc_extern Tryd.prog 48 _ (ReflectliteValue.method (ReflectliteValue.valueError "reflectlite.Value.IsNil" 0) ReflectliteValue.isNil) Tryd.func48 (by kernel_rfl) (by kernel_rfl) (by kernel_rfl) (by kernel_rfl)
  have h27 := @run_callFunc_extern Tryd.prog 161 _ (ReflectliteType.abiMethod fun t => do pure (.int .u8 (← Rtype.kind t))) Tryd.func161 (by kernel_rfl) (by kernel_rfl) (by kernel_rfl) (by kernel_rfl)
  have h37 := @run_callFunc_extern Tryd.prog 171 _ (ReflectliteType.method ReflectliteType.elem) Tryd.func171 (by kernel_rfl) (by kernel_rfl) (by kernel_rfl) (by kernel_rfl)
  have h38 := @run_callFunc_extern Tryd.prog 172 _ (ReflectliteType.relation "Implements" ReflectliteType.implements_) Tryd.func172 (by kernel_rfl) (by kernel_rfl) (by kernel_rfl) (by kernel_rfl)
  have h10 := @run_callFunc_extern Tryd.prog 40 _ ReflectliteType.typeOf Tryd.func40 (by kernel_rfl) (by kernel_rfl) (by kernel_rfl) (by kernel_rfl)
  have h35 := @run_callFunc_extern Tryd.prog 169 _ (ReflectliteType.relation "AssignableTo" ReflectliteType.assignableTo) Tryd.func169 (by kernel_rfl) (by kernel_rfl) (by kernel_rfl) (by kernel_rfl)
  have tO := asx_typeOf25
  have mA := asx_methodAssignableTo
  have aE := asm_assignE
  have f6 := asm_valueOfP
  have f7 := asm_typeP
  have mK := asx_methodKind
  have mE := asx_methodElem
  have mI := asx_methodImplements
  have kP := asm_kindP
  have kM := asm_kindM
  have eP := asm_elemP
  have iM := asm_implementsM
  have bE := asm_aE
  have n2 := is_no2
  have n3 := is_no3
  have hb1 := below_alloc (below_alloc (Below.refl w.heap.size w) (.cells #[.pointer (some t)] 54)) (.cells #[.pointer (some ⟨9, 54, none⟩), .pointer (some ⟨w.heap.size, 0, none⟩), .int .u64 150] 95)
  have hcb : ((w.alloc (.cells #[.pointer (some t)] 54)).alloc (.cells #[.pointer (some ⟨9, 54, none⟩), .pointer (some ⟨w.heap.size, 0, none⟩), .int .u64 150] 95)).cell? ⟨w.heap.size, 0, none⟩ = some (.pointer (some t)) := (blk_cell (blk_alloc (blk_new w _) _) 0).trans rfl
  have n8 := asm_isNilP ⟨w.heap.size, 0, none⟩ t ((w.alloc (.cells #[.pointer (some t)] 54)).alloc (.cells #[.pointer (some ⟨9, 54, none⟩), .pointer (some ⟨w.heap.size, 0, none⟩), .int .u64 150] 95)) hcb
  have hg2 := pw_cell_below hb1 hg
  have HB1 := Aside0.mk hb1
  clear hb1 hcb hg ht0
  go_enter Tryd.func21, Tryd.ntmps21
  go_wp2
  refine wp_loop_rounds 1 ?_
  rw [rounds_succ]
  go_wp2
  go_ret
  exact ⟨rfl, by first | exact HB1.out | exact below_alloc HB1.out _ | exact below_alloc (below_alloc HB1.out _) _⟩
set_option maxHeartbeats 8000000 in
set_option maxRecDepth 100000 in
/-- errors.As for many errors, of many: they themselves. -/
theorem asM_hit (g : Option Addr) (n c : Nat) (t : Addr) (old : Value) (w : World) (hg : w.cell? ⟨0, 0, none⟩ = some (.iface 125 (.agg #[.pointer (some ⟨9, 27, none⟩)]))) (ht0 : w.cell? t = some old) (hf0 : w.frozen? t = false) :
    Calls Tryd.prog 21 #[.iface 52 (.slice g n c), .iface 54 (.pointer (some t))] w fun r w' => ∃ W1, r = .returned (.bool true) ∧ Below w.heap.size w W1 ∧ w' = W1.setCell t (.slice g n c) := by
  have h6 := @run_callFunc_extern Tryd.prog 46 _ (fun args => ReflectliteValue.unpack (args.getD 0 (.tuple #[]))) Tryd.func46 (by kernel_rfl) (by kernel_rfl) (by kernel_rfl) (by kernel_rfl)
  have h7 := @run_callFunc_extern Tryd.prog 47 _ (ReflectliteValue.methodAny (ReflectliteValue.valueError "reflectlite.Value.Type" 0) (fun t _ _ _ => ReflectliteType.toType t)) Tryd.func47 (by kernel_rfl) (by kernel_rfl) (by kernel_rfl) (by kernel_rfl)
  have h8 := @run_callFunc_extern Tryd.prog 48 _ (ReflectliteValue.method (ReflectliteValue.valueError "reflectlite.Value.IsNil" 0) ReflectliteValue.isNil) Tryd.func48 (by kernel_rfl) (by kernel_rfl) (by kernel_rfl) (by kernel_rfl)
  have h27 := @run_callFunc_extern Tryd.prog 161 _ (ReflectliteType.abiMethod fun t => do pure (.int .u8 (← Rtype.kind t))) Tryd.func161 (by kernel_rfl) (by kernel_rfl) (by kernel_rfl) (by kernel_rfl)
  have h37 := @run_callFunc_extern Tryd.prog 171 _ (ReflectliteType.method ReflectliteType.elem) Tryd.func171 (by kernel_rfl) (by kernel_rfl) (by kernel_rfl) (by kernel_rfl)
  have h38 := @run_callFunc_extern Tryd.prog 172 _ (ReflectliteType.relation "Implements" ReflectliteType.implements_) Tryd.func172 (by kernel_rfl) (by kernel_rfl) (by kernel_rfl) (by kernel_rfl)
  have h10 := @run_callFunc_extern Tryd.prog 40 _ ReflectliteType.typeOf Tryd.func40 (by kernel_rfl) (by kernel_rfl) (by kernel_rfl) (by kernel_rfl)
  have h35 := @run_callFunc_extern Tryd.prog 169 _ (ReflectliteType.relation "AssignableTo" ReflectliteType.assignableTo) Tryd.func169 (by kernel_rfl) (by kernel_rfl) (by kernel_rfl) (by kernel_rfl)
  have h11 := @run_callFunc_extern Tryd.prog 65 _ (ReflectliteValue.method (ReflectliteValue.valueError "reflectlite.Value.Elem" 0) ReflectliteValue.elem) Tryd.func65 (by kernel_rfl) (by kernel_rfl) (by kernel_rfl) (by kernel_rfl)
  have h12 := @run_callFunc_extern Tryd.prog 66 _ ReflectliteValue.set Tryd.func66 (by kernel_rfl) (by kernel_rfl) (by kernel_rfl) (by kernel_rfl)
  have tM := eas_typeOfM
  have mA := asx_methodAssignableTo
  have aM := asm_assignM
  have vM := asm_valueOfM
  have f6 := asm_valueOfP
  have f7 := asm_typeP
  have mK := asx_methodKind
  have mE := asx_methodElem
  have mI := asx_methodImplements
  have kP := asm_kindP
  have kM := asm_kindM
  have eP := asm_elemP
  have iM := asm_implementsM
  have hb1 := below_alloc (below_alloc (Below.refl w.heap.size w) (.cells #[.pointer (some t)] 54)) (.cells #[.pointer (some ⟨9, 54, none⟩), .pointer (some ⟨w.heap.size, 0, none⟩), .int .u64 150] 95)
  have hb2 := below_alloc hb1 (.cells #[.pointer (some ⟨9, 54, none⟩), .pointer (some ⟨w.heap.size, 0, none⟩), .int .u64 150] 95)
  have hcb : ((w.alloc (.cells #[.pointer (some t)] 54)).alloc (.cells #[.pointer (some ⟨9, 54, none⟩), .pointer (some ⟨w.heap.size, 0, none⟩), .int .u64 150] 95)).cell? ⟨w.heap.size, 0, none⟩ = some (.pointer (some t)) := (blk_cell (blk_alloc (blk_new w _) _) 0).trans rfl
  have hcb2 : (((w.alloc (.cells #[.pointer (some t)] 54)).alloc (.cells #[.pointer (some ⟨9, 54, none⟩), .pointer (some ⟨w.heap.size, 0, none⟩), .int .u64 150] 95)).alloc (.cells #[.pointer (some ⟨9, 54, none⟩), .pointer (some ⟨w.heap.size, 0, none⟩), .int .u64 150] 95)).cell? ⟨w.heap.size, 0, none⟩ = some (.pointer (some t)) := (blk_cell (blk_alloc (blk_alloc (blk_new w _) _) _) 0).trans rfl
  have n8 := asm_isNilP ⟨w.heap.size, 0, none⟩ t _ hcb
  have el := asm_elemV ⟨w.heap.size, 0, none⟩ t _ hcb2
  have hb3 := below_alloc hb2 (.cells #[.slice g n c] 52)
  have st := asm_setM t ⟨w.heap.size + 1 + 1 + 1, 0, none⟩ g n c old ((((w.alloc (.cells #[.pointer (some t)] 54)).alloc (.cells #[.pointer (some ⟨9, 54, none⟩), .pointer (some ⟨w.heap.size, 0, none⟩), .int .u64 150] 95)).alloc (.cells #[.pointer (some ⟨9, 54, none⟩), .pointer (some ⟨w.heap.size, 0, none⟩), .int .u64 150] 95)).alloc (.cells #[.slice g n c] 52)) (by rw [World.cell?_alloc_at _ _ _ _ (by simp)]; rfl) (pw_cell_below hb3 ht0) ((hb3.frozen (World.block_lt_of_cell? w t ht0)).trans hf0)
  have hg2 := pw_cell_below hb1 hg
  have HB1 := Aside0.mk hb2
  clear hb1 hcb hg ht0 hb2 hb3 hcb2 hf0
  go_enter Tryd.func21, Tryd.ntmps21
  go_wp2
  refine wp_loop_rounds 1 ?_
  rw [rounds_succ]
  go_wp2
  go_ret
  exact ⟨_, rfl, below_alloc HB1.out _, rfl⟩
end
set_option maxHeartbeats 2000000 in
set_option maxRecDepth 100000 in
/-- The operations of a number: none. -/
theorem eOps_num (n : Int) (w : World) : Calls Tryd.prog 15 #[.iface 36 (.int .i64 n)] w fun r w' => r = .returned (.slice none 0 0) ∧ w' = w := by
  have a1 : ∀ (v : Value) (w : World), (Instr.typeAssert (.iface 36 v) 27 37 true).run Tryd.prog w = .ok (.tuple #[.pointer none, .bool false]) w := fun v w => by kernel_rfl
  have a2 : ∀ (v : Value) (w : World), (Instr.typeAssert (.iface 36 v) 27 52 true).run Tryd.prog w = .ok (.tuple #[.slice none 0 0, .bool false]) w := fun v w => by kernel_rfl
  go_enter Tryd.func15, Tryd.ntmps15
  go_wp2
  refine wp_loop_rounds 1 ?_
  rw [rounds_succ]
  go_wp2
  go_ret
  exact ⟨rfl, rfl⟩


end Go.Proofs.YtegcaniikdibdaaDoor.VFaultJoins
