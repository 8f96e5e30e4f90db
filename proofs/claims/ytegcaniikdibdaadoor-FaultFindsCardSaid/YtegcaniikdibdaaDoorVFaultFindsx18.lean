/- Contracts of functions of this seat: each call comes to what its Lean function computes; no condition beyond what each theorem states. Printed by a program of this session's own laid over the kit's printer. -/
import Derived.Test.YtegcaniikdibdaaDoorVFaultFindsx0
import Derived.Test.YtegcaniikdibdaaDoorVFaultFindsx1
import Derived.Test.YtegcaniikdibdaaDoorVFaultFindsx3
import Derived.Test.YtegcaniikdibdaaDoorVFaultFindsx6
import Derived.Test.YtegcaniikdibdaaDoorVFaultFindsx8
import Derived.Test.YtegcaniikdibdaaDoorVFaultFindsx9
import Derived.Test.YtegcaniikdibdaaDoorVFaultFindsx17
namespace Go.Proofs.YtegcaniikdibdaaDoor.VFaultFinds
open Go.RowKit Go.Proofs.YtegcaniikdibdaaDoorW.PrintWords Go.Proofs.YtegcaniikdibdaaDoorW.PrintLast Go.Proofs.YtegcaniikdibdaaDoorW.PrintMore
attribute [local go_sem] max2_int min2_int max_two min_two max_three min_three max_four min_four   -- for this text's walks alone
set_option linter.unusedVariables false
set_option linter.unusedSimpArgs false

-- @GIVEN lib_asf
section
open Go.Extern.Stop Go.Stop Go.Extern
theorem asf_valueOfP (t : Addr) (w : World) : (ReflectliteValue.unpack (.iface 65 (.pointer (some t)))).run Tryd.prog w
    = .ok (.agg #[.pointer (some ⟨9, 65, none⟩), .pointer (some ⟨w.heap.size, 0, none⟩), .int .u64 150]) (w.alloc (.cells #[.pointer (some t)] 65)) := by kernel_rfl
theorem asf_typeP (a : Addr) (w : World) : (ReflectliteValue.methodAny (ReflectliteValue.valueError "reflectlite.Value.Type" 0) (fun t _ _ _ => ReflectliteType.toType t) #[.agg #[.pointer (some ⟨9, 65, none⟩), .pointer (some a), .int .u64 150]]).run Tryd.prog w
    = .ok (.iface 125 (.agg #[.pointer (some ⟨9, 65, none⟩)])) w := by kernel_rfl
theorem asf_kindP (w : World) : ((ReflectliteType.abiMethod fun t => (fun a : Nat => Value.int IntKind.u8 (a : Int)) <$> Rtype.kind t) #[.pointer (some ⟨9, 65, none⟩)]).run Tryd.prog w = .ok (.int .u8 22) w := by kernel_rfl
theorem asf_kindF (w : World) : ((ReflectliteType.abiMethod fun t => (fun a : Nat => Value.int IntKind.u8 (a : Int)) <$> Rtype.kind t) #[.pointer (some ⟨9, 37, none⟩)]).run Tryd.prog w = .ok (.int .u8 22) w := by kernel_rfl
theorem asf_partsP (a : Addr) (w : World) : (ReflectliteValue.parts (.agg #[.pointer (some ⟨9, 65, none⟩), .pointer (some a), .int .u64 150])).run Tryd.prog w = .ok (some (65, a, 150)) w := by kernel_rfl
theorem asf_isNilP (a p : Addr) (W : World) (ha : W.cell? a = some (.pointer (some p))) :
    (ReflectliteValue.method (ReflectliteValue.valueError "reflectlite.Value.IsNil" 0) ReflectliteValue.isNil #[.agg #[.pointer (some ⟨9, 65, none⟩), .pointer (some a), .int .u64 150]]).run Tryd.prog W = .ok (.bool false) W := by
  rw [rlm]
  simp only [Sem.run_bind, asf_partsP, Result.andThen]
  simp [ReflectliteValue.isNil, loadVar, isAgg, underlying, Tryd.underlying65, ha, Result.andThen]
theorem asf_elemP (w : World) : (ReflectliteType.method ReflectliteType.elem #[.agg #[.pointer (some ⟨9, 65, none⟩)]]).run Tryd.prog w = .ok (.iface 125 (.agg #[.pointer (some ⟨9, 37, none⟩)])) w := by kernel_rfl
theorem asf_implements (w : World) : (ReflectliteType.relation "Implements" ReflectliteType.implements_ #[.agg #[.pointer (some ⟨9, 37, none⟩)], .iface 125 (.agg #[.pointer (some ⟨9, 27, none⟩)])]).run Tryd.prog w = .ok (.bool true) w := by kernel_rfl
theorem asf_assignF (w : World) : (ReflectliteType.relation "AssignableTo" ReflectliteType.assignableTo #[.agg #[.pointer (some ⟨9, 37, none⟩)], .iface 125 (.agg #[.pointer (some ⟨9, 37, none⟩)])]).run Tryd.prog w = .ok (.bool true) w := by kernel_rfl
theorem asf_assignM (w : World) : (ReflectliteType.relation "AssignableTo" ReflectliteType.assignableTo #[.agg #[.pointer (some ⟨9, 52, none⟩)], .iface 125 (.agg #[.pointer (some ⟨9, 37, none⟩)])]).run Tryd.prog w = .ok (.bool false) w := by kernel_rfl
theorem asf_assignE (w : World) : (ReflectliteType.relation "AssignableTo" ReflectliteType.assignableTo #[.agg #[.pointer (some ⟨9, 36, none⟩)], .iface 125 (.agg #[.pointer (some ⟨9, 37, none⟩)])]).run Tryd.prog w = .ok (.bool false) w := by kernel_rfl
theorem asf_aE (a : Value) (w : World) : (Instr.typeAssert (.iface 36 a) 27 134 true).run Tryd.prog w = .ok (.tuple #[.nilIface, .bool false]) w := run_typeAssert_lacksB Tryd.underlying134 (by kernel_rfl) (by kernel_rfl) a 27 w
theorem asf_valueOfF (p : Option Addr) (w : World) : (ReflectliteValue.unpack (.iface 37 (.pointer p))).run Tryd.prog w
    = .ok (.agg #[.pointer (some ⟨9, 37, none⟩), .pointer (some ⟨w.heap.size, 0, none⟩), .int .u64 150]) (w.alloc (.cells #[.pointer p] 37)) := by kernel_rfl
theorem asf_elemOfP (w : World) : (Rtype.elem? 65).run Tryd.prog w = .ok (some 37) w := by kernel_rfl
theorem asf_mkF (p : Addr) (w : World) : (ReflectliteValue.mk 37 p ReflectliteValue.flagAddr).run Tryd.prog w = .ok (.agg #[.pointer (some ⟨9, 37, none⟩), .pointer (some p), .int .u64 406]) w := by kernel_rfl
theorem asf_elemV (a p : Addr) (W : World) (ha : W.cell? a = some (.pointer (some p))) :
    (ReflectliteValue.method (ReflectliteValue.valueError "reflectlite.Value.Elem" 0) ReflectliteValue.elem #[.agg #[.pointer (some ⟨9, 65, none⟩), .pointer (some a), .int .u64 150]]).run Tryd.prog W
      = .ok (.agg #[.pointer (some ⟨9, 37, none⟩), .pointer (some p), .int .u64 406]) W := by
  rw [rlm]
  simp only [Sem.run_bind, asf_partsP, Result.andThen]
  simp [ReflectliteValue.elem, loadVar, isAgg, underlying, Tryd.underlying65, ha, Result.andThen, asf_elemOfP, asf_mkF]
theorem asf_partsFa (a : Addr) (w : World) : (ReflectliteValue.parts (.agg #[.pointer (some ⟨9, 37, none⟩), .pointer (some a), .int .u64 406])).run Tryd.prog w = .ok (some (37, a, 406)) w := by kernel_rfl
theorem asf_partsF (a : Addr) (w : World) : (ReflectliteValue.parts (.agg #[.pointer (some ⟨9, 37, none⟩), .pointer (some a), .int .u64 150])).run Tryd.prog w = .ok (some (37, a, 150)) w := by kernel_rfl
theorem asf_directF (w : World) : (Rtype.directlyAssignable 37 37).run Tryd.prog w = .ok true w := by kernel_rfl
theorem asf_setF (ta b : Addr) (p : Option Addr) (old : Value) (W : World) (hb : W.cell? b = some (.pointer p)) (ht : W.cell? ta = some old) (hf : W.frozen? ta = false) :
    (ReflectliteValue.set #[.agg #[.pointer (some ⟨9, 37, none⟩), .pointer (some ta), .int .u64 406], .agg #[.pointer (some ⟨9, 37, none⟩), .pointer (some b), .int .u64 150]]).run Tryd.prog W
      = .ok (.tuple #[]) (W.setCell ta (.pointer p)) := by
  rw [rls]
  simp only [Sem.run_bind, asf_partsFa, asf_partsF, Result.andThen]
  simp [ReflectliteValue.flagAddr, loadVar, isAgg, underlying, Tryd.underlying37, hb, Result.andThen, asf_directF, storeVar, Value.cells, storeCells, Addr.add]
  rw [run_store Tryd.prog W ta _ _ (by rfl)]
  simp [ht, hf]
theorem asf_set (t : Addr) (p : Option Addr) (old : Value) (W : World) (ht : W.cell? t = some old) (hf : W.frozen? t = false) :
    (ReflectliteValue.set #[.agg #[.pointer (some ⟨9, 37, none⟩), .pointer (some t), .int .u64 406], .agg #[.pointer (some ⟨9, 37, none⟩), .pointer (some ⟨W.heap.size, 0, none⟩), .int .u64 150]]).run Tryd.prog (W.alloc (.cells #[.pointer p] 37))
      = .ok (.tuple #[]) ((W.alloc (.cells #[.pointer p] 37)).setCell t (.pointer p)) := by
  have hb := below_alloc (Below.refl W.heap.size W) (.cells #[.pointer p] 37)
  exact asf_setF t ⟨W.heap.size, 0, none⟩ p old _ ((blk_cell (blk_new W _) 0).trans rfl) (pw_cell_below hb ht) ((hb.frozen (World.block_lt_of_cell? W t ht)).trans hf)
end
/-- The outermost fault on the way by the first error of many. -/
def Er.outer : Er → Option (ByteArray × Int)
  | .num _ => none
  | .wrap op pl _ => some (op, pl)
  | .many e _ => e.outer
def AsfPost (w : World) (t : Addr) : Option (ByteArray × Int) → Ending → World → Prop
  | none, r, w' => r = .returned (.bool false) ∧ Below w.heap.size w w'
  | some q, r, w' => ∃ W1 g v1, r = .returned (.bool true) ∧ Below w.heap.size w W1 ∧ w' = W1.setCell t (.pointer (some ⟨g, 0, none⟩)) ∧ W1.heap[g]? = some (.cells #[.string q.1, .int .i64 q.2, v1] 39 (0, 0))
theorem AsfPost.from {w0 w : World} {t : Addr} {q : Option (ByteArray × Int)} {r : Ending} {w' : World} (hb : Below w0.heap.size w0 w) (h : AsfPost w t q r w') : AsfPost w0 t q r w' := by
  cases q with
  | none => exact ⟨h.1, below_then hb hb.size h.2⟩
  | some q => obtain ⟨W1, g, v1, h1, h2, h3, h4⟩ := h; exact ⟨W1, g, v1, h1, below_then hb hb.size h2, h3, h4⟩
section
open Go.Extern.Stop Go.Stop Go.Extern
set_option maxHeartbeats 8000000 in
set_option maxRecDepth 100000 in
theorem asf_num (t : Addr) (b : Nat) (n : Int) (w : World) : Calls Tryd.prog 49 #[.iface 36 (.int .i64 n), .iface 65 (.pointer (some t)), .agg #[.pointer (some ⟨9, 65, none⟩), .pointer (some ⟨b, 0, none⟩), .int .u64 150], .iface 125 (.agg #[.pointer (some ⟨9, 37, none⟩)])] w fun r w' => r = .returned (.bool false) ∧ Below w.heap.size w w' := by
  have h10 := @run_callFunc_extern Tryd.prog 40 _ ReflectliteType.typeOf Tryd.func40 (by kernel_rfl) (by kernel_rfl) (by kernel_rfl) (by kernel_rfl)
  have h35 := @run_callFunc_extern Tryd.prog 169 _ (ReflectliteType.relation "AssignableTo" ReflectliteType.assignableTo) Tryd.func169 (by kernel_rfl) (by kernel_rfl) (by kernel_rfl) (by kernel_rfl)
  have tO := asx_typeOf25
  have mA := asx_methodAssignableTo
  have aE := asf_assignE
  have bE := asf_aE
  have n2 := is_no2
  have n3 := is_no3
  go_enter Tryd.func49, Tryd.ntmps49
  go_wp2
  refine wp_loop_rounds 1 ?_
  rw [rounds_succ]
  go_wp2
  go_ret
  exact ⟨rfl, by first | exact Below.refl _ _ | exact below_alloc (Below.refl _ _) _⟩
set_option maxHeartbeats 8000000 in
set_option maxRecDepth 100000 in
/-- errors.as over such errors, for a fault. -/
theorem asf_tree (t : Addr) (b : Nat) (old : Value) : ∀ (e : Er) (v : Value) (w : World), Er.two e → ErV w v e → w.cell? ⟨b, 0, none⟩ = some (.pointer (some t)) → w.cell? t = some old → w.frozen? t = false →
    Calls Tryd.prog 49 #[v, .iface 65 (.pointer (some t)), .agg #[.pointer (some ⟨9, 65, none⟩), .pointer (some ⟨b, 0, none⟩), .int .u64 150], .iface 125 (.agg #[.pointer (some ⟨9, 37, none⟩)])] w fun r w' => AsfPost w t e.outer r w' := by
  intro e
  induction e with
  | num n =>
    intro v w _ h hb ht hf
    obtain rfl : v = .iface 36 (.int .i64 n) := h
    exact asf_num t b n w
  | wrap o p e ih =>
    intro v w _ h hb ht hf
    obtain ⟨g, v1, rfl, hg, _⟩ := h
    have HG := Aside0.mk hg
    have h10 := @run_callFunc_extern Tryd.prog 40 _ ReflectliteType.typeOf Tryd.func40 (by kernel_rfl) (by kernel_rfl) (by kernel_rfl) (by kernel_rfl)
    have h35 := @run_callFunc_extern Tryd.prog 169 _ (ReflectliteType.relation "AssignableTo" ReflectliteType.assignableTo) Tryd.func169 (by kernel_rfl) (by kernel_rfl) (by kernel_rfl) (by kernel_rfl)
    have h11 := @run_callFunc_extern Tryd.prog 65 _ (ReflectliteValue.method (ReflectliteValue.valueError "reflectlite.Value.Elem" 0) ReflectliteValue.elem) Tryd.func65 (by kernel_rfl) (by kernel_rfl) (by kernel_rfl) (by kernel_rfl)
    have h12 := @run_callFunc_extern Tryd.prog 66 _ ReflectliteValue.set Tryd.func66 (by kernel_rfl) (by kernel_rfl) (by kernel_rfl) (by kernel_rfl)
    have h6 := @run_callFunc_extern Tryd.prog 46 _ (fun args => ReflectliteValue.unpack (args.getD 0 (.tuple #[]))) Tryd.func46 (by kernel_rfl) (by kernel_rfl) (by kernel_rfl) (by kernel_rfl)
    have tF := eas_typeOfF
    have mA := asx_methodAssignableTo
    have aF := asf_assignF
    have vF := asf_valueOfF
    have hba := below_alloc (Below.refl w.heap.size w) (.cells #[.pointer (some ⟨9, 65, none⟩), .pointer (some ⟨b, 0, none⟩), .int .u64 150] 95)
    have hb2 := pw_cell_below hba hb
    have el := asf_elemV ⟨b, 0, none⟩ t _ hb2
    have st := asf_set t (some ⟨g, 0, none⟩) old _ (pw_cell_below hba ht) ((hba.frozen (World.block_lt_of_cell? w t ht)).trans hf)
    have HBA := Aside0.mk hba
    have hsz : (w.alloc (.cells #[.pointer (some ⟨9, 65, none⟩), .pointer (some ⟨b, 0, none⟩), .int .u64 150] 95)).heap.size = w.heap.size + 1 := by simp
    rw [hsz] at st
    clear hb ht hf ih hba hb2 hg hsz
    go_enter Tryd.func49, Tryd.ntmps49
    go_wp2
    refine wp_loop_rounds 1 ?_
    rw [rounds_succ]
    go_wp2
    go_ret
    exact ⟨_, g, v1, rfl, below_alloc HBA.out _, rfl, blk_alloc (blk_alloc HG.out _) _⟩
  | many e l ih =>
    intro v w h2 h hb ht hf
    obtain ⟨sv, v1, rfl, hr, hl, hv1⟩ := h
    obtain ⟨h21, h22⟩ := h2
    obtain ⟨m, rfl⟩ := List.length_eq_one_iff.1 h21
    have HR := Aside0.mk hr
    have HV1 := Aside0.mk hv1
    obtain ⟨t1, x1, rfl⟩ := hv1.iface
    have HTT := Aside0.mk (And.intro hb (And.intro ht hf))
    have HN := Aside0.mk (asf_num t b m)
    have h10 := @run_callFunc_extern Tryd.prog 40 _ ReflectliteType.typeOf Tryd.func40 (by kernel_rfl) (by kernel_rfl) (by kernel_rfl) (by kernel_rfl)
    have h35 := @run_callFunc_extern Tryd.prog 169 _ (ReflectliteType.relation "AssignableTo" ReflectliteType.assignableTo) Tryd.func169 (by kernel_rfl) (by kernel_rfl) (by kernel_rfl) (by kernel_rfl)
    have tM := eas_typeOfM
    have mA := asx_methodAssignableTo
    have aM := asf_assignM
    have bM := eas_aM
    have m2 := isM2
    have m3 := isM3
    have k3 := mUns
    have hba := below_alloc (Below.refl w.heap.size w) (.cells #[.pointer (some ⟨9, 65, none⟩), .pointer (some ⟨b, 0, none⟩), .int .u64 150] 95)
    have HBA := Aside0.mk hba
    have HT := Aside0.mk (eas_cells HTT.out hba)
    have HRA := Aside0.mk (pw_own_below hr hba)
    have HVA := Aside0.mk (HV1.out.below hba)
    have HB6 := Aside0.mk (blk_new w (.cells #[.pointer (some ⟨9, 65, none⟩), .pointer (some ⟨b, 0, none⟩), .int .u64 150] 95))
    have c0 := (blk_cell HB6.out 0).trans rfl
    have c1 := (blk_cell HB6.out 1).trans rfl
    have c2 := (blk_cell HB6.out 2).trans rfl
    have IH := Aside0.mk (fun (W : World) (hv : ErV W (.iface t1 x1) e) (hc : W.cell? ⟨b, 0, none⟩ = some (.pointer (some t)) ∧ W.cell? t = some old ∧ W.frozen? t = false) => ih (.iface t1 x1) W h22 hv hc.1 hc.2.1 hc.2.2)
    clear hr hl hv1 hb ht hf ih hba h21 h22
    show Calls _ _ _ _ fun r w' => AsfPost w t e.outer r w'
    cases he : e.outer with
    | none =>
      rw [he] at IH
      have IH2 : Aside0 (∀ (W : World), ErV W (.iface t1 x1) e → (W.cell? ⟨b, 0, none⟩ = some (.pointer (some t)) ∧ W.cell? t = some old ∧ W.frozen? t = false) → Calls _ _ _ W fun r w' => r = .returned (.bool false) ∧ Below W.heap.size W w') := IH
      clear IH
      go_enter Tryd.func49, Tryd.ntmps49
      go_wp2
      refine wp_loop_rounds 1 ?_
      rw [rounds_succ]
      go_wp2_with (first
        | (go_at_call 22; (with_reducible refine (eUnwraps (.iface t1 x1) sv [m] _ HRA.out (by simp) rfl).mono ?_); rintro r w5 ⟨sv5, rfl, hr5, hb5⟩; obtain ⟨g5, c5, rfl, hg5a, hg5b, hc5, hcell5⟩ := row_open hr5 (by simp); have HB5 := Aside0.mk (below_step HBA.out hb5); have HT5 := Aside0.mk (eas_cells HT.out hb5); have HV5 := Aside0.mk (HVA.out.below hb5); have hB6 := blk_below HB6.out hb5; have HB56 := Aside0.mk hB6; have HC51 := Aside0.mk (hcell5 1 _ rfl); have c0 := (blk_cell hB6 0).trans rfl; have c1 := (blk_cell hB6 1).trans rfl; have c2 := (blk_cell hB6 2).trans rfl; have hc0 := hcell5 0 _ rfl; clear hr5 hb5 hcell5 hg5a hg5b hc5 hB6))
      refine wp_loop_rounds 3 ?_
      rw [rounds_succ]
      go_wp2_with (first
        | (go_at_call 49; (refine (IH2.out _ HV5.out HT5.out).mono ?_); clear IH2; rintro r w7 ⟨rfl, hb7⟩; have HB7 := Aside0.mk (below_step HB5.out hb7); have hB7 := blk_below HB56.out hb7; have c0 := (blk_cell hB7 0).trans rfl; have c1 := (blk_cell hB7 1).trans rfl; have c2 := (blk_cell hB7 2).trans rfl; have hc1 := pw_cell_below hb7 HC51.out; unfold eNum at hc1; clear hb7 hB7)
        | (go_at_call 49; (refine (HN.out _).mono ?_); rintro r w8 ⟨rfl, hb8⟩; have HB8 := Aside0.mk (below_step HB7.out hb8); clear hb8))
      rw [rounds_succ]
      go_wp2_with (first
        | (go_at_call 49; (refine (IH2.out _ HV5.out HT5.out).mono ?_); clear IH2; rintro r w7 ⟨rfl, hb7⟩; have HB7 := Aside0.mk (below_step HB5.out hb7); have hB7 := blk_below HB56.out hb7; have c0 := (blk_cell hB7 0).trans rfl; have c1 := (blk_cell hB7 1).trans rfl; have c2 := (blk_cell hB7 2).trans rfl; have hc1 := pw_cell_below hb7 HC51.out; unfold eNum at hc1; clear hb7 hB7)
        | (go_at_call 49; (refine (HN.out _).mono ?_); rintro r w8 ⟨rfl, hb8⟩; have HB8 := Aside0.mk (below_step HB7.out hb8); clear hb8))
      rw [rounds_succ]
      go_wp2
      go_ret
      exact ⟨rfl, HB8.out⟩
    | some q =>
      rw [he] at IH
      have IH2 : Aside0 (∀ (W : World), ErV W (.iface t1 x1) e → (W.cell? ⟨b, 0, none⟩ = some (.pointer (some t)) ∧ W.cell? t = some old ∧ W.frozen? t = false) → Calls _ _ _ W fun r w' => ∃ W1 g v1, r = .returned (.bool true) ∧ Below W.heap.size W W1 ∧ w' = W1.setCell t (.pointer (some ⟨g, 0, none⟩)) ∧ W1.heap[g]? = some (.cells #[.string q.1, .int .i64 q.2, v1] 39 (0, 0))) := IH
      clear IH
      go_enter Tryd.func49, Tryd.ntmps49
      go_wp2
      refine wp_loop_rounds 1 ?_
      rw [rounds_succ]
      go_wp2_with (first
        | (go_at_call 22; (with_reducible refine (eUnwraps (.iface t1 x1) sv [m] _ HRA.out (by simp) rfl).mono ?_); rintro r w5 ⟨sv5, rfl, hr5, hb5⟩; obtain ⟨g5, c5, rfl, hg5a, hg5b, hc5, hcell5⟩ := row_open hr5 (by simp); have HB5 := Aside0.mk (below_step HBA.out hb5); have HT5 := Aside0.mk (eas_cells HT.out hb5); have HV5 := Aside0.mk (HVA.out.below hb5); have hB6 := blk_below HB6.out hb5; have c0 := (blk_cell hB6 0).trans rfl; have c1 := (blk_cell hB6 1).trans rfl; have c2 := (blk_cell hB6 2).trans rfl; have hc0 := hcell5 0 _ rfl; clear hr5 hb5 hcell5 hg5a hg5b hc5 hB6))
      refine wp_loop_rounds 1 ?_
      rw [rounds_succ]
      go_wp2_with (go_at_call 49; (refine (IH2.out _ HV5.out HT5.out).mono ?_); rintro r w7 ⟨W7, g7, v7, rfl, hb7, rfl, hg7⟩; have HB7 := Aside0.mk (below_then HB5.out HB5.out.size hb7); have HG7 := Aside0.mk hg7; clear hb7 hg7)
      go_ret
      exact ⟨_, g7, v7, rfl, HB7.out, rfl, HG7.out⟩
end
section
open Go.Extern.Stop Go.Stop Go.Extern
set_option maxHeartbeats 8000000 in
set_option maxRecDepth 100000 in
/-- errors.As for a fault, over such errors. -/
theorem asF_tree (e : Er) (v : Value) (t : Addr) (old : Value) (w : World) (hg : w.cell? ⟨0, 0, none⟩ = some (.iface 125 (.agg #[.pointer (some ⟨9, 27, none⟩)]))) (ht0 : w.cell? t = some old) (hf0 : w.frozen? t = false) (h2 : Er.two e) (h : ErV w v e) :
    Calls Tryd.prog 21 #[v, .iface 65 (.pointer (some t))] w fun r w' => AsfPost w t e.outer r w' := by
  have h6 := @run_callFunc_extern Tryd.prog 46 _ (fun args => ReflectliteValue.unpack (args.getD 0 (.tuple #[]))) Tryd.func46 (by kernel_rfl) (by kernel_rfl) (by kernel_rfl) (by kernel_rfl)
  have h7 := @run_callFunc_extern Tryd.prog 47 _ (ReflectliteValue.methodAny (ReflectliteValue.valueError "reflectlite.Value.Type" 0) (fun t _ _ _ => ReflectliteType.toType t)) Tryd.func47 (by kernel_rfl) (by kernel_rfl) (by kernel_rfl) (by kernel_rfl)
  have h8 := @run_callFunc_extern Tryd.prog 48 _ (ReflectliteValue.method (ReflectliteValue.valueError "reflectlite.Value.IsNil" 0) ReflectliteValue.isNil) Tryd.func48 (by kernel_rfl) (by kernel_rfl) (by kernel_rfl) (by kernel_rfl)
  have h27 := @run_callFunc_extern Tryd.prog 161 _ (ReflectliteType.abiMethod fun t => do pure (.int .u8 (← Rtype.kind t))) Tryd.func161 (by kernel_rfl) (by kernel_rfl) (by kernel_rfl) (by kernel_rfl)
  have h37 := @run_callFunc_extern Tryd.prog 171 _ (ReflectliteType.method ReflectliteType.elem) Tryd.func171 (by kernel_rfl) (by kernel_rfl) (by kernel_rfl) (by kernel_rfl)
  have h38 := @run_callFunc_extern Tryd.prog 172 _ (ReflectliteType.relation "Implements" ReflectliteType.implements_) Tryd.func172 (by kernel_rfl) (by kernel_rfl) (by kernel_rfl) (by kernel_rfl)
  have f6 := asf_valueOfP
  have f7 := asf_typeP
  have mK := asx_methodKind
  have mE := asx_methodElem
  have mI := asx_methodImplements
  have kP := asf_kindP
  have kF := asf_kindF
  have eP := asf_elemP
  have iF := asf_implements
  have hb1 := below_alloc (below_alloc (Below.refl w.heap.size w) (.cells #[.pointer (some t)] 65)) (.cells #[.pointer (some ⟨9, 65, none⟩), .pointer (some ⟨w.heap.size, 0, none⟩), .int .u64 150] 95)
  have hcb : ((w.alloc (.cells #[.pointer (some t)] 65)).alloc (.cells #[.pointer (some ⟨9, 65, none⟩), .pointer (some ⟨w.heap.size, 0, none⟩), .int .u64 150] 95)).cell? ⟨w.heap.size, 0, none⟩ = some (.pointer (some t)) := (blk_cell (blk_alloc (blk_new w _) _) 0).trans rfl
  have n8 := asf_isNilP ⟨w.heap.size, 0, none⟩ t _ hcb
  have hg2 := pw_cell_below hb1 hg
  have HE := Aside0.mk (asf_tree t w.heap.size old e v _ h2 (h.below hb1) hcb (pw_cell_below hb1 ht0) ((hb1.frozen (World.block_lt_of_cell? w t ht0)).trans hf0))
  have HB1 := Aside0.mk hb1
  obtain ⟨t1, x1, rfl⟩ := h.iface
  clear h hg ht0 hf0 hb1 hcb
  generalize e.outer = q at HE ⊢
  cases q with
  | none =>
    go_enter Tryd.func21, Tryd.ntmps21
    go_wp2_with (go_at_call 49; (refine HE.out.mono ?_); rintro r w7 ⟨rfl, hb7⟩; have HB7 := Aside0.mk (below_step HB1.out hb7); clear hb7)
    go_ret
    exact ⟨rfl, HB7.out⟩
  | some q =>
    go_enter Tryd.func21, Tryd.ntmps21
    go_wp2_with (go_at_call 49; (refine HE.out.mono ?_); rintro r w7 ⟨W7, g7, v7, rfl, hb7, rfl, hg7⟩; have HB7 := Aside0.mk (below_then HB1.out HB1.out.size hb7); have HG7 := Aside0.mk hg7; clear hb7 hg7)
    go_ret
    exact ⟨_, g7, v7, rfl, HB7.out, rfl, HG7.out⟩
end


end Go.Proofs.YtegcaniikdibdaaDoor.VFaultFinds
