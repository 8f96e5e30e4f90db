/- Contracts of functions of this seat: each call comes to what its Lean function computes; no condition beyond what each theorem states. Printed by a program of this session's own laid over the kit's printer. -/
import Derived.Test.YtegcaniikdibdaaDoorVFaultTextsx0
import Derived.Test.YtegcaniikdibdaaDoorVFaultTextsx1
import Derived.Test.YtegcaniikdibdaaDoorVFaultTextsx3
import Derived.Test.YtegcaniikdibdaaDoorVFaultTextsx8
namespace Go.Proofs.YtegcaniikdibdaaDoor.VFaultTexts
open Go.RowKit Go.Proofs.YtegcaniikdibdaaDoorW.PrintWords Go.Proofs.YtegcaniikdibdaaDoorW.PrintLast Go.Proofs.YtegcaniikdibdaaDoorW.PrintMore
attribute [local go_sem] max2_int min2_int max_two min_two max_three min_three max_four min_four   -- for this text's walks alone
set_option linter.unusedVariables false
set_option linter.unusedSimpArgs false

-- @GIVEN errors_AsT
/-! ### errors_AsT: by hand -/
section
open Go.Extern.Stop Go.Stop Go.Extern
/-- The handle of a type, as reflect's value of the target, and its type. -/
theorem eas_typeOfF (v : Value) (w : World) : (ReflectliteType.typeOf #[.iface 37 v]).run Tryd.prog w = .ok (.iface 125 (.agg #[.pointer (some ⟨9, 37, none⟩)])) w := by kernel_rfl
theorem eas_typeOfM (v : Value) (w : World) : (ReflectliteType.typeOf #[.iface 52 v]).run Tryd.prog w = .ok (.iface 125 (.agg #[.pointer (some ⟨9, 52, none⟩)])) w := by kernel_rfl
theorem eas_noF (w : World) : (ReflectliteType.relation "AssignableTo" ReflectliteType.assignableTo #[.agg #[.pointer (some ⟨9, 37, none⟩)], .iface 125 (.agg #[.pointer (some ⟨9, 36, none⟩)])]).run Tryd.prog w = .ok (.bool false) w := by kernel_rfl
theorem eas_noM (w : World) : (ReflectliteType.relation "AssignableTo" ReflectliteType.assignableTo #[.agg #[.pointer (some ⟨9, 52, none⟩)], .iface 125 (.agg #[.pointer (some ⟨9, 36, none⟩)])]).run Tryd.prog w = .ok (.bool false) w := by kernel_rfl
theorem eas_aF (a : Value) (w : World) : (Instr.typeAssert (.iface 37 a) 27 134 true).run Tryd.prog w = .ok (.tuple #[.nilIface, .bool false]) w := run_typeAssert_lacksB Tryd.underlying134 (by kernel_rfl) (by kernel_rfl) a 27 w
theorem eas_aM (a : Value) (w : World) : (Instr.typeAssert (.iface 52 a) 27 134 true).run Tryd.prog w = .ok (.tuple #[.nilIface, .bool false]) w := run_typeAssert_lacksB Tryd.underlying134 (by kernel_rfl) (by kernel_rfl) a 27 w
theorem eas_cells {w w' : World} {b : Nat} {t : Addr} {old p : Value} (h : w.cell? ⟨b, 0, none⟩ = some p ∧ w.cell? t = some old ∧ w.frozen? t = false) (hb : Below w.heap.size w w') : w'.cell? ⟨b, 0, none⟩ = some p ∧ w'.cell? t = some old ∧ w'.frozen? t = false :=
  ⟨pw_cell_below hb h.1, pw_cell_below hb h.2.1, (hb.frozen (World.block_lt_of_cell? w t h.2.1)).trans h.2.2⟩
theorem eas_set (t : Addr) (n : Int) (old : Value) (W : World) (ht : W.cell? t = some old) (hf : W.frozen? t = false) :
    (ReflectliteValue.set #[.agg #[.pointer (some ⟨9, 36, none⟩), .pointer (some t), .int .u64 386], .agg #[.pointer (some ⟨9, 36, none⟩), .pointer (some ⟨W.heap.size, 0, none⟩), .int .u64 130]]).run Tryd.prog (W.alloc (.cells #[.int .i64 n] 36))
      = .ok (.tuple #[]) ((W.alloc (.cells #[.int .i64 n] 36)).setCell t (.int .i64 n)) := by
  have hb := below_alloc (Below.refl W.heap.size W) (.cells #[.int .i64 n] 36)
  exact asx_set25 t ⟨W.heap.size, 0, none⟩ n old _ ((blk_cell (blk_new W _) 0).trans rfl) (pw_cell_below hb ht) ((hb.frozen (World.block_lt_of_cell? W t ht)).trans hf)
def EasPost (w : World) (t : Addr) (n : Int) (r : Ending) (w' : World) : Prop := ∃ W1, r = .returned (.bool true) ∧ Below w.heap.size w W1 ∧ w' = W1.setCell t (.int .i64 n)
set_option maxHeartbeats 8000000 in
set_option maxRecDepth 100000 in
/-- errors.as over such errors, for a number. -/
theorem eas_tree (t : Addr) (b : Nat) (old : Value) : ∀ (N : Nat) (e : Er) (v : Value) (w : World), e.sz ≤ N → ErV w v e → w.cell? ⟨b, 0, none⟩ = some (.pointer (some t)) → w.cell? t = some old → w.frozen? t = false →
    Calls Tryd.prog 49 #[v, .iface 91 (.pointer (some t)), .agg #[.pointer (some ⟨9, 91, none⟩), .pointer (some ⟨b, 0, none⟩), .int .u64 150], .iface 125 (.agg #[.pointer (some ⟨9, 36, none⟩)])] w fun r w' => EasPost w t e.first r w' := by
  intro N
  induction N with
  | zero => intro e v w hN; have := e.sz_pos; omega
  | succ N ih =>
    intro e v w hN h hb ht hf
    have HV0 := Aside0.mk h
    have HN := Aside0.mk hN
    have IH := Aside0.mk ih
    have HT := Aside0.mk (And.intro hb (And.intro ht hf))
    have h10 := @run_callFunc_extern Tryd.prog 40 _ ReflectliteType.typeOf Tryd.func40 (by kernel_rfl) (by kernel_rfl) (by kernel_rfl) (by kernel_rfl)
    have h35 := @run_callFunc_extern Tryd.prog 169 _ (ReflectliteType.relation "AssignableTo" ReflectliteType.assignableTo) Tryd.func169 (by kernel_rfl) (by kernel_rfl) (by kernel_rfl) (by kernel_rfl)
    have h11 := @run_callFunc_extern Tryd.prog 65 _ (ReflectliteValue.method (ReflectliteValue.valueError "reflectlite.Value.Elem" 0) ReflectliteValue.elem) Tryd.func65 (by kernel_rfl) (by kernel_rfl) (by kernel_rfl) (by kernel_rfl)
    have h12 := @run_callFunc_extern Tryd.prog 66 _ ReflectliteValue.set Tryd.func66 (by kernel_rfl) (by kernel_rfl) (by kernel_rfl) (by kernel_rfl)
    have h6 := @run_callFunc_extern Tryd.prog 46 _ (fun args => ReflectliteValue.unpack (args.getD 0 (.tuple #[]))) Tryd.func46 (by kernel_rfl) (by kernel_rfl) (by kernel_rfl) (by kernel_rfl)
    have tO := asx_typeOf25
    have tF := eas_typeOfF
    have tM := eas_typeOfM
    have mA := asx_methodAssignableTo
    have a25 := asx_assignable25
    have aF := eas_noF
    have aM := eas_noM
    have bF := eas_aF
    have bM := eas_aM
    have v25 := asx_valueOf25
    have y2 := isY2
    have m2 := isM2
    have m3 := isM3
    have k2 := mUn
    have k3 := mUns
    clear h hN ih hb ht hf
    go_enter Tryd.func49, Tryd.ntmps49
    go_wp2_with fail
    go_loopg [0] e.sz (fun kq v0 w' => ∃ (e1 : Er) (v1 : Value), v0 = v1 ∧ Aside0 (kq = e1.sz ∧ e1.sz ≤ N + 1 ∧ e1.first = e.first) ∧ Aside0 (ErV w' v1 e1) ∧ Aside0 (w'.cell? ⟨b, 0, none⟩ = some (.pointer (some t)) ∧ w'.cell? t = some old ∧ w'.frozen? t = false) ∧ Aside0 (w'.heap[w.heap.size]? = some (.cells #[.pointer (some ⟨9, 91, none⟩), .pointer (some ⟨b, 0, none⟩), .int .u64 150] 95 (0, 0))) ∧ Aside0 (Below w.heap.size w w'))
    case atStart =>
      have hba := below_alloc (Below.refl w.heap.size w) (.cells #[.pointer (some ⟨9, 91, none⟩), .pointer (some ⟨b, 0, none⟩), .int .u64 150] 95)
      exact ⟨e, _, rfl, ⟨rfl, HN.out, rfl⟩, ⟨HV0.out.below hba⟩, ⟨eas_cells HT.out hba⟩, ⟨blk_new _ _⟩, ⟨hba⟩⟩
    case round =>
      clear HV0 HT HN
      obtain ⟨e1, v0, hs0, HK, HV, HT, HB6, HB⟩ := hrel
      subst hs0
      have c0 := (blk_cell HB6.out 0).trans rfl
      have c1 := (blk_cell HB6.out 1).trans rfl
      have c2 := (blk_cell HB6.out 2).trans rfl
      cases e1 with
      | num n =>
        have hv : _ = Value.iface 36 (.int .i64 n) := HV.out
        subst hv
        have HF := Aside0.mk (show n = e.first from HK.out.2.2)
        have el := asx_elemV27 ⟨b, 0, none⟩ t _ HT.out.1
        have st := eas_set t n old _ HT.out.2.1 HT.out.2.2
        go_wp2_with fail
        go_ret
        exact ⟨_, rfl, below_alloc HB.out _, by rw [HF.out]⟩
      | wrap o p e2 =>
        obtain ⟨g, v1, hv, hg, hv1⟩ := HV.out
        subst hv
        have HF := Aside0.mk (show e2.first = e.first from HK.out.2.2)
        have HG := Aside0.mk hg
        have HV1 := Aside0.mk hv1
        obtain ⟨t1, x1, rfl⟩ := hv1.iface
        have HK2 := Aside0.mk (show e2.sz ≤ N + 1 from by have := HK.out; simp only [Er.sz] at this; omega)
        clear hg hv1 HV
        go_wp2_with (go_at_call 26; (with_reducible refine (eUnwrap g o p (.iface t1 x1) _ HG.out).mono ?_); rintro r w6 ⟨rfl, rfl⟩)
        go_roundg e2.sz
        case measure => have := HK.out; simp only [Er.sz] at this; omega
        case rel => exact ⟨e2, _, rfl, ⟨rfl, HK2.out, HF.out⟩, HV1, HT, HB6, HB⟩
      | many e2 l =>
        obtain ⟨sv, v1, hv, hr, hl, hv1⟩ := HV.out
        subst hv
        have HF := Aside0.mk (show e2.first = e.first from HK.out.2.2)
        have HR := Aside0.mk hr
        have HL := Aside0.mk hl
        have HV1 := Aside0.mk hv1
        obtain ⟨t1, x1, rfl⟩ := hv1.iface
        have HS := Aside0.mk (show e2.sz ≤ N from by have h2 := HK.out.2.1; simp only [Er.sz] at h2; omega)
        clear hr hl hv1 HV HK c0 c1 c2
        go_wp2_with (go_at_call 22; (with_reducible refine (eUnwraps (.iface t1 x1) sv l _ HR.out HL.out rfl).mono ?_); rintro r w5 ⟨sv5, rfl, hr5, hb5⟩; obtain ⟨g5, c5, rfl, hg5a, hg5b, hc5, hcell5⟩ := row_open hr5 (by omega); have HB5 := Aside0.mk (below_step HB.out hb5); have HT5 := Aside0.mk (eas_cells HT.out hb5); have HV5 := Aside0.mk (HV1.out.below hb5); have hB6 := blk_below HB6.out hb5; have c0 := (blk_cell hB6 0).trans rfl; have c1 := (blk_cell hB6 1).trans rfl; have c2 := (blk_cell hB6 2).trans rfl; have hc0 := hcell5 0 _ rfl; clear hr5 hb5 hcell5 hg5a hg5b hc5 hB6)
        refine wp_loop_rounds 1 ?_
        rw [rounds_succ]
        have q1 := eq_true (show (0 : Int) < (l.length : Int) + 1 by omega)
        have q2 : decide ((0 : Int) < (l.length : Int) + 1) = true := decide_eq_true (by omega)
        go_wp2_with (go_at_call 49; (with_reducible refine (IH.out e2 (.iface t1 x1) _ HS.out HV5.out HT5.out.1 HT5.out.2.1 HT5.out.2.2).mono ?_); rintro r w7 ⟨W7, rfl, hb7, rfl⟩; have HB7 := Aside0.mk hb7; clear hb7)
        go_ret
        exact ⟨_, rfl, below_then HB5.out HB5.out.size HB7.out, by rw [HF.out]⟩
end
section
open Go.Extern.Stop Go.Stop Go.Extern
set_option maxHeartbeats 8000000 in
set_option maxRecDepth 100000 in
/-- errors.As for a number, over such errors. -/
theorem as_tree (e : Er) (v : Value) (t : Addr) (old : Value) (w : World) (hg : w.cell? ⟨0, 0, none⟩ = some (.iface 125 (.agg #[.pointer (some ⟨9, 27, none⟩)]))) (ht0 : w.cell? t = some old) (hf0 : w.frozen? t = false) (h : ErV w v e) :
    Calls Tryd.prog 21 #[v, .iface 91 (.pointer (some t))] w fun r w' => EasPost w t e.first r w' := by
  have h6 := @run_callFunc_extern Tryd.prog 46 _ (fun args => ReflectliteValue.unpack (args.getD 0 (.tuple #[]))) Tryd.func46 (by kernel_rfl) (by kernel_rfl) (by kernel_rfl) (by kernel_rfl)
  have h7 := @run_callFunc_extern Tryd.prog 47 _ (ReflectliteValue.methodAny (ReflectliteValue.valueError "reflectlite.Value.Type" 0) (fun t _ _ _ => ReflectliteType.toType t)) Tryd.func47 (by kernel_rfl) (by kernel_rfl) (by kernel_rfl) (by kernel_rfl)
  have h8 := @run_callFunc_extern Tryd.prog 48 _ (ReflectliteValue.method (ReflectliteValue.valueError "reflectlite.Value.IsNil" 0) ReflectliteValue.isNil) Tryd.func48 (by kernel_rfl) (by kernel_rfl) (by kernel_rfl) (by kernel_rfl)
  have h27 := @run_callFunc_extern Tryd.prog 161 _ (ReflectliteType.abiMethod fun t => do pure (.int .u8 (← Rtype.kind t))) Tryd.func161 (by kernel_rfl) (by kernel_rfl) (by kernel_rfl) (by kernel_rfl)
  have h37 := @run_callFunc_extern Tryd.prog 171 _ (ReflectliteType.method ReflectliteType.elem) Tryd.func171 (by kernel_rfl) (by kernel_rfl) (by kernel_rfl) (by kernel_rfl)
  have h38 := @run_callFunc_extern Tryd.prog 172 _ (ReflectliteType.relation "Implements" ReflectliteType.implements_) Tryd.func172 (by kernel_rfl) (by kernel_rfl) (by kernel_rfl) (by kernel_rfl)
  have f6 := asx_valueOf27
  have f7 := asx_type27
  have mK := asx_methodKind
  have mE := asx_methodElem
  have mI := asx_methodImplements
  have k27 := asx_kind27
  have k25 := asx_kind25
  have e27 := asx_elem27
  have i25 := asx_implements25
  have hb1 := below_alloc (below_alloc (Below.refl w.heap.size w) (.cells #[.pointer (some t)] 91)) (.cells #[.pointer (some ⟨9, 91, none⟩), .pointer (some ⟨w.heap.size, 0, none⟩), .int .u64 150] 95)
  have hcb : ((w.alloc (.cells #[.pointer (some t)] 91)).alloc (.cells #[.pointer (some ⟨9, 91, none⟩), .pointer (some ⟨w.heap.size, 0, none⟩), .int .u64 150] 95)).cell? ⟨w.heap.size, 0, none⟩ = some (.pointer (some t)) := (blk_cell (blk_alloc (blk_new w _) _) 0).trans rfl
  have n8 := asx_isNil27 ⟨w.heap.size, 0, none⟩ t ((w.alloc (.cells #[.pointer (some t)] 91)).alloc (.cells #[.pointer (some ⟨9, 91, none⟩), .pointer (some ⟨w.heap.size, 0, none⟩), .int .u64 150] 95)) hcb
  have hg2 := pw_cell_below hb1 hg
  have HE := Aside0.mk (eas_tree t w.heap.size old e.sz e v _ (Nat.le_refl _) (h.below hb1) hcb (pw_cell_below hb1 ht0) ((hb1.frozen (World.block_lt_of_cell? w t ht0)).trans hf0))
  have HB1 := Aside0.mk hb1
  obtain ⟨t1, x1, rfl⟩ := h.iface
  clear h hg ht0 hf0 hb1 hcb
  go_enter Tryd.func21, Tryd.ntmps21
  go_wp2_with (go_at_call 49; (with_reducible refine HE.out.mono ?_); rintro r w7 ⟨W7, rfl, hb7, rfl⟩; have HB7 := Aside0.mk (below_step HB1.out hb7); clear hb7)
  go_ret
  exact ⟨_, rfl, HB7.out, rfl⟩
end


end Go.Proofs.YtegcaniikdibdaaDoor.VFaultTexts
