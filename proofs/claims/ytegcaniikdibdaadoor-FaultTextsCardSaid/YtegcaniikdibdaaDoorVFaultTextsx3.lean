/- Contracts of functions of this seat: each call comes to what its Lean function computes; no condition beyond what each theorem states. Printed by a program of this session's own laid over the kit's printer. -/
import Derived.Test.YtegcaniikdibdaaDoorVFaultTextsx0
import Derived.Test.YtegcaniikdibdaaDoorVFaultTextsx1
namespace Go.Proofs.YtegcaniikdibdaaDoor.VFaultTexts
open Go.RowKit Go.Proofs.YtegcaniikdibdaaDoorW.PrintWords Go.Proofs.YtegcaniikdibdaaDoorW.PrintLast Go.Proofs.YtegcaniikdibdaaDoorW.PrintMore
attribute [local go_sem] max2_int min2_int max_two min_two max_three min_three max_four min_four   -- for this text's walks alone
set_option linter.unusedVariables false
set_option linter.unusedSimpArgs false

-- @GIVEN fault_Is
/-! ### fault_Is: by hand -/
theorem ta_faultY (v : Value) (w : World) : (Instr.typeAssert (.iface 37 v) 27 37 true).run Tryd.prog w = .ok (.tuple #[v, .bool true]) w := by kernel_rfl
theorem ta_faultN (v : Value) (w : World) : (Instr.typeAssert (.iface 36 v) 27 37 true).run Tryd.prog w = .ok (.tuple #[.pointer none, .bool false]) w := by kernel_rfl
theorem ta_faultM (v : Value) (w : World) : (Instr.typeAssert (.iface 52 v) 27 37 true).run Tryd.prog w = .ok (.tuple #[.pointer none, .bool false]) w := by kernel_rfl
set_option maxHeartbeats 4000000 in
set_option maxRecDepth 100000 in
theorem itself_num (n : Int) (w : World) : Calls Tryd.prog 42 #[eNum n] w fun r w' => r = .returned (.pointer none) ∧ w' = w := by
  unfold eNum
  have ha := ta_faultN
  go_enter Tryd.func42, Tryd.ntmps42
  go_wp2
  go_ret
  exact ⟨rfl, rfl⟩
set_option maxHeartbeats 4000000 in
set_option maxRecDepth 100000 in
theorem itself_many (v : Value) (w : World) : Calls Tryd.prog 42 #[.iface 52 v] w fun r w' => r = .returned (.pointer none) ∧ w' = w := by
  have ha := ta_faultM
  go_enter Tryd.func42, Tryd.ntmps42
  go_wp2
  go_ret
  exact ⟨rfl, rfl⟩
set_option maxHeartbeats 4000000 in
set_option maxRecDepth 100000 in
theorem itself_fault (g : Nat) (w : World) : Calls Tryd.prog 42 #[.iface 37 (.pointer (some ⟨g, 0, none⟩))] w fun r w' => r = .returned (.pointer (some ⟨g, 0, none⟩)) ∧ w' = w := by
  have ha := ta_faultY
  go_enter Tryd.func42, Tryd.ntmps42
  go_wp2
  go_ret
  exact ⟨rfl, rfl⟩
set_option maxHeartbeats 4000000 in
set_option maxRecDepth 100000 in
theorem isF_num (g : Nat) (n : Int) (w : World) : Calls Tryd.prog 27 #[.pointer (some ⟨g, 0, none⟩), eNum n] w fun r w' => r = .returned (.bool false) ∧ Below w.heap.size w w' := by
  go_enter Tryd.func27, Tryd.ntmps27
  go_wp2_with (go_at_call 42; (with_reducible refine (itself_num n _).mono ?_); rintro e w5 ⟨rfl, rfl⟩)
  go_quiet (fail)
  go_wp2
  go_ret
  exact ⟨rfl, by first | exact Below.refl _ _ | exact pw_below_drewN (Below.refl _ _) _⟩
set_option maxHeartbeats 8000000 in
set_option maxRecDepth 100000 in
/-- Is a fault of one kind: its operation (empty: any), its place (-1: any)? -/
theorem isF_fault (g gt : Nat) (o op : ByteArray) (p pl : Int) (v1 : Value) (w : World) (hg : w.heap[g]? = some (.cells #[.string o, .int .i64 p, v1] 39 (0, 0))) (ht : w.heap[gt]? = some (.cells #[.string op, .int .i64 pl, .nilIface] 39 (0, 0))) :
    Calls Tryd.prog 27 #[.pointer (some ⟨g, 0, none⟩), .iface 37 (.pointer (some ⟨gt, 0, none⟩))] w fun r w' => r = .returned (.bool (hitF op pl o p)) ∧ Below w.heap.size w w' := by
  have g0 : w.cell? ⟨g, 0, none⟩ = some (.string o) := (blk_cell hg 0).trans rfl
  have g1 : w.cell? ⟨g, 1, none⟩ = some (.int .i64 p) := (blk_cell hg 1).trans rfl
  have t0 : w.cell? ⟨gt, 0, none⟩ = some (.string op) := (blk_cell ht 0).trans rfl
  have t1 : w.cell? ⟨gt, 1, none⟩ = some (.int .i64 pl) := (blk_cell ht 1).trans rfl
  have t2 : w.cell? ⟨gt, 2, none⟩ = some .nilIface := (blk_cell ht 2).trans rfl
  clear hg ht
  unfold hitF
  rcases Bool.eq_false_or_eq_true (op.toList == []) with a1 | a1 <;> rcases Bool.eq_false_or_eq_true (op.toList == o.toList) with a2 | a2 <;> rcases Bool.eq_false_or_eq_true (pl == -1) with a3 | a3 <;> rcases Bool.eq_false_or_eq_true (pl == p) with a4 | a4
  all_goals
    rw [a1, a2, a3, a4]
    have b1 := a1
    try rw [beq_iff_eq] at b1
    try rw [beq_eq_false_iff_ne] at b1
    go_enter Tryd.func27, Tryd.ntmps27
    go_wp2_with (go_at_call 42; (with_reducible refine (itself_fault gt _).mono ?_); rintro e w5 ⟨rfl, rfl⟩)
    go_quiet (fail)
    go_wp2
    go_ret
    exact ⟨rfl, by first | exact Below.refl _ _ | exact pw_below_drewN (Below.refl _ _) _⟩
set_option maxHeartbeats 4000000 in
set_option maxRecDepth 100000 in
theorem eUnwrap (g : Nat) (o : ByteArray) (p : Int) (v1 : Value) (w : World) (hg : w.heap[g]? = some (.cells #[.string o, .int .i64 p, v1] 39 (0, 0))) :
    Calls Tryd.prog 26 #[.pointer (some ⟨g, 0, none⟩)] w fun r w' => r = .returned v1 ∧ w' = w := by
  have g2 : w.cell? ⟨g, 2, none⟩ = some v1 := (blk_cell hg 2).trans rfl
  clear hg
  go_enter Tryd.func26, Tryd.ntmps26
  go_wp2
  go_ret
  exact ⟨rfl, rfl⟩
set_option maxHeartbeats 4000000 in
set_option maxRecDepth 100000 in
theorem eUnwraps (v sv : Value) (l : List Int) (w : World) (hr : w.ownsRow 0 27 1 sv (l.length + 1) (v :: l.map eNum)) (hl : l.length < 1000) (h1v : v.oneCell' = true) :
    Calls Tryd.prog 22 #[sv] w fun r w' => ∃ sv', r = .returned sv' ∧ w'.ownsRow w.heap.size 27 1 sv' (l.length + 1) (v :: l.map eNum) ∧ Below w.heap.size w w' := by
  obtain ⟨g, c, rfl, _, _, hc, hcell⟩ := row_open hr (by omega)
  obtain ⟨i0, hi0, he⟩ := Option.map_eq_some_iff.1 infoE
  simp only [Prod.mk.injEq] at he
  obtain ⟨hz0, hzs, hzb⟩ := he
  obtain ⟨v', w1, hrun, hown, hgr, _⟩ := run_append_own (P := Tryd.prog) w w.heap.size 49 49 27 i0 .nilIface 1 16 Tryd.underlying49 hi0 hz0 hzs hzb rfl (by decide) (.slice none 0 0) 0 [] (own_nil _ _ _ _) ⟨g, 0, none⟩ (l.length + 1) c (v :: l.map eNum) (by simp) (fun j u hu => by rw [add_plain]; exact hcell j u hu) (fun u hu => by
    rcases List.mem_cons.1 hu with rfl | hu
    · exact h1v
    · obtain ⟨x, _, rfl⟩ := List.mem_map.1 hu; rfl) (by unfold maxLen; omega) (by omega) (Nat.le_refl _)
  have hrun2 : ∀ ty, (Builtin.append_ #[49, 52] ty #[.slice none 0 0, .slice (some ⟨g, 0, none⟩) (l.length + 1) c]).run Tryd.prog w = .ok v' w1 := fun ty => by
    rw [app_ty _ _ _ _ _ Tryd.underlying49 Tryd.underlying52]; exact hrun
  have HO := Aside0.mk hown
  have HB : Aside0 (Below w.heap.size w w1) := ⟨⟨hgr.os, hgr.tape, hgr.output, hgr.size, fun i hi => hgr.block i hi (by simp [Value.ownBlock])⟩⟩
  have HR := Aside0.mk hrun2
  clear hrun hrun2 hown hgr hcell hr hi0 hz0 hzs hzb
  go_enter Tryd.func22, Tryd.ntmps22
  go_wp2_with (at_builtin; refine Lib.wpList_append_run _ rfl _ _ _ _ rfl _ _ rfl rfl _ _ (HR.out _) ?_)
  go_ret
  refine ⟨_, rfl, ?_, HB.out⟩
  simpa using HO.out
section
open Go.Extern.Stop Go.Stop Go.Extern
theorem isY2 (v : Value) (w : World) : (Instr.typeAssert (.iface 37 v) 27 129 true).run Tryd.prog w = .ok (.tuple #[.iface 37 v, .bool true]) w := run_typeAssert_hasB Tryd.underlying129 (by kernel_rfl) v 27 w
theorem isM2 (a : Value) (w : World) : (Instr.typeAssert (.iface 52 a) 27 129 true).run Tryd.prog w = .ok (.tuple #[.nilIface, .bool false]) w := run_typeAssert_lacksB Tryd.underlying129 (by kernel_rfl) (by kernel_rfl) a 27 w
theorem isM3 (v : Value) (w : World) : (Instr.typeAssert (.iface 52 v) 27 130 true).run Tryd.prog w = .ok (.tuple #[.iface 52 v, .bool true]) w := run_typeAssert_hasB Tryd.underlying130 (by kernel_rfl) v 27 w
theorem mUn (v : Value) (w : World) : (Go.method 343 37 v "Unwrap").run Tryd.prog w = .ok (26, v) w := by kernel_rfl
theorem mUns (v : Value) (w : World) : (Go.method 343 52 v "Unwrap").run Tryd.prog w = .ok (22, v) w := by kernel_rfl
end


end Go.Proofs.YtegcaniikdibdaaDoor.VFaultTexts
