/- Contracts of functions of this seat: each call comes to what its Lean function computes; no condition beyond what each theorem states. Printed by a program of this session's own laid over the kit's printer. -/
import Derived.Test.YtegcaniikdibdaaDoorVFaultTextsx0
import Derived.Test.YtegcaniikdibdaaDoorVFaultTextsx1
import Derived.Test.YtegcaniikdibdaaDoorVFaultTextsx4
import Derived.Test.YtegcaniikdibdaaDoorVFaultTextsx9
namespace Go.Proofs.YtegcaniikdibdaaDoor.VFaultTexts
open Go.RowKit Go.Proofs.YtegcaniikdibdaaDoorW.PrintWords Go.Proofs.YtegcaniikdibdaaDoorW.PrintLast Go.Proofs.YtegcaniikdibdaaDoorW.PrintMore
attribute [local go_sem] max2_int min2_int max_two min_two max_three min_three max_four min_four   -- for this text's walks alone
set_option linter.unusedVariables false
set_option linter.unusedSimpArgs false

-- @GIVEN lib_number
set_option maxHeartbeats 4000000 in
set_option maxRecDepth 100000 in
/-- The number of such an error. -/
theorem eNumber (e : Er) (v : Value) (w : World) (hL_ : Laid w) (h : ErV w v e) :
    Calls Tryd.prog 19 #[v] w fun r w' => r = .returned (.int .i64 e.first) ∧ Below w.heap.size w w' := by
  have hb := below_alloc (Below.refl w.heap.size w) (.cells #[.int .i64 0] 36)
  have HE := Aside0.mk (as_tree e v ⟨w.heap.size, 0, none⟩ (.int .i64 0) _ (Laid.errorType (Laid.below hL_ hb)) ((blk_cell (blk_new w _) 0).trans rfl) (blk_frozen (blk_new w _) 0) (h.below hb))
  have HB := Aside0.mk hb
  have HN := Aside0.mk (blk_new w (.cells #[.int .i64 0] 36))
  obtain ⟨t1, x1, rfl⟩ := h.iface
  clear h hb hL_
  go_enter Tryd.func19, Tryd.ntmps19
  go_wp2_with (go_at_call 21; (with_reducible refine HE.out.mono ?_); rintro r w7 ⟨W7, rfl, hb7, rfl⟩; have hn7 := blk_below HN.out hb7; have hq7 := (blk_cell (blk_set hn7 0 (.int .i64 e.first)) 0).trans rfl; have HB7 := Aside0.mk ((below_step HB.out hb7).setCell (p := ⟨w.heap.size, 0, none⟩) (Nat.le_refl _) (.int .i64 e.first)); clear hb7 hn7)
  go_ret
  exact ⟨rfl, HB7.out⟩


end Go.Proofs.YtegcaniikdibdaaDoor.VFaultTexts
