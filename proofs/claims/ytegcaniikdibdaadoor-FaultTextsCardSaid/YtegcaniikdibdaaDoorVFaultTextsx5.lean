/- Contracts of functions of this seat: each call comes to what its Lean function computes; no condition beyond what each theorem states. Printed by a program of this session's own laid over the kit's printer. -/
import Derived.Test.YtegcaniikdibdaaDoorVFaultTextsx0
import Derived.Test.YtegcaniikdibdaaDoorVFaultTextsx1
import Derived.Test.YtegcaniikdibdaaDoorVFaultTextsx3
import Derived.Test.YtegcaniikdibdaaDoorVFaultTextsx4
namespace Go.Proofs.YtegcaniikdibdaaDoor.VFaultTexts
open Go.RowKit Go.Proofs.YtegcaniikdibdaaDoorW.PrintWords Go.Proofs.YtegcaniikdibdaaDoorW.PrintLast Go.Proofs.YtegcaniikdibdaaDoorW.PrintMore
attribute [local go_sem] max2_int min2_int max_two min_two max_three min_three max_four min_four   -- for this text's walks alone
set_option linter.unusedVariables false
set_option linter.unusedSimpArgs false

-- @GIVEN fault_text
/-! ### fault_text: by hand -/
def wordB (n : Int) : ByteArray := if 0 ≤ n ∧ n < 20 then ⟨(wordsL.getD n.toNat []).toArray⟩ else ⟨#[]⟩
set_option maxHeartbeats 4000000 in
set_option maxRecDepth 100000 in
theorem eWord (n : Int) (h1 : 1 ≤ n) (h2 : n ≤ 19) (w : World) (hL_ : Laid w) :
    Calls Tryd.prog 39 #[.int .i64 n] w fun r w' => r = .returned (.string (wordB n)) ∧ w' = w := by
  obtain ⟨j, rfl⟩ := Int.eq_ofNat_of_zero_le (show (0 : Int) ≤ n by omega)
  have hc := Laid.words hL_ j (by omega)
  have HW := Aside0.mk (show wordB (j : Int) = ⟨(wordsL.getD j []).toArray⟩ from by unfold wordB; rw [if_pos (by omega)]; rfl)
  obtain ⟨wb, hwb⟩ : ∃ wb : ByteArray, wb = ⟨(wordsL.getD j []).toArray⟩ := ⟨_, rfl⟩
  rw [← hwb] at hc
  have HB := Aside0.mk hwb
  have p0 := eq_true (show (0 : Int) ≤ (j : Int) by omega)
  have p1 : decide ((j : Int) < 1) = false := decide_eq_false (by omega)
  have p2 : decide (20 ≤ (j : Int)) = false := decide_eq_false (by omega)
  have p3 := eq_true (show (j : Int) < 20 by omega)
  have p4 := eq_true (show j < 20 by omega)
  have p5 : decide (j < 1) = false := decide_eq_false (by omega)
  have p6 : decide (20 ≤ j) = false := decide_eq_false (by omega)
  clear hwb hL_ h1 h2
  go_enter Tryd.func39, Tryd.ntmps39
  go_wp2
  go_ret
  exact ⟨by rw [HW.out, ← HB.out]; rfl, rfl⟩
theorem ta_manyN (v : Value) (w : World) : (Instr.typeAssert (.iface 36 v) 27 52 true).run Tryd.prog w = .ok (.tuple #[.slice none 0 0, .bool false]) w := by kernel_rfl
theorem ta_errY (v : Value) (w : World) : (Instr.typeAssert (.iface 36 v) 27 36 true).run Tryd.prog w = .ok (.tuple #[v, .bool true]) w := by kernel_rfl
set_option maxHeartbeats 4000000 in
set_option maxRecDepth 100000 in
theorem eText_num (n : Int) (h1 : 1 ≤ n) (h2 : n ≤ 19) (w : World) (hL_ : Laid w) :
    Calls Tryd.prog 44 #[eNum n] w fun r w' => r = .returned (.string (wordB n)) ∧ w' = w := by
  have HC := Aside0.mk (eWord n h1 h2 w hL_)
  have a1 := ta_faultN
  have a2 := ta_manyN
  have a3 := ta_errY
  clear h1 h2 hL_
  unfold eNum
  go_enter Tryd.func44, Tryd.ntmps44
  go_wp2_with (go_at_call 39; (with_reducible refine HC.out.mono ?_); rintro r w5 ⟨rfl, rfl⟩)
  go_ret
  exact ⟨rfl, rfl⟩
set_option maxHeartbeats 4000000 in
set_option maxRecDepth 100000 in
/-- The text of a fault, by its own. -/
theorem eText_fault (g : Nat) (s : ByteArray) (w : World) (h : Calls Tryd.prog 25 #[.pointer (some ⟨g, 0, none⟩)] w fun r w' => r = .returned (.string s) ∧ Below w.heap.size w w') :
    Calls Tryd.prog 44 #[.iface 37 (.pointer (some ⟨g, 0, none⟩))] w fun r w' => r = .returned (.string s) ∧ Below w.heap.size w w' := by
  have HC := Aside0.mk h
  have a1 := ta_faultY
  clear h
  go_enter Tryd.func44, Tryd.ntmps44
  go_wp2_with (go_at_call 25; (with_reducible refine HC.out.mono ?_); rintro r w5 ⟨rfl, hb5⟩; have HB5 := Aside0.mk hb5; clear hb5)
  go_ret
  exact ⟨rfl, HB5.out⟩
set_option maxHeartbeats 4000000 in
set_option maxRecDepth 100000 in
theorem eTextT (t : TypeId) (x : Value) (s : ByteArray) (w : World) (h : Calls Tryd.prog 44 #[.iface t x] w fun r w' => r = .returned (.string s) ∧ Below w.heap.size w w') :
    Calls Tryd.prog 17 #[.iface t x] w fun r w' => r = .returned (.string s) ∧ Below w.heap.size w w' := by
  have HC := Aside0.mk h
  clear h
  go_enter Tryd.func17, Tryd.ntmps17
  go_wp2_with (go_at_call 44; (with_reducible refine HC.out.mono ?_); rintro r w5 ⟨rfl, hb5⟩; have HB5 := Aside0.mk hb5; clear hb5)
  go_ret
  exact ⟨rfl, HB5.out⟩
theorem eTextT_nil (w : World) : Calls Tryd.prog 17 #[.nilIface] w fun r w' => r = .returned (.string ⟨#[]⟩) ∧ w' = w := by
  go_enter Tryd.func17, Tryd.ntmps17
  go_wp2
  go_ret
  exact ⟨rfl, rfl⟩


end Go.Proofs.YtegcaniikdibdaaDoor.VFaultTexts
