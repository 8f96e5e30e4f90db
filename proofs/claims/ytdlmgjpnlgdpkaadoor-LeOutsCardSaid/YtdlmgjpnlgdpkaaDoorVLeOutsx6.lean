/- Contracts of functions of this seat: each call comes to what its Lean function computes; no condition beyond what each theorem states. Printed by a program of this session's own laid over the kit's printer. -/
import Derived.Test.YtdlmgjpnlgdpkaaDoorVLeOutsx0
import Derived.Test.YtdlmgjpnlgdpkaaDoorVLeOutsx1
import Derived.Test.YtdlmgjpnlgdpkaaDoorVLeOutsx4
import Derived.Test.YtdlmgjpnlgdpkaaDoorVLeOutsx5
namespace Go.Proofs.YtdlmgjpnlgdpkaaDoor.VLeOuts
open Go.RowKit Go.Proofs.YtdlmgjpnlgdpkaaDoorW.PrintWords Go.Proofs.YtdlmgjpnlgdpkaaDoorW.PrintLast Go.Proofs.YtdlmgjpnlgdpkaaDoorW.PrintMore
attribute [local go_sem] max2_int min2_int max_two min_two max_three min_three max_four min_four   -- for this text's walks alone
set_option linter.unusedVariables false
set_option linter.unusedSimpArgs false

-- @GIVEN posthorselaw01_speaks
/-! ### posthorselaw01_speaks: by hand -/
def posthorselaw01_speaks.f : Option Bool := some true
set_option maxHeartbeats 8000000 in
set_option maxRecDepth 100000 in
theorem posthorselaw01_speaks.calls (r : Bool) (w : World) (h : posthorselaw01_speaks.f = some r) :
    Calls Tryd.prog 20 #[] w fun e w' => e = .returned (.bool r) ∧ Below w.heap.size w w' := by
  obtain rfl : true = r := Option.some.inj h
  clear h
  have HB := Aside0.mk (Below.refl w.heap.size w)
  have E1 := Aside0.mk (show le_Put.f 9 258 3 = some ⟨#[2, 1, 0]⟩ by kernel_rfl)
  have E2 := Aside0.mk (show le_In_Num.f 9 ⟨#[2, 1, 0, 97, 0]⟩ none 3 = some (258, ⟨#[97, 0]⟩, none) by kernel_rfl)
  have E3 := Aside0.mk (show le_In_Text.f ⟨#[97, 0]⟩ none 2 = some (⟨#[97, 0]⟩, ⟨#[]⟩, none) by kernel_rfl)
  have E4 := Aside0.mk (show le_In_End.f ⟨#[]⟩ none = some (none, ⟨#[]⟩, none) by kernel_rfl)
  have E5 := Aside0.mk (show le_Put.f 9 5 1 = some ⟨#[5]⟩ by kernel_rfl)
  go_enter Tryd.func20, Tryd.ntmps20
  go_wp2_with (first
    | (go_at_call 22; refine (oNum 9 w.heap.size w.heap.size ⟨#[]⟩ false 258 3 ⟨#[2, 1, 0]⟩ _ (OutIs.new (heap_alloc_new w _) (Nat.le_refl _)) (below_alloc HB.out _).size E1.out (by decide)).mono ?_; rintro e w1 ⟨rfl, ho1, hb1, hk1⟩; have HO1 := Aside0.mk (OutIs.as ho1 (acc' := ⟨#[2, 1, 0]⟩) (long' := false) (by kernel_rfl) (by kernel_rfl)); have HB1 := Aside0.mk ((below_alloc HB.out _).trans hb1); clear ho1 hb1 hk1)
    | (go_at_call 21; refine (oText w.heap.size w.heap.size ⟨#[2, 1, 0]⟩ false ⟨#[97]⟩ 2 _ HO1.out HB1.out.size (by decide) (by decide)).mono ?_; rintro e w2 ⟨rfl, ho2, hb2, hk2⟩; have HO2 := Aside0.mk (OutIs.as ho2 (acc' := ⟨#[2, 1, 0, 97, 0]⟩) (long' := false) (by kernel_rfl) (by kernel_rfl)); have HB2 := Aside0.mk (HB1.out.trans hb2); clear ho2 hb2 hk2)
    | (go_at_call 24; refine (oString w.heap.size w.heap.size ⟨#[2, 1, 0, 97, 0]⟩ false _ HO2.out).mono ?_; rintro e w3 ⟨rfl, hb3⟩; have HB3 := Aside0.mk (HB2.out.trans hb3); clear hb3; simp only [outString, Bool.false_eq_true, if_false, errW_none])
    | (go_at_call 26; refine (le_Read.calls ⟨#[2, 1, 0, 97, 0]⟩ ⟨#[2, 1, 0, 97, 0]⟩ none w _ HB3.out rfl).mono ?_; rintro e w4 ⟨g4, rfl, hi4, hb4, _⟩; have HI4 := Aside0.mk hi4; have HB4 := Aside0.mk hb4; clear hi4 hb4)
    | (go_at_call 28; refine (le_In_Num.calls 9 g4 ⟨#[2, 1, 0, 97, 0]⟩ none 3 258 ⟨#[97, 0]⟩ none w _ HI4.out HB4.out E2.out).mono ?_; rintro e w5 ⟨rfl, hi5, hb5, _⟩; have HI5 := Aside0.mk hi5; have HB5 := Aside0.mk hb5; clear hi5 hb5)
    | (go_at_call 27; refine (le_In_Text.calls g4 ⟨#[97, 0]⟩ none 2 ⟨#[97, 0]⟩ ⟨#[]⟩ none w _ HI5.out HB5.out E3.out).mono ?_; rintro e w6 ⟨rfl, hi6, hb6, _⟩; have HI6 := Aside0.mk hi6; have HB6 := Aside0.mk hb6; clear hi6 hb6)
    | (go_at_call 29; refine (le_In_End.calls g4 ⟨#[]⟩ none none ⟨#[]⟩ none w _ HI6.out HB6.out E4.out).mono ?_; rintro e w7 ⟨rfl, hi7, hb7, _⟩; have HB7 := Aside0.mk hb7; clear hi7 hb7; simp only [errW_none])
    | (go_at_call 39; refine (le_Put.calls 9 5 1 ⟨#[5]⟩ _ E5.out).mono ?_; rintro e w8 ⟨rfl, hb8⟩; have HB8 := Aside0.mk (below_step HB7.out hb8); clear hb8))
  go_ret
  exact ⟨rfl, HB8.out⟩


end Go.Proofs.YtdlmgjpnlgdpkaaDoor.VLeOuts
