/- Contracts of functions of this seat: each call comes to what its Lean function computes; no condition beyond what each theorem states. Printed by a program of this session's own laid over the kit's printer. -/
import Derived.Test.YtegcaniikdibdaaDoorVFaultTextsx0
import Derived.Test.YtegcaniikdibdaaDoorVFaultTextsx1
import Derived.Test.YtegcaniikdibdaaDoorVFaultTextsx2
import Derived.Test.YtegcaniikdibdaaDoorVFaultTextsx4
import Derived.Test.YtegcaniikdibdaaDoorVFaultTextsx5
import Derived.Test.YtegcaniikdibdaaDoorVFaultTextsx7
import Derived.Test.YtegcaniikdibdaaDoorVFaultTextsx10
import Derived.Test.YtegcaniikdibdaaDoorVFaultTextsx11
namespace Go.Proofs.YtegcaniikdibdaaDoor.VFaultTexts
open Go.RowKit Go.Proofs.YtegcaniikdibdaaDoorW.PrintWords Go.Proofs.YtegcaniikdibdaaDoorW.PrintLast Go.Proofs.YtegcaniikdibdaaDoorW.PrintMore
attribute [local go_sem] max2_int min2_int max_two min_two max_three min_three max_four min_four   -- for this text's walks alone
set_option linter.unusedVariables false
set_option linter.unusedSimpArgs false

-- @GIVEN posthorselaw02_speaks
/-! ### posthorselaw02_speaks: by hand -/
def posthorselaw02_speaks.f : Option Bool := some true
set_option maxHeartbeats 8000000 in
set_option maxRecDepth 100000 in
theorem posthorselaw02_speaks.calls (r : Bool) (w : World) (hL_ : Laid w) (h : posthorselaw02_speaks.f = some r) : Calls Tryd.prog 10 #[] w fun e w' => e = .returned (.bool r) ∧ Below w.heap.size w w' := by
  obtain rfl := Option.some.inj h
  have HL_ := Aside0.mk hL_
  clear h hL_
  have HB := Aside0.mk (Below.refl w.heap.size w)
  have T1 := Aside0.mk (show (((((⟨#[114, 101, 97, 100]⟩ : ByteArray) ++ (⟨#[32]⟩ : ByteArray)) ++ (⟨(Lib.decDigits 5).toArray⟩ : ByteArray)) ++ (⟨#[58, 32]⟩ : ByteArray)) ++ wordB 5) = ⟨#[114, 101, 97, 100, 32, 53, 58, 32, 115, 117, 109]⟩ from by decide +kernel)
  have HTE := Aside0.mk (fun (g : Nat) (W : World) (hg : W.heap[g]? = some (.cells #[.string (⟨#[114, 101, 97, 100]⟩ : ByteArray), .int .i64 5, .iface 36 (.int .i64 5)] 39 (0, 0))) (hL : Laid W) => eTextT 37 (.pointer (some ⟨g, 0, none⟩)) _ W (eText_fault g _ W (fError g (⟨#[114, 101, 97, 100]⟩ : ByteArray) (⟨(Lib.decDigits 5).toArray⟩ : ByteArray) (wordB 5) 5 _ W hg (by decide +kernel) (fun W1 h1 => (Tryd.strconv_Itoa_small 5 (by decide) W1).mono (by rintro r w' ⟨rfl, rfl⟩; exact ⟨rfl, Below.refl _ _⟩)) (fun W1 h1 => (eText_num 5 (by decide) (by decide) W1 (Laid.below hL h1)).mono (by rintro r w' ⟨rfl, rfl⟩; exact ⟨rfl, Below.refl _ _⟩)))))
  have T2 := Aside0.mk (show (Er.wrap (⟨#[114, 101, 97, 100]⟩ : ByteArray) 5 (.num 5)).hasNum 5 = true from rfl)
  have T3 := Aside0.mk (show (Er.wrap (⟨#[114, 101, 97, 100]⟩ : ByteArray) 5 (.num 5)).hasF (⟨#[114, 101, 97, 100]⟩ : ByteArray) (-1) = true from by decide +kernel)
  have T4 := Aside0.mk (show wordB 2 = ⟨#[113, 117, 101, 117, 101]⟩ from by decide +kernel)
  go_enter Tryd.func10, Tryd.ntmps10
  go_wp2_with (first
    | (go_at_call 24; (with_reducible refine (eWrap (⟨#[114, 101, 97, 100]⟩ : ByteArray) 5 (.num 5) (.iface 36 (.int .i64 5)) _ (ErV.mkN 5 _)).mono ?_); rintro r w1 ⟨v1, rfl, hv1, hb1⟩; obtain ⟨g, u, rfl, hg, hu⟩ := hv1; have hu2 : u = Value.iface 36 (.int .i64 5) := hu; subst hu2; have HG := Aside0.mk hg; have HB1 := Aside0.mk hb1; clear hg hu hb1)
    | (go_at_call 17; (with_reducible refine (HTE.out g _ HG.out (Laid.below HL_.out HB1.out)).mono ?_); rintro r w2 ⟨rfl, hb2⟩; rw [T1.out]; have HG2 := Aside0.mk (blk_below HG.out hb2); have HB2 := Aside0.mk (below_step HB1.out hb2); clear hb2)
    | (go_at_call 13; (with_reducible refine (eIsN 5 (.wrap (⟨#[114, 101, 97, 100]⟩ : ByteArray) 5 (.num 5)) _ _ (ErV.mkW HG2.out (ErV.mkN 5 _))).mono ?_); rintro r w3 ⟨rfl, hb3⟩; rw [T2.out]; have HG3 := Aside0.mk (blk_below HG2.out hb3); have HB3 := Aside0.mk (below_step HB2.out hb3); clear hb3)
    | (go_at_call 13; (with_reducible refine (eIsF _ (⟨#[114, 101, 97, 100]⟩ : ByteArray) (-1) (.wrap (⟨#[114, 101, 97, 100]⟩ : ByteArray) 5 (.num 5)) _ _ (ErV.mkW (blk_alloc HG3.out _) (ErV.mkN 5 _)) (blk_new _ _)).mono ?_); rintro r w4 ⟨rfl, hb4⟩; rw [T3.out]; have HG4 := Aside0.mk (blk_below (blk_alloc HG3.out (.cells #[.string ⟨#[114, 101, 97, 100]⟩, .int .i64 (-1), .nilIface] 39)) hb4); have HB4 := Aside0.mk (below_step (below_alloc HB3.out (.cells #[.string ⟨#[114, 101, 97, 100]⟩, .int .i64 (-1), .nilIface] 39)) hb4); clear hb4)
    | (go_at_call 19; (with_reducible refine (eNumber (.wrap (⟨#[114, 101, 97, 100]⟩ : ByteArray) 5 (.num 5)) _ _ (Laid.below HL_.out HB4.out) (ErV.mkW HG4.out (ErV.mkN 5 _))).mono ?_); rintro r w5 ⟨rfl, hb5⟩; have HB5 := Aside0.mk (below_step HB4.out hb5); clear hb5)
    | (go_at_call 39; (with_reducible refine (eWord 2 (by decide) (by decide) _ (Laid.below HL_.out HB5.out)).mono ?_); rintro r w6 ⟨rfl, rfl⟩; rw [T4.out]))
  go_ret
  exact ⟨by first | rfl | simp, HB5.out⟩


end Go.Proofs.YtegcaniikdibdaaDoor.VFaultTexts
