/- Contracts of functions of this seat: each call comes to what its Lean function computes; no condition beyond what each theorem states. Printed by a program of this session's own laid over the kit's printer. -/
import Derived.Test.YtngokgliagkohaaDoorVBitsApartx0
import Derived.Test.YtngokgliagkohaaDoorVBitsApartx1
import Derived.Test.YtngokgliagkohaaDoorVBitsApartx5
import Derived.Test.YtngokgliagkohaaDoorVBitsApartx9
import Derived.Test.YtngokgliagkohaaDoorVBitsApartx10
namespace Go.Proofs.YtngokgliagkohaaDoor.VBitsApart
open Go.RowKit Go.Proofs.YtngokgliagkohaaDoorW.PrintWords Go.Proofs.YtngokgliagkohaaDoorW.PrintLast Go.Proofs.YtngokgliagkohaaDoorW.PrintMore
attribute [local go_sem] max2_int min2_int max_two min_two max_three min_three max_four min_four   -- for this text's walks alone
set_option linter.unusedVariables false
set_option linter.unusedSimpArgs false

-- @GIVEN posthorselaw07_BitsApart
/-! ### posthorselaw07_BitsApart: by hand -/
def posthorselaw07_BitsApart.f (k : Nat) (a0 a1 a2 : Int) : Option Bool := posthorselaw07_speaks.f k
theorem apart_n (a : Int) : ∃ n : Nat, wrap64 (2 + Go.bits .and .i64 a 63) = (n : Int) ∧ 2 ≤ n ∧ n ≤ 65 := by
  have := andm_ a 63 (by decide) 6 (by decide)
  rw [show Go.bits .and .i64 a 63 = a % 64 from this]
  refine ⟨(2 + a % 64).toNat, ?_, by omega, by omega⟩
  unfold wrap64; omega
set_option maxHeartbeats 8000000 in
set_option maxRecDepth 100000 in
theorem posthorselaw07_BitsApart.calls (k : Nat) (a0 a1 a2 : Int) (r : Bool) (w : World) (hL_ : Laid w) (h : posthorselaw07_BitsApart.f k a0 a1 a2 = some r) :
    Calls Tryd.prog 3 #[.int .i64 a0, .int .i64 a1, .int .i64 a2] w fun e w' => e = .returned (.bool r) ∧ Below w.heap.size w w' := by
  have HL_ := Aside0.mk hL_
  clear hL_
  unfold posthorselaw07_BitsApart.f at h
  have hr : r = true := by
    unfold posthorselaw07_speaks.f at h
    obtain ⟨p, _, h⟩ := Option.bind_eq_some_iff.mp h
    split at h
    · exact (Option.some.inj h).symm
    · cases h
  subst hr
  have HP := Aside0.mk h
  clear h
  obtain ⟨n, en, hn0, hn1⟩ := apart_n a0
  obtain ⟨a, ea, ha⟩ := into_ a1 n (by omega) (by omega)
  obtain ⟨b, eb, hb⟩ := into_ a2 n (by omega) (by omega)
  have z0 : ((n : Int) == 0) = false := beq_eq_false_iff_ne.2 (by omega)
  have z1 := eq_false (show ¬ (n : Int) = 0 by omega)
  have z2 := eq_false (show ¬ n = 0 by omega)
  have hrl : (List.replicate n false).length = n := List.length_replicate
  have T1 := Aside0.mk (turnE_one (List.replicate n false) a true 9 (by omega) (getD_rep _ _))
  have T1L := Aside0.mk (turnL_one (List.replicate n false) a true 9 (by omega) (getD_rep _ _))
  have C1 := Aside0.mk (count_one (List.replicate n false) a true (by omega) (getD_rep _ _))
  rw [List.count_replicate_self] at C1
  have hl1 : ((List.replicate n false).set a true).length = n := by rw [List.length_set, hrl]
  have GA := Aside0.mk (fun j => getD_set_ (List.replicate n false) a j true (by omega))
  have HN := Aside0.mk (And.intro hn0 hn1)
  generalize (List.replicate n false).set a true = l1 at *
  by_cases hab : a = b
  · subst hab
    have hg : l1.getD a false = true := by rw [GA.out, if_pos rfl]
    have T2 := Aside0.mk (turnE_one l1 a false 8 (by omega) hg)
    have T2L := Aside0.mk (turnL_one l1 a false 8 (by omega) hg)
    have C2 := Aside0.mk (count_one l1 a false (by omega) hg)
    have H3 := Aside0.mk (has_eq (l1.set a false) a false (by rw [getD_set_ _ _ _ _ (by omega), if_pos rfl]))
    generalize l1.set a false = l2 at *
    have HG := Aside0.mk hg
    have H1 := Aside0.mk (has_eq l1 a true HG.out)
    have e1 : ((l1.count false : Nat) : Int) = (n : Int) - 1 := by have := C1.out; simp only [if_true] at this; omega
    have e1' : wrap64 ((n : Int) - 1) = (n : Int) - 1 := by unfold wrap64; omega
    have e2 : ((l2.count false : Nat) : Int) = (n : Int) := by have := C1.out; have := C2.out; simp only [if_true, Bool.false_eq_true, if_false] at *; omega
    have e2' : l2.count false = n := by omega
    have f1 : ((a : Int) != (a : Int)) = false := by simp
    have f2 : ((a : Int) == (a : Int)) = true := by simp
    clear hg C1 C2 hl1 hrl
    go_enter Tryd.func3, Tryd.ntmps3
    go_wp2_with (go_at_call 11; (with_reducible refine (posthorselaw07_speaks.calls k true _ HL_.out HP.out).mono ?_); rintro e w1 ⟨rfl, hb1⟩; have HB1 := Aside0.mk hb1; clear hb1)
    go_region
    go_wp2_with (first
      | (go_at_call 12; (with_reducible refine (setNew _ _ (show (1 : Int) ≤ (n : Int) by have := HN.out; omega) (show (n : Int) ≤ 4000 by have := HN.out; omega)).mono ?_); rintro e w2 ⟨g, tb, rfl, hs2, hb2⟩; have HS2 := Aside0.mk (show SetIs w.heap.size g tb n [] (List.replicate n false) w2 from SetIs.lower hs2 HB1.out.drew.size); have HB2 := Aside0.mk (below_step HB1.out.drew hb2); clear hs2 hb2)
      | (go_at_call 13; (with_reducible refine (setTake (a : Int) 1 _ HS2.out).mono ?_); rintro e w3 ⟨rfl, hs3, hb3, _⟩; rw [T1L.out] at hs3; have HS3 := Aside0.mk hs3; have HB3 := Aside0.mk (HB2.out.trans hb3); simp only [T1.out, errW_none]; clear hs3 hb3 HS2)
      | (go_at_call 14; (with_reducible refine (setCopy _ HS3.out).mono ?_); rintro e w4 ⟨g', tb', c', rest', rfl, hs4, hb4⟩; have HS4 := Aside0.mk hs4; have HB4 := Aside0.mk hb4; clear hs4 hb4)
      | (go_at_call 15; (with_reducible refine (setGive (a : Int) 1 _ HS4.out).mono ?_); rintro e w5 ⟨rfl, hs5, hb5, _⟩; rw [T2L.out] at hs5; have HC5 := Aside0.mk hs5; have HS5 := Aside0.mk (SetIs.below HS3.out (HB4.out.trans hb5)); have HB5 := Aside0.mk (below_step HB3.out (HB4.out.trans hb5)); simp only [T2.out, errW_none]; clear hs5 hb5 HS3 HS4)
      | (go_at_call 16; (with_reducible refine (setSize _ HS5.out).mono ?_); rintro e w6 ⟨rfl, hb6, _⟩; have HS6 := Aside0.mk (HS5.out.below hb6); have HC6 := Aside0.mk (HC5.out.below hb6); have HB6 := Aside0.mk (below_step HB5.out hb6); clear hb6 HS5 HC5)
      | (go_at_call 16; (with_reducible refine (setSize _ HC6.out).mono ?_); rintro e w7 ⟨rfl, hb7, _⟩; have HS7 := Aside0.mk (HS6.out.below hb7); have HC7 := Aside0.mk (HC6.out.below hb7); have HB7 := Aside0.mk (below_step HB6.out hb7); clear hb7 HS6 HC6)
      | (go_at_call 17; (with_reducible refine (setHas (a : Int) _ HS7.out).mono ?_); rintro e w8 ⟨rfl, rfl⟩; simp only [H1.out])
      | (go_at_call 17; (with_reducible refine (setHas (a : Int) _ HC7.out).mono ?_); rintro e w8 ⟨rfl, rfl⟩; simp only [H3.out]))
    go_ret
    exact ⟨by first | rfl | simp, HB7.out⟩
  · have hg : l1.getD a false = true := by rw [GA.out, if_pos rfl]
    have hgb : l1.getD b false = false := by rw [GA.out, if_neg hab]; exact getD_rep _ _
    have T2 := Aside0.mk (turnE_one l1 b true 9 (by omega) hgb)
    have T2L := Aside0.mk (turnL_one l1 b true 9 (by omega) hgb)
    have C2 := Aside0.mk (count_one l1 b true (by omega) hgb)
    have H2 := Aside0.mk (has_eq l1 b false hgb)
    have H3 := Aside0.mk (has_eq (l1.set b true) b true (by rw [getD_set_ _ _ _ _ (by omega), if_pos rfl]))
    generalize l1.set b true = l2 at *
    have HG := Aside0.mk hg
    have H1 := Aside0.mk (has_eq l1 a true HG.out)
    have e1 : ((l1.count false : Nat) : Int) = (n : Int) - 1 := by have := C1.out; simp only [if_true] at this; omega
    have e1' : wrap64 ((n : Int) - 1) = (n : Int) - 1 := by unfold wrap64; omega
    have e2 : ((l2.count false : Nat) : Int) = (n : Int) - 2 := by have := C1.out; have := C2.out; simp only [if_true] at *; omega
    have e2' : wrap64 ((n : Int) - 2) = (n : Int) - 2 := by unfold wrap64; omega
    have f1 : ((a : Int) != (b : Int)) = true := bne_iff_ne.2 (by omega)
    have f2 : ((a : Int) == (b : Int)) = false := beq_eq_false_iff_ne.2 (by omega)
    have f3 := eq_false hab
    have f4 := eq_false (show ¬ (a : Int) = (b : Int) by omega)
    clear hg hgb C1 C2 hl1 hrl hab
    go_enter Tryd.func3, Tryd.ntmps3
    go_wp2_with (go_at_call 11; (with_reducible refine (posthorselaw07_speaks.calls k true _ HL_.out HP.out).mono ?_); rintro e w1 ⟨rfl, hb1⟩; have HB1 := Aside0.mk hb1; clear hb1)
    go_region
    go_wp2_with (first
      | (go_at_call 12; (with_reducible refine (setNew _ _ (show (1 : Int) ≤ (n : Int) by have := HN.out; omega) (show (n : Int) ≤ 4000 by have := HN.out; omega)).mono ?_); rintro e w2 ⟨g, tb, rfl, hs2, hb2⟩; have HS2 := Aside0.mk (show SetIs w.heap.size g tb n [] (List.replicate n false) w2 from SetIs.lower hs2 HB1.out.drew.size); have HB2 := Aside0.mk (below_step HB1.out.drew hb2); clear hs2 hb2)
      | (go_at_call 13; (with_reducible refine (setTake (a : Int) 1 _ HS2.out).mono ?_); rintro e w3 ⟨rfl, hs3, hb3, _⟩; rw [T1L.out] at hs3; have HS3 := Aside0.mk hs3; have HB3 := Aside0.mk (HB2.out.trans hb3); simp only [T1.out, errW_none]; clear hs3 hb3 HS2)
      | (go_at_call 14; (with_reducible refine (setCopy _ HS3.out).mono ?_); rintro e w4 ⟨g', tb', c', rest', rfl, hs4, hb4⟩; have HS4 := Aside0.mk hs4; have HB4 := Aside0.mk hb4; clear hs4 hb4)
      | (go_at_call 13; (with_reducible refine (setTake (b : Int) 1 _ HS4.out).mono ?_); rintro e w5 ⟨rfl, hs5, hb5, _⟩; rw [T2L.out] at hs5; have HC5 := Aside0.mk hs5; have HS5 := Aside0.mk (SetIs.below HS3.out (HB4.out.trans hb5)); have HB5 := Aside0.mk (below_step HB3.out (HB4.out.trans hb5)); simp only [T2.out, errW_none]; clear hs5 hb5 HS3 HS4)
      | (go_at_call 16; (with_reducible refine (setSize _ HS5.out).mono ?_); rintro e w6 ⟨rfl, hb6, _⟩; have HS6 := Aside0.mk (HS5.out.below hb6); have HC6 := Aside0.mk (HC5.out.below hb6); have HB6 := Aside0.mk (below_step HB5.out hb6); clear hb6 HS5 HC5)
      | (go_at_call 16; (with_reducible refine (setSize _ HC6.out).mono ?_); rintro e w7 ⟨rfl, hb7, _⟩; have HS7 := Aside0.mk (HS6.out.below hb7); have HC7 := Aside0.mk (HC6.out.below hb7); have HB7 := Aside0.mk (below_step HB6.out hb7); clear hb7 HS6 HC6)
      | (go_at_call 17; (with_reducible refine (setHas (a : Int) _ HS7.out).mono ?_); rintro e w8 ⟨rfl, rfl⟩; simp only [H1.out])
      | (go_at_call 17; (with_reducible refine (setHas (b : Int) _ HS7.out).mono ?_); rintro e w8 ⟨rfl, rfl⟩; simp only [H2.out])
      | (go_at_call 17; (with_reducible refine (setHas (b : Int) _ HC7.out).mono ?_); rintro e w8 ⟨rfl, rfl⟩; simp only [H3.out]))
    go_ret
    exact ⟨by first | rfl | simp, HB7.out⟩


end Go.Proofs.YtngokgliagkohaaDoor.VBitsApart
