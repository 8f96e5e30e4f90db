/- Contracts of functions of this seat: each call comes to what its Lean function computes; no condition beyond what each theorem states. Printed by a program of this session's own laid over the kit's printer. -/
import Derived.Test.YtegcaniikdibdaaDoorVPageApartx0
import Derived.Test.YtegcaniikdibdaaDoorVPageApartx3
namespace Go.Proofs.YtegcaniikdibdaaDoor.VPageApart
open Go.RowKit Go.Proofs.YtegcaniikdibdaaDoorW.PrintWords Go.Proofs.YtegcaniikdibdaaDoorW.PrintLast Go.Proofs.YtegcaniikdibdaaDoorW.PrintMore
attribute [local go_sem] max2_int min2_int max_two min_two max_three min_three max_four min_four   -- for this text's walks alone
set_option linter.unusedSimpArgs false
set_option linter.unusedVariables false
/-! ### le_In_Noughts: function 71 -/
def le_In_Noughts.f (s0_0 : ByteArray) (s0_1 : Option Int) (a1 : Int) : Option (ByteArray × Option Int) := (le_In_Text.f s0_0 s0_1 a1).bind fun bt148 => ((strings_Trim.f bt148.1 (⟨#[0]⟩ : ByteArray)).bind fun t151 => (if t151.toList = ([] : List UInt8) then (some (bt148.2.1, bt148.2.2)) else ((le_In_fail.f bt148.2.1 bt148.2.2 4).bind fun bt152 => (some (bt152.1, bt152.2)))))
set_option maxHeartbeats 8000000 in
set_option maxRecDepth 100000 in
theorem le_In_Noughts.calls (g : Nat) (s0_0 : ByteArray) (s0_1 : Option Int) (a1 : Int) (r1 : ByteArray) (r2 : Option Int) (w0 w : World) (hI : IsS163 w0 w g s0_0 s0_1) (hB : Below w0.heap.size w0 w) (h : le_In_Noughts.f s0_0 s0_1 a1 = some (r1, r2)) :
  Calls Tryd.prog 71 #[.pointer (some ⟨g, 0, none⟩), .int .i64 a1] w fun e w' => e = .returned (.tuple #[]) ∧ IsS163 w0 w' g r1 r2 ∧ Below w0.heap.size w0 w' ∧ KeepBut w w' g none := by
 have HI0 := Aside0.mk hI; have HK := Aside0.mk (KeepBut.refl w g none); have HL := Aside0.mk hB.size; clear hI; have HW0 := Aside0.mk hB.size; have HB := Aside0.mk hB; clear hB; have H : ((le_In_Text.f s0_0 s0_1 a1).bind fun bt148 => ((strings_Trim.f bt148.1 (⟨#[0]⟩ : ByteArray)).bind fun t151 => (if t151.toList = ([] : List UInt8) then (some (bt148.2.1, bt148.2.2)) else ((le_In_fail.f bt148.2.1 bt148.2.2 4).bind fun bt152 => (some (bt152.1, bt152.2)))))) = some (r1, r2) := h; clear h; replace H := Option.bind_eq_some_iff.mp H; obtain ⟨⟨t148, t149, t150⟩, A30, H⟩ := H; replace H : ((strings_Trim.f t148 (⟨#[0]⟩ : ByteArray)).bind fun t151 => (if t151.toList = ([] : List UInt8) then (some (t149, t150)) else ((le_In_fail.f t149 t150 4).bind fun bt152 => (some (bt152.1, bt152.2))))) = some (r1, r2) := H; have A3 := Aside0.mk A30; clear A30; replace H := Option.bind_eq_some_iff.mp H; obtain ⟨t151, A40, H⟩ := H; replace H : (if t151.toList = ([] : List UInt8) then (some (t149, t150)) else ((le_In_fail.f t149 t150 4).bind fun bt152 => (some (bt152.1, bt152.2)))) = some (r1, r2) := H; have A4 := Aside0.mk A40; clear A40
 by_cases c5 : t151.toList = ([] : List UInt8)
 ·rw [if_pos c5] at H; have c5b0 : (t151.toList == ([] : List UInt8)) = true := beq_iff_eq.mpr c5; have c5b1 : (t151.toList != ([] : List UInt8)) = false := bne_eq_false_iff_eq.mpr c5; clear c5; simp only [Option.some.injEq, Prod.mk.injEq] at H; obtain ⟨rfl, rfl⟩ := H; go_enter Tryd.func71, Tryd.ntmps71
  go_wp2_with (first | ((with_reducible refine gate_callee (f := 95) rfl ?_); refine goesL_ (some 6) rfl rfl Tryd.func95 (by kernel_rfl) rfl #[.pointer (some ⟨g, 0, none⟩), .int .i64 a1] rfl z15 ?_; (with_reducible refine (le_In_Text.calls g s0_0 s0_1 a1 t148 t149 t150 w0 _ ?side1 ?side2 A3.out).mono ?_); (case side1 => exact z22); (case side2 => exact z40); rintro e w6 ⟨rfl, hi, hb, hk⟩; refine ⟨_, rfl, ?_⟩; have n0_ := Aside0.mk (KeepBut.trans z20 hk (.inl rfl)); have n1_ := Aside0.mk (hb); have n2_ := Aside0.mk (hi); clear HK; clear HB; clear HI0; have HK := n0_; have HB := n1_; have HI0 := n2_; clear n0_ n1_ n2_; (try clear hb); (try clear hb2); (try clear hk); (try clear hi); (try simp only [errW_none, errW_some])) | ((with_reducible refine gate_callee (f := 96) rfl ?_); refine goesL_ (some 7) rfl rfl Tryd.func96 (by kernel_rfl) rfl #[.string t148, .string (⟨#[0]⟩ : ByteArray)] rfl z15 ?_; (with_reducible refine (strings_Trim.calls t148 (⟨#[0]⟩ : ByteArray) t151 _ A4.out).mono ?_); rintro e w7 ⟨rfl, hb⟩; refine ⟨_, rfl, ?_⟩; have n0_ := Aside0.mk (IsS163.below z22 hb); have n1_ := Aside0.mk (KeepBut.trans z20 (KeepBut.of_below hb g none) (.inl rfl)); have n2_ := Aside0.mk (below_step z40 hb); clear HI0; clear HK; clear HB; have HI0 := n0_; have HK := n1_; have HB := n2_; clear n0_ n1_ n2_; (try clear hb); (try clear hb2); (try clear hk); (try clear hi)))
  first | go_end0 | ((try simp only [Exit.inBlock, Exit.then]); refine bodyPost_ret (results_none rfl _ _ _) rfl ?_)
  exact ⟨z21, z22, z40, z20⟩
 ·rw [if_neg c5] at H; have c5b0 : (t151.toList == ([] : List UInt8)) = false := beq_eq_false_iff_ne.mpr c5; have c5b1 : (t151.toList != ([] : List UInt8)) = true := bne_iff_ne.mpr c5; replace H := Option.bind_eq_some_iff.mp H; obtain ⟨⟨t152, t153⟩, A80, H⟩ := H; replace H : (some (t152, t153)) = some (r1, r2) := H; have A8 := Aside0.mk A80; clear A80; simp only [Option.some.injEq, Prod.mk.injEq] at H; obtain ⟨rfl, rfl⟩ := H; go_enter Tryd.func71, Tryd.ntmps71
  go_wp2_with (first | ((with_reducible refine gate_callee (f := 95) rfl ?_); refine goesL_ (some 6) rfl rfl Tryd.func95 (by kernel_rfl) rfl #[.pointer (some ⟨g, 0, none⟩), .int .i64 a1] rfl z15 ?_; (with_reducible refine (le_In_Text.calls g s0_0 s0_1 a1 t148 t149 t150 w0 _ ?side1 ?side2 A3.out).mono ?_); (case side1 => exact z22); (case side2 => exact z40); rintro e w9 ⟨rfl, hi, hb, hk⟩; refine ⟨_, rfl, ?_⟩; have n0_ := Aside0.mk (KeepBut.trans z20 hk (.inl rfl)); have n1_ := Aside0.mk (hb); have n2_ := Aside0.mk (hi); clear HK; clear HB; clear HI0; have HK := n0_; have HB := n1_; have HI0 := n2_; clear n0_ n1_ n2_; (try clear hb); (try clear hb2); (try clear hk); (try clear hi); (try simp only [errW_none, errW_some])) | ((with_reducible refine gate_callee (f := 96) rfl ?_); refine goesL_ (some 7) rfl rfl Tryd.func96 (by kernel_rfl) rfl #[.string t148, .string (⟨#[0]⟩ : ByteArray)] rfl z15 ?_; (with_reducible refine (strings_Trim.calls t148 (⟨#[0]⟩ : ByteArray) t151 _ A4.out).mono ?_); rintro e w10 ⟨rfl, hb⟩; refine ⟨_, rfl, ?_⟩; have n0_ := Aside0.mk (IsS163.below z22 hb); have n1_ := Aside0.mk (KeepBut.trans z20 (KeepBut.of_below hb g none) (.inl rfl)); have n2_ := Aside0.mk (below_step z40 hb); clear HI0; clear HK; clear HB; have HI0 := n0_; have HK := n1_; have HB := n2_; clear n0_ n1_ n2_; (try clear hb); (try clear hb2); (try clear hk); (try clear hi)) | ((with_reducible refine gate_callee (f := 93) rfl ?_); refine goesL_ (some 10) rfl rfl Tryd.func93 (by kernel_rfl) rfl #[.pointer (some ⟨g, 0, none⟩), .int .i64 4] rfl z15 ?_; (with_reducible refine (le_In_fail.calls g t149 t150 4 t152 t153 w0 _ ?side1 ?side2 A8.out).mono ?_); (case side1 => exact z22); (case side2 => exact z40); rintro e w11 ⟨rfl, hi, hb, hk⟩; refine ⟨_, rfl, ?_⟩; have n0_ := Aside0.mk (KeepBut.trans z20 hk (.inl rfl)); have n1_ := Aside0.mk (hb); have n2_ := Aside0.mk (hi); clear HK; clear HB; clear HI0; have HK := n0_; have HB := n1_; have HI0 := n2_; clear n0_ n1_ n2_; (try clear hb); (try clear hb2); (try clear hk); (try clear hi); (try simp only [errW_none, errW_some])))
  first | go_end0 | ((try simp only [Exit.inBlock, Exit.then]); refine bodyPost_ret (results_none rfl _ _ _) rfl ?_)
  exact ⟨z21, z22, z40, z20⟩

/-! ### page_padded: function 72 -/
def page_padded.f (s0_0 : ByteArray) (s0_1 : Option Int) (a1 : Int) (a2 : Int) : Option (ByteArray × ByteArray × Option Int) := if a1 > a2 then ((le_In_Noughts.f s0_0 s0_1 505).bind fun bt154 => (some ((⟨#[]⟩ : ByteArray), bt154.1, bt154.2))) else ((le_In_Text.f s0_0 s0_1 a1).bind fun bt156 => ((le_In_Noughts.f bt156.2.1 bt156.2.2 (wrap64 (a2 - a1))).bind fun bt159 => (some (bt156.1, bt159.1, bt159.2))))
set_option maxHeartbeats 8000000 in
set_option maxRecDepth 100000 in
theorem page_padded.calls (g : Nat) (s0_0 : ByteArray) (s0_1 : Option Int) (a1 : Int) (a2 : Int) (r1 : ByteArray) (r2 : ByteArray) (r3 : Option Int) (w0 w : World) (hI : IsS163 w0 w g s0_0 s0_1) (hB : Below w0.heap.size w0 w) (h : page_padded.f s0_0 s0_1 a1 a2 = some (r1, r2, r3)) :
  Calls Tryd.prog 72 #[.pointer (some ⟨g, 0, none⟩), .int .i64 a1, .int .i64 a2] w fun e w' => e = .returned (.string r1) ∧ IsS163 w0 w' g r2 r3 ∧ Below w0.heap.size w0 w' ∧ KeepBut w w' g none := by
 have HI0 := Aside0.mk hI; have HK := Aside0.mk (KeepBut.refl w g none); have HL := Aside0.mk hB.size; clear hI; have HW0 := Aside0.mk hB.size; have HB := Aside0.mk hB; clear hB; have H : (if a1 > a2 then ((le_In_Noughts.f s0_0 s0_1 505).bind fun bt154 => (some ((⟨#[]⟩ : ByteArray), bt154.1, bt154.2))) else ((le_In_Text.f s0_0 s0_1 a1).bind fun bt156 => ((le_In_Noughts.f bt156.2.1 bt156.2.2 (wrap64 (a2 - a1))).bind fun bt159 => (some (bt156.1, bt159.1, bt159.2))))) = some (r1, r2, r3) := h; clear h
 by_cases c4 : a1 > a2
 ·rw [if_pos c4] at H; have c4b0 : decide (a2 < a1) = true := decide_eq_true c4; clear c4; replace H := Option.bind_eq_some_iff.mp H; obtain ⟨⟨t154, t155⟩, A50, H⟩ := H; replace H : (some ((⟨#[]⟩ : ByteArray), t154, t155)) = some (r1, r2, r3) := H; have A5 := Aside0.mk A50; clear A50; simp only [Option.some.injEq, Prod.mk.injEq] at H; obtain ⟨rfl, rfl, rfl⟩ := H; go_enter Tryd.func72, Tryd.ntmps72
  go_wp2_with (first | ((with_reducible refine gate_callee (f := 71) rfl ?_); refine goesL_ (some 12) rfl rfl Tryd.func71 (by kernel_rfl) rfl #[.pointer (some ⟨g, 0, none⟩), .int .i64 505] rfl z15 ?_; (with_reducible refine (le_In_Noughts.calls g s0_0 s0_1 505 t154 t155 w0 _ ?side1 ?side2 A5.out).mono ?_); (case side1 => exact z22); (case side2 => exact z40); rintro e w6 ⟨rfl, hi, hb, hk⟩; refine ⟨_, rfl, ?_⟩; have n0_ := Aside0.mk (KeepBut.trans z20 hk (.inl rfl)); have n1_ := Aside0.mk (hb); have n2_ := Aside0.mk (hi); clear HK; clear HB; clear HI0; have HK := n0_; have HB := n1_; have HI0 := n2_; clear n0_ n1_ n2_; (try clear hb); (try clear hb2); (try clear hk); (try clear hi); (try simp only [errW_none, errW_some])))
  go_ret
  exact ⟨z21, z22, z40, z20⟩
 ·rw [if_neg c4] at H; have c4b0 : decide (a2 < a1) = false := decide_eq_false c4; clear c4; replace H := Option.bind_eq_some_iff.mp H; obtain ⟨⟨t156, t157, t158⟩, A70, H⟩ := H; replace H : ((le_In_Noughts.f t157 t158 (wrap64 (a2 - a1))).bind fun bt159 => (some (t156, bt159.1, bt159.2))) = some (r1, r2, r3) := H; have A7 := Aside0.mk A70; clear A70; replace H := Option.bind_eq_some_iff.mp H; obtain ⟨⟨t159, t160⟩, A80, H⟩ := H; replace H : (some (t156, t159, t160)) = some (r1, r2, r3) := H; have A8 := Aside0.mk A80; clear A80; simp only [Option.some.injEq, Prod.mk.injEq] at H; obtain ⟨rfl, rfl, rfl⟩ := H; go_enter Tryd.func72, Tryd.ntmps72
  go_wp2_with (first | ((with_reducible refine gate_callee (f := 95) rfl ?_); refine goesL_ (some 15) rfl rfl Tryd.func95 (by kernel_rfl) rfl #[.pointer (some ⟨g, 0, none⟩), .int .i64 a1] rfl z15 ?_; (with_reducible refine (le_In_Text.calls g s0_0 s0_1 a1 t156 t157 t158 w0 _ ?side1 ?side2 A7.out).mono ?_); (case side1 => exact z22); (case side2 => exact z40); rintro e w9 ⟨rfl, hi, hb, hk⟩; refine ⟨_, rfl, ?_⟩; have n0_ := Aside0.mk (KeepBut.trans z20 hk (.inl rfl)); have n1_ := Aside0.mk (hb); have n2_ := Aside0.mk (hi); clear HK; clear HB; clear HI0; have HK := n0_; have HB := n1_; have HI0 := n2_; clear n0_ n1_ n2_; (try clear hb); (try clear hb2); (try clear hk); (try clear hi); (try simp only [errW_none, errW_some])) | ((with_reducible refine gate_callee (f := 71) rfl ?_); refine goesL_ (some 20) rfl rfl Tryd.func71 (by kernel_rfl) rfl #[.pointer (some ⟨g, 0, none⟩), .int .i64 (wrap64 (a2 - a1))] rfl z15 ?_; (with_reducible refine (le_In_Noughts.calls g t157 t158 (wrap64 (a2 - a1)) t159 t160 w0 _ ?side1 ?side2 A8.out).mono ?_); (case side1 => exact z22); (case side2 => exact z40); rintro e w10 ⟨rfl, hi, hb, hk⟩; refine ⟨_, rfl, ?_⟩; have n0_ := Aside0.mk (KeepBut.trans z20 hk (.inl rfl)); have n1_ := Aside0.mk (hb); have n2_ := Aside0.mk (hi); clear HK; clear HB; clear HI0; have HK := n0_; have HB := n1_; have HI0 := n2_; clear n0_ n1_ n2_; (try clear hb); (try clear hb2); (try clear hk); (try clear hi); (try simp only [errW_none, errW_some])))
  go_ret
  exact ⟨z21, z22, z40, z20⟩

/-! ### le_In_End: function 73 -/
def le_In_End.f (s0_0 : ByteArray) (s0_1 : Option Int) : Option (Option Int × ByteArray × Option Int) := if s0_1.isNone = true then (if s0_0.toList = ([] : List UInt8) then (some (none, s0_0, none)) else (some (some 10, s0_0, none))) else (some (some (s0_1.getD 0), s0_0, some (s0_1.getD 0)))
set_option maxHeartbeats 8000000 in
set_option maxRecDepth 100000 in
theorem le_In_End.calls (g : Nat) (s0_0 : ByteArray) (s0_1 : Option Int) (r1 : Option Int) (r2 : ByteArray) (r3 : Option Int) (w0 w : World) (hI : IsS163 w0 w g s0_0 s0_1) (hB : Below w0.heap.size w0 w) (h : le_In_End.f s0_0 s0_1 = some (r1, r2, r3)) :
  Calls Tryd.prog 73 #[.pointer (some ⟨g, 0, none⟩)] w fun e w' => e = .returned (errW r1) ∧ IsS163 w0 w' g r2 r3 ∧ Below w0.heap.size w0 w' ∧ KeepBut w w' g none := by
 have hu27 := Tryd.underlying27; have hu36 := Tryd.underlying36; have HI0 := Aside0.mk hI; have HK := Aside0.mk (KeepBut.refl w g none); have HL := Aside0.mk hB.size; clear hI; have HW0 := Aside0.mk hB.size; have HB := Aside0.mk hB; clear hB; have H : (if s0_1.isNone = true then (if s0_0.toList = ([] : List UInt8) then (some (none, s0_0, none)) else (some (some 10, s0_0, none))) else (some (some (s0_1.getD 0), s0_0, some (s0_1.getD 0)))) = some (r1, r2, r3) := h; clear h; rcases s0_1 with _ | q161
 ·have H1 : (if s0_0.toList = ([] : List UInt8) then (some (none, s0_0, none)) else (some (some 10, s0_0, none))) = some (r1, r2, r3) := by rw [if_pos (show (none : Option Int).isNone = true by rfl)] at H; exact H
  clear H; have H := H1; clear H1
  try simp only [errW_none, errW_some]
  by_cases c2 : s0_0.toList = ([] : List UInt8)
  ·rw [if_pos c2] at H; have c2b0 : (s0_0.toList == ([] : List UInt8)) = true := beq_iff_eq.mpr c2; have c2b1 : (s0_0.toList != ([] : List UInt8)) = false := bne_eq_false_iff_eq.mpr c2; clear c2; simp only [Option.some.injEq, Prod.mk.injEq] at H; obtain ⟨rfl, rfl, rfl⟩ := H; obtain ⟨HGz3, hgz3⟩ := HI0.out; have hcz3_0 := cellS163_0 HGz3
   try simp only [errW_none, errW_some] at hcz3_0
   have hcz3_1 := cellS163_1 HGz3
   try simp only [errW_none, errW_some] at hcz3_1
   have hfz3_0 := blk_frozen HGz3 0; have hfz3_1 := blk_frozen HGz3 1; clear HGz3 hgz3; go_enter Tryd.func73, Tryd.ntmps73
   go_wp2
   go_ret
   exact ⟨z21, z22, z40, z20⟩
  ·rw [if_neg c2] at H; have c2b0 : (s0_0.toList == ([] : List UInt8)) = false := beq_eq_false_iff_ne.mpr c2; have c2b1 : (s0_0.toList != ([] : List UInt8)) = true := bne_iff_ne.mpr c2; simp only [Option.some.injEq, Prod.mk.injEq] at H; obtain ⟨rfl, rfl, rfl⟩ := H; obtain ⟨HGz4, hgz4⟩ := HI0.out; have hcz4_0 := cellS163_0 HGz4
   try simp only [errW_none, errW_some] at hcz4_0
   have hcz4_1 := cellS163_1 HGz4
   try simp only [errW_none, errW_some] at hcz4_1
   have hfz4_0 := blk_frozen HGz4 0; have hfz4_1 := blk_frozen HGz4 1; clear HGz4 hgz4; go_enter Tryd.func73, Tryd.ntmps73
   go_wp2
   go_ret
   exact ⟨z21, z22, z40, z20⟩
 ·have H1 : (some (some q161, s0_0, some q161)) = some (r1, r2, r3) := by rw [if_neg (show ¬ (some q161).isNone = true by simp)] at H; exact H
  clear H; have H := H1; clear H1
  try simp only [errW_none, errW_some]
  simp only [Option.some.injEq, Prod.mk.injEq] at H; obtain ⟨rfl, rfl, rfl⟩ := H; obtain ⟨HGz5, hgz5⟩ := HI0.out; have hcz5_0 := cellS163_0 HGz5
  try simp only [errW_none, errW_some] at hcz5_0
  have hcz5_1 := cellS163_1 HGz5
  try simp only [errW_none, errW_some] at hcz5_1
  have hfz5_0 := blk_frozen HGz5 0; have hfz5_1 := blk_frozen HGz5 1; clear HGz5 hgz5; go_enter Tryd.func73, Tryd.ntmps73
  go_wp2
  go_ret
  exact ⟨z21, z22, z40, z20⟩
end Go.Proofs.YtegcaniikdibdaaDoor.VPageApart
