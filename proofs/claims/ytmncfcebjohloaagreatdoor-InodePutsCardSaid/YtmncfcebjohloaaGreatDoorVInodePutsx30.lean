/- Contracts of functions of this seat: each call comes to what its Lean function computes; no condition beyond what each theorem states. Printed by a program of this session's own laid over the kit's printer. -/
import Derived.Test.YtmncfcebjohloaaGreatDoorVInodePutsx0
import Derived.Test.YtmncfcebjohloaaGreatDoorVInodePutsx9
import Derived.Test.YtmncfcebjohloaaGreatDoorVInodePutsx16
import Derived.Test.YtmncfcebjohloaaGreatDoorVInodePutsx26
import Derived.Test.YtmncfcebjohloaaGreatDoorVInodePutsx27
import Derived.Test.YtmncfcebjohloaaGreatDoorVInodePutsx29
namespace Go.Proofs.YtmncfcebjohloaaGreatDoor.VInodePuts
open Go.RowKit Go.Proofs.YtmncfcebjohloaaGreatDoorW.PrintWords Go.Proofs.YtmncfcebjohloaaGreatDoorW.PrintLast Go.Proofs.YtmncfcebjohloaaGreatDoorW.PrintMore
attribute [local go_sem] max2_int min2_int max_two min_two max_three min_three max_four min_four   -- for this text's walks alone
open Go.Proofs.YtmncfcebjohloaaGreatDoorW.PrintWords.Kd renaming R_alloc → rA
open Go.Proofs.YtmncfcebjohloaaGreatDoorW.PrintWords.Kd renaming R_drewN → rN
open Go.Proofs.YtmncfcebjohloaaGreatDoorW.PrintWords.Kd renaming R_drew → rD
open List renaming setIfInBounds_toArray → lS, set_cons_zero → lZ, set_cons_succ → lC
open Go.Proofs.YtmncfcebjohloaaGreatDoorW.PrintLast renaming goesL_ → gL_
open Go.Proofs.YtmncfcebjohloaaGreatDoorW.PrintWords renaming blk_drewN → bN, blk_drew → bD, blk_alloc → bA, below_set → bS, pw_below_drewN → pN, below_drew1 → pD, below_alloc → pA, below_step → pS, below_size → pZ, blk_frozen → bF, blk_cell → bC, blk_below → bB, blk_far → bR, blk_put → bP, blk_lt → bL, gate_dst → gD, gate_callee → gC, gate_builtin → gB, box_event → bE
open Go.Proofs.YtmncfcebjohloaaGreatDoorW.PrintWords.Aside0 renaming mk → A0k
set_option linter.unusedVariables false
set_option linter.unusedSimpArgs false

/-! ### le_In_Noughts: function 31 -/
def le_In_Noughts.f (s0_0 : ByteArray) (s0_1 : Option Int) (a1 : Int) : Option (ByteArray × Option Int) := (le_In_Text.f s0_0 s0_1 a1).bind fun bt233 => ((strings_Trim.f bt233.1 (⟨#[0]⟩ : ByteArray)).bind fun t236 => (if t236.toList = ([] : List UInt8) then (some (bt233.2.1, bt233.2.2)) else ((le_In_fail.f bt233.2.1 bt233.2.2 4).bind fun bt237 => (some (bt237.1, bt237.2)))))
set_option maxHeartbeats 8000000 in
set_option maxRecDepth 100000 in
theorem le_In_Noughts.calls (g : Nat) (s0_0 : ByteArray) (s0_1 : Option Int) (a1 : Int) (r1 : ByteArray) (r2 : Option Int) (w0 w : World) (hI : IsS94 w0 w g s0_0 s0_1) (hB : Below w0.heap.size w0 w) (h : le_In_Noughts.f s0_0 s0_1 a1 = some (r1, r2)) :
  Calls Tryz.prog 31 #[.pointer (some ⟨g, 0, none⟩), .int .i64 a1] w fun e w' => e = .returned (.tuple #[]) ∧ IsS94 w0 w' g r1 r2 ∧ Below w0.heap.size w0 w' ∧ KeepBut w w' g none := by
 have HI0 := A0k hI
 have HK := A0k (KeepBut.refl w g none)
 have HL := A0k hB.size
 clear hI
 have HW0 := A0k hB.size
 have HB := A0k hB
 clear hB
 have H : ((le_In_Text.f s0_0 s0_1 a1).bind fun bt233 => ((strings_Trim.f bt233.1 (⟨#[0]⟩ : ByteArray)).bind fun t236 => (if t236.toList = ([] : List UInt8) then (some (bt233.2.1, bt233.2.2)) else ((le_In_fail.f bt233.2.1 bt233.2.2 4).bind fun bt237 => (some (bt237.1, bt237.2)))))) = some (r1, r2) := h
 clear h
 replace H := Option.bind_eq_some_iff.mp H
 obtain ⟨⟨t233, t234, t235⟩, A30, H⟩ := H
 replace H : ((strings_Trim.f t233 (⟨#[0]⟩ : ByteArray)).bind fun t236 => (if t236.toList = ([] : List UInt8) then (some (t234, t235)) else ((le_In_fail.f t234 t235 4).bind fun bt237 => (some (bt237.1, bt237.2))))) = some (r1, r2) := H
 have A3 := A0k A30
 clear A30
 replace H := Option.bind_eq_some_iff.mp H
 obtain ⟨t236, A40, H⟩ := H
 replace H : (if t236.toList = ([] : List UInt8) then (some (t234, t235)) else ((le_In_fail.f t234 t235 4).bind fun bt237 => (some (bt237.1, bt237.2)))) = some (r1, r2) := H
 have A4 := A0k A40
 clear A40
 by_cases c5 : t236.toList = ([] : List UInt8)
 ·rw [if_pos c5] at H
  have c5b0 : (t236.toList == ([] : List UInt8)) = true := beq_iff_eq.mpr c5
  have c5b1 : (t236.toList != ([] : List UInt8)) = false := bne_eq_false_iff_eq.mpr c5
  clear c5
  simp only [Option.some.injEq, Prod.mk.injEq] at H
  obtain ⟨rfl, rfl⟩ := H
  go_enter Tryz.func31, Tryz.ntmps31
  go_wp2_with (first | ((with_reducible refine gC (f := 49) rfl ?_); refine gL_ (some 6) rfl rfl Tryz.func49 (by kernel_rfl) rfl #[.pointer (some ⟨g, 0, none⟩), .int .i64 a1] rfl (by (try simp only [List.map_toArray, List.map_cons, List.map_nil]); first | done | rfl | (simp only [List.length_drop, List.length_take]; rfl)) ?_; (with_reducible refine (le_In_Text.calls g s0_0 s0_1 a1 t233 t234 t235 w0 _ ?side1 ?side2 A3.out).mono ?_); (case side1 => repeat (first | (with_reducible first | exact HI0.out | apply IsS94.alloc | apply IsS94.drewN | apply IsS94.drew | apply IsS94.set_0 | apply IsS94.set_1_none | apply IsS94.set_1_some | apply IsS94.set_1) | exact HI0.out)); (case side2 => repeat (first | (with_reducible first | exact HB.out | apply pA | apply pN | apply pD | refine bS ?_ (IsS94.ge HI0.out)) | exact HB.out)); rintro e w6 ⟨rfl, hi, hb, hk⟩; refine ⟨_, rfl, ?_⟩; have n0_ := A0k (KeepBut.trans (by repeat (first | (with_reducible first | exact HK.out | apply KeepBut.set_ | apply keep_drewN | apply keep_drew | apply keep_alloc) | exact HK.out)) hk (.inl rfl)); have n1_ := A0k (hb); have n2_ := A0k (hi); clear HK HB HI0; have HK := n0_; have HB := n1_; have HI0 := n2_; clear n0_ n1_ n2_; (try clear hb); (try clear hb2); (try clear hk); (try clear hi); (try simp only [errW_none, errW_some])) | ((with_reducible refine gC (f := 50) rfl ?_); refine gL_ (some 7) rfl rfl Tryz.func50 (by kernel_rfl) rfl #[.string t233, .string (⟨#[0]⟩ : ByteArray)] rfl (by (try simp only [List.map_toArray, List.map_cons, List.map_nil]); first | done | rfl | (simp only [List.length_drop, List.length_take]; rfl)) ?_; (with_reducible refine (strings_Trim.calls t233 (⟨#[0]⟩ : ByteArray) t236 _ A4.out).mono ?_); rintro e w7 ⟨rfl, hb⟩; refine ⟨_, rfl, ?_⟩; have n0_ := A0k (IsS94.below (by repeat (first | (with_reducible first | exact HI0.out | apply IsS94.alloc | apply IsS94.drewN | apply IsS94.drew | apply IsS94.set_0 | apply IsS94.set_1_none | apply IsS94.set_1_some | apply IsS94.set_1) | exact HI0.out)) hb); have n1_ := A0k (KeepBut.trans (by repeat (first | (with_reducible first | exact HK.out | apply KeepBut.set_ | apply keep_drewN | apply keep_drew | apply keep_alloc) | exact HK.out)) (KeepBut.of_below hb g none) (.inl rfl)); have n2_ := A0k (pS (by repeat (first | (with_reducible first | exact HB.out | apply pA | apply pN | apply pD | refine bS ?_ (IsS94.ge HI0.out)) | exact HB.out)) hb); clear HI0 HK HB; have HI0 := n0_; have HK := n1_; have HB := n2_; clear n0_ n1_ n2_; (try clear hb); (try clear hb2); (try clear hk); (try clear hi)))
  first | go_end0 | ((try simp only [Exit.inBlock, Exit.then]); refine bodyPost_ret (results_none rfl _ _ _) rfl ?_)
  exact ⟨by first | rfl | (simp [errW_none, errW_some] <;> rfl) | (simp [*, errW_none, errW_some] <;> rfl), by repeat (first | (with_reducible first | exact HI0.out | apply IsS94.alloc | apply IsS94.drewN | apply IsS94.drew | apply IsS94.set_0 | apply IsS94.set_1_none | apply IsS94.set_1_some | apply IsS94.set_1) | exact HI0.out), by repeat (first | (with_reducible first | exact HB.out | apply pA | apply pN | apply pD | refine bS ?_ (IsS94.ge HI0.out)) | exact HB.out), by repeat (first | (with_reducible first | exact HK.out | apply KeepBut.set_ | apply keep_drewN | apply keep_drew | apply keep_alloc) | exact HK.out)⟩
 ·rw [if_neg c5] at H
  have c5b0 : (t236.toList == ([] : List UInt8)) = false := beq_eq_false_iff_ne.mpr c5
  have c5b1 : (t236.toList != ([] : List UInt8)) = true := bne_iff_ne.mpr c5
  replace H := Option.bind_eq_some_iff.mp H
  obtain ⟨⟨t237, t238⟩, A80, H⟩ := H
  replace H : (some (t237, t238)) = some (r1, r2) := H
  have A8 := A0k A80
  clear A80
  simp only [Option.some.injEq, Prod.mk.injEq] at H
  obtain ⟨rfl, rfl⟩ := H
  go_enter Tryz.func31, Tryz.ntmps31
  go_wp2_with (first | ((with_reducible refine gC (f := 49) rfl ?_); refine gL_ (some 6) rfl rfl Tryz.func49 (by kernel_rfl) rfl #[.pointer (some ⟨g, 0, none⟩), .int .i64 a1] rfl (by (try simp only [List.map_toArray, List.map_cons, List.map_nil]); first | done | rfl | (simp only [List.length_drop, List.length_take]; rfl)) ?_; (with_reducible refine (le_In_Text.calls g s0_0 s0_1 a1 t233 t234 t235 w0 _ ?side1 ?side2 A3.out).mono ?_); (case side1 => repeat (first | (with_reducible first | exact HI0.out | apply IsS94.alloc | apply IsS94.drewN | apply IsS94.drew | apply IsS94.set_0 | apply IsS94.set_1_none | apply IsS94.set_1_some | apply IsS94.set_1) | exact HI0.out)); (case side2 => repeat (first | (with_reducible first | exact HB.out | apply pA | apply pN | apply pD | refine bS ?_ (IsS94.ge HI0.out)) | exact HB.out)); rintro e w9 ⟨rfl, hi, hb, hk⟩; refine ⟨_, rfl, ?_⟩; have n0_ := A0k (KeepBut.trans (by repeat (first | (with_reducible first | exact HK.out | apply KeepBut.set_ | apply keep_drewN | apply keep_drew | apply keep_alloc) | exact HK.out)) hk (.inl rfl)); have n1_ := A0k (hb); have n2_ := A0k (hi); clear HK HB HI0; have HK := n0_; have HB := n1_; have HI0 := n2_; clear n0_ n1_ n2_; (try clear hb); (try clear hb2); (try clear hk); (try clear hi); (try simp only [errW_none, errW_some])) | ((with_reducible refine gC (f := 50) rfl ?_); refine gL_ (some 7) rfl rfl Tryz.func50 (by kernel_rfl) rfl #[.string t233, .string (⟨#[0]⟩ : ByteArray)] rfl (by (try simp only [List.map_toArray, List.map_cons, List.map_nil]); first | done | rfl | (simp only [List.length_drop, List.length_take]; rfl)) ?_; (with_reducible refine (strings_Trim.calls t233 (⟨#[0]⟩ : ByteArray) t236 _ A4.out).mono ?_); rintro e w10 ⟨rfl, hb⟩; refine ⟨_, rfl, ?_⟩; have n0_ := A0k (IsS94.below (by repeat (first | (with_reducible first | exact HI0.out | apply IsS94.alloc | apply IsS94.drewN | apply IsS94.drew | apply IsS94.set_0 | apply IsS94.set_1_none | apply IsS94.set_1_some | apply IsS94.set_1) | exact HI0.out)) hb); have n1_ := A0k (KeepBut.trans (by repeat (first | (with_reducible first | exact HK.out | apply KeepBut.set_ | apply keep_drewN | apply keep_drew | apply keep_alloc) | exact HK.out)) (KeepBut.of_below hb g none) (.inl rfl)); have n2_ := A0k (pS (by repeat (first | (with_reducible first | exact HB.out | apply pA | apply pN | apply pD | refine bS ?_ (IsS94.ge HI0.out)) | exact HB.out)) hb); clear HI0 HK HB; have HI0 := n0_; have HK := n1_; have HB := n2_; clear n0_ n1_ n2_; (try clear hb); (try clear hb2); (try clear hk); (try clear hi)) | ((with_reducible refine gC (f := 47) rfl ?_); refine gL_ (some 10) rfl rfl Tryz.func47 (by kernel_rfl) rfl #[.pointer (some ⟨g, 0, none⟩), .int .i64 4] rfl (by (try simp only [List.map_toArray, List.map_cons, List.map_nil]); first | done | rfl | (simp only [List.length_drop, List.length_take]; rfl)) ?_; (with_reducible refine (le_In_fail.calls g t234 t235 4 t237 t238 w0 _ ?side1 ?side2 A8.out).mono ?_); (case side1 => repeat (first | (with_reducible first | exact HI0.out | apply IsS94.alloc | apply IsS94.drewN | apply IsS94.drew | apply IsS94.set_0 | apply IsS94.set_1_none | apply IsS94.set_1_some | apply IsS94.set_1) | exact HI0.out)); (case side2 => repeat (first | (with_reducible first | exact HB.out | apply pA | apply pN | apply pD | refine bS ?_ (IsS94.ge HI0.out)) | exact HB.out)); rintro e w11 ⟨rfl, hi, hb, hk⟩; refine ⟨_, rfl, ?_⟩; have n0_ := A0k (KeepBut.trans (by repeat (first | (with_reducible first | exact HK.out | apply KeepBut.set_ | apply keep_drewN | apply keep_drew | apply keep_alloc) | exact HK.out)) hk (.inl rfl)); have n1_ := A0k (hb); have n2_ := A0k (hi); clear HK HB HI0; have HK := n0_; have HB := n1_; have HI0 := n2_; clear n0_ n1_ n2_; (try clear hb); (try clear hb2); (try clear hk); (try clear hi); (try simp only [errW_none, errW_some])))
  first | go_end0 | ((try simp only [Exit.inBlock, Exit.then]); refine bodyPost_ret (results_none rfl _ _ _) rfl ?_)
  exact ⟨by first | rfl | (simp [errW_none, errW_some] <;> rfl) | (simp [*, errW_none, errW_some] <;> rfl), by repeat (first | (with_reducible first | exact HI0.out | apply IsS94.alloc | apply IsS94.drewN | apply IsS94.drew | apply IsS94.set_0 | apply IsS94.set_1_none | apply IsS94.set_1_some | apply IsS94.set_1) | exact HI0.out), by repeat (first | (with_reducible first | exact HB.out | apply pA | apply pN | apply pD | refine bS ?_ (IsS94.ge HI0.out)) | exact HB.out), by repeat (first | (with_reducible first | exact HK.out | apply KeepBut.set_ | apply keep_drewN | apply keep_drew | apply keep_alloc) | exact HK.out)⟩

/-! ### le_In_End: function 32 -/
def le_In_End.f (s0_0 : ByteArray) (s0_1 : Option Int) : Option (Option Int × ByteArray × Option Int) := if s0_1.isNone = true then (if s0_0.toList = ([] : List UInt8) then (some (none, s0_0, none)) else (some (some 10, s0_0, none))) else (some (some (s0_1.getD 0), s0_0, some (s0_1.getD 0)))
set_option maxHeartbeats 8000000 in
set_option maxRecDepth 100000 in
theorem le_In_End.calls (g : Nat) (s0_0 : ByteArray) (s0_1 : Option Int) (r1 : Option Int) (r2 : ByteArray) (r3 : Option Int) (w0 w : World) (hI : IsS94 w0 w g s0_0 s0_1) (hB : Below w0.heap.size w0 w) (h : le_In_End.f s0_0 s0_1 = some (r1, r2, r3)) :
  Calls Tryz.prog 32 #[.pointer (some ⟨g, 0, none⟩)] w fun e w' => e = .returned (errW r1) ∧ IsS94 w0 w' g r2 r3 ∧ Below w0.heap.size w0 w' ∧ KeepBut w w' g none := by
 have hu33 := Tryz.underlying33
 have hu57 := Tryz.underlying57
 have HI0 := A0k hI
 have HK := A0k (KeepBut.refl w g none)
 have HL := A0k hB.size
 clear hI
 have HW0 := A0k hB.size
 have HB := A0k hB
 clear hB
 have H : (if s0_1.isNone = true then (if s0_0.toList = ([] : List UInt8) then (some (none, s0_0, none)) else (some (some 10, s0_0, none))) else (some (some (s0_1.getD 0), s0_0, some (s0_1.getD 0)))) = some (r1, r2, r3) := h
 clear h
 rcases s0_1 with _ | q239
 ·have H1 : (if s0_0.toList = ([] : List UInt8) then (some (none, s0_0, none)) else (some (some 10, s0_0, none))) = some (r1, r2, r3) := by rw [if_pos (show (none : Option Int).isNone = true by rfl)] at H; exact H
  clear H
  have H := H1
  clear H1
  try simp only [errW_none, errW_some]
  by_cases c2 : s0_0.toList = ([] : List UInt8)
  ·rw [if_pos c2] at H
   have c2b0 : (s0_0.toList == ([] : List UInt8)) = true := beq_iff_eq.mpr c2
   have c2b1 : (s0_0.toList != ([] : List UInt8)) = false := bne_eq_false_iff_eq.mpr c2
   clear c2
   simp only [Option.some.injEq, Prod.mk.injEq] at H
   obtain ⟨rfl, rfl, rfl⟩ := H
   obtain ⟨HGz3, hgz3⟩ := HI0.out
   have hcz3_0 := cellS94_0 HGz3
   try simp only [errW_none, errW_some] at hcz3_0
   have hcz3_1 := cellS94_1 HGz3
   try simp only [errW_none, errW_some] at hcz3_1
   have hfz3_0 := bF HGz3 0
   have hfz3_1 := bF HGz3 1
   clear HGz3 hgz3
   go_enter Tryz.func32, Tryz.ntmps32
   go_wp2
   go_ret
   exact ⟨by first | rfl | (simp [errW_none, errW_some] <;> rfl) | (simp [*, errW_none, errW_some] <;> rfl), by repeat (first | (with_reducible first | exact HI0.out | apply IsS94.alloc | apply IsS94.drewN | apply IsS94.drew | apply IsS94.set_0 | apply IsS94.set_1_none | apply IsS94.set_1_some | apply IsS94.set_1) | exact HI0.out), by repeat (first | (with_reducible first | exact HB.out | apply pA | apply pN | apply pD | refine bS ?_ (IsS94.ge HI0.out)) | exact HB.out), by repeat (first | (with_reducible first | exact HK.out | apply KeepBut.set_ | apply keep_drewN | apply keep_drew | apply keep_alloc) | exact HK.out)⟩
  ·rw [if_neg c2] at H
   have c2b0 : (s0_0.toList == ([] : List UInt8)) = false := beq_eq_false_iff_ne.mpr c2
   have c2b1 : (s0_0.toList != ([] : List UInt8)) = true := bne_iff_ne.mpr c2
   simp only [Option.some.injEq, Prod.mk.injEq] at H
   obtain ⟨rfl, rfl, rfl⟩ := H
   obtain ⟨HGz4, hgz4⟩ := HI0.out
   have hcz4_0 := cellS94_0 HGz4
   try simp only [errW_none, errW_some] at hcz4_0
   have hcz4_1 := cellS94_1 HGz4
   try simp only [errW_none, errW_some] at hcz4_1
   have hfz4_0 := bF HGz4 0
   have hfz4_1 := bF HGz4 1
   clear HGz4 hgz4
   go_enter Tryz.func32, Tryz.ntmps32
   go_wp2
   go_ret
   exact ⟨by first | rfl | (simp [errW_none, errW_some] <;> rfl) | (simp [*, errW_none, errW_some] <;> rfl), by repeat (first | (with_reducible first | exact HI0.out | apply IsS94.alloc | apply IsS94.drewN | apply IsS94.drew | apply IsS94.set_0 | apply IsS94.set_1_none | apply IsS94.set_1_some | apply IsS94.set_1) | exact HI0.out), by repeat (first | (with_reducible first | exact HB.out | apply pA | apply pN | apply pD | refine bS ?_ (IsS94.ge HI0.out)) | exact HB.out), by repeat (first | (with_reducible first | exact HK.out | apply KeepBut.set_ | apply keep_drewN | apply keep_drew | apply keep_alloc) | exact HK.out)⟩
 ·have H1 : (some (some q239, s0_0, some q239)) = some (r1, r2, r3) := by rw [if_neg (show ¬ (some q239).isNone = true by simp)] at H; exact H
  clear H
  have H := H1
  clear H1
  try simp only [errW_none, errW_some]
  simp only [Option.some.injEq, Prod.mk.injEq] at H
  obtain ⟨rfl, rfl, rfl⟩ := H
  obtain ⟨HGz5, hgz5⟩ := HI0.out
  have hcz5_0 := cellS94_0 HGz5
  try simp only [errW_none, errW_some] at hcz5_0
  have hcz5_1 := cellS94_1 HGz5
  try simp only [errW_none, errW_some] at hcz5_1
  have hfz5_0 := bF HGz5 0
  have hfz5_1 := bF HGz5 1
  clear HGz5 hgz5
  go_enter Tryz.func32, Tryz.ntmps32
  go_wp2
  go_ret
  exact ⟨by first | rfl | (simp [errW_none, errW_some] <;> rfl) | (simp [*, errW_none, errW_some] <;> rfl), by repeat (first | (with_reducible first | exact HI0.out | apply IsS94.alloc | apply IsS94.drewN | apply IsS94.drew | apply IsS94.set_0 | apply IsS94.set_1_none | apply IsS94.set_1_some | apply IsS94.set_1) | exact HI0.out), by repeat (first | (with_reducible first | exact HB.out | apply pA | apply pN | apply pD | refine bS ?_ (IsS94.ge HI0.out)) | exact HB.out), by repeat (first | (with_reducible first | exact HK.out | apply KeepBut.set_ | apply keep_drewN | apply keep_drew | apply keep_alloc) | exact HK.out)⟩

/-! ### inode_Get: function 12 -/
mutual
def inode_Get.l0 : Nat → Int → Int → Int → Int → ByteArray → Option Int → Int → List (S51) → Option (Int × (List (S51)) × Option Int)
 | 0, _, _, _, _, _, _, _, _ => none
 | k + 1, x1, x10, x28, x29, x247000, x247001, x251000, x251001 => if x29 < x28 then ((le_In_Num.f k x247000 x247001 2).bind fun bt254 => ((le_In_Num.f k bt254.2.1 bt254.2.2 2).bind fun bt258 => (if x251001.length < 8796093022208 then (inode_Get.l0 k x1 x10 x28 (wrap64 (x29 + 1)) bt258.2.1 bt258.2.2 x251000 (x251001 ++ [(⟨bt254.1, bt258.1⟩ : S51)])) else (none)))) else ((le_In_Noughts.f x247000 x247001 (wrap64 (497 - (wrap64 (4 * x10))))).bind fun bt264 => (if x10 > 36 then (inode_Get.j1 k x1 true x251000 x251001) else ((le_In_End.f bt264.1 bt264.2).bind fun bt266 => (if bt266.1.isNone = true then (inode_Get.j1 k x1 false x251000 x251001) else (inode_Get.j1 k x1 true x251000 x251001)))))
def inode_Get.j1 : Nat → Int → Bool → Int → List (S51) → Option (Int × (List (S51)) × Option Int)
 | 0, _, _, _, _ => none
 | k + 1, x1, x49, x251000, x251001 => if x49 = true then (some (0, ([] : List (S51)), some 4)) else ((inode_Right.f x251000 x251001 x1).bind fun t270 => (if t270 = true then (some (x251000, x251001, none)) else (some (0, ([] : List (S51)), some 17))))
end
def inode_Get.f (k : Nat) (a0 : ByteArray) (a1 : Int) : Option (Int × (List (S51)) × Option Int) := (mark_Open.f k 6 a0).bind fun bt241 => (if bt241.2.isNone = true then ((le_Read.f bt241.1).bind fun bt244 => ((le_In_Num.f k bt244.1 bt244.2 6).bind fun bt247 => ((le_In_Num.f k bt247.2.1 bt247.2.2 1).bind fun bt251 => (inode_Get.l0 k a1 bt251.1 bt251.1 0 bt251.2.1 bt251.2.2 bt247.1 ([] : List (S51)))))) else (some (0, ([] : List (S51)), some (bt241.2.getD 0))))
set_option maxRecDepth 100000 in
theorem inode_Get.mono_l : ∀ k, (∀ y0 y1 y2 y3 y4 y5 y6 y7, LeO (inode_Get.l0 k y0 y1 y2 y3 y4 y5 y6 y7) (inode_Get.l0 (k + 1) y0 y1 y2 y3 y4 y5 y6 y7)) ∧ (∀ y0 y1 y2 y3, LeO (inode_Get.j1 k y0 y1 y2 y3) (inode_Get.j1 (k + 1) y0 y1 y2 y3))
 | 0 => ⟨fun _ _ _ _ _ _ _ _ r h => by first | (rw [inode_Get.l0] at h; cases h) | simp [inode_Get.l0] at h, fun _ _ _ _ r h => by first | (rw [inode_Get.j1] at h; cases h) | simp [inode_Get.j1] at h⟩
 | k + 1 => by
  obtain ⟨ih0, ih1⟩ := inode_Get.mono_l k
  refine ⟨?_, ?_⟩
  ·intro y0 y1 y2 y3 y4 y5 y6 y7
   unfold inode_Get.l0
   repeat' first
   | (with_reducible exact ih0 _ _ _ _ _ _ _ _)
   | (with_reducible exact ih1 _ _ _ _)
   | (with_reducible exact le_In_Num.mono _ _ _ _)
   | (with_reducible exact mark_Open.mono _ _ _)
   | (with_reducible exact LeO.refl _)
   | (with_reducible exact LeO.none _)
   | (with_reducible refine LeO.ite ?_ ?_)
   | (with_reducible refine LeO.bind ?_ (fun _ => ?_))
   | exact ih0 _ _ _ _ _ _ _ _
   | exact ih1 _ _ _ _
   | exact le_In_Num.mono _ _ _ _
   | exact mark_Open.mono _ _ _
   | exact LeO.none _
   | refine LeO.ite ?_ ?_
   | refine LeO.bind ?_ (fun _ => ?_)
  ·intro y0 y1 y2 y3
   unfold inode_Get.j1
   repeat' first
   | (with_reducible exact ih0 _ _ _ _ _ _ _ _)
   | (with_reducible exact ih1 _ _ _ _)
   | (with_reducible exact le_In_Num.mono _ _ _ _)
   | (with_reducible exact mark_Open.mono _ _ _)
   | (with_reducible exact LeO.refl _)
   | (with_reducible exact LeO.none _)
   | (with_reducible refine LeO.ite ?_ ?_)
   | (with_reducible refine LeO.bind ?_ (fun _ => ?_))
   | exact ih0 _ _ _ _ _ _ _ _
   | exact ih1 _ _ _ _
   | exact le_In_Num.mono _ _ _ _
   | exact mark_Open.mono _ _ _
   | exact LeO.none _
   | refine LeO.ite ?_ ?_
   | refine LeO.bind ?_ (fun _ => ?_)
theorem inode_Get.mono : ∀ a0 a1 k, LeO (inode_Get.f k a0 a1) (inode_Get.f (k + 1) a0 a1) := by
 intro a0 a1 k
 obtain ⟨ih0, ih1⟩ := inode_Get.mono_l k
 unfold inode_Get.f
 repeat' first
   | (with_reducible exact ih0 _ _ _ _ _ _ _ _)
   | (with_reducible exact ih1 _ _ _ _)
   | (with_reducible exact le_In_Num.mono _ _ _ _)
   | (with_reducible exact mark_Open.mono _ _ _)
   | (with_reducible exact LeO.refl _)
   | (with_reducible exact LeO.none _)
   | (with_reducible refine LeO.ite ?_ ?_)
   | (with_reducible refine LeO.bind ?_ (fun _ => ?_))
   | exact ih0 _ _ _ _ _ _ _ _
   | exact ih1 _ _ _ _
   | exact le_In_Num.mono _ _ _ _
   | exact mark_Open.mono _ _ _
   | exact LeO.none _
   | refine LeO.ite ?_ ?_
   | refine LeO.bind ?_ (fun _ => ?_)
open inode_Get renaming j1 → Wj1, l0 → Wl0
set_option maxHeartbeats 8000000 in
set_option maxRecDepth 100000 in
theorem inode_Get.calls (k : Nat) (a0 : ByteArray) (a1 : Int) (r1 : Int) (r2 : List (S51)) (r3 : Option Int) (w : World) (hL_ : Laid w) (h : inode_Get.f k a0 a1 = some (r1, r2, r3)) :
  Calls Tryz.prog 12 #[.string a0, .int .i64 a1] w fun e w' => ∃ v1_ : Value, e = .returned (.tuple #[.agg #[.int .i64 r1, v1_], errW r3]) ∧ Kd.R k51 51 w' w.heap.size (fun _ => True) v1_ r2 ∧ Below w.heap.size w w' := by
 have HL_ := A0k hL_
 clear hL_
 have hu26 := Tryz.underlying26
 have hu51 := Tryz.underlying51
 have hu33 := Tryz.underlying33
 have hu57 := Tryz.underlying57
 have HB := A0k (Below.refl w.heap.size w)
 have H : ((mark_Open.f k 6 a0).bind fun bt241 => (if bt241.2.isNone = true then ((le_Read.f bt241.1).bind fun bt244 => ((le_In_Num.f k bt244.1 bt244.2 6).bind fun bt247 => ((le_In_Num.f k bt247.2.1 bt247.2.2 1).bind fun bt251 => (Wl0 k a1 bt251.1 bt251.1 0 bt251.2.1 bt251.2.2 bt247.1 ([] : List (S51)))))) else (some (0, ([] : List (S51)), some (bt241.2.getD 0))))) = some (r1, r2, r3) := h
 clear h
 replace H := Option.bind_eq_some_iff.mp H
 obtain ⟨⟨t241, t242⟩, A30, H⟩ := H
 replace H : (if t242.isNone = true then ((le_Read.f t241).bind fun bt244 => ((le_In_Num.f k bt244.1 bt244.2 6).bind fun bt247 => ((le_In_Num.f k bt247.2.1 bt247.2.2 1).bind fun bt251 => (Wl0 k a1 bt251.1 bt251.1 0 bt251.2.1 bt251.2.2 bt247.1 ([] : List (S51)))))) else (some (0, ([] : List (S51)), some (t242.getD 0)))) = some (r1, r2, r3) := H
 have A3 := A0k A30
 clear A30
 rcases t242 with _ | q243
 ·have H1 : ((le_Read.f t241).bind fun bt244 => ((le_In_Num.f k bt244.1 bt244.2 6).bind fun bt247 => ((le_In_Num.f k bt247.2.1 bt247.2.2 1).bind fun bt251 => (Wl0 k a1 bt251.1 bt251.1 0 bt251.2.1 bt251.2.2 bt247.1 ([] : List (S51)))))) = some (r1, r2, r3) := by rw [if_pos (show (none : Option Int).isNone = true by rfl)] at H; exact H
  clear H
  have H := H1
  clear H1
  try simp only [errW_none, errW_some]
  replace H := Option.bind_eq_some_iff.mp H
  obtain ⟨⟨t244, t245⟩, A40, H⟩ := H
  replace H : ((le_In_Num.f k t244 t245 6).bind fun bt247 => ((le_In_Num.f k bt247.2.1 bt247.2.2 1).bind fun bt251 => (Wl0 k a1 bt251.1 bt251.1 0 bt251.2.1 bt251.2.2 bt247.1 ([] : List (S51))))) = some (r1, r2, r3) := H
  have A4 := A0k A40
  clear A40
  replace H := Option.bind_eq_some_iff.mp H
  obtain ⟨⟨t247, t248, t249⟩, A50, H⟩ := H
  replace H : ((le_In_Num.f k t248 t249 1).bind fun bt251 => (Wl0 k a1 bt251.1 bt251.1 0 bt251.2.1 bt251.2.2 t247 ([] : List (S51)))) = some (r1, r2, r3) := H
  have A5 := A0k A50
  clear A50
  replace H := Option.bind_eq_some_iff.mp H
  obtain ⟨⟨t251, t252, t253⟩, A60, H⟩ := H
  replace H : (Wl0 k a1 t251 t251 0 t252 t253 t247 ([] : List (S51))) = some (r1, r2, r3) := H
  have A6 := A0k A60
  clear A60
  have H' := A0k H
  clear H
  go_enter Tryz.func12, Tryz.ntmps12
  go_wp2_with (first | ((with_reducible refine gD (N := 4) rfl ?_); refine bE ?hg (N := 4) ?hd (cs := #[.int .i64 0, .slice none 0 0]) (t := 26) ?hr ?_; (case hd => rfl); (case hg => rfl); (case hr => first | (go_simp; done) | (go_simp; rfl)); intro gb240 hg w7 hbox hb; have n0_ := A0k (pS (by repeat (first | (with_reducible first | exact HB.out | apply pA | apply pN | apply pD) | exact HB.out)) hb); have n1_ := A0k (hbox); have n2_ := A0k ((by rw [hg]; exact (pZ (by repeat (first | (with_reducible first | exact HB.out | apply pA | apply pN | apply pD) | exact HB.out))) : w.heap.size ≤ gb240)); have n3_ := A0k ((by rw [hg]; exact (pZ (by repeat (first | (with_reducible first | exact HB.out | apply pA | apply pN | apply pD) | exact HB.out))) : w.heap.size ≤ gb240)); clear HB; have HB := n0_; have BK240 := n1_; have GW240 := n2_; have GE240 := n3_; clear n0_ n1_ n2_ n3_ hb hbox hg) | ((with_reducible refine gC (f := 28) rfl ?_); refine gL_ (some 14) rfl rfl Tryz.func28 (by kernel_rfl) rfl #[.int .i64 6, .string a0] rfl (by (try simp only [List.map_toArray, List.map_cons, List.map_nil]); first | done | rfl | (simp only [List.length_drop, List.length_take]; rfl)) ?_; (with_reducible refine (mark_Open.calls k 6 a0 t241 none _ (Laid.below HL_.out (by repeat (first | (with_reducible first | exact HB.out | apply pA | apply pN | apply pD | refine bS ?_ GE240.out) | exact HB.out))) A3.out).mono ?_); rintro e w8 ⟨rfl, hb⟩; refine ⟨_, rfl, ?_⟩; have n0_ := A0k (bB (g := gb240) (o := .cells #[.int .i64 0, .slice none 0 0] 26 (0, 0)) (by (with_reducible repeat first | apply bN | apply bD | apply bA); exact BK240.out) hb); have n1_ := A0k (pS (by repeat (first | (with_reducible first | exact HB.out | apply pA | apply pN | apply pD | refine bS ?_ GE240.out) | exact HB.out)) hb); clear BK240 HB; have BK240 := n0_; have HB := n1_; clear n0_ n1_; (try clear hb); (try clear hb2); (try clear hk); (try clear hi); (try simp only [errW_none, errW_some])) | ((with_reducible refine gC (f := 29) rfl ?_); refine gL_ (some 22) rfl rfl Tryz.func29 (by kernel_rfl) rfl #[.string t241] rfl (by (try simp only [List.map_toArray, List.map_cons, List.map_nil]); first | done | rfl | (simp only [List.length_drop, List.length_take]; rfl)) ?_; (with_reducible refine (le_Read.calls t241 t244 t245 w _ ?side1 A4.out).mono ?_); (case side1 => repeat (first | (with_reducible first | exact HB.out | apply pA | apply pN | apply pD | refine bS ?_ GE240.out) | exact HB.out)); rintro e w9 ⟨g246, rfl, hi, hb, hb2⟩; refine ⟨_, rfl, ?_⟩; have n0_ := A0k (bB (g := gb240) (o := .cells #[.int .i64 0, .slice none 0 0] 26 (0, 0)) (by (with_reducible repeat first | apply bN | apply bD | apply bA); exact BK240.out) hb2); have n1_ := A0k (hb); have n2_ := A0k (hi); have n3_ := A0k (IsS94.ne_blk hi (bB (g := gb240) (o := .cells #[.int .i64 0, .slice none 0 0] 26 (0, 0)) (by (with_reducible repeat first | apply bN | apply bD | apply bA); exact BK240.out) hb2) (by decide)); have n4_ := A0k (Ne.symm (IsS94.ne_blk hi (bB (g := gb240) (o := .cells #[.int .i64 0, .slice none 0 0] 26 (0, 0)) (by (with_reducible repeat first | apply bN | apply bD | apply bA); exact BK240.out) hb2) (by decide))); clear BK240 HB; have BK240 := n0_; have HB := n1_; have HI246 := n2_; have NB246_240 := n3_; have NB240_246 := n4_; clear n0_ n1_ n2_ n3_ n4_; (try clear hb); (try clear hb2); (try clear hk); (try clear hi); (try simp only [errW_none, errW_some])) | ((with_reducible refine gC (f := 30) rfl ?_); refine gL_ (some 24) rfl rfl Tryz.func30 (by kernel_rfl) rfl #[.pointer (some ⟨g246, 0, none⟩), .int .i64 6] rfl (by (try simp only [List.map_toArray, List.map_cons, List.map_nil]); first | done | rfl | (simp only [List.length_drop, List.length_take]; rfl)) ?_; (with_reducible refine (le_In_Num.calls k g246 t244 t245 6 t247 t248 t249 w _ ?side1 ?side2 A5.out).mono ?_); (case side1 => repeat (first | (with_reducible first | exact HI246.out | apply IsS94.alloc | apply IsS94.drewN | apply IsS94.drew | apply IsS94.set_0 | apply IsS94.set_1_none | apply IsS94.set_1_some | apply IsS94.set_1 | refine IsS94.far ?_ NB246_240.out _) | exact HI246.out)); (case side2 => repeat (first | (with_reducible first | exact HB.out | apply pA | apply pN | apply pD | refine bS ?_ (IsS94.ge HI246.out) | refine bS ?_ GE240.out) | exact HB.out)); rintro e w10 ⟨rfl, hi, hb, hk⟩; refine ⟨_, rfl, ?_⟩; have n0_ := A0k (KeepBut.blk hk (g' := gb240) (o := .cells #[.int .i64 0, .slice none 0 0] 26 (0, 0)) (by (with_reducible repeat first | apply bN | apply bD | apply bA); exact BK240.out) NB240_246.out (by simp)); have n1_ := A0k (hb); have n2_ := A0k (hi); clear BK240 HB HI246; have BK240 := n0_; have HB := n1_; have HI246 := n2_; clear n0_ n1_ n2_; (try clear hb); (try clear hb2); (try clear hk); (try clear hi); (try simp only [errW_none, errW_some])) | ((with_reducible refine gD (N := 9) rfl ?_); refine bE ?hg (N := 9) ?hd (cs := #[.int .i64 0, .slice none 0 0]) (t := 26) ?hr ?_; (case hd => rfl); (case hg => rfl); (case hr => first | (go_simp; done) | (go_simp; rfl)); intro gb250 hg w11 hbox hb; have n0_ := A0k (bB (g := gb240) (o := .cells #[.int .i64 0, .slice none 0 0] 26 (0, 0)) (by (with_reducible repeat first | apply bN | apply bD | apply bA); exact BK240.out) hb); have n1_ := A0k (IsS94.below (by repeat (first | (with_reducible first | exact HI246.out | apply IsS94.alloc | apply IsS94.drewN | apply IsS94.drew | apply IsS94.set_0 | apply IsS94.set_1_none | apply IsS94.set_1_some | apply IsS94.set_1 | refine IsS94.far ?_ NB246_240.out _) | exact HI246.out)) hb); have n2_ := A0k (pS (by repeat (first | (with_reducible first | exact HB.out | apply pA | apply pN | apply pD | refine bS ?_ (IsS94.ge HI246.out) | refine bS ?_ GE240.out) | exact HB.out)) hb); have n3_ := A0k (hbox); have n4_ := A0k ((by rw [hg]; exact (pZ (by repeat (first | (with_reducible first | exact HB.out | apply pA | apply pN | apply pD | refine bS ?_ (IsS94.ge HI246.out) | refine bS ?_ GE240.out) | exact HB.out))) : w.heap.size ≤ gb250)); have n5_ := A0k ((by rw [hg]; exact (pZ (by repeat (first | (with_reducible first | exact HB.out | apply pA | apply pN | apply pD | refine bS ?_ (IsS94.ge HI246.out) | refine bS ?_ GE240.out) | exact HB.out))) : w.heap.size ≤ gb250)); have n6_ := A0k ((by rw [hg]; exact Nat.ne_of_lt (bL (g := gb240) (o := .cells #[.int .i64 0, .slice none 0 0] 26 (0, 0)) (by (with_reducible repeat first | apply bN | apply bD | apply bA); exact BK240.out)) : gb240 ≠ gb250)); have n7_ := A0k ((by rw [hg]; exact Nat.ne_of_gt (bL (g := gb240) (o := .cells #[.int .i64 0, .slice none 0 0] 26 (0, 0)) (by (with_reducible repeat first | apply bN | apply bD | apply bA); exact BK240.out)) : gb250 ≠ gb240)); have n8_ := A0k ((by rw [hg]; exact Nat.ne_of_lt (IsS94.lt (show IsS94 w _ g246 t248 t249 from by repeat (first | (with_reducible first | exact HI246.out | apply IsS94.alloc | apply IsS94.drewN | apply IsS94.drew | apply IsS94.set_0 | apply IsS94.set_1_none | apply IsS94.set_1_some | apply IsS94.set_1 | refine IsS94.far ?_ NB246_240.out _) | exact HI246.out))) : g246 ≠ gb250)); have n9_ := A0k ((by rw [hg]; exact Nat.ne_of_gt (IsS94.lt (show IsS94 w _ g246 t248 t249 from by repeat (first | (with_reducible first | exact HI246.out | apply IsS94.alloc | apply IsS94.drewN | apply IsS94.drew | apply IsS94.set_0 | apply IsS94.set_1_none | apply IsS94.set_1_some | apply IsS94.set_1 | refine IsS94.far ?_ NB246_240.out _) | exact HI246.out))) : gb250 ≠ g246)); clear BK240 HI246 HB; have BK240 := n0_; have HI246 := n1_; have HB := n2_; have BK250 := n3_; have GW250 := n4_; have GE250 := n5_; have NB240_250 := n6_; have NB250_240 := n7_; have NB246_250 := n8_; have NB250_246 := n9_; clear n0_ n1_ n2_ n3_ n4_ n5_ n6_ n7_ n8_ n9_ hb hbox hg; have hnb12 := NB250_240.out; have hnc12 := NB240_250.out; have hnb13 := NB250_246.out; have hnc13 := NB246_250.out; have hcz14_0 : w11.cell? ⟨gb250, 0, none⟩ = some (.int .i64 0) := (bC BK250.out 0).trans rfl; have hcz14_1 : w11.cell? ⟨gb250, 1, none⟩ = some (.slice none 0 0) := (bC BK250.out 1).trans rfl; have hfz14_0 := bF BK250.out 0; have hfz14_1 := bF BK250.out 1) | ((with_reducible refine gC (f := 30) rfl ?_); refine gL_ (some 27) rfl rfl Tryz.func30 (by kernel_rfl) rfl #[.pointer (some ⟨g246, 0, none⟩), .int .i64 1] rfl (by (try simp only [List.map_toArray, List.map_cons, List.map_nil]); first | done | rfl | (simp only [List.length_drop, List.length_take]; rfl)) ?_; (with_reducible refine (le_In_Num.calls k g246 t248 t249 1 t251 t252 t253 w _ ?side1 ?side2 A6.out).mono ?_); (case side1 => repeat (first | (with_reducible first | exact HI246.out | apply IsS94.alloc | apply IsS94.drewN | apply IsS94.drew | apply IsS94.set_0 | apply IsS94.set_1_none | apply IsS94.set_1_some | apply IsS94.set_1 | refine IsS94.far ?_ NB246_240.out _ | refine IsS94.far ?_ NB246_250.out _) | exact HI246.out)); (case side2 => repeat (first | (with_reducible first | exact HB.out | apply pA | apply pN | apply pD | refine bS ?_ (IsS94.ge HI246.out) | refine bS ?_ GE240.out | refine bS ?_ GE250.out) | exact HB.out)); rintro e w15 ⟨rfl, hi, hb, hk⟩; refine ⟨_, rfl, ?_⟩; have n0_ := A0k (KeepBut.blk hk (g' := gb240) (o := .cells #[.int .i64 0, .slice none 0 0] 26 (0, 0)) (by (with_reducible repeat first | apply bN | apply bD | apply bA); refine bR ?_ NB240_250.out _; (with_reducible repeat first | apply bN | apply bD | apply bA); refine bR ?_ NB240_250.out _; (with_reducible repeat first | apply bN | apply bD | apply bA); exact BK240.out) NB240_246.out (by simp)); have n1_ := A0k (KeepBut.blk hk (g' := gb250) (o := .cells #[.int .i64 t247, .slice none 0 0] 26 (0, 0)) (by (with_reducible repeat first | apply bN | apply bD | apply bA); refine bP (cs := #[.int .i64 t247, .slice none 0 0]) ?_ 1 _ rfl; (with_reducible repeat first | apply bN | apply bD | apply bA); refine bP (cs := #[.int .i64 0, .slice none 0 0]) ?_ 0 _ rfl; (with_reducible repeat first | apply bN | apply bD | apply bA); exact BK250.out) NB250_246.out (by simp)); have n2_ := A0k (hb); have n3_ := A0k (hi); clear BK240 BK250 HB HI246; have BK240 := n0_; have BK250 := n1_; have HB := n2_; have HI246 := n3_; clear n0_ n1_ n2_ n3_; (try clear hb); (try clear hb2); (try clear hk); (try clear hi); (try simp only [errW_none, errW_some])))
  go_loopg [29] k (fun kq v29 w' => ∃ (x29_1 : Int) (qd : ByteArray) (qe : Option Int) (qb : List (S51)) (qc : Value), v29 = .int .i64 x29_1 ∧ Aside0 (Wl0 kq a1 t251 t251 x29_1 qd qe t247 qb = some (r1, r2, r3)) ∧ Aside0 (kq ≤ k) ∧ Aside0 (Kd.R k51 51 w' w.heap.size (fun _ => True) qc qb) ∧ Aside0 (w'.heap[gb240]? = some (.cells #[.int .i64 0, (.slice none 0 0)] 26 (0, 0))) ∧ Aside0 (w'.heap[gb250]? = some (.cells #[.int .i64 t247, qc] 26 (0, 0))) ∧ Aside0 (IsS94 w w' g246 qd qe) ∧ Aside0 (Below w.heap.size w w'))
  case atStart => exact ⟨(0), (t252), (t253), (([] : List (S51))), (.slice none 0 0), (by first | rfl | (simp; done) | (simp [*]; done)), H', ⟨Nat.le_refl _⟩, ⟨by first | exact Kd.R_nil _ _ _ _ _ | exact Kd.N_nil _ _ _ _ _ | exact Kd.V_nil _ _ _ _ _ | exact Kd.Q_nil _ _ _ _ _ | exact Kd.S_nil _ _ _ _ _⟩, ⟨by (with_reducible repeat first | apply bN | apply bD | apply bA); exact BK240.out⟩, ⟨by (with_reducible repeat first | apply bN | apply bD | apply bA); exact BK250.out⟩, ⟨by repeat (first | (with_reducible first | exact HI246.out | apply IsS94.alloc | apply IsS94.drewN | apply IsS94.drew | apply IsS94.set_0 | apply IsS94.set_1_none | apply IsS94.set_1_some | apply IsS94.set_1 | refine IsS94.far ?_ NB246_240.out _ | refine IsS94.far ?_ NB246_250.out _) | exact HI246.out)⟩, ⟨by repeat (first | (with_reducible first | exact HB.out | apply pA | apply pN | apply pD | refine bS ?_ (IsS94.ge HI246.out) | refine bS ?_ GE240.out | refine bS ?_ GE250.out) | exact HB.out)⟩⟩
  case round =>
   clear H'
   (try clear c1); (try clear c2); (try clear p2); (try clear q2); (try clear c3); (try clear c12); (try clear c13); (try clear hcz14_0); (try clear hcz14_1); (try clear hfz14_0); (try clear hfz14_1); (try clear q243)
   obtain ⟨x29_1, qd, qe, qb, qc, rfl, HA, HK1, qa, BK240, BK250, HI246, HB⟩ := hrel
   cases gk with
   | zero => exact absurd HA.out (by simp [Wl0])
   | succ k1 =>
    have H := HA.out
    clear HA
    simp only [Wl0] at H
    by_cases c16 : x29_1 < t251
    ·rw [if_pos c16] at H
     have c16b0 : decide (x29_1 < t251) = true := decide_eq_true c16
     clear c16
     replace H := Option.bind_eq_some_iff.mp H
     obtain ⟨⟨t254, t255, t256⟩, A170, H⟩ := H
     replace H : ((le_In_Num.f k1 t255 t256 2).bind fun bt258 => (if qb.length < 8796093022208 then (Wl0 k1 a1 t251 t251 (wrap64 (x29_1 + 1)) bt258.2.1 bt258.2.2 t247 (qb ++ [(⟨t254, bt258.1⟩ : S51)])) else (none))) = some (r1, r2, r3) := H
     have A17 := A0k A170
     clear A170
     replace H := Option.bind_eq_some_iff.mp H
     obtain ⟨⟨t258, t259, t260⟩, A180, H⟩ := H
     replace H : (if qb.length < 8796093022208 then (Wl0 k1 a1 t251 t251 (wrap64 (x29_1 + 1)) t259 t260 t247 (qb ++ [(⟨t254, t258⟩ : S51)])) else (none)) = some (r1, r2, r3) := H
     have A18 := A0k A180
     clear A180
     by_cases c19 : qb.length < 8796093022208
     ·rw [if_pos c19] at H
      have LMc19 := A0k c19
      clear c19
      obtain ⟨y261, hy261⟩ : ∃ y_ : List (S51), y_ = (qb ++ [(⟨t254, t258⟩ : S51)]) := ⟨_, rfl⟩
      replace H : (Wl0 k1 a1 t251 t251 (wrap64 (x29_1 + 1)) t259 t260 t247 y261) = some (r1, r2, r3) := by first | (rw [hy261]; with_reducible exact H) | (have H2_ := (Option.bind_some _ _).symm.trans H; rw [hy261]; with_reducible exact H2_) | (have H2_ := (Option.bind_some _ _).symm.trans H; with_reducible exact H2_) | with_reducible exact H | (rw [hy261]; exact H) | exact H
      have Ny261 := A0k hy261
      clear hy261
      have H' := A0k H
      clear H
      go_wp2_with (first | ((with_reducible refine gC (f := 30) rfl ?_); refine gL_ (some 32) rfl rfl Tryz.func30 (by kernel_rfl) rfl #[.pointer (some ⟨g246, 0, none⟩), .int .i64 2] rfl (by (try simp only [List.map_toArray, List.map_cons, List.map_nil]); first | done | rfl | (simp only [List.length_drop, List.length_take]; rfl)) ?_; (with_reducible refine (le_In_Num.calls k1 g246 qd qe 2 t254 t255 t256 w _ ?side1 ?side2 A17.out).mono ?_); (case side1 => repeat (first | (with_reducible first | exact HI246.out | apply IsS94.alloc | apply IsS94.drewN | apply IsS94.drew | apply IsS94.set_0 | apply IsS94.set_1_none | apply IsS94.set_1_some | apply IsS94.set_1 | refine IsS94.far ?_ NB246_240.out _ | refine IsS94.far ?_ NB246_250.out _) | exact HI246.out)); (case side2 => repeat (first | (with_reducible first | exact HB.out | apply pA | apply pN | apply pD | refine bS ?_ (IsS94.ge HI246.out) | refine bS ?_ GE240.out | refine bS ?_ GE250.out) | exact HB.out)); rintro e w20 ⟨rfl, hi, hb, hk⟩; refine ⟨_, rfl, ?_⟩; have n0_ := A0k (Kd.R_mono (Kd.R_keep (IsS94.apart (show IsS94 w _ g246 qd qe from by repeat (first | (with_reducible first | exact HI246.out | apply IsS94.alloc | apply IsS94.drewN | apply IsS94.drew | apply IsS94.set_0 | apply IsS94.set_1_none | apply IsS94.set_1_some | apply IsS94.set_1 | refine IsS94.far ?_ NB246_240.out _ | refine IsS94.far ?_ NB246_250.out _) | exact HI246.out)) (by (with_reducible repeat first | apply rA | apply rN | apply rD); exact qa.out) (by decide)) hk (fun _ h => h.2)) (fun _ h => h.1)); have n1_ := A0k (KeepBut.blk hk (g' := gb240) (o := .cells #[.int .i64 0, .slice none 0 0] 26 (0, 0)) (by (with_reducible repeat first | apply bN | apply bD | apply bA); exact BK240.out) NB240_246.out (by simp)); have n2_ := A0k (KeepBut.blk hk (g' := gb250) (o := .cells #[.int .i64 t247, qc] 26 (0, 0)) (by (with_reducible repeat first | apply bN | apply bD | apply bA); exact BK250.out) NB250_246.out (by simp)); have n3_ := A0k (hb); have n4_ := A0k (hi); clear qa BK240 BK250 HB HI246; have qa := n0_; have BK240 := n1_; have BK250 := n2_; have HB := n3_; have HI246 := n4_; clear n0_ n1_ n2_ n3_ n4_; (try clear hb); (try clear hb2); (try clear hk); (try clear hi); (try simp only [errW_none, errW_some])) | ((with_reducible refine gD (N := 11) rfl ?_); refine bE ?hg (N := 11) ?hd (cs := #[.int .i64 0, .int .i64 0]) (t := 51) ?hr ?_; (case hd => rfl); (case hg => rfl); (case hr => first | (go_simp; done) | (go_simp; rfl)); intro gb257 hg w21 hbox hb; have n0_ := A0k (Kd.R_below (Kd.R_elderB (by (with_reducible repeat first | apply rA | apply rN | apply rD); exact qa.out) gb257 (Nat.le_of_eq hg.symm)) hb); have n1_ := A0k (bB (g := gb240) (o := .cells #[.int .i64 0, .slice none 0 0] 26 (0, 0)) (by (with_reducible repeat first | apply bN | apply bD | apply bA); exact BK240.out) hb); have n2_ := A0k (bB (g := gb250) (o := .cells #[.int .i64 t247, qc] 26 (0, 0)) (by (with_reducible repeat first | apply bN | apply bD | apply bA); exact BK250.out) hb); have n3_ := A0k (IsS94.below (by repeat (first | (with_reducible first | exact HI246.out | apply IsS94.alloc | apply IsS94.drewN | apply IsS94.drew | apply IsS94.set_0 | apply IsS94.set_1_none | apply IsS94.set_1_some | apply IsS94.set_1 | refine IsS94.far ?_ NB246_240.out _ | refine IsS94.far ?_ NB246_250.out _) | exact HI246.out)) hb); have n4_ := A0k (pS (by repeat (first | (with_reducible first | exact HB.out | apply pA | apply pN | apply pD | refine bS ?_ (IsS94.ge HI246.out) | refine bS ?_ GE240.out | refine bS ?_ GE250.out) | exact HB.out)) hb); have n5_ := A0k (hbox); have n6_ := A0k ((by rw [hg]; exact (pZ (by repeat (first | (with_reducible first | exact HB.out | apply pA | apply pN | apply pD | refine bS ?_ (IsS94.ge HI246.out) | refine bS ?_ GE240.out | refine bS ?_ GE250.out) | exact HB.out))) : w.heap.size ≤ gb257)); have n7_ := A0k ((by rw [hg]; exact (pZ (by repeat (first | (with_reducible first | exact HB.out | apply pA | apply pN | apply pD | refine bS ?_ (IsS94.ge HI246.out) | refine bS ?_ GE240.out | refine bS ?_ GE250.out) | exact HB.out))) : w.heap.size ≤ gb257)); have n8_ := A0k ((by rw [hg]; exact Nat.ne_of_lt (bL (g := gb240) (o := .cells #[.int .i64 0, .slice none 0 0] 26 (0, 0)) (by (with_reducible repeat first | apply bN | apply bD | apply bA); exact BK240.out)) : gb240 ≠ gb257)); have n9_ := A0k ((by rw [hg]; exact Nat.ne_of_gt (bL (g := gb240) (o := .cells #[.int .i64 0, .slice none 0 0] 26 (0, 0)) (by (with_reducible repeat first | apply bN | apply bD | apply bA); exact BK240.out)) : gb257 ≠ gb240)); have n10_ := A0k ((by rw [hg]; exact Nat.ne_of_lt (bL (g := gb250) (o := .cells #[.int .i64 t247, qc] 26 (0, 0)) (by (with_reducible repeat first | apply bN | apply bD | apply bA); exact BK250.out)) : gb250 ≠ gb257)); have n11_ := A0k ((by rw [hg]; exact Nat.ne_of_gt (bL (g := gb250) (o := .cells #[.int .i64 t247, qc] 26 (0, 0)) (by (with_reducible repeat first | apply bN | apply bD | apply bA); exact BK250.out)) : gb257 ≠ gb250)); have n12_ := A0k ((by rw [hg]; exact Nat.ne_of_lt (IsS94.lt (show IsS94 w _ g246 t255 t256 from by repeat (first | (with_reducible first | exact HI246.out | apply IsS94.alloc | apply IsS94.drewN | apply IsS94.drew | apply IsS94.set_0 | apply IsS94.set_1_none | apply IsS94.set_1_some | apply IsS94.set_1 | refine IsS94.far ?_ NB246_240.out _ | refine IsS94.far ?_ NB246_250.out _) | exact HI246.out))) : g246 ≠ gb257)); have n13_ := A0k ((by rw [hg]; exact Nat.ne_of_gt (IsS94.lt (show IsS94 w _ g246 t255 t256 from by repeat (first | (with_reducible first | exact HI246.out | apply IsS94.alloc | apply IsS94.drewN | apply IsS94.drew | apply IsS94.set_0 | apply IsS94.set_1_none | apply IsS94.set_1_some | apply IsS94.set_1 | refine IsS94.far ?_ NB246_240.out _ | refine IsS94.far ?_ NB246_250.out _) | exact HI246.out))) : gb257 ≠ g246)); clear qa BK240 BK250 HI246 HB; have qa := n0_; have BK240 := n1_; have BK250 := n2_; have HI246 := n3_; have HB := n4_; have BK257 := n5_; have GW257 := n6_; have GE257 := n7_; have NB240_257 := n8_; have NB257_240 := n9_; have NB250_257 := n10_; have NB257_250 := n11_; have NB246_257 := n12_; have NB257_246 := n13_; clear n0_ n1_ n2_ n3_ n4_ n5_ n6_ n7_ n8_ n9_ n10_ n11_ n12_ n13_ hb hbox hg; have hnb22 := NB257_240.out; have hnc22 := NB240_257.out; have hnb23 := NB257_250.out; have hnc23 := NB250_257.out; have hnb24 := NB257_246.out; have hnc24 := NB246_257.out; have hcz25_0 : w21.cell? ⟨gb257, 0, none⟩ = some (.int .i64 0) := (bC BK257.out 0).trans rfl; have hcz25_1 : w21.cell? ⟨gb257, 1, none⟩ = some (.int .i64 0) := (bC BK257.out 1).trans rfl; have hfz25_0 := bF BK257.out 0; have hfz25_1 := bF BK257.out 1) | ((with_reducible refine gC (f := 30) rfl ?_); refine gL_ (some 35) rfl rfl Tryz.func30 (by kernel_rfl) rfl #[.pointer (some ⟨g246, 0, none⟩), .int .i64 2] rfl (by (try simp only [List.map_toArray, List.map_cons, List.map_nil]); first | done | rfl | (simp only [List.length_drop, List.length_take]; rfl)) ?_; (with_reducible refine (le_In_Num.calls k1 g246 t255 t256 2 t258 t259 t260 w _ ?side1 ?side2 A18.out).mono ?_); (case side1 => repeat (first | (with_reducible first | exact HI246.out | apply IsS94.alloc | apply IsS94.drewN | apply IsS94.drew | apply IsS94.set_0 | apply IsS94.set_1_none | apply IsS94.set_1_some | apply IsS94.set_1 | refine IsS94.far ?_ NB246_240.out _ | refine IsS94.far ?_ NB246_250.out _ | refine IsS94.far ?_ NB246_257.out _) | exact HI246.out)); (case side2 => repeat (first | (with_reducible first | exact HB.out | apply pA | apply pN | apply pD | refine bS ?_ (IsS94.ge HI246.out) | refine bS ?_ GE240.out | refine bS ?_ GE250.out | refine bS ?_ GE257.out) | exact HB.out)); rintro e w26 ⟨rfl, hi, hb, hk⟩; refine ⟨_, rfl, ?_⟩; have n0_ := A0k (Kd.R_mono (Kd.R_keep (IsS94.apart (show IsS94 w _ g246 t255 t256 from by repeat (first | (with_reducible first | exact HI246.out | apply IsS94.alloc | apply IsS94.drewN | apply IsS94.drew | apply IsS94.set_0 | apply IsS94.set_1_none | apply IsS94.set_1_some | apply IsS94.set_1 | refine IsS94.far ?_ NB246_240.out _ | refine IsS94.far ?_ NB246_250.out _ | refine IsS94.far ?_ NB246_257.out _) | exact HI246.out)) (by (with_reducible repeat first | apply rA | apply rN | apply rD); exact (Kd.R_mono (Kd.R_far (p := ⟨gb257, 1, none⟩) (Kd.R_far (p := ⟨gb257, 0, none⟩) (Kd.R_mono qa.out (fun k_ hk => (⟨hk, hk.2⟩ : _ ∧ k_ ≠ gb257))) (fun _ hk => hk.2) (.int .i64 t254)) (fun _ hk => hk.2) (.int .i64 0)) (fun _ h_ => h_.1))) (by decide)) hk (fun _ h => h.2)) (fun _ h => h.1)); have n1_ := A0k (KeepBut.blk hk (g' := gb240) (o := .cells #[.int .i64 0, .slice none 0 0] 26 (0, 0)) (by (with_reducible repeat first | apply bN | apply bD | apply bA); refine bR ?_ NB240_257.out _; (with_reducible repeat first | apply bN | apply bD | apply bA); refine bR ?_ NB240_257.out _; (with_reducible repeat first | apply bN | apply bD | apply bA); exact BK240.out) NB240_246.out (by simp)); have n2_ := A0k (KeepBut.blk hk (g' := gb250) (o := .cells #[.int .i64 t247, qc] 26 (0, 0)) (by (with_reducible repeat first | apply bN | apply bD | apply bA); refine bR ?_ NB250_257.out _; (with_reducible repeat first | apply bN | apply bD | apply bA); refine bR ?_ NB250_257.out _; (with_reducible repeat first | apply bN | apply bD | apply bA); exact BK250.out) NB250_246.out (by simp)); have n3_ := A0k (KeepBut.blk hk (g' := gb257) (o := .cells #[.int .i64 t254, .int .i64 0] 51 (0, 0)) (by (with_reducible repeat first | apply bN | apply bD | apply bA); refine bP (cs := #[.int .i64 t254, .int .i64 0]) ?_ 1 _ rfl; (with_reducible repeat first | apply bN | apply bD | apply bA); refine bP (cs := #[.int .i64 0, .int .i64 0]) ?_ 0 _ rfl; (with_reducible repeat first | apply bN | apply bD | apply bA); exact BK257.out) NB257_246.out (by simp)); have n4_ := A0k (hb); have n5_ := A0k (hi); clear qa BK240 BK250 BK257 HB HI246; have qa := n0_; have BK240 := n1_; have BK250 := n2_; have BK257 := n3_; have HB := n4_; have HI246 := n5_; clear n0_ n1_ n2_ n3_ n4_ n5_; (try clear hb); (try clear hb2); (try clear hk); (try clear hi); (try simp only [errW_none, errW_some]); have hcz27_0 : w26.cell? ⟨gb257, 0, none⟩ = some (.int .i64 t254) := (bC BK257.out 0).trans rfl; have hcz27_1 : w26.cell? ⟨gb257, 1, none⟩ = some (.int .i64 0) := (bC BK257.out 1).trans rfl; have hfz27_0 := bF BK257.out 0; have hfz27_1 := bF BK257.out 1; have hnb28 := NB250_240.out; have hnc28 := NB240_250.out; have hnb29 := NB250_246.out; have hnc29 := NB246_250.out; have hcz30_0 : w26.cell? ⟨gb250, 0, none⟩ = some (.int .i64 t247) := (bC BK250.out 0).trans rfl; have hcz30_1 : w26.cell? ⟨gb250, 1, none⟩ = some (qc) := (bC BK250.out 1).trans rfl; have hfz30_0 := bF BK250.out 0; have hfz30_1 := bF BK250.out 1) | ((with_reducible refine gB (b := .append) (xs := #[.tmp 38, .tmp 40]) rfl ?_); at_builtin; refine Kd.R_append k51 (w0 := w) w.heap.size rfl (.tmp 38) (.tmp 40) 24 51 (.agg #[(.int .i64 0), (.int .i64 0)]) 16 rfl Tryz.underlying24 info51 rfl (by decide) (by omega) qc qb (⟨t254, t258⟩ : S51) [.int .i64 t254, .int .i64 t258] (fun k_ => k_ ≠ gb257) (fun _ => False) rfl (by first | (go_simp; done) | (go_simp; rfl)) ?aP (fun _ hk => hk.elim) ?aF ?aO ?aB ?aS ?aL ?_; (case aP => exact k51_mkM _ _ _ (⟨t254, t258⟩ : S51)); (case aB => exact (by repeat (first | (with_reducible first | exact HB.out | apply pA | apply pN | apply pD | refine bS ?_ (IsS94.ge HI246.out) | refine bS ?_ GE240.out | refine bS ?_ GE250.out | refine bS ?_ GE257.out) | exact HB.out))); (case aF => exact (fun k_ hk => Kd.freshB (g := gb257) (o := .cells #[.int .i64 t254, .int .i64 t258] 51 (0, 0)) (by (with_reducible repeat first | apply bN | apply bD | apply bA); refine bP (cs := #[.int .i64 t254, .int .i64 0]) ?_ 1 _ rfl; (with_reducible repeat first | apply bN | apply bD | apply bA); exact BK257.out) k_ hk)); (case aO => exact (by (with_reducible repeat first | apply rA | apply rN | apply rD); exact Kd.R_mono (Kd.R_far (p := ⟨gb257, 1, none⟩) (Kd.R_mono qa.out (fun k_ hk => (⟨hk, hk.2⟩ : _ ∧ k_ ≠ gb257))) (fun _ hk => hk.2) (.int .i64 t258)) (fun _ hk => hk.1.2))); (case aS => exact (pZ (by repeat (first | (with_reducible first | exact HB.out | apply pA | apply pN | apply pD | refine bS ?_ (IsS94.ge HI246.out) | refine bS ?_ GE240.out | refine bS ?_ GE250.out | refine bS ?_ GE257.out) | exact HB.out)))); (case aL => have := LMc19.out; omega); intro v262 w31 ho hb hg hat; rw [← Ny261.out] at ho; have n0_ := A0k (blk_grown (g := gb240) (o := .cells #[.int .i64 0, .slice none 0 0] 26 (0, 0)) (by (with_reducible repeat first | apply bN | apply bD | apply bA); refine bR ?_ NB240_257.out _; (with_reducible repeat first | apply bN | apply bD | apply bA); exact BK240.out) hg (Kd.R_ne qa.out BK240.out (by decide))); have n1_ := A0k (blk_grown (g := gb250) (o := .cells #[.int .i64 t247, qc] 26 (0, 0)) (by (with_reducible repeat first | apply bN | apply bD | apply bA); refine bR ?_ NB250_257.out _; (with_reducible repeat first | apply bN | apply bD | apply bA); exact BK250.out) hg (Kd.R_ne qa.out BK250.out (by decide))); have n2_ := A0k (IsS94.grown (show IsS94 w _ g246 t259 t260 from by repeat (first | (with_reducible first | exact HI246.out | apply IsS94.alloc | apply IsS94.drewN | apply IsS94.drew | apply IsS94.set_0 | apply IsS94.set_1_none | apply IsS94.set_1_some | apply IsS94.set_1 | refine IsS94.far ?_ NB246_240.out _ | refine IsS94.far ?_ NB246_250.out _ | refine IsS94.far ?_ NB246_257.out _) | exact HI246.out)) hg (IsS94.own_ne HI246.out qa.out (by decide))); have n3_ := A0k (blk_grown (g := gb257) (o := .cells #[.int .i64 t254, .int .i64 t258] 51 (0, 0)) (by (with_reducible repeat first | apply bN | apply bD | apply bA); refine bP (cs := #[.int .i64 t254, .int .i64 0]) ?_ 1 _ rfl; (with_reducible repeat first | apply bN | apply bD | apply bA); exact BK257.out) hg (Kd.R_away qa.out (fun _ hk => hk.2))); have n4_ := A0k (hb); have n5_ := A0k (ho); clear BK240 BK250 HI246 BK257 HB qa; have BK240 := n0_; have BK250 := n1_; have HI246 := n2_; have BK257 := n3_; have HB := n4_; have HO263 := n5_; clear n0_ n1_ n2_ n3_ n4_ n5_ ho hb hg hat; obtain ⟨Ao32, co32, eo32⟩ := Kd.R_slice HO263.out; subst eo32; have hcz33_0 : w31.cell? ⟨gb250, 0, none⟩ = some (.int .i64 t247) := (bC BK250.out 0).trans rfl; have hcz33_1 : w31.cell? ⟨gb250, 1, none⟩ = some (qc) := (bC BK250.out 1).trans rfl; have hfz33_0 := bF BK250.out 0; have hfz33_1 := bF BK250.out 1))
      go_roundg k1
      case measure => have := HK1.out; omega
      case rel => exact ⟨(wrap64 (x29_1 + 1)), (t259), (t260), (y261), (.slice Ao32 y261.length co32), (by first | rfl | (simp; done) | (simp [*]; done)), H', ⟨by have := HK1.out; omega⟩, ⟨by (with_reducible repeat first | apply rA | apply rN | apply rD); exact Kd.R_mono (Kd.R_far (p := ⟨gb250, 1, none⟩) (Kd.R_types HO263.out BK250.out (by decide)) (fun _ hk => hk.2) (.slice Ao32 y261.length co32)) (fun _ hk => trivial)⟩, ⟨by (with_reducible repeat first | apply bN | apply bD | apply bA); refine bR ?_ NB240_250.out _; (with_reducible repeat first | apply bN | apply bD | apply bA); exact BK240.out⟩, ⟨by (with_reducible repeat first | apply bN | apply bD | apply bA); refine bP (cs := #[.int .i64 t247, qc]) ?_ 1 _ rfl; (with_reducible repeat first | apply bN | apply bD | apply bA); exact BK250.out⟩, ⟨by repeat (first | (with_reducible first | exact HI246.out | apply IsS94.alloc | apply IsS94.drewN | apply IsS94.drew | apply IsS94.set_0 | apply IsS94.set_1_none | apply IsS94.set_1_some | apply IsS94.set_1 | refine IsS94.far ?_ NB246_240.out _ | refine IsS94.far ?_ NB246_250.out _ | refine IsS94.far ?_ NB246_257.out _) | exact HI246.out)⟩, ⟨by repeat (first | (with_reducible first | exact HB.out | apply pA | apply pN | apply pD | refine bS ?_ (IsS94.ge HI246.out) | refine bS ?_ GE240.out | refine bS ?_ GE250.out | refine bS ?_ GE257.out) | exact HB.out)⟩⟩
     ·rw [if_neg c19] at H
      exact absurd H (by simp)
    ·rw [if_neg c16] at H
     have c16b0 : decide (x29_1 < t251) = false := decide_eq_false c16
     clear c16
     replace H := Option.bind_eq_some_iff.mp H
     obtain ⟨⟨t264, t265⟩, A340, H⟩ := H
     replace H : (if t251 > 36 then (Wj1 k1 a1 true t247 qb) else ((le_In_End.f t264 t265).bind fun bt266 => (if bt266.1.isNone = true then (Wj1 k1 a1 false t247 qb) else (Wj1 k1 a1 true t247 qb)))) = some (r1, r2, r3) := H
     have A34 := A0k A340
     clear A340
     have HC35 := A0k H
     clear H
     go_upto_region 14 with (first | ((with_reducible refine gC (f := 31) rfl ?_); refine gL_ (some 48) rfl rfl Tryz.func31 (by kernel_rfl) rfl #[.pointer (some ⟨g246, 0, none⟩), .int .i64 (wrap64 (497 - (wrap64 (4 * t251))))] rfl (by (try simp only [List.map_toArray, List.map_cons, List.map_nil]); first | done | rfl | (simp only [List.length_drop, List.length_take]; rfl)) ?_; (with_reducible refine (le_In_Noughts.calls g246 qd qe (wrap64 (497 - (wrap64 (4 * t251)))) t264 t265 w _ ?side1 ?side2 A34.out).mono ?_); (case side1 => repeat (first | (with_reducible first | exact HI246.out | apply IsS94.alloc | apply IsS94.drewN | apply IsS94.drew | apply IsS94.set_0 | apply IsS94.set_1_none | apply IsS94.set_1_some | apply IsS94.set_1 | refine IsS94.far ?_ NB246_240.out _ | refine IsS94.far ?_ NB246_250.out _) | exact HI246.out)); (case side2 => repeat (first | (with_reducible first | exact HB.out | apply pA | apply pN | apply pD | refine bS ?_ (IsS94.ge HI246.out) | refine bS ?_ GE240.out | refine bS ?_ GE250.out) | exact HB.out)); rintro e w36 ⟨rfl, hi, hb, hk⟩; refine ⟨_, rfl, ?_⟩; have n0_ := A0k (Kd.R_mono (Kd.R_keep (IsS94.apart (show IsS94 w _ g246 qd qe from by repeat (first | (with_reducible first | exact HI246.out | apply IsS94.alloc | apply IsS94.drewN | apply IsS94.drew | apply IsS94.set_0 | apply IsS94.set_1_none | apply IsS94.set_1_some | apply IsS94.set_1 | refine IsS94.far ?_ NB246_240.out _ | refine IsS94.far ?_ NB246_250.out _) | exact HI246.out)) (by (with_reducible repeat first | apply rA | apply rN | apply rD); exact qa.out) (by decide)) hk (fun _ h => h.2)) (fun _ h => h.1)); have n1_ := A0k (KeepBut.blk hk (g' := gb240) (o := .cells #[.int .i64 0, .slice none 0 0] 26 (0, 0)) (by (with_reducible repeat first | apply bN | apply bD | apply bA); exact BK240.out) NB240_246.out (by simp)); have n2_ := A0k (KeepBut.blk hk (g' := gb250) (o := .cells #[.int .i64 t247, qc] 26 (0, 0)) (by (with_reducible repeat first | apply bN | apply bD | apply bA); exact BK250.out) NB250_246.out (by simp)); have n3_ := A0k (hb); have n4_ := A0k (hi); clear qa BK240 BK250 HB HI246; have qa := n0_; have BK240 := n1_; have BK250 := n2_; have HB := n3_; have HI246 := n4_; clear n0_ n1_ n2_ n3_ n4_; (try clear hb); (try clear hb2); (try clear hk); (try clear hi); (try simp only [errW_none, errW_some])))
     (try simp only [Act.put, lS, lZ, lC])
     go_cut [49] (fun v49 wc => ∃ (kq : Nat) (x49_34 : Bool), v49 = .bool x49_34 ∧ Aside0 (Wj1 kq a1 x49_34 t247 qb = some (r1, r2, r3)) ∧ Aside0 (kq ≤ k1) ∧ Aside0 (Kd.R k51 51 wc w.heap.size (fun _ => True) qc qb) ∧ Aside0 (wc.heap[gb240]? = some (.cells #[.int .i64 0, (.slice none 0 0)] 26 (0, 0))) ∧ Aside0 (wc.heap[gb250]? = some (.cells #[.int .i64 t247, qc] 26 (0, 0))) ∧ Aside0 (Below w.heap.size w wc))
     case first =>
      have H := HC35.out
      clear HC35
      by_cases c37 : t251 > 36
      ·rw [if_pos c37] at H
       have c37b0 : decide (36 < t251) = true := decide_eq_true c37
       clear c37
       (first | rw [c37b0] | (simp only [i64_w, i32_w]; rw [c37b0]) | skip)
       have H' := A0k H
       clear H
       go_wp2
       go_meet
       case rel => exact ⟨_, (true), (by first | rfl | (simp; done) | (simp [*]; done)), H', ⟨by have := HK1.out; first | omega | exact Nat.le_refl _⟩, ⟨by (with_reducible repeat first | apply rA | apply rN | apply rD); exact qa.out⟩, ⟨by (with_reducible repeat first | apply bN | apply bD | apply bA); exact BK240.out⟩, ⟨by (with_reducible repeat first | apply bN | apply bD | apply bA); exact BK250.out⟩, ⟨by repeat (first | (with_reducible first | exact HB.out | apply pA | apply pN | apply pD | refine bS ?_ (IsS94.ge HI246.out) | refine bS ?_ GE240.out | refine bS ?_ GE250.out) | exact HB.out)⟩⟩
      ·rw [if_neg c37] at H
       have c37b0 : decide (36 < t251) = false := decide_eq_false c37
       clear c37
       (first | rw [c37b0] | (simp only [i64_w, i32_w]; rw [c37b0]) | skip)
       replace H := Option.bind_eq_some_iff.mp H
       obtain ⟨⟨t266, t267, t268⟩, A380, H⟩ := H
       replace H : (if t266.isNone = true then (Wj1 k1 a1 false t247 qb) else (Wj1 k1 a1 true t247 qb)) = some (r1, r2, r3) := H
       have A38 := A0k A380
       clear A380
       rcases t266 with _ | q269
       ·have H1 : (Wj1 k1 a1 false t247 qb) = some (r1, r2, r3) := by rw [if_pos (show (none : Option Int).isNone = true by rfl)] at H; exact H
        clear H
        have H := H1
        clear H1
        try simp only [errW_none, errW_some]
        have H' := A0k H
        clear H
        go_wp2_with (first | (go_at_call 32; (with_reducible refine (le_In_End.calls g246 t264 t265 none t267 t268 w _ ?side1 ?side2 A38.out).mono ?_); (case side1 => repeat (first | (with_reducible first | exact HI246.out | apply IsS94.alloc | apply IsS94.drewN | apply IsS94.drew | apply IsS94.set_0 | apply IsS94.set_1_none | apply IsS94.set_1_some | apply IsS94.set_1 | refine IsS94.far ?_ NB246_240.out _ | refine IsS94.far ?_ NB246_250.out _) | exact HI246.out)); (case side2 => repeat (first | (with_reducible first | exact HB.out | apply pA | apply pN | apply pD | refine bS ?_ (IsS94.ge HI246.out) | refine bS ?_ GE240.out | refine bS ?_ GE250.out) | exact HB.out)); rintro e w39 ⟨rfl, hi, hb, hk⟩; have n0_ := A0k (Kd.R_mono (Kd.R_keep (IsS94.apart (show IsS94 w _ g246 t264 t265 from by repeat (first | (with_reducible first | exact HI246.out | apply IsS94.alloc | apply IsS94.drewN | apply IsS94.drew | apply IsS94.set_0 | apply IsS94.set_1_none | apply IsS94.set_1_some | apply IsS94.set_1 | refine IsS94.far ?_ NB246_240.out _ | refine IsS94.far ?_ NB246_250.out _) | exact HI246.out)) (by (with_reducible repeat first | apply rA | apply rN | apply rD); exact qa.out) (by decide)) hk (fun _ h => h.2)) (fun _ h => h.1)); have n1_ := A0k (KeepBut.blk hk (g' := gb240) (o := .cells #[.int .i64 0, .slice none 0 0] 26 (0, 0)) (by (with_reducible repeat first | apply bN | apply bD | apply bA); exact BK240.out) NB240_246.out (by simp)); have n2_ := A0k (KeepBut.blk hk (g' := gb250) (o := .cells #[.int .i64 t247, qc] 26 (0, 0)) (by (with_reducible repeat first | apply bN | apply bD | apply bA); exact BK250.out) NB250_246.out (by simp)); have n3_ := A0k (hb); have n4_ := A0k (hi); clear qa BK240 BK250 HB HI246; have qa := n0_; have BK240 := n1_; have BK250 := n2_; have HB := n3_; have HI246 := n4_; clear n0_ n1_ n2_ n3_ n4_; (try clear hb); (try clear hb2); (try clear hk); (try clear hi); (try simp only [errW_none, errW_some])))
        go_meet
        case rel => exact ⟨_, (false), (by first | rfl | (simp; done) | (simp [*]; done)), H', ⟨by have := HK1.out; first | omega | exact Nat.le_refl _⟩, ⟨by (with_reducible repeat first | apply rA | apply rN | apply rD); exact qa.out⟩, ⟨by (with_reducible repeat first | apply bN | apply bD | apply bA); exact BK240.out⟩, ⟨by (with_reducible repeat first | apply bN | apply bD | apply bA); exact BK250.out⟩, ⟨by repeat (first | (with_reducible first | exact HB.out | apply pA | apply pN | apply pD | refine bS ?_ (IsS94.ge HI246.out) | refine bS ?_ GE240.out | refine bS ?_ GE250.out) | exact HB.out)⟩⟩
       ·have H1 : (Wj1 k1 a1 true t247 qb) = some (r1, r2, r3) := by rw [if_neg (show ¬ (some q269).isNone = true by simp)] at H; exact H
        clear H
        have H := H1
        clear H1
        try simp only [errW_none, errW_some]
        have H' := A0k H
        clear H
        go_wp2_with (first | (go_at_call 32; (with_reducible refine (le_In_End.calls g246 t264 t265 (some q269) t267 t268 w _ ?side1 ?side2 A38.out).mono ?_); (case side1 => repeat (first | (with_reducible first | exact HI246.out | apply IsS94.alloc | apply IsS94.drewN | apply IsS94.drew | apply IsS94.set_0 | apply IsS94.set_1_none | apply IsS94.set_1_some | apply IsS94.set_1 | refine IsS94.far ?_ NB246_240.out _ | refine IsS94.far ?_ NB246_250.out _) | exact HI246.out)); (case side2 => repeat (first | (with_reducible first | exact HB.out | apply pA | apply pN | apply pD | refine bS ?_ (IsS94.ge HI246.out) | refine bS ?_ GE240.out | refine bS ?_ GE250.out) | exact HB.out)); rintro e w40 ⟨rfl, hi, hb, hk⟩; have n0_ := A0k (Kd.R_mono (Kd.R_keep (IsS94.apart (show IsS94 w _ g246 t264 t265 from by repeat (first | (with_reducible first | exact HI246.out | apply IsS94.alloc | apply IsS94.drewN | apply IsS94.drew | apply IsS94.set_0 | apply IsS94.set_1_none | apply IsS94.set_1_some | apply IsS94.set_1 | refine IsS94.far ?_ NB246_240.out _ | refine IsS94.far ?_ NB246_250.out _) | exact HI246.out)) (by (with_reducible repeat first | apply rA | apply rN | apply rD); exact qa.out) (by decide)) hk (fun _ h => h.2)) (fun _ h => h.1)); have n1_ := A0k (KeepBut.blk hk (g' := gb240) (o := .cells #[.int .i64 0, .slice none 0 0] 26 (0, 0)) (by (with_reducible repeat first | apply bN | apply bD | apply bA); exact BK240.out) NB240_246.out (by simp)); have n2_ := A0k (KeepBut.blk hk (g' := gb250) (o := .cells #[.int .i64 t247, qc] 26 (0, 0)) (by (with_reducible repeat first | apply bN | apply bD | apply bA); exact BK250.out) NB250_246.out (by simp)); have n3_ := A0k (hb); have n4_ := A0k (hi); clear qa BK240 BK250 HB HI246; have qa := n0_; have BK240 := n1_; have BK250 := n2_; have HB := n3_; have HI246 := n4_; clear n0_ n1_ n2_ n3_ n4_; (try clear hb); (try clear hb2); (try clear hk); (try clear hi); (try simp only [errW_none, errW_some])))
        go_meet
        case rel => exact ⟨_, (true), (by first | rfl | (simp; done) | (simp [*]; done)), H', ⟨by have := HK1.out; first | omega | exact Nat.le_refl _⟩, ⟨by (with_reducible repeat first | apply rA | apply rN | apply rD); exact qa.out⟩, ⟨by (with_reducible repeat first | apply bN | apply bD | apply bA); exact BK240.out⟩, ⟨by (with_reducible repeat first | apply bN | apply bD | apply bA); exact BK250.out⟩, ⟨by repeat (first | (with_reducible first | exact HB.out | apply pA | apply pN | apply pD | refine bS ?_ (IsS94.ge HI246.out) | refine bS ?_ GE240.out | refine bS ?_ GE250.out) | exact HB.out)⟩⟩
     case rest =>
      clear HC35
      (try clear c1); (try clear c2); (try clear p2); (try clear q2); (try clear c3); (try clear p6); (try clear c12); (try clear c13); (try clear c16); (try clear c16b0); (try clear c19); (try clear c22); (try clear c23); (try clear c24); (try clear q24); (try clear q26); (try clear c28); (try clear c29); (try clear c30); (try clear c31); (try clear c37); (try clear c37b0); (try clear hcz14_0); (try clear hcz14_1); (try clear hcz25_0); (try clear hcz25_1); (try clear hcz27_0); (try clear hcz27_1); (try clear hcz30_0); (try clear hcz30_1); (try clear hcz33_0); (try clear hcz33_1); (try clear hfz14_0); (try clear hfz14_1); (try clear hfz25_0); (try clear hfz25_1); (try clear hfz27_0); (try clear hfz27_1); (try clear hfz30_0); (try clear hfz30_1); (try clear hfz33_0); (try clear hfz33_1); (try clear p2); (try clear q2); (try clear q243); (try clear q269)
      obtain ⟨kq, x49_34, rfl, HA, HJ34, qa, BK240, BK250, HB⟩ := hcut
      cases kq with
      | zero => exact absurd HA.out (by simp [Wj1])
      | succ kj34 =>
       have H := HA.out
       clear HA
       simp only [Wj1] at H
       by_cases c41 : x49_34 = true
       ·subst c41
        have H1 : (some (0, ([] : List (S51)), some 4)) = some (r1, r2, r3) := by rw [if_pos rfl] at H; exact H
        clear H
        have H := H1
        clear H1
        simp only [Option.some.injEq, Prod.mk.injEq] at H
        obtain ⟨rfl, rfl, rfl⟩ := H
        have hnb42 := NB240_250.out
        have hnc42 := NB250_240.out
        have hcz43_0 : wc.cell? ⟨gb240, 0, none⟩ = some (.int .i64 0) := (bC BK240.out 0).trans rfl
        have hcz43_1 : wc.cell? ⟨gb240, 1, none⟩ = some (.slice none 0 0) := (bC BK240.out 1).trans rfl
        have hfz43_0 := bF BK240.out 0
        have hfz43_1 := bF BK240.out 1
        go_wp2
        refine bodyPost_ret (results_ct rfl _ _ gb240 26 #[.int .i64 0, .slice none 0 0] (0, 0) _ rfl (by (with_reducible repeat first | apply bN | apply bD | apply bA); refine bP (cs := #[.int .i64 0, .slice none 0 0]) ?_ 1 _ rfl; (with_reducible repeat first | apply bN | apply bD | apply bA); refine bP (cs := #[.int .i64 0, .slice none 0 0]) ?_ 0 _ rfl; (with_reducible repeat first | apply bN | apply bD | apply bA); exact BK240.out) Tryz.underlying26 rfl (by kernel_rfl)) rfl ?_
        exact ⟨_, by first | rfl | (simp [errW_none, errW_some] <;> rfl) | (simp [*, errW_none, errW_some] <;> rfl), by first | exact Kd.R_nil _ _ _ _ _ | exact Kd.N_nil _ _ _ _ _ | exact Kd.V_nil _ _ _ _ _ | exact Kd.Q_nil _ _ _ _ _ | exact Kd.S_nil _ _ _ _ _, by repeat (first | (with_reducible first | exact HB.out | apply pA | apply pN | apply pD | refine bS ?_ GE240.out | refine bS ?_ GE250.out) | exact HB.out)⟩
       ·replace c41 := Bool.eq_false_iff.mpr c41
        subst c41
        have H1 : ((inode_Right.f t247 qb a1).bind fun t270 => (if t270 = true then (some (t247, qb, none)) else (some (0, ([] : List (S51)), some 17)))) = some (r1, r2, r3) := by rw [if_neg (show ¬ (false = true) by decide)] at H; exact H
        clear H
        have H := H1
        clear H1
        replace H := Option.bind_eq_some_iff.mp H
        obtain ⟨t270, A440, H⟩ := H
        replace H : (if t270 = true then (some (t247, qb, none)) else (some (0, ([] : List (S51)), some 17))) = some (r1, r2, r3) := H
        have A44 := A0k A440
        clear A440
        by_cases c45 : t270 = true
        ·subst c45
         have H1 : (some (t247, qb, none)) = some (r1, r2, r3) := by rw [if_pos rfl] at H; exact H
         clear H
         have H := H1
         clear H1
         simp only [Option.some.injEq, Prod.mk.injEq] at H
         obtain ⟨rfl, rfl, rfl⟩ := H
         have hnb46 := NB250_240.out
         have hnc46 := NB240_250.out
         have hcz47_0 : wc.cell? ⟨gb250, 0, none⟩ = some (.int .i64 t247) := (bC BK250.out 0).trans rfl
         have hcz47_1 : wc.cell? ⟨gb250, 1, none⟩ = some (qc) := (bC BK250.out 1).trans rfl
         have hfz47_0 := bF BK250.out 0
         have hfz47_1 := bF BK250.out 1
         obtain ⟨Ao48, co48, eo48⟩ := Kd.R_slice qa.out
         subst eo48
         go_wp2_with (first | ((with_reducible refine gC (f := 10) rfl ?_); refine gL_ (some 62) rfl rfl Tryz.func10 (by kernel_rfl) rfl #[.agg #[.int .i64 t247, .slice Ao48 qb.length co48], .int .i64 a1] rfl (by (try simp only [List.map_toArray, List.map_cons, List.map_nil]); first | done | rfl | (simp only [List.length_drop, List.length_take]; rfl)) ?_; (with_reducible refine (inode_Right.calls t247 _ _ qb a1 true _ ?side1 ?side2 A44.out).mono ?_); (case side1 => repeat (first | exact (Kd.R_reads' qa.out).2.2 | (with_reducible refine Kd.C_alloc ?_ _) | (with_reducible refine Kd.C_drewN ?_ _) | (with_reducible refine Kd.C_drew ?_))); (case side2 => exact (Kd.R_reads' qa.out).2.1); rintro e w49 ⟨rfl, hb⟩; refine ⟨_, rfl, ?_⟩; have n0_ := A0k (Kd.R_below (by (with_reducible repeat first | apply rA | apply rN | apply rD); exact qa.out) hb); have n1_ := A0k (bB (g := gb240) (o := .cells #[.int .i64 0, .slice none 0 0] 26 (0, 0)) (by (with_reducible repeat first | apply bN | apply bD | apply bA); exact BK240.out) hb); have n2_ := A0k (bB (g := gb250) (o := .cells #[.int .i64 t247, .slice Ao48 qb.length co48] 26 (0, 0)) (by (with_reducible repeat first | apply bN | apply bD | apply bA); exact BK250.out) hb); have n3_ := A0k (pS (by repeat (first | (with_reducible first | exact HB.out | apply pA | apply pN | apply pD | refine bS ?_ GE240.out | refine bS ?_ GE250.out) | exact HB.out)) hb); clear qa BK240 BK250 HB; have qa := n0_; have BK240 := n1_; have BK250 := n2_; have HB := n3_; clear n0_ n1_ n2_ n3_; (try clear hb); (try clear hb2); (try clear hk); (try clear hi); have hcz50_0 : w49.cell? ⟨gb250, 0, none⟩ = some (.int .i64 t247) := (bC BK250.out 0).trans rfl; have hcz50_1 : w49.cell? ⟨gb250, 1, none⟩ = some (.slice Ao48 qb.length co48) := (bC BK250.out 1).trans rfl; have hfz50_0 := bF BK250.out 0; have hfz50_1 := bF BK250.out 1; have hcz51_0 : w49.cell? ⟨gb240, 0, none⟩ = some (.int .i64 0) := (bC BK240.out 0).trans rfl; have hcz51_1 : w49.cell? ⟨gb240, 1, none⟩ = some (.slice none 0 0) := (bC BK240.out 1).trans rfl; have hfz51_0 := bF BK240.out 0; have hfz51_1 := bF BK240.out 1))
         refine bodyPost_ret (results_ct rfl _ _ gb240 26 #[.int .i64 t247, .slice Ao48 qb.length co48] (0, 0) _ rfl (by (with_reducible repeat first | apply bN | apply bD | apply bA); refine bP (cs := #[.int .i64 t247, .slice none 0 0]) ?_ 1 _ rfl; (with_reducible repeat first | apply bN | apply bD | apply bA); refine bP (cs := #[.int .i64 0, .slice none 0 0]) ?_ 0 _ rfl; (with_reducible repeat first | apply bN | apply bD | apply bA); exact BK240.out) Tryz.underlying26 rfl (by kernel_rfl)) rfl ?_
         exact ⟨_, by first | rfl | (simp [errW_none, errW_some] <;> rfl) | (simp [*, errW_none, errW_some] <;> rfl), by (with_reducible repeat first | apply rA | apply rN | apply rD); exact Kd.R_mono (Kd.R_far (p := ⟨gb240, 1, none⟩) (Kd.R_far (p := ⟨gb240, 0, none⟩) (Kd.R_types qa.out BK240.out (by decide)) (fun _ hk => hk.2) (.int .i64 t247)) (fun _ hk => hk.2) (.slice Ao48 qb.length co48)) (fun _ hk => trivial), by repeat (first | (with_reducible first | exact HB.out | apply pA | apply pN | apply pD | refine bS ?_ GE240.out | refine bS ?_ GE250.out) | exact HB.out)⟩
        ·replace c45 := Bool.eq_false_iff.mpr c45
         subst c45
         have H1 : (some (0, ([] : List (S51)), some 17)) = some (r1, r2, r3) := by rw [if_neg (show ¬ (false = true) by decide)] at H; exact H
         clear H
         have H := H1
         clear H1
         simp only [Option.some.injEq, Prod.mk.injEq] at H
         obtain ⟨rfl, rfl, rfl⟩ := H
         have hnb52 := NB250_240.out
         have hnc52 := NB240_250.out
         have hcz53_0 : wc.cell? ⟨gb250, 0, none⟩ = some (.int .i64 t247) := (bC BK250.out 0).trans rfl
         have hcz53_1 : wc.cell? ⟨gb250, 1, none⟩ = some (qc) := (bC BK250.out 1).trans rfl
         have hfz53_0 := bF BK250.out 0
         have hfz53_1 := bF BK250.out 1
         obtain ⟨Ao54, co54, eo54⟩ := Kd.R_slice qa.out
         subst eo54
         go_wp2_with (first | ((with_reducible refine gC (f := 10) rfl ?_); refine gL_ (some 62) rfl rfl Tryz.func10 (by kernel_rfl) rfl #[.agg #[.int .i64 t247, .slice Ao54 qb.length co54], .int .i64 a1] rfl (by (try simp only [List.map_toArray, List.map_cons, List.map_nil]); first | done | rfl | (simp only [List.length_drop, List.length_take]; rfl)) ?_; (with_reducible refine (inode_Right.calls t247 _ _ qb a1 false _ ?side1 ?side2 A44.out).mono ?_); (case side1 => repeat (first | exact (Kd.R_reads' qa.out).2.2 | (with_reducible refine Kd.C_alloc ?_ _) | (with_reducible refine Kd.C_drewN ?_ _) | (with_reducible refine Kd.C_drew ?_))); (case side2 => exact (Kd.R_reads' qa.out).2.1); rintro e w55 ⟨rfl, hb⟩; refine ⟨_, rfl, ?_⟩; have n0_ := A0k (Kd.R_below (by (with_reducible repeat first | apply rA | apply rN | apply rD); exact qa.out) hb); have n1_ := A0k (bB (g := gb240) (o := .cells #[.int .i64 0, .slice none 0 0] 26 (0, 0)) (by (with_reducible repeat first | apply bN | apply bD | apply bA); exact BK240.out) hb); have n2_ := A0k (bB (g := gb250) (o := .cells #[.int .i64 t247, .slice Ao54 qb.length co54] 26 (0, 0)) (by (with_reducible repeat first | apply bN | apply bD | apply bA); exact BK250.out) hb); have n3_ := A0k (pS (by repeat (first | (with_reducible first | exact HB.out | apply pA | apply pN | apply pD | refine bS ?_ GE240.out | refine bS ?_ GE250.out) | exact HB.out)) hb); clear qa BK240 BK250 HB; have qa := n0_; have BK240 := n1_; have BK250 := n2_; have HB := n3_; clear n0_ n1_ n2_ n3_; (try clear hb); (try clear hb2); (try clear hk); (try clear hi); have hcz56_0 : w55.cell? ⟨gb240, 0, none⟩ = some (.int .i64 0) := (bC BK240.out 0).trans rfl; have hcz56_1 : w55.cell? ⟨gb240, 1, none⟩ = some (.slice none 0 0) := (bC BK240.out 1).trans rfl; have hfz56_0 := bF BK240.out 0; have hfz56_1 := bF BK240.out 1))
         refine bodyPost_ret (results_ct rfl _ _ gb240 26 #[.int .i64 0, .slice none 0 0] (0, 0) _ rfl (by (with_reducible repeat first | apply bN | apply bD | apply bA); refine bP (cs := #[.int .i64 0, .slice none 0 0]) ?_ 1 _ rfl; (with_reducible repeat first | apply bN | apply bD | apply bA); refine bP (cs := #[.int .i64 0, .slice none 0 0]) ?_ 0 _ rfl; (with_reducible repeat first | apply bN | apply bD | apply bA); exact BK240.out) Tryz.underlying26 rfl (by kernel_rfl)) rfl ?_
         exact ⟨_, by first | rfl | (simp [errW_none, errW_some] <;> rfl) | (simp [*, errW_none, errW_some] <;> rfl), by first | exact Kd.R_nil _ _ _ _ _ | exact Kd.N_nil _ _ _ _ _ | exact Kd.V_nil _ _ _ _ _ | exact Kd.Q_nil _ _ _ _ _ | exact Kd.S_nil _ _ _ _ _, by repeat (first | (with_reducible first | exact HB.out | apply pA | apply pN | apply pD | refine bS ?_ GE240.out | refine bS ?_ GE250.out) | exact HB.out)⟩
 ·have H1 : (some (0, ([] : List (S51)), some q243)) = some (r1, r2, r3) := by rw [if_neg (show ¬ (some q243).isNone = true by simp)] at H; exact H
  clear H
  have H := H1
  clear H1
  try simp only [errW_none, errW_some]
  simp only [Option.some.injEq, Prod.mk.injEq] at H
  obtain ⟨rfl, rfl, rfl⟩ := H
  go_enter Tryz.func12, Tryz.ntmps12
  go_wp2_with (first | ((with_reducible refine gD (N := 4) rfl ?_); refine bE ?hg (N := 4) ?hd (cs := #[.int .i64 0, .slice none 0 0]) (t := 26) ?hr ?_; (case hd => rfl); (case hg => rfl); (case hr => first | (go_simp; done) | (go_simp; rfl)); intro gb240 hg w57 hbox hb; have n0_ := A0k (pS (by repeat (first | (with_reducible first | exact HB.out | apply pA | apply pN | apply pD) | exact HB.out)) hb); have n1_ := A0k (hbox); have n2_ := A0k ((by rw [hg]; exact (pZ (by repeat (first | (with_reducible first | exact HB.out | apply pA | apply pN | apply pD) | exact HB.out))) : w.heap.size ≤ gb240)); have n3_ := A0k ((by rw [hg]; exact (pZ (by repeat (first | (with_reducible first | exact HB.out | apply pA | apply pN | apply pD) | exact HB.out))) : w.heap.size ≤ gb240)); clear HB; have HB := n0_; have BK240 := n1_; have GW240 := n2_; have GE240 := n3_; clear n0_ n1_ n2_ n3_ hb hbox hg) | ((with_reducible refine gC (f := 28) rfl ?_); refine gL_ (some 14) rfl rfl Tryz.func28 (by kernel_rfl) rfl #[.int .i64 6, .string a0] rfl (by (try simp only [List.map_toArray, List.map_cons, List.map_nil]); first | done | rfl | (simp only [List.length_drop, List.length_take]; rfl)) ?_; (with_reducible refine (mark_Open.calls k 6 a0 t241 (some q243) _ (Laid.below HL_.out (by repeat (first | (with_reducible first | exact HB.out | apply pA | apply pN | apply pD | refine bS ?_ GE240.out) | exact HB.out))) A3.out).mono ?_); rintro e w58 ⟨rfl, hb⟩; refine ⟨_, rfl, ?_⟩; have n0_ := A0k (bB (g := gb240) (o := .cells #[.int .i64 0, .slice none 0 0] 26 (0, 0)) (by (with_reducible repeat first | apply bN | apply bD | apply bA); exact BK240.out) hb); have n1_ := A0k (pS (by repeat (first | (with_reducible first | exact HB.out | apply pA | apply pN | apply pD | refine bS ?_ GE240.out) | exact HB.out)) hb); clear BK240 HB; have BK240 := n0_; have HB := n1_; clear n0_ n1_; (try clear hb); (try clear hb2); (try clear hk); (try clear hi); (try simp only [errW_none, errW_some]); have hcz59_0 : w58.cell? ⟨gb240, 0, none⟩ = some (.int .i64 0) := (bC BK240.out 0).trans rfl; have hcz59_1 : w58.cell? ⟨gb240, 1, none⟩ = some (.slice none 0 0) := (bC BK240.out 1).trans rfl; have hfz59_0 := bF BK240.out 0; have hfz59_1 := bF BK240.out 1))
  refine bodyPost_ret (results_ct rfl _ _ gb240 26 #[.int .i64 0, .slice none 0 0] (0, 0) _ rfl (by (with_reducible repeat first | apply bN | apply bD | apply bA); refine bP (cs := #[.int .i64 0, .slice none 0 0]) ?_ 1 _ rfl; (with_reducible repeat first | apply bN | apply bD | apply bA); refine bP (cs := #[.int .i64 0, .slice none 0 0]) ?_ 0 _ rfl; (with_reducible repeat first | apply bN | apply bD | apply bA); exact BK240.out) Tryz.underlying26 rfl (by kernel_rfl)) rfl ?_
  exact ⟨_, by first | rfl | (simp [errW_none, errW_some] <;> rfl) | (simp [*, errW_none, errW_some] <;> rfl), by first | exact Kd.R_nil _ _ _ _ _ | exact Kd.N_nil _ _ _ _ _ | exact Kd.V_nil _ _ _ _ _ | exact Kd.Q_nil _ _ _ _ _ | exact Kd.S_nil _ _ _ _ _, by repeat (first | (with_reducible first | exact HB.out | apply pA | apply pN | apply pD | refine bS ?_ GE240.out) | exact HB.out)⟩

end Go.Proofs.YtmncfcebjohloaaGreatDoor.VInodePuts
