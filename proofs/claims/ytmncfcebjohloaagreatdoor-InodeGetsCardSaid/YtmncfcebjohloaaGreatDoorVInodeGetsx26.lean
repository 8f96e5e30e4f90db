/- Contracts of functions of this seat: each call comes to what its Lean function computes; no condition beyond what each theorem states. Printed by a program of this session's own laid over the kit's printer. -/
import Derived.Test.YtmncfcebjohloaaGreatDoorVInodeGetsx0
import Derived.Test.YtmncfcebjohloaaGreatDoorVInodeGetsx8
import Derived.Test.YtmncfcebjohloaaGreatDoorVInodeGetsx15
import Derived.Test.YtmncfcebjohloaaGreatDoorVInodeGetsx22
import Derived.Test.YtmncfcebjohloaaGreatDoorVInodeGetsx23
import Derived.Test.YtmncfcebjohloaaGreatDoorVInodeGetsx25
namespace Go.Proofs.YtmncfcebjohloaaGreatDoor.VInodeGets
open Go.RowKit Go.Proofs.YtmncfcebjohloaaGreatDoorW.PrintWords Go.Proofs.YtmncfcebjohloaaGreatDoorW.PrintLast Go.Proofs.YtmncfcebjohloaaGreatDoorW.PrintMore
attribute [local go_sem] max2_int min2_int max_two min_two max_three min_three max_four min_four   -- for this text's walks alone
set_option linter.unusedVariables false
set_option linter.unusedSimpArgs false

/-! ### le_In_Noughts: function 31 -/
def le_In_Noughts.f (s0_0 : ByteArray) (s0_1 : Option Int) (a1 : Int) : Option (ByteArray × Option Int) := (le_In_Text.f s0_0 s0_1 a1).bind fun bt189 => ((strings_Trim.f bt189.1 (⟨#[0]⟩ : ByteArray)).bind fun t192 => (if t192.toList = ([] : List UInt8) then (some (bt189.2.1, bt189.2.2)) else ((le_In_fail.f bt189.2.1 bt189.2.2 4).bind fun bt193 => (some (bt193.1, bt193.2)))))
set_option maxHeartbeats 8000000 in
set_option maxRecDepth 100000 in
theorem le_In_Noughts.calls (g : Nat) (s0_0 : ByteArray) (s0_1 : Option Int) (a1 : Int) (r1 : ByteArray) (r2 : Option Int) (w0 w : World) (hI : IsS94 w0 w g s0_0 s0_1) (hB : Below w0.heap.size w0 w) (h : le_In_Noughts.f s0_0 s0_1 a1 = some (r1, r2)) :
  Calls Tryz.prog 31 #[.pointer (some ⟨g, 0, none⟩), .int .i64 a1] w fun e w' => e = .returned (.tuple #[]) ∧ IsS94 w0 w' g r1 r2 ∧ Below w0.heap.size w0 w' ∧ KeepBut w w' g none := by
 have HI0 := Aside0.mk hI
 have HK := Aside0.mk (KeepBut.refl w g none)
 have HL := Aside0.mk hB.size
 clear hI
 have HW0 := Aside0.mk hB.size
 have HB := Aside0.mk hB
 clear hB
 have H : ((le_In_Text.f s0_0 s0_1 a1).bind fun bt189 => ((strings_Trim.f bt189.1 (⟨#[0]⟩ : ByteArray)).bind fun t192 => (if t192.toList = ([] : List UInt8) then (some (bt189.2.1, bt189.2.2)) else ((le_In_fail.f bt189.2.1 bt189.2.2 4).bind fun bt193 => (some (bt193.1, bt193.2)))))) = some (r1, r2) := h
 clear h
 replace H := Option.bind_eq_some_iff.mp H
 obtain ⟨⟨t189, t190, t191⟩, A30, H⟩ := H
 replace H : ((strings_Trim.f t189 (⟨#[0]⟩ : ByteArray)).bind fun t192 => (if t192.toList = ([] : List UInt8) then (some (t190, t191)) else ((le_In_fail.f t190 t191 4).bind fun bt193 => (some (bt193.1, bt193.2))))) = some (r1, r2) := H
 have A3 := Aside0.mk A30
 clear A30
 replace H := Option.bind_eq_some_iff.mp H
 obtain ⟨t192, A40, H⟩ := H
 replace H : (if t192.toList = ([] : List UInt8) then (some (t190, t191)) else ((le_In_fail.f t190 t191 4).bind fun bt193 => (some (bt193.1, bt193.2)))) = some (r1, r2) := H
 have A4 := Aside0.mk A40
 clear A40
 by_cases c5 : t192.toList = ([] : List UInt8)
 ·rw [if_pos c5] at H
  have c5b0 : (t192.toList == ([] : List UInt8)) = true := beq_iff_eq.mpr c5
  have c5b1 : (t192.toList != ([] : List UInt8)) = false := bne_eq_false_iff_eq.mpr c5
  clear c5
  simp only [Option.some.injEq, Prod.mk.injEq] at H
  obtain ⟨rfl, rfl⟩ := H
  go_enter Tryz.func31, Tryz.ntmps31
  go_wp2_with (first | ((with_reducible refine gate_callee (f := 49) rfl ?_); refine goesL_ (some 6) rfl rfl Tryz.func49 (by kernel_rfl) rfl #[.pointer (some ⟨g, 0, none⟩), .int .i64 a1] rfl (by (try simp only [List.map_toArray, List.map_cons, List.map_nil]); first | done | rfl | (simp only [List.length_drop, List.length_take]; rfl) | (simp only [decide_eq_true_eq, decide_eq_false_iff_not, eq_iff_iff, iff_true, iff_false] at *; have w_id : ∀ {n : Int}, -9223372036854775808 ≤ n → n ≤ 9223372036854775807 → wrap64 n = n := fun h0 h1 => (by unfold wrap64; omega); rw [w_id (by omega) (by omega)]; rfl)) ?_; (with_reducible refine (le_In_Text.calls g s0_0 s0_1 a1 t189 t190 t191 w0 _ ?side1 ?side2 A3.out).mono ?_); (case side1 => repeat (first | (with_reducible first | exact HI0.out | apply IsS94.alloc | apply IsS94.drewN | apply IsS94.drew | apply IsS94.set_0 | apply IsS94.set_1_none | apply IsS94.set_1_some | apply IsS94.set_1) | exact HI0.out)); (case side2 => repeat (first | (with_reducible first | exact HB.out | apply below_alloc | apply pw_below_drewN | apply below_drew1 | refine below_set ?_ (IsS94.ge HI0.out)) | exact HB.out)); rintro e w6 ⟨rfl, hi, hb, hk⟩; refine ⟨_, rfl, ?_⟩; have n0_ := Aside0.mk (KeepBut.trans (by repeat (first | (with_reducible first | exact HK.out | apply KeepBut.set_ | apply keep_drewN | apply keep_drew | apply keep_alloc) | exact HK.out)) hk (.inl rfl)); have n1_ := Aside0.mk (hb); have n2_ := Aside0.mk (hi); clear HK; clear HB; clear HI0; have HK := n0_; have HB := n1_; have HI0 := n2_; clear n0_ n1_ n2_; (try clear hb); (try clear hb2); (try clear hk); (try clear hi); (try simp only [errW_none, errW_some])) | ((with_reducible refine gate_callee (f := 50) rfl ?_); refine goesL_ (some 7) rfl rfl Tryz.func50 (by kernel_rfl) rfl #[.string t189, .string (⟨#[0]⟩ : ByteArray)] rfl (by (try simp only [List.map_toArray, List.map_cons, List.map_nil]); first | done | rfl | (simp only [List.length_drop, List.length_take]; rfl) | (simp only [decide_eq_true_eq, decide_eq_false_iff_not, eq_iff_iff, iff_true, iff_false] at *; have w_id : ∀ {n : Int}, -9223372036854775808 ≤ n → n ≤ 9223372036854775807 → wrap64 n = n := fun h0 h1 => (by unfold wrap64; omega); rw [w_id (by omega) (by omega)]; rfl)) ?_; (with_reducible refine (strings_Trim.calls t189 (⟨#[0]⟩ : ByteArray) t192 _ A4.out).mono ?_); rintro e w7 ⟨rfl, hb⟩; refine ⟨_, rfl, ?_⟩; have n0_ := Aside0.mk (IsS94.below (by repeat (first | (with_reducible first | exact HI0.out | apply IsS94.alloc | apply IsS94.drewN | apply IsS94.drew | apply IsS94.set_0 | apply IsS94.set_1_none | apply IsS94.set_1_some | apply IsS94.set_1) | exact HI0.out)) hb); have n1_ := Aside0.mk (KeepBut.trans (by repeat (first | (with_reducible first | exact HK.out | apply KeepBut.set_ | apply keep_drewN | apply keep_drew | apply keep_alloc) | exact HK.out)) (KeepBut.of_below hb g none) (.inl rfl)); have n2_ := Aside0.mk (below_step (by repeat (first | (with_reducible first | exact HB.out | apply below_alloc | apply pw_below_drewN | apply below_drew1 | refine below_set ?_ (IsS94.ge HI0.out)) | exact HB.out)) hb); clear HI0; clear HK; clear HB; have HI0 := n0_; have HK := n1_; have HB := n2_; clear n0_ n1_ n2_; (try clear hb); (try clear hb2); (try clear hk); (try clear hi)))
  first | go_end0 | ((try simp only [Exit.inBlock, Exit.then]); refine bodyPost_ret (results_none rfl _ _ _) rfl ?_)
  exact ⟨by first | rfl | (simp [errW_none, errW_some] <;> rfl) | (simp [*, errW_none, errW_some] <;> rfl), by repeat (first | (with_reducible first | exact HI0.out | apply IsS94.alloc | apply IsS94.drewN | apply IsS94.drew | apply IsS94.set_0 | apply IsS94.set_1_none | apply IsS94.set_1_some | apply IsS94.set_1) | exact HI0.out), by repeat (first | (with_reducible first | exact HB.out | apply below_alloc | apply pw_below_drewN | apply below_drew1 | refine below_set ?_ (IsS94.ge HI0.out)) | exact HB.out), by repeat (first | (with_reducible first | exact HK.out | apply KeepBut.set_ | apply keep_drewN | apply keep_drew | apply keep_alloc) | exact HK.out)⟩
 ·rw [if_neg c5] at H
  have c5b0 : (t192.toList == ([] : List UInt8)) = false := beq_eq_false_iff_ne.mpr c5
  have c5b1 : (t192.toList != ([] : List UInt8)) = true := bne_iff_ne.mpr c5
  replace H := Option.bind_eq_some_iff.mp H
  obtain ⟨⟨t193, t194⟩, A80, H⟩ := H
  replace H : (some (t193, t194)) = some (r1, r2) := H
  have A8 := Aside0.mk A80
  clear A80
  simp only [Option.some.injEq, Prod.mk.injEq] at H
  obtain ⟨rfl, rfl⟩ := H
  go_enter Tryz.func31, Tryz.ntmps31
  go_wp2_with (first | ((with_reducible refine gate_callee (f := 49) rfl ?_); refine goesL_ (some 6) rfl rfl Tryz.func49 (by kernel_rfl) rfl #[.pointer (some ⟨g, 0, none⟩), .int .i64 a1] rfl (by (try simp only [List.map_toArray, List.map_cons, List.map_nil]); first | done | rfl | (simp only [List.length_drop, List.length_take]; rfl) | (simp only [decide_eq_true_eq, decide_eq_false_iff_not, eq_iff_iff, iff_true, iff_false] at *; have w_id : ∀ {n : Int}, -9223372036854775808 ≤ n → n ≤ 9223372036854775807 → wrap64 n = n := fun h0 h1 => (by unfold wrap64; omega); rw [w_id (by omega) (by omega)]; rfl)) ?_; (with_reducible refine (le_In_Text.calls g s0_0 s0_1 a1 t189 t190 t191 w0 _ ?side1 ?side2 A3.out).mono ?_); (case side1 => repeat (first | (with_reducible first | exact HI0.out | apply IsS94.alloc | apply IsS94.drewN | apply IsS94.drew | apply IsS94.set_0 | apply IsS94.set_1_none | apply IsS94.set_1_some | apply IsS94.set_1) | exact HI0.out)); (case side2 => repeat (first | (with_reducible first | exact HB.out | apply below_alloc | apply pw_below_drewN | apply below_drew1 | refine below_set ?_ (IsS94.ge HI0.out)) | exact HB.out)); rintro e w9 ⟨rfl, hi, hb, hk⟩; refine ⟨_, rfl, ?_⟩; have n0_ := Aside0.mk (KeepBut.trans (by repeat (first | (with_reducible first | exact HK.out | apply KeepBut.set_ | apply keep_drewN | apply keep_drew | apply keep_alloc) | exact HK.out)) hk (.inl rfl)); have n1_ := Aside0.mk (hb); have n2_ := Aside0.mk (hi); clear HK; clear HB; clear HI0; have HK := n0_; have HB := n1_; have HI0 := n2_; clear n0_ n1_ n2_; (try clear hb); (try clear hb2); (try clear hk); (try clear hi); (try simp only [errW_none, errW_some])) | ((with_reducible refine gate_callee (f := 50) rfl ?_); refine goesL_ (some 7) rfl rfl Tryz.func50 (by kernel_rfl) rfl #[.string t189, .string (⟨#[0]⟩ : ByteArray)] rfl (by (try simp only [List.map_toArray, List.map_cons, List.map_nil]); first | done | rfl | (simp only [List.length_drop, List.length_take]; rfl) | (simp only [decide_eq_true_eq, decide_eq_false_iff_not, eq_iff_iff, iff_true, iff_false] at *; have w_id : ∀ {n : Int}, -9223372036854775808 ≤ n → n ≤ 9223372036854775807 → wrap64 n = n := fun h0 h1 => (by unfold wrap64; omega); rw [w_id (by omega) (by omega)]; rfl)) ?_; (with_reducible refine (strings_Trim.calls t189 (⟨#[0]⟩ : ByteArray) t192 _ A4.out).mono ?_); rintro e w10 ⟨rfl, hb⟩; refine ⟨_, rfl, ?_⟩; have n0_ := Aside0.mk (IsS94.below (by repeat (first | (with_reducible first | exact HI0.out | apply IsS94.alloc | apply IsS94.drewN | apply IsS94.drew | apply IsS94.set_0 | apply IsS94.set_1_none | apply IsS94.set_1_some | apply IsS94.set_1) | exact HI0.out)) hb); have n1_ := Aside0.mk (KeepBut.trans (by repeat (first | (with_reducible first | exact HK.out | apply KeepBut.set_ | apply keep_drewN | apply keep_drew | apply keep_alloc) | exact HK.out)) (KeepBut.of_below hb g none) (.inl rfl)); have n2_ := Aside0.mk (below_step (by repeat (first | (with_reducible first | exact HB.out | apply below_alloc | apply pw_below_drewN | apply below_drew1 | refine below_set ?_ (IsS94.ge HI0.out)) | exact HB.out)) hb); clear HI0; clear HK; clear HB; have HI0 := n0_; have HK := n1_; have HB := n2_; clear n0_ n1_ n2_; (try clear hb); (try clear hb2); (try clear hk); (try clear hi)) | ((with_reducible refine gate_callee (f := 47) rfl ?_); refine goesL_ (some 10) rfl rfl Tryz.func47 (by kernel_rfl) rfl #[.pointer (some ⟨g, 0, none⟩), .int .i64 4] rfl (by (try simp only [List.map_toArray, List.map_cons, List.map_nil]); first | done | rfl | (simp only [List.length_drop, List.length_take]; rfl) | (simp only [decide_eq_true_eq, decide_eq_false_iff_not, eq_iff_iff, iff_true, iff_false] at *; have w_id : ∀ {n : Int}, -9223372036854775808 ≤ n → n ≤ 9223372036854775807 → wrap64 n = n := fun h0 h1 => (by unfold wrap64; omega); rw [w_id (by omega) (by omega)]; rfl)) ?_; (with_reducible refine (le_In_fail.calls g t190 t191 4 t193 t194 w0 _ ?side1 ?side2 A8.out).mono ?_); (case side1 => repeat (first | (with_reducible first | exact HI0.out | apply IsS94.alloc | apply IsS94.drewN | apply IsS94.drew | apply IsS94.set_0 | apply IsS94.set_1_none | apply IsS94.set_1_some | apply IsS94.set_1) | exact HI0.out)); (case side2 => repeat (first | (with_reducible first | exact HB.out | apply below_alloc | apply pw_below_drewN | apply below_drew1 | refine below_set ?_ (IsS94.ge HI0.out)) | exact HB.out)); rintro e w11 ⟨rfl, hi, hb, hk⟩; refine ⟨_, rfl, ?_⟩; have n0_ := Aside0.mk (KeepBut.trans (by repeat (first | (with_reducible first | exact HK.out | apply KeepBut.set_ | apply keep_drewN | apply keep_drew | apply keep_alloc) | exact HK.out)) hk (.inl rfl)); have n1_ := Aside0.mk (hb); have n2_ := Aside0.mk (hi); clear HK; clear HB; clear HI0; have HK := n0_; have HB := n1_; have HI0 := n2_; clear n0_ n1_ n2_; (try clear hb); (try clear hb2); (try clear hk); (try clear hi); (try simp only [errW_none, errW_some])))
  first | go_end0 | ((try simp only [Exit.inBlock, Exit.then]); refine bodyPost_ret (results_none rfl _ _ _) rfl ?_)
  exact ⟨by first | rfl | (simp [errW_none, errW_some] <;> rfl) | (simp [*, errW_none, errW_some] <;> rfl), by repeat (first | (with_reducible first | exact HI0.out | apply IsS94.alloc | apply IsS94.drewN | apply IsS94.drew | apply IsS94.set_0 | apply IsS94.set_1_none | apply IsS94.set_1_some | apply IsS94.set_1) | exact HI0.out), by repeat (first | (with_reducible first | exact HB.out | apply below_alloc | apply pw_below_drewN | apply below_drew1 | refine below_set ?_ (IsS94.ge HI0.out)) | exact HB.out), by repeat (first | (with_reducible first | exact HK.out | apply KeepBut.set_ | apply keep_drewN | apply keep_drew | apply keep_alloc) | exact HK.out)⟩

/-! ### le_In_End: function 32 -/
def le_In_End.f (s0_0 : ByteArray) (s0_1 : Option Int) : Option (Option Int × ByteArray × Option Int) := if s0_1.isNone = true then (if s0_0.toList = ([] : List UInt8) then (some (none, s0_0, none)) else (some (some 10, s0_0, none))) else (some (some (s0_1.getD 0), s0_0, some (s0_1.getD 0)))
set_option maxHeartbeats 8000000 in
set_option maxRecDepth 100000 in
theorem le_In_End.calls (g : Nat) (s0_0 : ByteArray) (s0_1 : Option Int) (r1 : Option Int) (r2 : ByteArray) (r3 : Option Int) (w0 w : World) (hI : IsS94 w0 w g s0_0 s0_1) (hB : Below w0.heap.size w0 w) (h : le_In_End.f s0_0 s0_1 = some (r1, r2, r3)) :
  Calls Tryz.prog 32 #[.pointer (some ⟨g, 0, none⟩)] w fun e w' => e = .returned (errW r1) ∧ IsS94 w0 w' g r2 r3 ∧ Below w0.heap.size w0 w' ∧ KeepBut w w' g none := by
 have hu33 := Tryz.underlying33
 have hu57 := Tryz.underlying57
 have HI0 := Aside0.mk hI
 have HK := Aside0.mk (KeepBut.refl w g none)
 have HL := Aside0.mk hB.size
 clear hI
 have HW0 := Aside0.mk hB.size
 have HB := Aside0.mk hB
 clear hB
 have H : (if s0_1.isNone = true then (if s0_0.toList = ([] : List UInt8) then (some (none, s0_0, none)) else (some (some 10, s0_0, none))) else (some (some (s0_1.getD 0), s0_0, some (s0_1.getD 0)))) = some (r1, r2, r3) := h
 clear h
 rcases s0_1 with _ | q195
 ·have H1 : (if s0_0.toList = ([] : List UInt8) then (some (none, s0_0, none)) else (some (some 10, s0_0, none))) = some (r1, r2, r3) := by rw [if_pos (show (none : Option Int).isNone = true by rfl)] at H; exact H
  clear H
  have H := H1
  clear H1
  try simp only [errW_none, errW_some]
  by_cases c2 : s0_0.toList = ([] : List UInt8)
  ·rw [if_pos c2] at H
   have c2b0 : (s0_0.toList == ([] : List UInt8)) = true := beq_iff_eq.mpr c2
   have c2b1 : (s0_0.toList != ([] : List UInt8)) = false := bne_eq_false_iff_eq.mpr c2
   clear c2
   simp only [Option.some.injEq, Prod.mk.injEq] at H
   obtain ⟨rfl, rfl, rfl⟩ := H
   obtain ⟨HGz3, hgz3⟩ := HI0.out
   have hcz3_0 := cellS94_0 HGz3
   try simp only [errW_none, errW_some] at hcz3_0
   have hcz3_1 := cellS94_1 HGz3
   try simp only [errW_none, errW_some] at hcz3_1
   have hfz3_0 := blk_frozen HGz3 0
   have hfz3_1 := blk_frozen HGz3 1
   clear HGz3 hgz3
   go_enter Tryz.func32, Tryz.ntmps32
   go_wp2
   go_ret
   exact ⟨by first | rfl | (simp [errW_none, errW_some] <;> rfl) | (simp [*, errW_none, errW_some] <;> rfl), by repeat (first | (with_reducible first | exact HI0.out | apply IsS94.alloc | apply IsS94.drewN | apply IsS94.drew | apply IsS94.set_0 | apply IsS94.set_1_none | apply IsS94.set_1_some | apply IsS94.set_1) | exact HI0.out), by repeat (first | (with_reducible first | exact HB.out | apply below_alloc | apply pw_below_drewN | apply below_drew1 | refine below_set ?_ (IsS94.ge HI0.out)) | exact HB.out), by repeat (first | (with_reducible first | exact HK.out | apply KeepBut.set_ | apply keep_drewN | apply keep_drew | apply keep_alloc) | exact HK.out)⟩
  ·rw [if_neg c2] at H
   have c2b0 : (s0_0.toList == ([] : List UInt8)) = false := beq_eq_false_iff_ne.mpr c2
   have c2b1 : (s0_0.toList != ([] : List UInt8)) = true := bne_iff_ne.mpr c2
   simp only [Option.some.injEq, Prod.mk.injEq] at H
   obtain ⟨rfl, rfl, rfl⟩ := H
   obtain ⟨HGz4, hgz4⟩ := HI0.out
   have hcz4_0 := cellS94_0 HGz4
   try simp only [errW_none, errW_some] at hcz4_0
   have hcz4_1 := cellS94_1 HGz4
   try simp only [errW_none, errW_some] at hcz4_1
   have hfz4_0 := blk_frozen HGz4 0
   have hfz4_1 := blk_frozen HGz4 1
   clear HGz4 hgz4
   go_enter Tryz.func32, Tryz.ntmps32
   go_wp2
   go_ret
   exact ⟨by first | rfl | (simp [errW_none, errW_some] <;> rfl) | (simp [*, errW_none, errW_some] <;> rfl), by repeat (first | (with_reducible first | exact HI0.out | apply IsS94.alloc | apply IsS94.drewN | apply IsS94.drew | apply IsS94.set_0 | apply IsS94.set_1_none | apply IsS94.set_1_some | apply IsS94.set_1) | exact HI0.out), by repeat (first | (with_reducible first | exact HB.out | apply below_alloc | apply pw_below_drewN | apply below_drew1 | refine below_set ?_ (IsS94.ge HI0.out)) | exact HB.out), by repeat (first | (with_reducible first | exact HK.out | apply KeepBut.set_ | apply keep_drewN | apply keep_drew | apply keep_alloc) | exact HK.out)⟩
 ·have H1 : (some (some q195, s0_0, some q195)) = some (r1, r2, r3) := by rw [if_neg (show ¬ (some q195).isNone = true by simp)] at H; exact H
  clear H
  have H := H1
  clear H1
  try simp only [errW_none, errW_some]
  simp only [Option.some.injEq, Prod.mk.injEq] at H
  obtain ⟨rfl, rfl, rfl⟩ := H
  obtain ⟨HGz5, hgz5⟩ := HI0.out
  have hcz5_0 := cellS94_0 HGz5
  try simp only [errW_none, errW_some] at hcz5_0
  have hcz5_1 := cellS94_1 HGz5
  try simp only [errW_none, errW_some] at hcz5_1
  have hfz5_0 := blk_frozen HGz5 0
  have hfz5_1 := blk_frozen HGz5 1
  clear HGz5 hgz5
  go_enter Tryz.func32, Tryz.ntmps32
  go_wp2
  go_ret
  exact ⟨by first | rfl | (simp [errW_none, errW_some] <;> rfl) | (simp [*, errW_none, errW_some] <;> rfl), by repeat (first | (with_reducible first | exact HI0.out | apply IsS94.alloc | apply IsS94.drewN | apply IsS94.drew | apply IsS94.set_0 | apply IsS94.set_1_none | apply IsS94.set_1_some | apply IsS94.set_1) | exact HI0.out), by repeat (first | (with_reducible first | exact HB.out | apply below_alloc | apply pw_below_drewN | apply below_drew1 | refine below_set ?_ (IsS94.ge HI0.out)) | exact HB.out), by repeat (first | (with_reducible first | exact HK.out | apply KeepBut.set_ | apply keep_drewN | apply keep_drew | apply keep_alloc) | exact HK.out)⟩

/-! ### inode_Get: function 12 -/
mutual
def inode_Get.l0 : Nat → Int → Int → Int → Int → ByteArray → Option Int → Int → List (S51) → Option (Int × (List (S51)) × Option Int)
 | 0, _, _, _, _, _, _, _, _ => none
 | k + 1, x1, x10, x28, x29, x203000, x203001, x207000, x207001 => if x29 < x28 then ((le_In_Num.f k x203000 x203001 2).bind fun bt210 => ((le_In_Num.f k bt210.2.1 bt210.2.2 2).bind fun bt214 => (if x207001.length < 8796093022208 then (inode_Get.l0 k x1 x10 x28 (wrap64 (x29 + 1)) bt214.2.1 bt214.2.2 x207000 (x207001 ++ [(⟨bt210.1, bt214.1⟩ : S51)])) else (none)))) else ((le_In_Noughts.f x203000 x203001 (wrap64 (497 - (wrap64 (4 * x10))))).bind fun bt220 => (if x10 > 36 then (inode_Get.j1 k x1 true x207000 x207001) else ((le_In_End.f bt220.1 bt220.2).bind fun bt222 => (if bt222.1.isNone = true then (inode_Get.j1 k x1 false x207000 x207001) else (inode_Get.j1 k x1 true x207000 x207001)))))
def inode_Get.j1 : Nat → Int → Bool → Int → List (S51) → Option (Int × (List (S51)) × Option Int)
 | 0, _, _, _, _ => none
 | k + 1, x1, x49, x207000, x207001 => if x49 = true then (some (0, ([] : List (S51)), some 4)) else ((inode_Right.f x207000 x207001 x1).bind fun t226 => (if t226 = true then (some (x207000, x207001, none)) else (some (0, ([] : List (S51)), some 17))))
end
def inode_Get.f (k : Nat) (a0 : ByteArray) (a1 : Int) : Option (Int × (List (S51)) × Option Int) := (mark_Open.f k 6 a0).bind fun bt197 => (if bt197.2.isNone = true then ((le_Read.f bt197.1).bind fun bt200 => ((le_In_Num.f k bt200.1 bt200.2 6).bind fun bt203 => ((le_In_Num.f k bt203.2.1 bt203.2.2 1).bind fun bt207 => (inode_Get.l0 k a1 bt207.1 bt207.1 0 bt207.2.1 bt207.2.2 bt203.1 ([] : List (S51)))))) else (some (0, ([] : List (S51)), some (bt197.2.getD 0))))
set_option maxRecDepth 100000 in
theorem inode_Get.mono_l : ∀ k, (∀ y0 y1 y2 y3 y4 y5 y6 y7, LeO (inode_Get.l0 k y0 y1 y2 y3 y4 y5 y6 y7) (inode_Get.l0 (k + 1) y0 y1 y2 y3 y4 y5 y6 y7)) ∧ (∀ y0 y1 y2 y3, LeO (inode_Get.j1 k y0 y1 y2 y3) (inode_Get.j1 (k + 1) y0 y1 y2 y3))
 | 0 => ⟨fun _ _ _ _ _ _ _ _ r h => by first | (rw [inode_Get.l0] at h; cases h) | simp [inode_Get.l0] at h, fun _ _ _ _ r h => by first | (rw [inode_Get.j1] at h; cases h) | simp [inode_Get.j1] at h⟩
 | k + 1 => by
  obtain ⟨ih0, ih1⟩ := inode_Get.mono_l k
  refine ⟨?_, ?_⟩
  ·intro y0 y1 y2 y3 y4 y5 y6 y7
   unfold inode_Get.l0
   repeat' first
   | (with_reducible exact ih0 _ _ _ _ _ _ _ _)
   | (with_reducible exact ih1 _ _ _ _)
   | (with_reducible exact le_In_Num.mono _ _ _ _)
   | (with_reducible exact mark_Open.mono _ _ _)
   | (with_reducible exact LeO.refl _)
   | (with_reducible exact LeO.none _)
   | (with_reducible refine LeO.ite ?_ ?_)
   | (with_reducible refine LeO.bind ?_ (fun _ => ?_))
   | exact ih0 _ _ _ _ _ _ _ _
   | exact ih1 _ _ _ _
   | exact le_In_Num.mono _ _ _ _
   | exact mark_Open.mono _ _ _
   | exact LeO.none _
   | refine LeO.ite ?_ ?_
   | refine LeO.bind ?_ (fun _ => ?_)
  ·intro y0 y1 y2 y3
   unfold inode_Get.j1
   repeat' first
   | (with_reducible exact ih0 _ _ _ _ _ _ _ _)
   | (with_reducible exact ih1 _ _ _ _)
   | (with_reducible exact le_In_Num.mono _ _ _ _)
   | (with_reducible exact mark_Open.mono _ _ _)
   | (with_reducible exact LeO.refl _)
   | (with_reducible exact LeO.none _)
   | (with_reducible refine LeO.ite ?_ ?_)
   | (with_reducible refine LeO.bind ?_ (fun _ => ?_))
   | exact ih0 _ _ _ _ _ _ _ _
   | exact ih1 _ _ _ _
   | exact le_In_Num.mono _ _ _ _
   | exact mark_Open.mono _ _ _
   | exact LeO.none _
   | refine LeO.ite ?_ ?_
   | refine LeO.bind ?_ (fun _ => ?_)
theorem inode_Get.mono : ∀ a0 a1 k, LeO (inode_Get.f k a0 a1) (inode_Get.f (k + 1) a0 a1) := by
 intro a0 a1 k
 obtain ⟨ih0, ih1⟩ := inode_Get.mono_l k
 unfold inode_Get.f
 repeat' first
   | (with_reducible exact ih0 _ _ _ _ _ _ _ _)
   | (with_reducible exact ih1 _ _ _ _)
   | (with_reducible exact le_In_Num.mono _ _ _ _)
   | (with_reducible exact mark_Open.mono _ _ _)
   | (with_reducible exact LeO.refl _)
   | (with_reducible exact LeO.none _)
   | (with_reducible refine LeO.ite ?_ ?_)
   | (with_reducible refine LeO.bind ?_ (fun _ => ?_))
   | exact ih0 _ _ _ _ _ _ _ _
   | exact ih1 _ _ _ _
   | exact le_In_Num.mono _ _ _ _
   | exact mark_Open.mono _ _ _
   | exact LeO.none _
   | refine LeO.ite ?_ ?_
   | refine LeO.bind ?_ (fun _ => ?_)
set_option maxHeartbeats 8000000 in
set_option maxRecDepth 100000 in
theorem inode_Get.calls (k : Nat) (a0 : ByteArray) (a1 : Int) (r1 : Int) (r2 : List (S51)) (r3 : Option Int) (w : World) (hL_ : Laid w) (h : inode_Get.f k a0 a1 = some (r1, r2, r3)) :
  Calls Tryz.prog 12 #[.string a0, .int .i64 a1] w fun e w' => ∃ v1_ : Value, e = .returned (.tuple #[.agg #[.int .i64 r1, v1_], errW r3]) ∧ Kd.R k51 51 w' w.heap.size (fun _ => True) v1_ r2 ∧ Below w.heap.size w w' := by
 have HL_ := Aside0.mk hL_
 clear hL_
 have hu26 := Tryz.underlying26
 have hu51 := Tryz.underlying51
 have hu33 := Tryz.underlying33
 have hu57 := Tryz.underlying57
 have HB := Aside0.mk (Below.refl w.heap.size w)
 have H : ((mark_Open.f k 6 a0).bind fun bt197 => (if bt197.2.isNone = true then ((le_Read.f bt197.1).bind fun bt200 => ((le_In_Num.f k bt200.1 bt200.2 6).bind fun bt203 => ((le_In_Num.f k bt203.2.1 bt203.2.2 1).bind fun bt207 => (inode_Get.l0 k a1 bt207.1 bt207.1 0 bt207.2.1 bt207.2.2 bt203.1 ([] : List (S51)))))) else (some (0, ([] : List (S51)), some (bt197.2.getD 0))))) = some (r1, r2, r3) := h
 clear h
 replace H := Option.bind_eq_some_iff.mp H
 obtain ⟨⟨t197, t198⟩, A30, H⟩ := H
 replace H : (if t198.isNone = true then ((le_Read.f t197).bind fun bt200 => ((le_In_Num.f k bt200.1 bt200.2 6).bind fun bt203 => ((le_In_Num.f k bt203.2.1 bt203.2.2 1).bind fun bt207 => (inode_Get.l0 k a1 bt207.1 bt207.1 0 bt207.2.1 bt207.2.2 bt203.1 ([] : List (S51)))))) else (some (0, ([] : List (S51)), some (t198.getD 0)))) = some (r1, r2, r3) := H
 have A3 := Aside0.mk A30
 clear A30
 rcases t198 with _ | q199
 ·have H1 : ((le_Read.f t197).bind fun bt200 => ((le_In_Num.f k bt200.1 bt200.2 6).bind fun bt203 => ((le_In_Num.f k bt203.2.1 bt203.2.2 1).bind fun bt207 => (inode_Get.l0 k a1 bt207.1 bt207.1 0 bt207.2.1 bt207.2.2 bt203.1 ([] : List (S51)))))) = some (r1, r2, r3) := by rw [if_pos (show (none : Option Int).isNone = true by rfl)] at H; exact H
  clear H
  have H := H1
  clear H1
  try simp only [errW_none, errW_some]
  replace H := Option.bind_eq_some_iff.mp H
  obtain ⟨⟨t200, t201⟩, A40, H⟩ := H
  replace H : ((le_In_Num.f k t200 t201 6).bind fun bt203 => ((le_In_Num.f k bt203.2.1 bt203.2.2 1).bind fun bt207 => (inode_Get.l0 k a1 bt207.1 bt207.1 0 bt207.2.1 bt207.2.2 bt203.1 ([] : List (S51))))) = some (r1, r2, r3) := H
  have A4 := Aside0.mk A40
  clear A40
  replace H := Option.bind_eq_some_iff.mp H
  obtain ⟨⟨t203, t204, t205⟩, A50, H⟩ := H
  replace H : ((le_In_Num.f k t204 t205 1).bind fun bt207 => (inode_Get.l0 k a1 bt207.1 bt207.1 0 bt207.2.1 bt207.2.2 t203 ([] : List (S51)))) = some (r1, r2, r3) := H
  have A5 := Aside0.mk A50
  clear A50
  replace H := Option.bind_eq_some_iff.mp H
  obtain ⟨⟨t207, t208, t209⟩, A60, H⟩ := H
  replace H : (inode_Get.l0 k a1 t207 t207 0 t208 t209 t203 ([] : List (S51))) = some (r1, r2, r3) := H
  have A6 := Aside0.mk A60
  clear A60
  have H' := Aside0.mk H
  clear H
  go_enter Tryz.func12, Tryz.ntmps12
  go_wp2_with (first | ((with_reducible refine gate_dst (N := 4) rfl ?_); refine box_event ?hg (N := 4) ?hd (cs := #[.int .i64 0, .slice none 0 0]) (t := 26) ?hr ?_; (case hd => rfl); (case hg => rfl); (case hr => first | (go_simp; done) | (go_simp; rfl)); intro gb196 hg w7 hbox hb; have n0_ := Aside0.mk (below_step (by repeat (first | (with_reducible first | exact HB.out | apply below_alloc | apply pw_below_drewN | apply below_drew1) | exact HB.out)) hb); have n1_ := Aside0.mk (hbox); have n2_ := Aside0.mk ((by rw [hg]; exact (below_size (by repeat (first | (with_reducible first | exact HB.out | apply below_alloc | apply pw_below_drewN | apply below_drew1) | exact HB.out))) : w.heap.size ≤ gb196)); have n3_ := Aside0.mk ((by rw [hg]; exact (below_size (by repeat (first | (with_reducible first | exact HB.out | apply below_alloc | apply pw_below_drewN | apply below_drew1) | exact HB.out))) : w.heap.size ≤ gb196)); clear HB; have HB := n0_; have BK196 := n1_; have GW196 := n2_; have GE196 := n3_; clear n0_ n1_ n2_ n3_; clear hb hbox hg) | ((with_reducible refine gate_callee (f := 28) rfl ?_); refine goesL_ (some 14) rfl rfl Tryz.func28 (by kernel_rfl) rfl #[.int .i64 6, .string a0] rfl (by (try simp only [List.map_toArray, List.map_cons, List.map_nil]); first | done | rfl | (simp only [List.length_drop, List.length_take]; rfl) | (simp only [decide_eq_true_eq, decide_eq_false_iff_not, eq_iff_iff, iff_true, iff_false] at *; have w_id : ∀ {n : Int}, -9223372036854775808 ≤ n → n ≤ 9223372036854775807 → wrap64 n = n := fun h0 h1 => (by unfold wrap64; omega); rw [w_id (by omega) (by omega)]; rfl)) ?_; (with_reducible refine (mark_Open.calls k 6 a0 t197 none _ (Laid.below HL_.out (by repeat (first | (with_reducible first | exact HB.out | apply below_alloc | apply pw_below_drewN | apply below_drew1 | refine below_set ?_ GE196.out) | exact HB.out))) A3.out).mono ?_); rintro e w8 ⟨rfl, hb⟩; refine ⟨_, rfl, ?_⟩; have n0_ := Aside0.mk (blk_below (g := gb196) (o := .cells #[.int .i64 0, .slice none 0 0] 26 (0, 0)) (by (with_reducible repeat (first | refine blk_drewN ?_ _ | refine blk_drew ?_ | refine blk_alloc ?_ _)); exact BK196.out) hb); have n1_ := Aside0.mk (below_step (by repeat (first | (with_reducible first | exact HB.out | apply below_alloc | apply pw_below_drewN | apply below_drew1 | refine below_set ?_ GE196.out) | exact HB.out)) hb); clear BK196; clear HB; have BK196 := n0_; have HB := n1_; clear n0_ n1_; (try clear hb); (try clear hb2); (try clear hk); (try clear hi); (try simp only [errW_none, errW_some])) | ((with_reducible refine gate_callee (f := 29) rfl ?_); refine goesL_ (some 22) rfl rfl Tryz.func29 (by kernel_rfl) rfl #[.string t197] rfl (by (try simp only [List.map_toArray, List.map_cons, List.map_nil]); first | done | rfl | (simp only [List.length_drop, List.length_take]; rfl) | (simp only [decide_eq_true_eq, decide_eq_false_iff_not, eq_iff_iff, iff_true, iff_false] at *; have w_id : ∀ {n : Int}, -9223372036854775808 ≤ n → n ≤ 9223372036854775807 → wrap64 n = n := fun h0 h1 => (by unfold wrap64; omega); rw [w_id (by omega) (by omega)]; rfl)) ?_; (with_reducible refine (le_Read.calls t197 t200 t201 w _ ?side1 A4.out).mono ?_); (case side1 => repeat (first | (with_reducible first | exact HB.out | apply below_alloc | apply pw_below_drewN | apply below_drew1 | refine below_set ?_ GE196.out) | exact HB.out)); rintro e w9 ⟨g202, rfl, hi, hb, hb2⟩; refine ⟨_, rfl, ?_⟩; have n0_ := Aside0.mk (blk_below (g := gb196) (o := .cells #[.int .i64 0, .slice none 0 0] 26 (0, 0)) (by (with_reducible repeat (first | refine blk_drewN ?_ _ | refine blk_drew ?_ | refine blk_alloc ?_ _)); exact BK196.out) hb2); have n1_ := Aside0.mk (hb); have n2_ := Aside0.mk (hi); have n3_ := Aside0.mk (IsS94.ne_blk hi (blk_below (g := gb196) (o := .cells #[.int .i64 0, .slice none 0 0] 26 (0, 0)) (by (with_reducible repeat (first | refine blk_drewN ?_ _ | refine blk_drew ?_ | refine blk_alloc ?_ _)); exact BK196.out) hb2) (by decide)); have n4_ := Aside0.mk (Ne.symm (IsS94.ne_blk hi (blk_below (g := gb196) (o := .cells #[.int .i64 0, .slice none 0 0] 26 (0, 0)) (by (with_reducible repeat (first | refine blk_drewN ?_ _ | refine blk_drew ?_ | refine blk_alloc ?_ _)); exact BK196.out) hb2) (by decide))); clear BK196; clear HB; have BK196 := n0_; have HB := n1_; have HI202 := n2_; have NB202_196 := n3_; have NB196_202 := n4_; clear n0_ n1_ n2_ n3_ n4_; (try clear hb); (try clear hb2); (try clear hk); (try clear hi); (try simp only [errW_none, errW_some])) | ((with_reducible refine gate_callee (f := 30) rfl ?_); refine goesL_ (some 24) rfl rfl Tryz.func30 (by kernel_rfl) rfl #[.pointer (some ⟨g202, 0, none⟩), .int .i64 6] rfl (by (try simp only [List.map_toArray, List.map_cons, List.map_nil]); first | done | rfl | (simp only [List.length_drop, List.length_take]; rfl) | (simp only [decide_eq_true_eq, decide_eq_false_iff_not, eq_iff_iff, iff_true, iff_false] at *; have w_id : ∀ {n : Int}, -9223372036854775808 ≤ n → n ≤ 9223372036854775807 → wrap64 n = n := fun h0 h1 => (by unfold wrap64; omega); rw [w_id (by omega) (by omega)]; rfl)) ?_; (with_reducible refine (le_In_Num.calls k g202 t200 t201 6 t203 t204 t205 w _ ?side1 ?side2 A5.out).mono ?_); (case side1 => repeat (first | (with_reducible first | exact HI202.out | apply IsS94.alloc | apply IsS94.drewN | apply IsS94.drew | apply IsS94.set_0 | apply IsS94.set_1_none | apply IsS94.set_1_some | apply IsS94.set_1 | refine IsS94.far ?_ NB202_196.out _) | exact HI202.out)); (case side2 => repeat (first | (with_reducible first | exact HB.out | apply below_alloc | apply pw_below_drewN | apply below_drew1 | refine below_set ?_ (IsS94.ge HI202.out) | refine below_set ?_ GE196.out) | exact HB.out)); rintro e w10 ⟨rfl, hi, hb, hk⟩; refine ⟨_, rfl, ?_⟩; have n0_ := Aside0.mk (KeepBut.blk hk (g' := gb196) (o := .cells #[.int .i64 0, .slice none 0 0] 26 (0, 0)) (by (with_reducible repeat (first | refine blk_drewN ?_ _ | refine blk_drew ?_ | refine blk_alloc ?_ _)); exact BK196.out) NB196_202.out (by simp)); have n1_ := Aside0.mk (hb); have n2_ := Aside0.mk (hi); clear BK196; clear HB; clear HI202; have BK196 := n0_; have HB := n1_; have HI202 := n2_; clear n0_ n1_ n2_; (try clear hb); (try clear hb2); (try clear hk); (try clear hi); (try simp only [errW_none, errW_some])) | ((with_reducible refine gate_dst (N := 9) rfl ?_); refine box_event ?hg (N := 9) ?hd (cs := #[.int .i64 0, .slice none 0 0]) (t := 26) ?hr ?_; (case hd => rfl); (case hg => rfl); (case hr => first | (go_simp; done) | (go_simp; rfl)); intro gb206 hg w11 hbox hb; have n0_ := Aside0.mk (blk_below (g := gb196) (o := .cells #[.int .i64 0, .slice none 0 0] 26 (0, 0)) (by (with_reducible repeat (first | refine blk_drewN ?_ _ | refine blk_drew ?_ | refine blk_alloc ?_ _)); exact BK196.out) hb); have n1_ := Aside0.mk (IsS94.below (by repeat (first | (with_reducible first | exact HI202.out | apply IsS94.alloc | apply IsS94.drewN | apply IsS94.drew | apply IsS94.set_0 | apply IsS94.set_1_none | apply IsS94.set_1_some | apply IsS94.set_1 | refine IsS94.far ?_ NB202_196.out _) | exact HI202.out)) hb); have n2_ := Aside0.mk (below_step (by repeat (first | (with_reducible first | exact HB.out | apply below_alloc | apply pw_below_drewN | apply below_drew1 | refine below_set ?_ (IsS94.ge HI202.out) | refine below_set ?_ GE196.out) | exact HB.out)) hb); have n3_ := Aside0.mk (hbox); have n4_ := Aside0.mk ((by rw [hg]; exact (below_size (by repeat (first | (with_reducible first | exact HB.out | apply below_alloc | apply pw_below_drewN | apply below_drew1 | refine below_set ?_ (IsS94.ge HI202.out) | refine below_set ?_ GE196.out) | exact HB.out))) : w.heap.size ≤ gb206)); have n5_ := Aside0.mk ((by rw [hg]; exact (below_size (by repeat (first | (with_reducible first | exact HB.out | apply below_alloc | apply pw_below_drewN | apply below_drew1 | refine below_set ?_ (IsS94.ge HI202.out) | refine below_set ?_ GE196.out) | exact HB.out))) : w.heap.size ≤ gb206)); have n6_ := Aside0.mk ((by rw [hg]; exact Nat.ne_of_lt (blk_lt (g := gb196) (o := .cells #[.int .i64 0, .slice none 0 0] 26 (0, 0)) (by (with_reducible repeat (first | refine blk_drewN ?_ _ | refine blk_drew ?_ | refine blk_alloc ?_ _)); exact BK196.out)) : gb196 ≠ gb206)); have n7_ := Aside0.mk ((by rw [hg]; exact Nat.ne_of_gt (blk_lt (g := gb196) (o := .cells #[.int .i64 0, .slice none 0 0] 26 (0, 0)) (by (with_reducible repeat (first | refine blk_drewN ?_ _ | refine blk_drew ?_ | refine blk_alloc ?_ _)); exact BK196.out)) : gb206 ≠ gb196)); have n8_ := Aside0.mk ((by rw [hg]; exact Nat.ne_of_lt (IsS94.lt (show IsS94 w _ g202 t204 t205 from by repeat (first | (with_reducible first | exact HI202.out | apply IsS94.alloc | apply IsS94.drewN | apply IsS94.drew | apply IsS94.set_0 | apply IsS94.set_1_none | apply IsS94.set_1_some | apply IsS94.set_1 | refine IsS94.far ?_ NB202_196.out _) | exact HI202.out))) : g202 ≠ gb206)); have n9_ := Aside0.mk ((by rw [hg]; exact Nat.ne_of_gt (IsS94.lt (show IsS94 w _ g202 t204 t205 from by repeat (first | (with_reducible first | exact HI202.out | apply IsS94.alloc | apply IsS94.drewN | apply IsS94.drew | apply IsS94.set_0 | apply IsS94.set_1_none | apply IsS94.set_1_some | apply IsS94.set_1 | refine IsS94.far ?_ NB202_196.out _) | exact HI202.out))) : gb206 ≠ g202)); clear BK196; clear HI202; clear HB; have BK196 := n0_; have HI202 := n1_; have HB := n2_; have BK206 := n3_; have GW206 := n4_; have GE206 := n5_; have NB196_206 := n6_; have NB206_196 := n7_; have NB202_206 := n8_; have NB206_202 := n9_; clear n0_ n1_ n2_ n3_ n4_ n5_ n6_ n7_ n8_ n9_; clear hb hbox hg; have hnb12 := NB206_196.out; have hnc12 := NB196_206.out; have hnb13 := NB206_202.out; have hnc13 := NB202_206.out; have hcz14_0 : w11.cell? ⟨gb206, 0, none⟩ = some (.int .i64 0) := (blk_cell BK206.out 0).trans rfl; have hcz14_1 : w11.cell? ⟨gb206, 1, none⟩ = some (.slice none 0 0) := (blk_cell BK206.out 1).trans rfl; have hfz14_0 := blk_frozen BK206.out 0; have hfz14_1 := blk_frozen BK206.out 1) | ((with_reducible refine gate_callee (f := 30) rfl ?_); refine goesL_ (some 27) rfl rfl Tryz.func30 (by kernel_rfl) rfl #[.pointer (some ⟨g202, 0, none⟩), .int .i64 1] rfl (by (try simp only [List.map_toArray, List.map_cons, List.map_nil]); first | done | rfl | (simp only [List.length_drop, List.length_take]; rfl) | (simp only [decide_eq_true_eq, decide_eq_false_iff_not, eq_iff_iff, iff_true, iff_false] at *; have w_id : ∀ {n : Int}, -9223372036854775808 ≤ n → n ≤ 9223372036854775807 → wrap64 n = n := fun h0 h1 => (by unfold wrap64; omega); rw [w_id (by omega) (by omega)]; rfl)) ?_; (with_reducible refine (le_In_Num.calls k g202 t204 t205 1 t207 t208 t209 w _ ?side1 ?side2 A6.out).mono ?_); (case side1 => repeat (first | (with_reducible first | exact HI202.out | apply IsS94.alloc | apply IsS94.drewN | apply IsS94.drew | apply IsS94.set_0 | apply IsS94.set_1_none | apply IsS94.set_1_some | apply IsS94.set_1 | refine IsS94.far ?_ NB202_196.out _ | refine IsS94.far ?_ NB202_206.out _) | exact HI202.out)); (case side2 => repeat (first | (with_reducible first | exact HB.out | apply below_alloc | apply pw_below_drewN | apply below_drew1 | refine below_set ?_ (IsS94.ge HI202.out) | refine below_set ?_ GE196.out | refine below_set ?_ GE206.out) | exact HB.out)); rintro e w15 ⟨rfl, hi, hb, hk⟩; refine ⟨_, rfl, ?_⟩; have n0_ := Aside0.mk (KeepBut.blk hk (g' := gb196) (o := .cells #[.int .i64 0, .slice none 0 0] 26 (0, 0)) (by (with_reducible repeat (first | refine blk_drewN ?_ _ | refine blk_drew ?_ | refine blk_alloc ?_ _)); refine blk_far ?_ NB196_206.out _; (with_reducible repeat (first | refine blk_drewN ?_ _ | refine blk_drew ?_ | refine blk_alloc ?_ _)); refine blk_far ?_ NB196_206.out _; (with_reducible repeat (first | refine blk_drewN ?_ _ | refine blk_drew ?_ | refine blk_alloc ?_ _)); exact BK196.out) NB196_202.out (by simp)); have n1_ := Aside0.mk (KeepBut.blk hk (g' := gb206) (o := .cells #[.int .i64 t203, .slice none 0 0] 26 (0, 0)) (by (with_reducible repeat (first | refine blk_drewN ?_ _ | refine blk_drew ?_ | refine blk_alloc ?_ _)); refine blk_put (cs := #[.int .i64 t203, .slice none 0 0]) ?_ 1 _ rfl; (with_reducible repeat (first | refine blk_drewN ?_ _ | refine blk_drew ?_ | refine blk_alloc ?_ _)); refine blk_put (cs := #[.int .i64 0, .slice none 0 0]) ?_ 0 _ rfl; (with_reducible repeat (first | refine blk_drewN ?_ _ | refine blk_drew ?_ | refine blk_alloc ?_ _)); exact BK206.out) NB206_202.out (by simp)); have n2_ := Aside0.mk (hb); have n3_ := Aside0.mk (hi); clear BK196; clear BK206; clear HB; clear HI202; have BK196 := n0_; have BK206 := n1_; have HB := n2_; have HI202 := n3_; clear n0_ n1_ n2_ n3_; (try clear hb); (try clear hb2); (try clear hk); (try clear hi); (try simp only [errW_none, errW_some])))
  go_loopg [29] k (fun kq v29 w' => ∃ (x29_1 : Int) (x203000_1 : ByteArray) (x203001_1 : Option Int) (x207001_1 : List (S51)) (u207001 : Value), v29 = .int .i64 x29_1 ∧ Aside0 (inode_Get.l0 kq a1 t207 t207 x29_1 x203000_1 x203001_1 t203 x207001_1 = some (r1, r2, r3)) ∧ Aside0 (kq ≤ k) ∧ Aside0 (Kd.R k51 51 w' w.heap.size (fun _ => True) u207001 x207001_1) ∧ Aside0 (w'.heap[gb196]? = some (.cells #[.int .i64 0, (.slice none 0 0)] 26 (0, 0))) ∧ Aside0 (w'.heap[gb206]? = some (.cells #[.int .i64 t203, u207001] 26 (0, 0))) ∧ Aside0 (IsS94 w w' g202 x203000_1 x203001_1) ∧ Aside0 (Below w.heap.size w w'))
  case atStart => exact ⟨(0), (t208), (t209), (([] : List (S51))), (.slice none 0 0), (by first | rfl | (simp; done) | (simp [*]; done)), H', ⟨Nat.le_refl _⟩, ⟨by first | exact Kd.R_nil _ _ _ _ _ | exact Kd.N_nil _ _ _ _ _ | exact Kd.V_nil _ _ _ _ _ | exact Kd.Q_nil _ _ _ _ _ | exact Kd.S_nil _ _ _ _ _⟩, ⟨by (with_reducible repeat (first | refine blk_drewN ?_ _ | refine blk_drew ?_ | refine blk_alloc ?_ _)); exact BK196.out⟩, ⟨by (with_reducible repeat (first | refine blk_drewN ?_ _ | refine blk_drew ?_ | refine blk_alloc ?_ _)); exact BK206.out⟩, ⟨by repeat (first | (with_reducible first | exact HI202.out | apply IsS94.alloc | apply IsS94.drewN | apply IsS94.drew | apply IsS94.set_0 | apply IsS94.set_1_none | apply IsS94.set_1_some | apply IsS94.set_1 | refine IsS94.far ?_ NB202_196.out _ | refine IsS94.far ?_ NB202_206.out _) | exact HI202.out)⟩, ⟨by repeat (first | (with_reducible first | exact HB.out | apply below_alloc | apply pw_below_drewN | apply below_drew1 | refine below_set ?_ (IsS94.ge HI202.out) | refine below_set ?_ GE196.out | refine below_set ?_ GE206.out) | exact HB.out)⟩⟩
  case round =>
   clear H'
   try clear c1
   try clear q1
   try clear c2
   try clear p2
   try clear c3
   try clear c12
   try clear c13
   try clear hcz14_0
   try clear hcz14_1
   try clear hfz14_0
   try clear hfz14_1
   try clear q199
   obtain ⟨x29_1, x203000_1, x203001_1, x207001_1, u207001, rfl, HA, HK1, HO_207001, BK196, BK206, HI202, HB⟩ := hrel
   cases gk with
   | zero => exact absurd HA.out (by simp [inode_Get.l0])
   | succ k1 =>
    have H := HA.out
    clear HA
    simp only [inode_Get.l0] at H
    by_cases c16 : x29_1 < t207
    ·rw [if_pos c16] at H
     have c16b0 : decide (x29_1 < t207) = true := decide_eq_true c16
     clear c16
     replace H := Option.bind_eq_some_iff.mp H
     obtain ⟨⟨t210, t211, t212⟩, A170, H⟩ := H
     replace H : ((le_In_Num.f k1 t211 t212 2).bind fun bt214 => (if x207001_1.length < 8796093022208 then (inode_Get.l0 k1 a1 t207 t207 (wrap64 (x29_1 + 1)) bt214.2.1 bt214.2.2 t203 (x207001_1 ++ [(⟨t210, bt214.1⟩ : S51)])) else (none))) = some (r1, r2, r3) := H
     have A17 := Aside0.mk A170
     clear A170
     replace H := Option.bind_eq_some_iff.mp H
     obtain ⟨⟨t214, t215, t216⟩, A180, H⟩ := H
     replace H : (if x207001_1.length < 8796093022208 then (inode_Get.l0 k1 a1 t207 t207 (wrap64 (x29_1 + 1)) t215 t216 t203 (x207001_1 ++ [(⟨t210, t214⟩ : S51)])) else (none)) = some (r1, r2, r3) := H
     have A18 := Aside0.mk A180
     clear A180
     by_cases c19 : x207001_1.length < 8796093022208
     ·rw [if_pos c19] at H
      have LMc19 := Aside0.mk c19
      clear c19
      obtain ⟨y217, hy217⟩ : ∃ y_ : List (S51), y_ = (x207001_1 ++ [(⟨t210, t214⟩ : S51)]) := ⟨_, rfl⟩
      replace H : (inode_Get.l0 k1 a1 t207 t207 (wrap64 (x29_1 + 1)) t215 t216 t203 y217) = some (r1, r2, r3) := by first | (rw [hy217]; with_reducible exact H) | (have H2_ := (Option.bind_some _ _).symm.trans H; rw [hy217]; with_reducible exact H2_) | (have H2_ := (Option.bind_some _ _).symm.trans H; with_reducible exact H2_) | with_reducible exact H | (rw [hy217]; exact H) | exact H
      have Ny217 := Aside0.mk hy217
      clear hy217
      have H' := Aside0.mk H
      clear H
      go_wp2_with (first | ((with_reducible refine gate_callee (f := 30) rfl ?_); refine goesL_ (some 32) rfl rfl Tryz.func30 (by kernel_rfl) rfl #[.pointer (some ⟨g202, 0, none⟩), .int .i64 2] rfl (by (try simp only [List.map_toArray, List.map_cons, List.map_nil]); first | done | rfl | (simp only [List.length_drop, List.length_take]; rfl) | (simp only [decide_eq_true_eq, decide_eq_false_iff_not, eq_iff_iff, iff_true, iff_false] at *; have w_id : ∀ {n : Int}, -9223372036854775808 ≤ n → n ≤ 9223372036854775807 → wrap64 n = n := fun h0 h1 => (by unfold wrap64; omega); rw [w_id (by omega) (by omega)]; rfl)) ?_; (with_reducible refine (le_In_Num.calls k1 g202 x203000_1 x203001_1 2 t210 t211 t212 w _ ?side1 ?side2 A17.out).mono ?_); (case side1 => repeat (first | (with_reducible first | exact HI202.out | apply IsS94.alloc | apply IsS94.drewN | apply IsS94.drew | apply IsS94.set_0 | apply IsS94.set_1_none | apply IsS94.set_1_some | apply IsS94.set_1 | refine IsS94.far ?_ NB202_196.out _ | refine IsS94.far ?_ NB202_206.out _) | exact HI202.out)); (case side2 => repeat (first | (with_reducible first | exact HB.out | apply below_alloc | apply pw_below_drewN | apply below_drew1 | refine below_set ?_ (IsS94.ge HI202.out) | refine below_set ?_ GE196.out | refine below_set ?_ GE206.out) | exact HB.out)); rintro e w20 ⟨rfl, hi, hb, hk⟩; refine ⟨_, rfl, ?_⟩; have n0_ := Aside0.mk (Kd.R_mono (Kd.R_keep (IsS94.apart (show IsS94 w _ g202 x203000_1 x203001_1 from by repeat (first | (with_reducible first | exact HI202.out | apply IsS94.alloc | apply IsS94.drewN | apply IsS94.drew | apply IsS94.set_0 | apply IsS94.set_1_none | apply IsS94.set_1_some | apply IsS94.set_1 | refine IsS94.far ?_ NB202_196.out _ | refine IsS94.far ?_ NB202_206.out _) | exact HI202.out)) (by (with_reducible repeat (first | apply Kd.R_alloc | apply Kd.R_drewN | apply Kd.R_drew)); exact HO_207001.out) (by decide)) hk (fun _ h => h.2)) (fun _ h => h.1)); have n1_ := Aside0.mk (KeepBut.blk hk (g' := gb196) (o := .cells #[.int .i64 0, .slice none 0 0] 26 (0, 0)) (by (with_reducible repeat (first | refine blk_drewN ?_ _ | refine blk_drew ?_ | refine blk_alloc ?_ _)); exact BK196.out) NB196_202.out (by simp)); have n2_ := Aside0.mk (KeepBut.blk hk (g' := gb206) (o := .cells #[.int .i64 t203, u207001] 26 (0, 0)) (by (with_reducible repeat (first | refine blk_drewN ?_ _ | refine blk_drew ?_ | refine blk_alloc ?_ _)); exact BK206.out) NB206_202.out (by simp)); have n3_ := Aside0.mk (hb); have n4_ := Aside0.mk (hi); clear HO_207001; clear BK196; clear BK206; clear HB; clear HI202; have HO_207001 := n0_; have BK196 := n1_; have BK206 := n2_; have HB := n3_; have HI202 := n4_; clear n0_ n1_ n2_ n3_ n4_; (try clear hb); (try clear hb2); (try clear hk); (try clear hi); (try simp only [errW_none, errW_some])) | ((with_reducible refine gate_dst (N := 11) rfl ?_); refine box_event ?hg (N := 11) ?hd (cs := #[.int .i64 0, .int .i64 0]) (t := 51) ?hr ?_; (case hd => rfl); (case hg => rfl); (case hr => first | (go_simp; done) | (go_simp; rfl)); intro gb213 hg w21 hbox hb; have n0_ := Aside0.mk (Kd.R_below (Kd.R_elderB (by (with_reducible repeat (first | apply Kd.R_alloc | apply Kd.R_drewN | apply Kd.R_drew)); exact HO_207001.out) gb213 (Nat.le_of_eq hg.symm)) hb); have n1_ := Aside0.mk (blk_below (g := gb196) (o := .cells #[.int .i64 0, .slice none 0 0] 26 (0, 0)) (by (with_reducible repeat (first | refine blk_drewN ?_ _ | refine blk_drew ?_ | refine blk_alloc ?_ _)); exact BK196.out) hb); have n2_ := Aside0.mk (blk_below (g := gb206) (o := .cells #[.int .i64 t203, u207001] 26 (0, 0)) (by (with_reducible repeat (first | refine blk_drewN ?_ _ | refine blk_drew ?_ | refine blk_alloc ?_ _)); exact BK206.out) hb); have n3_ := Aside0.mk (IsS94.below (by repeat (first | (with_reducible first | exact HI202.out | apply IsS94.alloc | apply IsS94.drewN | apply IsS94.drew | apply IsS94.set_0 | apply IsS94.set_1_none | apply IsS94.set_1_some | apply IsS94.set_1 | refine IsS94.far ?_ NB202_196.out _ | refine IsS94.far ?_ NB202_206.out _) | exact HI202.out)) hb); have n4_ := Aside0.mk (below_step (by repeat (first | (with_reducible first | exact HB.out | apply below_alloc | apply pw_below_drewN | apply below_drew1 | refine below_set ?_ (IsS94.ge HI202.out) | refine below_set ?_ GE196.out | refine below_set ?_ GE206.out) | exact HB.out)) hb); have n5_ := Aside0.mk (hbox); have n6_ := Aside0.mk ((by rw [hg]; exact (below_size (by repeat (first | (with_reducible first | exact HB.out | apply below_alloc | apply pw_below_drewN | apply below_drew1 | refine below_set ?_ (IsS94.ge HI202.out) | refine below_set ?_ GE196.out | refine below_set ?_ GE206.out) | exact HB.out))) : w.heap.size ≤ gb213)); have n7_ := Aside0.mk ((by rw [hg]; exact (below_size (by repeat (first | (with_reducible first | exact HB.out | apply below_alloc | apply pw_below_drewN | apply below_drew1 | refine below_set ?_ (IsS94.ge HI202.out) | refine below_set ?_ GE196.out | refine below_set ?_ GE206.out) | exact HB.out))) : w.heap.size ≤ gb213)); have n8_ := Aside0.mk ((by rw [hg]; exact Nat.ne_of_lt (blk_lt (g := gb196) (o := .cells #[.int .i64 0, .slice none 0 0] 26 (0, 0)) (by (with_reducible repeat (first | refine blk_drewN ?_ _ | refine blk_drew ?_ | refine blk_alloc ?_ _)); exact BK196.out)) : gb196 ≠ gb213)); have n9_ := Aside0.mk ((by rw [hg]; exact Nat.ne_of_gt (blk_lt (g := gb196) (o := .cells #[.int .i64 0, .slice none 0 0] 26 (0, 0)) (by (with_reducible repeat (first | refine blk_drewN ?_ _ | refine blk_drew ?_ | refine blk_alloc ?_ _)); exact BK196.out)) : gb213 ≠ gb196)); have n10_ := Aside0.mk ((by rw [hg]; exact Nat.ne_of_lt (blk_lt (g := gb206) (o := .cells #[.int .i64 t203, u207001] 26 (0, 0)) (by (with_reducible repeat (first | refine blk_drewN ?_ _ | refine blk_drew ?_ | refine blk_alloc ?_ _)); exact BK206.out)) : gb206 ≠ gb213)); have n11_ := Aside0.mk ((by rw [hg]; exact Nat.ne_of_gt (blk_lt (g := gb206) (o := .cells #[.int .i64 t203, u207001] 26 (0, 0)) (by (with_reducible repeat (first | refine blk_drewN ?_ _ | refine blk_drew ?_ | refine blk_alloc ?_ _)); exact BK206.out)) : gb213 ≠ gb206)); have n12_ := Aside0.mk ((by rw [hg]; exact Nat.ne_of_lt (IsS94.lt (show IsS94 w _ g202 t211 t212 from by repeat (first | (with_reducible first | exact HI202.out | apply IsS94.alloc | apply IsS94.drewN | apply IsS94.drew | apply IsS94.set_0 | apply IsS94.set_1_none | apply IsS94.set_1_some | apply IsS94.set_1 | refine IsS94.far ?_ NB202_196.out _ | refine IsS94.far ?_ NB202_206.out _) | exact HI202.out))) : g202 ≠ gb213)); have n13_ := Aside0.mk ((by rw [hg]; exact Nat.ne_of_gt (IsS94.lt (show IsS94 w _ g202 t211 t212 from by repeat (first | (with_reducible first | exact HI202.out | apply IsS94.alloc | apply IsS94.drewN | apply IsS94.drew | apply IsS94.set_0 | apply IsS94.set_1_none | apply IsS94.set_1_some | apply IsS94.set_1 | refine IsS94.far ?_ NB202_196.out _ | refine IsS94.far ?_ NB202_206.out _) | exact HI202.out))) : gb213 ≠ g202)); clear HO_207001; clear BK196; clear BK206; clear HI202; clear HB; have HO_207001 := n0_; have BK196 := n1_; have BK206 := n2_; have HI202 := n3_; have HB := n4_; have BK213 := n5_; have GW213 := n6_; have GE213 := n7_; have NB196_213 := n8_; have NB213_196 := n9_; have NB206_213 := n10_; have NB213_206 := n11_; have NB202_213 := n12_; have NB213_202 := n13_; clear n0_ n1_ n2_ n3_ n4_ n5_ n6_ n7_ n8_ n9_ n10_ n11_ n12_ n13_; clear hb hbox hg; have hnb22 := NB213_196.out; have hnc22 := NB196_213.out; have hnb23 := NB213_206.out; have hnc23 := NB206_213.out; have hnb24 := NB213_202.out; have hnc24 := NB202_213.out; have hcz25_0 : w21.cell? ⟨gb213, 0, none⟩ = some (.int .i64 0) := (blk_cell BK213.out 0).trans rfl; have hcz25_1 : w21.cell? ⟨gb213, 1, none⟩ = some (.int .i64 0) := (blk_cell BK213.out 1).trans rfl; have hfz25_0 := blk_frozen BK213.out 0; have hfz25_1 := blk_frozen BK213.out 1) | ((with_reducible refine gate_callee (f := 30) rfl ?_); refine goesL_ (some 35) rfl rfl Tryz.func30 (by kernel_rfl) rfl #[.pointer (some ⟨g202, 0, none⟩), .int .i64 2] rfl (by (try simp only [List.map_toArray, List.map_cons, List.map_nil]); first | done | rfl | (simp only [List.length_drop, List.length_take]; rfl) | (simp only [decide_eq_true_eq, decide_eq_false_iff_not, eq_iff_iff, iff_true, iff_false] at *; have w_id : ∀ {n : Int}, -9223372036854775808 ≤ n → n ≤ 9223372036854775807 → wrap64 n = n := fun h0 h1 => (by unfold wrap64; omega); rw [w_id (by omega) (by omega)]; rfl)) ?_; (with_reducible refine (le_In_Num.calls k1 g202 t211 t212 2 t214 t215 t216 w _ ?side1 ?side2 A18.out).mono ?_); (case side1 => repeat (first | (with_reducible first | exact HI202.out | apply IsS94.alloc | apply IsS94.drewN | apply IsS94.drew | apply IsS94.set_0 | apply IsS94.set_1_none | apply IsS94.set_1_some | apply IsS94.set_1 | refine IsS94.far ?_ NB202_196.out _ | refine IsS94.far ?_ NB202_206.out _ | refine IsS94.far ?_ NB202_213.out _) | exact HI202.out)); (case side2 => repeat (first | (with_reducible first | exact HB.out | apply below_alloc | apply pw_below_drewN | apply below_drew1 | refine below_set ?_ (IsS94.ge HI202.out) | refine below_set ?_ GE196.out | refine below_set ?_ GE206.out | refine below_set ?_ GE213.out) | exact HB.out)); rintro e w26 ⟨rfl, hi, hb, hk⟩; refine ⟨_, rfl, ?_⟩; have n0_ := Aside0.mk (Kd.R_mono (Kd.R_keep (IsS94.apart (show IsS94 w _ g202 t211 t212 from by repeat (first | (with_reducible first | exact HI202.out | apply IsS94.alloc | apply IsS94.drewN | apply IsS94.drew | apply IsS94.set_0 | apply IsS94.set_1_none | apply IsS94.set_1_some | apply IsS94.set_1 | refine IsS94.far ?_ NB202_196.out _ | refine IsS94.far ?_ NB202_206.out _ | refine IsS94.far ?_ NB202_213.out _) | exact HI202.out)) (by (with_reducible repeat (first | apply Kd.R_alloc | apply Kd.R_drewN | apply Kd.R_drew)); exact (Kd.R_mono (Kd.R_far (p := ⟨gb213, 1, none⟩) (Kd.R_far (p := ⟨gb213, 0, none⟩) (Kd.R_mono HO_207001.out (fun k_ hk => (⟨hk, hk.2⟩ : _ ∧ k_ ≠ gb213))) (fun _ hk => hk.2) (.int .i64 t210)) (fun _ hk => hk.2) (.int .i64 0)) (fun _ h_ => h_.1))) (by decide)) hk (fun _ h => h.2)) (fun _ h => h.1)); have n1_ := Aside0.mk (KeepBut.blk hk (g' := gb196) (o := .cells #[.int .i64 0, .slice none 0 0] 26 (0, 0)) (by (with_reducible repeat (first | refine blk_drewN ?_ _ | refine blk_drew ?_ | refine blk_alloc ?_ _)); refine blk_far ?_ NB196_213.out _; (with_reducible repeat (first | refine blk_drewN ?_ _ | refine blk_drew ?_ | refine blk_alloc ?_ _)); refine blk_far ?_ NB196_213.out _; (with_reducible repeat (first | refine blk_drewN ?_ _ | refine blk_drew ?_ | refine blk_alloc ?_ _)); exact BK196.out) NB196_202.out (by simp)); have n2_ := Aside0.mk (KeepBut.blk hk (g' := gb206) (o := .cells #[.int .i64 t203, u207001] 26 (0, 0)) (by (with_reducible repeat (first | refine blk_drewN ?_ _ | refine blk_drew ?_ | refine blk_alloc ?_ _)); refine blk_far ?_ NB206_213.out _; (with_reducible repeat (first | refine blk_drewN ?_ _ | refine blk_drew ?_ | refine blk_alloc ?_ _)); refine blk_far ?_ NB206_213.out _; (with_reducible repeat (first | refine blk_drewN ?_ _ | refine blk_drew ?_ | refine blk_alloc ?_ _)); exact BK206.out) NB206_202.out (by simp)); have n3_ := Aside0.mk (KeepBut.blk hk (g' := gb213) (o := .cells #[.int .i64 t210, .int .i64 0] 51 (0, 0)) (by (with_reducible repeat (first | refine blk_drewN ?_ _ | refine blk_drew ?_ | refine blk_alloc ?_ _)); refine blk_put (cs := #[.int .i64 t210, .int .i64 0]) ?_ 1 _ rfl; (with_reducible repeat (first | refine blk_drewN ?_ _ | refine blk_drew ?_ | refine blk_alloc ?_ _)); refine blk_put (cs := #[.int .i64 0, .int .i64 0]) ?_ 0 _ rfl; (with_reducible repeat (first | refine blk_drewN ?_ _ | refine blk_drew ?_ | refine blk_alloc ?_ _)); exact BK213.out) NB213_202.out (by simp)); have n4_ := Aside0.mk (hb); have n5_ := Aside0.mk (hi); clear HO_207001; clear BK196; clear BK206; clear BK213; clear HB; clear HI202; have HO_207001 := n0_; have BK196 := n1_; have BK206 := n2_; have BK213 := n3_; have HB := n4_; have HI202 := n5_; clear n0_ n1_ n2_ n3_ n4_ n5_; (try clear hb); (try clear hb2); (try clear hk); (try clear hi); (try simp only [errW_none, errW_some]); have hcz27_0 : w26.cell? ⟨gb213, 0, none⟩ = some (.int .i64 t210) := (blk_cell BK213.out 0).trans rfl; have hcz27_1 : w26.cell? ⟨gb213, 1, none⟩ = some (.int .i64 0) := (blk_cell BK213.out 1).trans rfl; have hfz27_0 := blk_frozen BK213.out 0; have hfz27_1 := blk_frozen BK213.out 1; have hnb28 := NB206_196.out; have hnc28 := NB196_206.out; have hnb29 := NB206_202.out; have hnc29 := NB202_206.out; have hcz30_0 : w26.cell? ⟨gb206, 0, none⟩ = some (.int .i64 t203) := (blk_cell BK206.out 0).trans rfl; have hcz30_1 : w26.cell? ⟨gb206, 1, none⟩ = some (u207001) := (blk_cell BK206.out 1).trans rfl; have hfz30_0 := blk_frozen BK206.out 0; have hfz30_1 := blk_frozen BK206.out 1) | ((with_reducible refine gate_builtin (b := .append) (xs := #[.tmp 38, .tmp 40]) rfl ?_); at_builtin; refine Kd.R_append k51 (w0 := w) w.heap.size rfl (.tmp 38) (.tmp 40) 24 51 (.agg #[(.int .i64 0), (.int .i64 0)]) 16 rfl Tryz.underlying24 info51 rfl (by decide) (by omega) u207001 x207001_1 (⟨t210, t214⟩ : S51) [.int .i64 t210, .int .i64 t214] (fun k_ => k_ ≠ gb213) (fun _ => False) rfl (by first | (go_simp; done) | (go_simp; rfl)) ?aP (fun _ hk => hk.elim) ?aF ?aO ?aB ?aS ?aL ?_; (case aP => exact k51_mkM _ _ _ (⟨t210, t214⟩ : S51)); (case aB => exact (by repeat (first | (with_reducible first | exact HB.out | apply below_alloc | apply pw_below_drewN | apply below_drew1 | refine below_set ?_ (IsS94.ge HI202.out) | refine below_set ?_ GE196.out | refine below_set ?_ GE206.out | refine below_set ?_ GE213.out) | exact HB.out))); (case aF => exact (fun k_ hk => Kd.freshB (g := gb213) (o := .cells #[.int .i64 t210, .int .i64 t214] 51 (0, 0)) (by (with_reducible repeat (first | refine blk_drewN ?_ _ | refine blk_drew ?_ | refine blk_alloc ?_ _)); refine blk_put (cs := #[.int .i64 t210, .int .i64 0]) ?_ 1 _ rfl; (with_reducible repeat (first | refine blk_drewN ?_ _ | refine blk_drew ?_ | refine blk_alloc ?_ _)); exact BK213.out) k_ hk)); (case aO => exact (by (with_reducible repeat (first | apply Kd.R_alloc | apply Kd.R_drewN | apply Kd.R_drew)); exact Kd.R_mono (Kd.R_far (p := ⟨gb213, 1, none⟩) (Kd.R_mono HO_207001.out (fun k_ hk => (⟨hk, hk.2⟩ : _ ∧ k_ ≠ gb213))) (fun _ hk => hk.2) (.int .i64 t214)) (fun _ hk => hk.1.2))); (case aS => exact (below_size (by repeat (first | (with_reducible first | exact HB.out | apply below_alloc | apply pw_below_drewN | apply below_drew1 | refine below_set ?_ (IsS94.ge HI202.out) | refine below_set ?_ GE196.out | refine below_set ?_ GE206.out | refine below_set ?_ GE213.out) | exact HB.out)))); (case aL => have := LMc19.out; omega); intro v218 w31 ho hb hg hat; rw [← Ny217.out] at ho; have n0_ := Aside0.mk (blk_grown (g := gb196) (o := .cells #[.int .i64 0, .slice none 0 0] 26 (0, 0)) (by (with_reducible repeat (first | refine blk_drewN ?_ _ | refine blk_drew ?_ | refine blk_alloc ?_ _)); refine blk_far ?_ NB196_213.out _; (with_reducible repeat (first | refine blk_drewN ?_ _ | refine blk_drew ?_ | refine blk_alloc ?_ _)); exact BK196.out) hg (Kd.R_ne HO_207001.out BK196.out (by decide))); have n1_ := Aside0.mk (blk_grown (g := gb206) (o := .cells #[.int .i64 t203, u207001] 26 (0, 0)) (by (with_reducible repeat (first | refine blk_drewN ?_ _ | refine blk_drew ?_ | refine blk_alloc ?_ _)); refine blk_far ?_ NB206_213.out _; (with_reducible repeat (first | refine blk_drewN ?_ _ | refine blk_drew ?_ | refine blk_alloc ?_ _)); exact BK206.out) hg (Kd.R_ne HO_207001.out BK206.out (by decide))); have n2_ := Aside0.mk (IsS94.grown (show IsS94 w _ g202 t215 t216 from by repeat (first | (with_reducible first | exact HI202.out | apply IsS94.alloc | apply IsS94.drewN | apply IsS94.drew | apply IsS94.set_0 | apply IsS94.set_1_none | apply IsS94.set_1_some | apply IsS94.set_1 | refine IsS94.far ?_ NB202_196.out _ | refine IsS94.far ?_ NB202_206.out _ | refine IsS94.far ?_ NB202_213.out _) | exact HI202.out)) hg (IsS94.own_ne HI202.out HO_207001.out (by decide))); have n3_ := Aside0.mk (blk_grown (g := gb213) (o := .cells #[.int .i64 t210, .int .i64 t214] 51 (0, 0)) (by (with_reducible repeat (first | refine blk_drewN ?_ _ | refine blk_drew ?_ | refine blk_alloc ?_ _)); refine blk_put (cs := #[.int .i64 t210, .int .i64 0]) ?_ 1 _ rfl; (with_reducible repeat (first | refine blk_drewN ?_ _ | refine blk_drew ?_ | refine blk_alloc ?_ _)); exact BK213.out) hg (Kd.R_away HO_207001.out (fun _ hk => hk.2))); have n4_ := Aside0.mk (hb); have n5_ := Aside0.mk (ho); clear BK196; clear BK206; clear HI202; clear BK213; clear HB; clear HO_207001; have BK196 := n0_; have BK206 := n1_; have HI202 := n2_; have BK213 := n3_; have HB := n4_; have HO219 := n5_; clear n0_ n1_ n2_ n3_ n4_ n5_; clear ho hb hg hat; obtain ⟨Ao32, co32, eo32⟩ := Kd.R_slice HO219.out; subst eo32; have hcz33_0 : w31.cell? ⟨gb206, 0, none⟩ = some (.int .i64 t203) := (blk_cell BK206.out 0).trans rfl; have hcz33_1 : w31.cell? ⟨gb206, 1, none⟩ = some (u207001) := (blk_cell BK206.out 1).trans rfl; have hfz33_0 := blk_frozen BK206.out 0; have hfz33_1 := blk_frozen BK206.out 1))
      go_roundg k1
      case measure => have := HK1.out; omega
      case rel => exact ⟨(wrap64 (x29_1 + 1)), (t215), (t216), (y217), (.slice Ao32 y217.length co32), (by first | rfl | (simp; done) | (simp [*]; done)), H', ⟨by have := HK1.out; omega⟩, ⟨by (with_reducible repeat (first | apply Kd.R_alloc | apply Kd.R_drewN | apply Kd.R_drew)); exact Kd.R_mono (Kd.R_far (p := ⟨gb206, 1, none⟩) (Kd.R_types HO219.out BK206.out (by decide)) (fun _ hk => hk.2) (.slice Ao32 y217.length co32)) (fun _ hk => trivial)⟩, ⟨by (with_reducible repeat (first | refine blk_drewN ?_ _ | refine blk_drew ?_ | refine blk_alloc ?_ _)); refine blk_far ?_ NB196_206.out _; (with_reducible repeat (first | refine blk_drewN ?_ _ | refine blk_drew ?_ | refine blk_alloc ?_ _)); exact BK196.out⟩, ⟨by (with_reducible repeat (first | refine blk_drewN ?_ _ | refine blk_drew ?_ | refine blk_alloc ?_ _)); refine blk_put (cs := #[.int .i64 t203, u207001]) ?_ 1 _ rfl; (with_reducible repeat (first | refine blk_drewN ?_ _ | refine blk_drew ?_ | refine blk_alloc ?_ _)); exact BK206.out⟩, ⟨by repeat (first | (with_reducible first | exact HI202.out | apply IsS94.alloc | apply IsS94.drewN | apply IsS94.drew | apply IsS94.set_0 | apply IsS94.set_1_none | apply IsS94.set_1_some | apply IsS94.set_1 | refine IsS94.far ?_ NB202_196.out _ | refine IsS94.far ?_ NB202_206.out _ | refine IsS94.far ?_ NB202_213.out _) | exact HI202.out)⟩, ⟨by repeat (first | (with_reducible first | exact HB.out | apply below_alloc | apply pw_below_drewN | apply below_drew1 | refine below_set ?_ (IsS94.ge HI202.out) | refine below_set ?_ GE196.out | refine below_set ?_ GE206.out | refine below_set ?_ GE213.out) | exact HB.out)⟩⟩
     ·rw [if_neg c19] at H
      exact absurd H (by simp)
    ·rw [if_neg c16] at H
     have c16b0 : decide (x29_1 < t207) = false := decide_eq_false c16
     clear c16
     replace H := Option.bind_eq_some_iff.mp H
     obtain ⟨⟨t220, t221⟩, A340, H⟩ := H
     replace H : (if t207 > 36 then (inode_Get.j1 k1 a1 true t203 x207001_1) else ((le_In_End.f t220 t221).bind fun bt222 => (if bt222.1.isNone = true then (inode_Get.j1 k1 a1 false t203 x207001_1) else (inode_Get.j1 k1 a1 true t203 x207001_1)))) = some (r1, r2, r3) := H
     have A34 := Aside0.mk A340
     clear A340
     have HC35 := Aside0.mk H
     clear H
     go_upto_region 14 with (first | ((with_reducible refine gate_callee (f := 31) rfl ?_); refine goesL_ (some 48) rfl rfl Tryz.func31 (by kernel_rfl) rfl #[.pointer (some ⟨g202, 0, none⟩), .int .i64 (wrap64 (497 - (wrap64 (4 * t207))))] rfl (by (try simp only [List.map_toArray, List.map_cons, List.map_nil]); first | done | rfl | (simp only [List.length_drop, List.length_take]; rfl) | (simp only [decide_eq_true_eq, decide_eq_false_iff_not, eq_iff_iff, iff_true, iff_false] at *; have w_id : ∀ {n : Int}, -9223372036854775808 ≤ n → n ≤ 9223372036854775807 → wrap64 n = n := fun h0 h1 => (by unfold wrap64; omega); rw [w_id (by omega) (by omega)]; rfl)) ?_; (with_reducible refine (le_In_Noughts.calls g202 x203000_1 x203001_1 (wrap64 (497 - (wrap64 (4 * t207)))) t220 t221 w _ ?side1 ?side2 A34.out).mono ?_); (case side1 => repeat (first | (with_reducible first | exact HI202.out | apply IsS94.alloc | apply IsS94.drewN | apply IsS94.drew | apply IsS94.set_0 | apply IsS94.set_1_none | apply IsS94.set_1_some | apply IsS94.set_1 | refine IsS94.far ?_ NB202_196.out _ | refine IsS94.far ?_ NB202_206.out _) | exact HI202.out)); (case side2 => repeat (first | (with_reducible first | exact HB.out | apply below_alloc | apply pw_below_drewN | apply below_drew1 | refine below_set ?_ (IsS94.ge HI202.out) | refine below_set ?_ GE196.out | refine below_set ?_ GE206.out) | exact HB.out)); rintro e w36 ⟨rfl, hi, hb, hk⟩; refine ⟨_, rfl, ?_⟩; have n0_ := Aside0.mk (Kd.R_mono (Kd.R_keep (IsS94.apart (show IsS94 w _ g202 x203000_1 x203001_1 from by repeat (first | (with_reducible first | exact HI202.out | apply IsS94.alloc | apply IsS94.drewN | apply IsS94.drew | apply IsS94.set_0 | apply IsS94.set_1_none | apply IsS94.set_1_some | apply IsS94.set_1 | refine IsS94.far ?_ NB202_196.out _ | refine IsS94.far ?_ NB202_206.out _) | exact HI202.out)) (by (with_reducible repeat (first | apply Kd.R_alloc | apply Kd.R_drewN | apply Kd.R_drew)); exact HO_207001.out) (by decide)) hk (fun _ h => h.2)) (fun _ h => h.1)); have n1_ := Aside0.mk (KeepBut.blk hk (g' := gb196) (o := .cells #[.int .i64 0, .slice none 0 0] 26 (0, 0)) (by (with_reducible repeat (first | refine blk_drewN ?_ _ | refine blk_drew ?_ | refine blk_alloc ?_ _)); exact BK196.out) NB196_202.out (by simp)); have n2_ := Aside0.mk (KeepBut.blk hk (g' := gb206) (o := .cells #[.int .i64 t203, u207001] 26 (0, 0)) (by (with_reducible repeat (first | refine blk_drewN ?_ _ | refine blk_drew ?_ | refine blk_alloc ?_ _)); exact BK206.out) NB206_202.out (by simp)); have n3_ := Aside0.mk (hb); have n4_ := Aside0.mk (hi); clear HO_207001; clear BK196; clear BK206; clear HB; clear HI202; have HO_207001 := n0_; have BK196 := n1_; have BK206 := n2_; have HB := n3_; have HI202 := n4_; clear n0_ n1_ n2_ n3_ n4_; (try clear hb); (try clear hb2); (try clear hk); (try clear hi); (try simp only [errW_none, errW_some])))
     (try simp only [Act.put, List.setIfInBounds_toArray, List.set_cons_zero, List.set_cons_succ])
     go_cut [49] (fun v49 wc => ∃ (kq : Nat) (x49_34 : Bool), v49 = .bool x49_34 ∧ Aside0 (inode_Get.j1 kq a1 x49_34 t203 x207001_1 = some (r1, r2, r3)) ∧ Aside0 (kq ≤ k1) ∧ Aside0 (Kd.R k51 51 wc w.heap.size (fun _ => True) u207001 x207001_1) ∧ Aside0 (wc.heap[gb196]? = some (.cells #[.int .i64 0, (.slice none 0 0)] 26 (0, 0))) ∧ Aside0 (wc.heap[gb206]? = some (.cells #[.int .i64 t203, u207001] 26 (0, 0))) ∧ Aside0 (Below w.heap.size w wc))
     case first =>
      have H := HC35.out
      clear HC35
      by_cases c37 : t207 > 36
      ·rw [if_pos c37] at H
       have c37b0 : decide (36 < t207) = true := decide_eq_true c37
       clear c37
       (first | rw [c37b0] | (simp only [i64_w, i32_w]; rw [c37b0]) | skip)
       have H' := Aside0.mk H
       clear H
       go_wp2
       go_meet
       case rel => exact ⟨_, (true), (by first | rfl | (simp; done) | (simp [*]; done)), H', ⟨by have := HK1.out; first | omega | exact Nat.le_refl _⟩, ⟨by (with_reducible repeat (first | apply Kd.R_alloc | apply Kd.R_drewN | apply Kd.R_drew)); exact HO_207001.out⟩, ⟨by (with_reducible repeat (first | refine blk_drewN ?_ _ | refine blk_drew ?_ | refine blk_alloc ?_ _)); exact BK196.out⟩, ⟨by (with_reducible repeat (first | refine blk_drewN ?_ _ | refine blk_drew ?_ | refine blk_alloc ?_ _)); exact BK206.out⟩, ⟨by repeat (first | (with_reducible first | exact HB.out | apply below_alloc | apply pw_below_drewN | apply below_drew1 | refine below_set ?_ (IsS94.ge HI202.out) | refine below_set ?_ GE196.out | refine below_set ?_ GE206.out) | exact HB.out)⟩⟩
      ·rw [if_neg c37] at H
       have c37b0 : decide (36 < t207) = false := decide_eq_false c37
       clear c37
       (first | rw [c37b0] | (simp only [i64_w, i32_w]; rw [c37b0]) | skip)
       replace H := Option.bind_eq_some_iff.mp H
       obtain ⟨⟨t222, t223, t224⟩, A380, H⟩ := H
       replace H : (if t222.isNone = true then (inode_Get.j1 k1 a1 false t203 x207001_1) else (inode_Get.j1 k1 a1 true t203 x207001_1)) = some (r1, r2, r3) := H
       have A38 := Aside0.mk A380
       clear A380
       rcases t222 with _ | q225
       ·have H1 : (inode_Get.j1 k1 a1 false t203 x207001_1) = some (r1, r2, r3) := by rw [if_pos (show (none : Option Int).isNone = true by rfl)] at H; exact H
        clear H
        have H := H1
        clear H1
        try simp only [errW_none, errW_some]
        have H' := Aside0.mk H
        clear H
        go_wp2_with (first | (go_at_call 32; (with_reducible refine (le_In_End.calls g202 t220 t221 none t223 t224 w _ ?side1 ?side2 A38.out).mono ?_); (case side1 => repeat (first | (with_reducible first | exact HI202.out | apply IsS94.alloc | apply IsS94.drewN | apply IsS94.drew | apply IsS94.set_0 | apply IsS94.set_1_none | apply IsS94.set_1_some | apply IsS94.set_1 | refine IsS94.far ?_ NB202_196.out _ | refine IsS94.far ?_ NB202_206.out _) | exact HI202.out)); (case side2 => repeat (first | (with_reducible first | exact HB.out | apply below_alloc | apply pw_below_drewN | apply below_drew1 | refine below_set ?_ (IsS94.ge HI202.out) | refine below_set ?_ GE196.out | refine below_set ?_ GE206.out) | exact HB.out)); rintro e w39 ⟨rfl, hi, hb, hk⟩; have n0_ := Aside0.mk (Kd.R_mono (Kd.R_keep (IsS94.apart (show IsS94 w _ g202 t220 t221 from by repeat (first | (with_reducible first | exact HI202.out | apply IsS94.alloc | apply IsS94.drewN | apply IsS94.drew | apply IsS94.set_0 | apply IsS94.set_1_none | apply IsS94.set_1_some | apply IsS94.set_1 | refine IsS94.far ?_ NB202_196.out _ | refine IsS94.far ?_ NB202_206.out _) | exact HI202.out)) (by (with_reducible repeat (first | apply Kd.R_alloc | apply Kd.R_drewN | apply Kd.R_drew)); exact HO_207001.out) (by decide)) hk (fun _ h => h.2)) (fun _ h => h.1)); have n1_ := Aside0.mk (KeepBut.blk hk (g' := gb196) (o := .cells #[.int .i64 0, .slice none 0 0] 26 (0, 0)) (by (with_reducible repeat (first | refine blk_drewN ?_ _ | refine blk_drew ?_ | refine blk_alloc ?_ _)); exact BK196.out) NB196_202.out (by simp)); have n2_ := Aside0.mk (KeepBut.blk hk (g' := gb206) (o := .cells #[.int .i64 t203, u207001] 26 (0, 0)) (by (with_reducible repeat (first | refine blk_drewN ?_ _ | refine blk_drew ?_ | refine blk_alloc ?_ _)); exact BK206.out) NB206_202.out (by simp)); have n3_ := Aside0.mk (hb); have n4_ := Aside0.mk (hi); clear HO_207001; clear BK196; clear BK206; clear HB; clear HI202; have HO_207001 := n0_; have BK196 := n1_; have BK206 := n2_; have HB := n3_; have HI202 := n4_; clear n0_ n1_ n2_ n3_ n4_; (try clear hb); (try clear hb2); (try clear hk); (try clear hi); (try simp only [errW_none, errW_some])))
        go_meet
        case rel => exact ⟨_, (false), (by first | rfl | (simp; done) | (simp [*]; done)), H', ⟨by have := HK1.out; first | omega | exact Nat.le_refl _⟩, ⟨by (with_reducible repeat (first | apply Kd.R_alloc | apply Kd.R_drewN | apply Kd.R_drew)); exact HO_207001.out⟩, ⟨by (with_reducible repeat (first | refine blk_drewN ?_ _ | refine blk_drew ?_ | refine blk_alloc ?_ _)); exact BK196.out⟩, ⟨by (with_reducible repeat (first | refine blk_drewN ?_ _ | refine blk_drew ?_ | refine blk_alloc ?_ _)); exact BK206.out⟩, ⟨by repeat (first | (with_reducible first | exact HB.out | apply below_alloc | apply pw_below_drewN | apply below_drew1 | refine below_set ?_ (IsS94.ge HI202.out) | refine below_set ?_ GE196.out | refine below_set ?_ GE206.out) | exact HB.out)⟩⟩
       ·have H1 : (inode_Get.j1 k1 a1 true t203 x207001_1) = some (r1, r2, r3) := by rw [if_neg (show ¬ (some q225).isNone = true by simp)] at H; exact H
        clear H
        have H := H1
        clear H1
        try simp only [errW_none, errW_some]
        have H' := Aside0.mk H
        clear H
        go_wp2_with (first | (go_at_call 32; (with_reducible refine (le_In_End.calls g202 t220 t221 (some q225) t223 t224 w _ ?side1 ?side2 A38.out).mono ?_); (case side1 => repeat (first | (with_reducible first | exact HI202.out | apply IsS94.alloc | apply IsS94.drewN | apply IsS94.drew | apply IsS94.set_0 | apply IsS94.set_1_none | apply IsS94.set_1_some | apply IsS94.set_1 | refine IsS94.far ?_ NB202_196.out _ | refine IsS94.far ?_ NB202_206.out _) | exact HI202.out)); (case side2 => repeat (first | (with_reducible first | exact HB.out | apply below_alloc | apply pw_below_drewN | apply below_drew1 | refine below_set ?_ (IsS94.ge HI202.out) | refine below_set ?_ GE196.out | refine below_set ?_ GE206.out) | exact HB.out)); rintro e w40 ⟨rfl, hi, hb, hk⟩; have n0_ := Aside0.mk (Kd.R_mono (Kd.R_keep (IsS94.apart (show IsS94 w _ g202 t220 t221 from by repeat (first | (with_reducible first | exact HI202.out | apply IsS94.alloc | apply IsS94.drewN | apply IsS94.drew | apply IsS94.set_0 | apply IsS94.set_1_none | apply IsS94.set_1_some | apply IsS94.set_1 | refine IsS94.far ?_ NB202_196.out _ | refine IsS94.far ?_ NB202_206.out _) | exact HI202.out)) (by (with_reducible repeat (first | apply Kd.R_alloc | apply Kd.R_drewN | apply Kd.R_drew)); exact HO_207001.out) (by decide)) hk (fun _ h => h.2)) (fun _ h => h.1)); have n1_ := Aside0.mk (KeepBut.blk hk (g' := gb196) (o := .cells #[.int .i64 0, .slice none 0 0] 26 (0, 0)) (by (with_reducible repeat (first | refine blk_drewN ?_ _ | refine blk_drew ?_ | refine blk_alloc ?_ _)); exact BK196.out) NB196_202.out (by simp)); have n2_ := Aside0.mk (KeepBut.blk hk (g' := gb206) (o := .cells #[.int .i64 t203, u207001] 26 (0, 0)) (by (with_reducible repeat (first | refine blk_drewN ?_ _ | refine blk_drew ?_ | refine blk_alloc ?_ _)); exact BK206.out) NB206_202.out (by simp)); have n3_ := Aside0.mk (hb); have n4_ := Aside0.mk (hi); clear HO_207001; clear BK196; clear BK206; clear HB; clear HI202; have HO_207001 := n0_; have BK196 := n1_; have BK206 := n2_; have HB := n3_; have HI202 := n4_; clear n0_ n1_ n2_ n3_ n4_; (try clear hb); (try clear hb2); (try clear hk); (try clear hi); (try simp only [errW_none, errW_some])))
        go_meet
        case rel => exact ⟨_, (true), (by first | rfl | (simp; done) | (simp [*]; done)), H', ⟨by have := HK1.out; first | omega | exact Nat.le_refl _⟩, ⟨by (with_reducible repeat (first | apply Kd.R_alloc | apply Kd.R_drewN | apply Kd.R_drew)); exact HO_207001.out⟩, ⟨by (with_reducible repeat (first | refine blk_drewN ?_ _ | refine blk_drew ?_ | refine blk_alloc ?_ _)); exact BK196.out⟩, ⟨by (with_reducible repeat (first | refine blk_drewN ?_ _ | refine blk_drew ?_ | refine blk_alloc ?_ _)); exact BK206.out⟩, ⟨by repeat (first | (with_reducible first | exact HB.out | apply below_alloc | apply pw_below_drewN | apply below_drew1 | refine below_set ?_ (IsS94.ge HI202.out) | refine below_set ?_ GE196.out | refine below_set ?_ GE206.out) | exact HB.out)⟩⟩
     case rest =>
      clear HC35
      try clear c1
      try clear q1
      try clear c2
      try clear p2
      try clear q2
      try clear c3
      try clear p6
      try clear c12
      try clear c13
      try clear c16
      try clear c16b0
      try clear c19
      try clear q19
      try clear c22
      try clear q22
      try clear c23
      try clear c24
      try clear c28
      try clear c29
      try clear c30
      try clear c31
      try clear c37
      try clear c37b0
      try clear hcz14_0
      try clear hcz14_1
      try clear hcz25_0
      try clear hcz25_1
      try clear hcz27_0
      try clear hcz27_1
      try clear hcz30_0
      try clear hcz30_1
      try clear hcz33_0
      try clear hcz33_1
      try clear hfz14_0
      try clear hfz14_1
      try clear hfz25_0
      try clear hfz25_1
      try clear hfz27_0
      try clear hfz27_1
      try clear hfz30_0
      try clear hfz30_1
      try clear hfz33_0
      try clear hfz33_1
      try clear p2
      try clear q1
      try clear q199
      try clear q225
      obtain ⟨kq, x49_34, rfl, HA, HJ34, HO_207001, BK196, BK206, HB⟩ := hcut
      cases kq with
      | zero => exact absurd HA.out (by simp [inode_Get.j1])
      | succ kj34 =>
       have H := HA.out
       clear HA
       simp only [inode_Get.j1] at H
       by_cases c41 : x49_34 = true
       ·subst c41
        have H1 : (some (0, ([] : List (S51)), some 4)) = some (r1, r2, r3) := by rw [if_pos rfl] at H; exact H
        clear H
        have H := H1
        clear H1
        simp only [Option.some.injEq, Prod.mk.injEq] at H
        obtain ⟨rfl, rfl, rfl⟩ := H
        have hnb42 := NB196_206.out
        have hnc42 := NB206_196.out
        have hcz43_0 : wc.cell? ⟨gb196, 0, none⟩ = some (.int .i64 0) := (blk_cell BK196.out 0).trans rfl
        have hcz43_1 : wc.cell? ⟨gb196, 1, none⟩ = some (.slice none 0 0) := (blk_cell BK196.out 1).trans rfl
        have hfz43_0 := blk_frozen BK196.out 0
        have hfz43_1 := blk_frozen BK196.out 1
        go_wp2
        refine bodyPost_ret (results_ct rfl _ _ gb196 26 #[.int .i64 0, .slice none 0 0] (0, 0) _ rfl (by (with_reducible repeat (first | refine blk_drewN ?_ _ | refine blk_drew ?_ | refine blk_alloc ?_ _)); refine blk_put (cs := #[.int .i64 0, .slice none 0 0]) ?_ 1 _ rfl; (with_reducible repeat (first | refine blk_drewN ?_ _ | refine blk_drew ?_ | refine blk_alloc ?_ _)); refine blk_put (cs := #[.int .i64 0, .slice none 0 0]) ?_ 0 _ rfl; (with_reducible repeat (first | refine blk_drewN ?_ _ | refine blk_drew ?_ | refine blk_alloc ?_ _)); exact BK196.out) Tryz.underlying26 rfl (by kernel_rfl)) rfl ?_
        exact ⟨_, by first | rfl | (simp [errW_none, errW_some] <;> rfl) | (simp [*, errW_none, errW_some] <;> rfl), by first | exact Kd.R_nil _ _ _ _ _ | exact Kd.N_nil _ _ _ _ _ | exact Kd.V_nil _ _ _ _ _ | exact Kd.Q_nil _ _ _ _ _ | exact Kd.S_nil _ _ _ _ _, by repeat (first | (with_reducible first | exact HB.out | apply below_alloc | apply pw_below_drewN | apply below_drew1 | refine below_set ?_ GE196.out | refine below_set ?_ GE206.out) | exact HB.out)⟩
       ·replace c41 := Bool.eq_false_iff.mpr c41
        subst c41
        have H1 : ((inode_Right.f t203 x207001_1 a1).bind fun t226 => (if t226 = true then (some (t203, x207001_1, none)) else (some (0, ([] : List (S51)), some 17)))) = some (r1, r2, r3) := by rw [if_neg (show ¬ (false = true) by decide)] at H; exact H
        clear H
        have H := H1
        clear H1
        replace H := Option.bind_eq_some_iff.mp H
        obtain ⟨t226, A440, H⟩ := H
        replace H : (if t226 = true then (some (t203, x207001_1, none)) else (some (0, ([] : List (S51)), some 17))) = some (r1, r2, r3) := H
        have A44 := Aside0.mk A440
        clear A440
        by_cases c45 : t226 = true
        ·subst c45
         have H1 : (some (t203, x207001_1, none)) = some (r1, r2, r3) := by rw [if_pos rfl] at H; exact H
         clear H
         have H := H1
         clear H1
         simp only [Option.some.injEq, Prod.mk.injEq] at H
         obtain ⟨rfl, rfl, rfl⟩ := H
         have hnb46 := NB206_196.out
         have hnc46 := NB196_206.out
         have hcz47_0 : wc.cell? ⟨gb206, 0, none⟩ = some (.int .i64 t203) := (blk_cell BK206.out 0).trans rfl
         have hcz47_1 : wc.cell? ⟨gb206, 1, none⟩ = some (u207001) := (blk_cell BK206.out 1).trans rfl
         have hfz47_0 := blk_frozen BK206.out 0
         have hfz47_1 := blk_frozen BK206.out 1
         obtain ⟨Ao48, co48, eo48⟩ := Kd.R_slice HO_207001.out
         subst eo48
         go_wp2_with (first | ((with_reducible refine gate_callee (f := 10) rfl ?_); refine goesL_ (some 62) rfl rfl Tryz.func10 (by kernel_rfl) rfl #[.agg #[.int .i64 t203, .slice Ao48 x207001_1.length co48], .int .i64 a1] rfl (by (try simp only [List.map_toArray, List.map_cons, List.map_nil]); first | done | rfl | (simp only [List.length_drop, List.length_take]; rfl) | (simp only [decide_eq_true_eq, decide_eq_false_iff_not, eq_iff_iff, iff_true, iff_false] at *; have w_id : ∀ {n : Int}, -9223372036854775808 ≤ n → n ≤ 9223372036854775807 → wrap64 n = n := fun h0 h1 => (by unfold wrap64; omega); rw [w_id (by omega) (by omega)]; rfl)) ?_; (with_reducible refine (inode_Right.calls t203 _ _ x207001_1 a1 true _ ?side1 ?side2 A44.out).mono ?_); (case side1 => repeat (first | exact (Kd.R_reads' HO_207001.out).2.2 | (with_reducible refine Kd.C_alloc ?_ _) | (with_reducible refine Kd.C_drewN ?_ _) | (with_reducible refine Kd.C_drew ?_))); (case side2 => exact (Kd.R_reads' HO_207001.out).2.1); rintro e w49 ⟨rfl, hb⟩; refine ⟨_, rfl, ?_⟩; have n0_ := Aside0.mk (Kd.R_below (by (with_reducible repeat (first | apply Kd.R_alloc | apply Kd.R_drewN | apply Kd.R_drew)); exact HO_207001.out) hb); have n1_ := Aside0.mk (blk_below (g := gb196) (o := .cells #[.int .i64 0, .slice none 0 0] 26 (0, 0)) (by (with_reducible repeat (first | refine blk_drewN ?_ _ | refine blk_drew ?_ | refine blk_alloc ?_ _)); exact BK196.out) hb); have n2_ := Aside0.mk (blk_below (g := gb206) (o := .cells #[.int .i64 t203, .slice Ao48 x207001_1.length co48] 26 (0, 0)) (by (with_reducible repeat (first | refine blk_drewN ?_ _ | refine blk_drew ?_ | refine blk_alloc ?_ _)); exact BK206.out) hb); have n3_ := Aside0.mk (below_step (by repeat (first | (with_reducible first | exact HB.out | apply below_alloc | apply pw_below_drewN | apply below_drew1 | refine below_set ?_ GE196.out | refine below_set ?_ GE206.out) | exact HB.out)) hb); clear HO_207001; clear BK196; clear BK206; clear HB; have HO_207001 := n0_; have BK196 := n1_; have BK206 := n2_; have HB := n3_; clear n0_ n1_ n2_ n3_; (try clear hb); (try clear hb2); (try clear hk); (try clear hi); have hcz50_0 : w49.cell? ⟨gb206, 0, none⟩ = some (.int .i64 t203) := (blk_cell BK206.out 0).trans rfl; have hcz50_1 : w49.cell? ⟨gb206, 1, none⟩ = some (.slice Ao48 x207001_1.length co48) := (blk_cell BK206.out 1).trans rfl; have hfz50_0 := blk_frozen BK206.out 0; have hfz50_1 := blk_frozen BK206.out 1; have hcz51_0 : w49.cell? ⟨gb196, 0, none⟩ = some (.int .i64 0) := (blk_cell BK196.out 0).trans rfl; have hcz51_1 : w49.cell? ⟨gb196, 1, none⟩ = some (.slice none 0 0) := (blk_cell BK196.out 1).trans rfl; have hfz51_0 := blk_frozen BK196.out 0; have hfz51_1 := blk_frozen BK196.out 1))
         refine bodyPost_ret (results_ct rfl _ _ gb196 26 #[.int .i64 t203, .slice Ao48 x207001_1.length co48] (0, 0) _ rfl (by (with_reducible repeat (first | refine blk_drewN ?_ _ | refine blk_drew ?_ | refine blk_alloc ?_ _)); refine blk_put (cs := #[.int .i64 t203, .slice none 0 0]) ?_ 1 _ rfl; (with_reducible repeat (first | refine blk_drewN ?_ _ | refine blk_drew ?_ | refine blk_alloc ?_ _)); refine blk_put (cs := #[.int .i64 0, .slice none 0 0]) ?_ 0 _ rfl; (with_reducible repeat (first | refine blk_drewN ?_ _ | refine blk_drew ?_ | refine blk_alloc ?_ _)); exact BK196.out) Tryz.underlying26 rfl (by kernel_rfl)) rfl ?_
         exact ⟨_, by first | rfl | (simp [errW_none, errW_some] <;> rfl) | (simp [*, errW_none, errW_some] <;> rfl), by (with_reducible repeat (first | apply Kd.R_alloc | apply Kd.R_drewN | apply Kd.R_drew)); exact Kd.R_mono (Kd.R_far (p := ⟨gb196, 1, none⟩) (Kd.R_far (p := ⟨gb196, 0, none⟩) (Kd.R_types HO_207001.out BK196.out (by decide)) (fun _ hk => hk.2) (.int .i64 t203)) (fun _ hk => hk.2) (.slice Ao48 x207001_1.length co48)) (fun _ hk => trivial), by repeat (first | (with_reducible first | exact HB.out | apply below_alloc | apply pw_below_drewN | apply below_drew1 | refine below_set ?_ GE196.out | refine below_set ?_ GE206.out) | exact HB.out)⟩
        ·replace c45 := Bool.eq_false_iff.mpr c45
         subst c45
         have H1 : (some (0, ([] : List (S51)), some 17)) = some (r1, r2, r3) := by rw [if_neg (show ¬ (false = true) by decide)] at H; exact H
         clear H
         have H := H1
         clear H1
         simp only [Option.some.injEq, Prod.mk.injEq] at H
         obtain ⟨rfl, rfl, rfl⟩ := H
         have hnb52 := NB206_196.out
         have hnc52 := NB196_206.out
         have hcz53_0 : wc.cell? ⟨gb206, 0, none⟩ = some (.int .i64 t203) := (blk_cell BK206.out 0).trans rfl
         have hcz53_1 : wc.cell? ⟨gb206, 1, none⟩ = some (u207001) := (blk_cell BK206.out 1).trans rfl
         have hfz53_0 := blk_frozen BK206.out 0
         have hfz53_1 := blk_frozen BK206.out 1
         obtain ⟨Ao54, co54, eo54⟩ := Kd.R_slice HO_207001.out
         subst eo54
         go_wp2_with (first | ((with_reducible refine gate_callee (f := 10) rfl ?_); refine goesL_ (some 62) rfl rfl Tryz.func10 (by kernel_rfl) rfl #[.agg #[.int .i64 t203, .slice Ao54 x207001_1.length co54], .int .i64 a1] rfl (by (try simp only [List.map_toArray, List.map_cons, List.map_nil]); first | done | rfl | (simp only [List.length_drop, List.length_take]; rfl) | (simp only [decide_eq_true_eq, decide_eq_false_iff_not, eq_iff_iff, iff_true, iff_false] at *; have w_id : ∀ {n : Int}, -9223372036854775808 ≤ n → n ≤ 9223372036854775807 → wrap64 n = n := fun h0 h1 => (by unfold wrap64; omega); rw [w_id (by omega) (by omega)]; rfl)) ?_; (with_reducible refine (inode_Right.calls t203 _ _ x207001_1 a1 false _ ?side1 ?side2 A44.out).mono ?_); (case side1 => repeat (first | exact (Kd.R_reads' HO_207001.out).2.2 | (with_reducible refine Kd.C_alloc ?_ _) | (with_reducible refine Kd.C_drewN ?_ _) | (with_reducible refine Kd.C_drew ?_))); (case side2 => exact (Kd.R_reads' HO_207001.out).2.1); rintro e w55 ⟨rfl, hb⟩; refine ⟨_, rfl, ?_⟩; have n0_ := Aside0.mk (Kd.R_below (by (with_reducible repeat (first | apply Kd.R_alloc | apply Kd.R_drewN | apply Kd.R_drew)); exact HO_207001.out) hb); have n1_ := Aside0.mk (blk_below (g := gb196) (o := .cells #[.int .i64 0, .slice none 0 0] 26 (0, 0)) (by (with_reducible repeat (first | refine blk_drewN ?_ _ | refine blk_drew ?_ | refine blk_alloc ?_ _)); exact BK196.out) hb); have n2_ := Aside0.mk (blk_below (g := gb206) (o := .cells #[.int .i64 t203, .slice Ao54 x207001_1.length co54] 26 (0, 0)) (by (with_reducible repeat (first | refine blk_drewN ?_ _ | refine blk_drew ?_ | refine blk_alloc ?_ _)); exact BK206.out) hb); have n3_ := Aside0.mk (below_step (by repeat (first | (with_reducible first | exact HB.out | apply below_alloc | apply pw_below_drewN | apply below_drew1 | refine below_set ?_ GE196.out | refine below_set ?_ GE206.out) | exact HB.out)) hb); clear HO_207001; clear BK196; clear BK206; clear HB; have HO_207001 := n0_; have BK196 := n1_; have BK206 := n2_; have HB := n3_; clear n0_ n1_ n2_ n3_; (try clear hb); (try clear hb2); (try clear hk); (try clear hi); have hcz56_0 : w55.cell? ⟨gb196, 0, none⟩ = some (.int .i64 0) := (blk_cell BK196.out 0).trans rfl; have hcz56_1 : w55.cell? ⟨gb196, 1, none⟩ = some (.slice none 0 0) := (blk_cell BK196.out 1).trans rfl; have hfz56_0 := blk_frozen BK196.out 0; have hfz56_1 := blk_frozen BK196.out 1))
         refine bodyPost_ret (results_ct rfl _ _ gb196 26 #[.int .i64 0, .slice none 0 0] (0, 0) _ rfl (by (with_reducible repeat (first | refine blk_drewN ?_ _ | refine blk_drew ?_ | refine blk_alloc ?_ _)); refine blk_put (cs := #[.int .i64 0, .slice none 0 0]) ?_ 1 _ rfl; (with_reducible repeat (first | refine blk_drewN ?_ _ | refine blk_drew ?_ | refine blk_alloc ?_ _)); refine blk_put (cs := #[.int .i64 0, .slice none 0 0]) ?_ 0 _ rfl; (with_reducible repeat (first | refine blk_drewN ?_ _ | refine blk_drew ?_ | refine blk_alloc ?_ _)); exact BK196.out) Tryz.underlying26 rfl (by kernel_rfl)) rfl ?_
         exact ⟨_, by first | rfl | (simp [errW_none, errW_some] <;> rfl) | (simp [*, errW_none, errW_some] <;> rfl), by first | exact Kd.R_nil _ _ _ _ _ | exact Kd.N_nil _ _ _ _ _ | exact Kd.V_nil _ _ _ _ _ | exact Kd.Q_nil _ _ _ _ _ | exact Kd.S_nil _ _ _ _ _, by repeat (first | (with_reducible first | exact HB.out | apply below_alloc | apply pw_below_drewN | apply below_drew1 | refine below_set ?_ GE196.out | refine below_set ?_ GE206.out) | exact HB.out)⟩
 ·have H1 : (some (0, ([] : List (S51)), some q199)) = some (r1, r2, r3) := by rw [if_neg (show ¬ (some q199).isNone = true by simp)] at H; exact H
  clear H
  have H := H1
  clear H1
  try simp only [errW_none, errW_some]
  simp only [Option.some.injEq, Prod.mk.injEq] at H
  obtain ⟨rfl, rfl, rfl⟩ := H
  go_enter Tryz.func12, Tryz.ntmps12
  go_wp2_with (first | ((with_reducible refine gate_dst (N := 4) rfl ?_); refine box_event ?hg (N := 4) ?hd (cs := #[.int .i64 0, .slice none 0 0]) (t := 26) ?hr ?_; (case hd => rfl); (case hg => rfl); (case hr => first | (go_simp; done) | (go_simp; rfl)); intro gb196 hg w57 hbox hb; have n0_ := Aside0.mk (below_step (by repeat (first | (with_reducible first | exact HB.out | apply below_alloc | apply pw_below_drewN | apply below_drew1) | exact HB.out)) hb); have n1_ := Aside0.mk (hbox); have n2_ := Aside0.mk ((by rw [hg]; exact (below_size (by repeat (first | (with_reducible first | exact HB.out | apply below_alloc | apply pw_below_drewN | apply below_drew1) | exact HB.out))) : w.heap.size ≤ gb196)); have n3_ := Aside0.mk ((by rw [hg]; exact (below_size (by repeat (first | (with_reducible first | exact HB.out | apply below_alloc | apply pw_below_drewN | apply below_drew1) | exact HB.out))) : w.heap.size ≤ gb196)); clear HB; have HB := n0_; have BK196 := n1_; have GW196 := n2_; have GE196 := n3_; clear n0_ n1_ n2_ n3_; clear hb hbox hg) | ((with_reducible refine gate_callee (f := 28) rfl ?_); refine goesL_ (some 14) rfl rfl Tryz.func28 (by kernel_rfl) rfl #[.int .i64 6, .string a0] rfl (by (try simp only [List.map_toArray, List.map_cons, List.map_nil]); first | done | rfl | (simp only [List.length_drop, List.length_take]; rfl) | (simp only [decide_eq_true_eq, decide_eq_false_iff_not, eq_iff_iff, iff_true, iff_false] at *; have w_id : ∀ {n : Int}, -9223372036854775808 ≤ n → n ≤ 9223372036854775807 → wrap64 n = n := fun h0 h1 => (by unfold wrap64; omega); rw [w_id (by omega) (by omega)]; rfl)) ?_; (with_reducible refine (mark_Open.calls k 6 a0 t197 (some q199) _ (Laid.below HL_.out (by repeat (first | (with_reducible first | exact HB.out | apply below_alloc | apply pw_below_drewN | apply below_drew1 | refine below_set ?_ GE196.out) | exact HB.out))) A3.out).mono ?_); rintro e w58 ⟨rfl, hb⟩; refine ⟨_, rfl, ?_⟩; have n0_ := Aside0.mk (blk_below (g := gb196) (o := .cells #[.int .i64 0, .slice none 0 0] 26 (0, 0)) (by (with_reducible repeat (first | refine blk_drewN ?_ _ | refine blk_drew ?_ | refine blk_alloc ?_ _)); exact BK196.out) hb); have n1_ := Aside0.mk (below_step (by repeat (first | (with_reducible first | exact HB.out | apply below_alloc | apply pw_below_drewN | apply below_drew1 | refine below_set ?_ GE196.out) | exact HB.out)) hb); clear BK196; clear HB; have BK196 := n0_; have HB := n1_; clear n0_ n1_; (try clear hb); (try clear hb2); (try clear hk); (try clear hi); (try simp only [errW_none, errW_some]); have hcz59_0 : w58.cell? ⟨gb196, 0, none⟩ = some (.int .i64 0) := (blk_cell BK196.out 0).trans rfl; have hcz59_1 : w58.cell? ⟨gb196, 1, none⟩ = some (.slice none 0 0) := (blk_cell BK196.out 1).trans rfl; have hfz59_0 := blk_frozen BK196.out 0; have hfz59_1 := blk_frozen BK196.out 1))
  refine bodyPost_ret (results_ct rfl _ _ gb196 26 #[.int .i64 0, .slice none 0 0] (0, 0) _ rfl (by (with_reducible repeat (first | refine blk_drewN ?_ _ | refine blk_drew ?_ | refine blk_alloc ?_ _)); refine blk_put (cs := #[.int .i64 0, .slice none 0 0]) ?_ 1 _ rfl; (with_reducible repeat (first | refine blk_drewN ?_ _ | refine blk_drew ?_ | refine blk_alloc ?_ _)); refine blk_put (cs := #[.int .i64 0, .slice none 0 0]) ?_ 0 _ rfl; (with_reducible repeat (first | refine blk_drewN ?_ _ | refine blk_drew ?_ | refine blk_alloc ?_ _)); exact BK196.out) Tryz.underlying26 rfl (by kernel_rfl)) rfl ?_
  exact ⟨_, by first | rfl | (simp [errW_none, errW_some] <;> rfl) | (simp [*, errW_none, errW_some] <;> rfl), by first | exact Kd.R_nil _ _ _ _ _ | exact Kd.N_nil _ _ _ _ _ | exact Kd.V_nil _ _ _ _ _ | exact Kd.Q_nil _ _ _ _ _ | exact Kd.S_nil _ _ _ _ _, by repeat (first | (with_reducible first | exact HB.out | apply below_alloc | apply pw_below_drewN | apply below_drew1 | refine below_set ?_ GE196.out) | exact HB.out)⟩

end Go.Proofs.YtmncfcebjohloaaGreatDoor.VInodeGets
