/- Contracts of functions of this seat: each call comes to what its Lean function computes; no condition beyond what each theorem states. Printed by a program of this session's own laid over the kit's printer. -/
import Derived.Test.YtmncfcebjohloaaGreatDoorVInodePutsx0
import Derived.Test.YtmncfcebjohloaaGreatDoorVInodePutsx7
import Derived.Test.YtmncfcebjohloaaGreatDoorVInodePutsx8
import Derived.Test.YtmncfcebjohloaaGreatDoorVInodePutsx9
import Derived.Test.YtmncfcebjohloaaGreatDoorVInodePutsx16
import Derived.Test.YtmncfcebjohloaaGreatDoorVInodePutsx19
import Derived.Test.YtmncfcebjohloaaGreatDoorVInodePutsx20
import Derived.Test.YtmncfcebjohloaaGreatDoorVInodePutsx22
import Derived.Test.YtmncfcebjohloaaGreatDoorVInodePutsx25
import Derived.Test.YtmncfcebjohloaaGreatDoorVInodePutsx30
import Derived.Test.YtmncfcebjohloaaGreatDoorVInodePutsx32
import Derived.Test.YtmncfcebjohloaaGreatDoorVInodePutsx33
namespace Go.Proofs.YtmncfcebjohloaaGreatDoor.VInodePuts
open Go.RowKit Go.Proofs.YtmncfcebjohloaaGreatDoorW.PrintWords Go.Proofs.YtmncfcebjohloaaGreatDoorW.PrintLast Go.Proofs.YtmncfcebjohloaaGreatDoorW.PrintMore
attribute [local go_sem] max2_int min2_int max_two min_two max_three min_three max_four min_four   -- for this text's walks alone
open Go.Proofs.YtmncfcebjohloaaGreatDoorW.PrintWords.Kd renaming R_alloc → rA
open Go.Proofs.YtmncfcebjohloaaGreatDoorW.PrintWords.Kd renaming R_drewN → rN
open Go.Proofs.YtmncfcebjohloaaGreatDoorW.PrintWords.Kd renaming R_drew → rD
open List renaming setIfInBounds_toArray → lS, set_cons_zero → lZ, set_cons_succ → lC
open Bool renaming true → T, false → F
open Go.Proofs.YtmncfcebjohloaaGreatDoorW.PrintLast renaming goesL_ → gL_
open Go.Proofs.YtmncfcebjohloaaGreatDoorW.PrintWords renaming blk_drewN → bN, blk_drew → bD, blk_alloc → bA, below_set → bS, pw_below_drewN → pN, below_drew1 → pD, below_alloc → pA, below_step → pS, below_size → pZ, blk_frozen → bF, blk_cell → bC, blk_below → bB, blk_far → bR, blk_put → bP, blk_lt → bL, gate_dst → gD, gate_callee → gC, box_event → bE
open Go.Proofs.YtmncfcebjohloaaGreatDoorW.PrintWords.Aside0 renaming mk → A0k
set_option linter.unusedVariables false
set_option linter.unusedSimpArgs false

/-! ### posthorselaw08_InodePuts: function 3 -/
def posthorselaw08_InodePuts.j0 : Nat → Int → ByteArray → Int → Bool → Option (Bool)
 | 0, _, _, _, _ => none
 | k + 1, x2, x9, x12, x52 => if x52 = true then (none) else (if x12 = 0 then ((inode_Get.f k x9 x2).bind fun bt309 => ((posthorseref08_Get.f k x9 x2).bind fun bt315 => ((posthorselaw08_same.f k bt309.1 bt309.2.1 bt315.1 bt315.2.1).bind fun t321 => (if t321 = true then ((posthorselaw08_code.f bt309.2.2).bind fun t322 => (some (t322 == bt315.2.2))) else (none))))) else (some true))
def posthorselaw08_InodePuts.f (k : Nat) (a0 : Int) (l1 : List (S55)) (a2 : Int) : Option (Bool) := (posthorselaw08_speaks.f k).bind fun t291 => (if t291 = true then ((posthorselaw08_both.f k a0 l1).bind fun bt292 => ((inode_Put.f k bt292.1 bt292.2.1).bind fun bt302 => ((posthorseref08_Put.f k bt292.2.2.1 bt292.2.2.2).bind fun bt304 => (if bt302.1.toList = bt304.1.toList then ((posthorselaw08_code.f bt302.2).bind fun t306 => (if t306 = bt304.2 then ((inode_Right.f bt292.1 bt292.2.1 a2).bind fun t307 => ((posthorseref08_Right.f k bt292.2.2.1 bt292.2.2.2 a2).bind fun t308 => (posthorselaw08_InodePuts.j0 k a2 bt302.1 bt304.2 (t307 != t308)))) else (posthorselaw08_InodePuts.j0 k a2 bt302.1 bt304.2 true))) else (posthorselaw08_InodePuts.j0 k a2 bt302.1 bt304.2 true))))) else (none))
set_option maxRecDepth 100000 in
theorem posthorselaw08_InodePuts.mono_l : ∀ k, (∀ y0 y1 y2 y3, LeO (posthorselaw08_InodePuts.j0 k y0 y1 y2 y3) (posthorselaw08_InodePuts.j0 (k + 1) y0 y1 y2 y3))
 | 0 => fun _ _ _ _ r h => by first | (rw [posthorselaw08_InodePuts.j0] at h; cases h) | simp [posthorselaw08_InodePuts.j0] at h
 | k + 1 => by
  have ih0 := posthorselaw08_InodePuts.mono_l k
  ·intro y0 y1 y2 y3
   unfold posthorselaw08_InodePuts.j0
   repeat' first
   | (with_reducible exact ih0 _ _ _ _)
   | (with_reducible exact inode_Get.mono _ _ _)
   | (with_reducible exact inode_Put.mono _ _ _)
   | (with_reducible exact posthorselaw08_both.mono _ _ _)
   | (with_reducible exact posthorselaw08_same.mono _ _ _ _ _)
   | (with_reducible exact posthorselaw08_speaks.mono _)
   | (with_reducible exact posthorseref08_Get.mono _ _ _)
   | (with_reducible exact posthorseref08_Put.mono _ _ _)
   | (with_reducible exact posthorseref08_Right.mono _ _ _ _)
   | (with_reducible exact LeO.refl _)
   | (with_reducible exact LeO.none _)
   | (with_reducible refine LeO.ite ?_ ?_)
   | (with_reducible refine LeO.bind ?_ (fun _ => ?_))
   | exact ih0 _ _ _ _
   | exact inode_Get.mono _ _ _
   | exact inode_Put.mono _ _ _
   | exact posthorselaw08_both.mono _ _ _
   | exact posthorselaw08_same.mono _ _ _ _ _
   | exact posthorselaw08_speaks.mono _
   | exact posthorseref08_Get.mono _ _ _
   | exact posthorseref08_Put.mono _ _ _
   | exact posthorseref08_Right.mono _ _ _ _
   | exact LeO.none _
   | refine LeO.ite ?_ ?_
   | refine LeO.bind ?_ (fun _ => ?_)
theorem posthorselaw08_InodePuts.mono : ∀ a0 a1 a2 k, LeO (posthorselaw08_InodePuts.f k a0 a1 a2) (posthorselaw08_InodePuts.f (k + 1) a0 a1 a2) := by
 intro a0 a1 a2 k
 have ih0 := posthorselaw08_InodePuts.mono_l k
 unfold posthorselaw08_InodePuts.f
 repeat' first
   | (with_reducible exact ih0 _ _ _ _)
   | (with_reducible exact inode_Get.mono _ _ _)
   | (with_reducible exact inode_Put.mono _ _ _)
   | (with_reducible exact posthorselaw08_both.mono _ _ _)
   | (with_reducible exact posthorselaw08_same.mono _ _ _ _ _)
   | (with_reducible exact posthorselaw08_speaks.mono _)
   | (with_reducible exact posthorseref08_Get.mono _ _ _)
   | (with_reducible exact posthorseref08_Put.mono _ _ _)
   | (with_reducible exact posthorseref08_Right.mono _ _ _ _)
   | (with_reducible exact LeO.refl _)
   | (with_reducible exact LeO.none _)
   | (with_reducible refine LeO.ite ?_ ?_)
   | (with_reducible refine LeO.bind ?_ (fun _ => ?_))
   | exact ih0 _ _ _ _
   | exact inode_Get.mono _ _ _
   | exact inode_Put.mono _ _ _
   | exact posthorselaw08_both.mono _ _ _
   | exact posthorselaw08_same.mono _ _ _ _ _
   | exact posthorselaw08_speaks.mono _
   | exact posthorseref08_Get.mono _ _ _
   | exact posthorseref08_Put.mono _ _ _
   | exact posthorseref08_Right.mono _ _ _ _
   | exact LeO.none _
   | refine LeO.ite ?_ ?_
   | refine LeO.bind ?_ (fun _ => ?_)
def posthorselaw08_InodePuts.T6 : Bool × List (List Nat × List Nat) := (true, [([], []), ([], []), ([0, 1], [0, 1]), ([2], [2]), ([3], [3]), ([4, 3, 3], [3, 4]), ([3], [3]), ([5, 6, 3], [3, 5, 6]), ([3, 7], [3, 7]), ([8, 5], [8]), ([9], [9]), ([9], [9]), ([10, 11, 9, 9], [9, 10, 11]), ([9], [9]), ([9], [9]), ([13, 14, 12, 9], [9, 13, 14]), ([12, 15, 9], [9, 12, 15]), ([9, 16], [9, 16])])
def posthorselaw08_InodePuts.B6 : List Nat := [0, 0, 3, 7, 15, 31, 15, 127, 255, 511, 1023, 1023, 4095, 1023, 1023, 32767, 65535, 131071]
theorem posthorselaw08_InodePuts.tab6 : rtab .any (opsOf Tryz.f3 6) = posthorselaw08_InodePuts.T6 := by kernel_rfl
theorem posthorselaw08_InodePuts.bits6 : waitsOk posthorselaw08_InodePuts.T6.2 posthorselaw08_InodePuts.B6 = true := by kernel_rfl
open posthorselaw08_InodePuts renaming j0 → Wj0
set_option maxHeartbeats 8000000 in
set_option maxRecDepth 100000 in
theorem posthorselaw08_InodePuts.calls (k : Nat) (a0 : Int) (A1 : Option Addr) (c1 : Nat) (l1 : List (S55)) (a2 : Int) (r : Bool) (w : World) (hL_ : Laid w) (hr1 : Kd.C k55 w A1 l1.length l1) (hc1 : l1.length ≤ c1) (h : posthorselaw08_InodePuts.f k a0 l1 a2 = some r) :
  Calls Tryz.prog 3 #[.int .i64 a0, .slice A1 l1.length c1, .int .i64 a2] w fun e w' => e = .returned (.bool r) ∧ Below w.heap.size w w' := by
 have HL_ := A0k hL_
 clear hL_
 have hu26 := Tryz.underlying26
 have hu29 := Tryz.underlying29
 have HR1 := A0k hr1
 have HC1 := A0k hc1
 clear hr1 hc1
 have HB := A0k (Below.refl w.heap.size w)
 have H : ((posthorselaw08_speaks.f k).bind fun t291 => (if t291 = true then ((posthorselaw08_both.f k a0 l1).bind fun bt292 => ((inode_Put.f k bt292.1 bt292.2.1).bind fun bt302 => ((posthorseref08_Put.f k bt292.2.2.1 bt292.2.2.2).bind fun bt304 => (if bt302.1.toList = bt304.1.toList then ((posthorselaw08_code.f bt302.2).bind fun t306 => (if t306 = bt304.2 then ((inode_Right.f bt292.1 bt292.2.1 a2).bind fun t307 => ((posthorseref08_Right.f k bt292.2.2.1 bt292.2.2.2 a2).bind fun t308 => (Wj0 k a2 bt302.1 bt304.2 (t307 != t308)))) else (Wj0 k a2 bt302.1 bt304.2 true))) else (Wj0 k a2 bt302.1 bt304.2 true))))) else (none))) = some r := h
 clear h
 replace H := Option.bind_eq_some_iff.mp H
 obtain ⟨t291, A40, H⟩ := H
 replace H : (if t291 = true then ((posthorselaw08_both.f k a0 l1).bind fun bt292 => ((inode_Put.f k bt292.1 bt292.2.1).bind fun bt302 => ((posthorseref08_Put.f k bt292.2.2.1 bt292.2.2.2).bind fun bt304 => (if bt302.1.toList = bt304.1.toList then ((posthorselaw08_code.f bt302.2).bind fun t306 => (if t306 = bt304.2 then ((inode_Right.f bt292.1 bt292.2.1 a2).bind fun t307 => ((posthorseref08_Right.f k bt292.2.2.1 bt292.2.2.2 a2).bind fun t308 => (Wj0 k a2 bt302.1 bt304.2 (t307 != t308)))) else (Wj0 k a2 bt302.1 bt304.2 true))) else (Wj0 k a2 bt302.1 bt304.2 true))))) else (none)) = some r := H
 have A4 := A0k A40
 clear A40
 by_cases c5 : t291 = true
 ·subst c5
  have H1 : ((posthorselaw08_both.f k a0 l1).bind fun bt292 => ((inode_Put.f k bt292.1 bt292.2.1).bind fun bt302 => ((posthorseref08_Put.f k bt292.2.2.1 bt292.2.2.2).bind fun bt304 => (if bt302.1.toList = bt304.1.toList then ((posthorselaw08_code.f bt302.2).bind fun t306 => (if t306 = bt304.2 then ((inode_Right.f bt292.1 bt292.2.1 a2).bind fun t307 => ((posthorseref08_Right.f k bt292.2.2.1 bt292.2.2.2 a2).bind fun t308 => (Wj0 k a2 bt302.1 bt304.2 (t307 != t308)))) else (Wj0 k a2 bt302.1 bt304.2 true))) else (Wj0 k a2 bt302.1 bt304.2 true))))) = some r := by rw [if_pos rfl] at H; exact H
  clear H
  have H := H1
  clear H1
  replace H := Option.bind_eq_some_iff.mp H
  obtain ⟨⟨t292, t293, t296, t297⟩, A60, H⟩ := H
  replace H : ((inode_Put.f k t292 t293).bind fun bt302 => ((posthorseref08_Put.f k t296 t297).bind fun bt304 => (if bt302.1.toList = bt304.1.toList then ((posthorselaw08_code.f bt302.2).bind fun t306 => (if t306 = bt304.2 then ((inode_Right.f t292 t293 a2).bind fun t307 => ((posthorseref08_Right.f k t296 t297 a2).bind fun t308 => (Wj0 k a2 bt302.1 bt304.2 (t307 != t308)))) else (Wj0 k a2 bt302.1 bt304.2 true))) else (Wj0 k a2 bt302.1 bt304.2 true)))) = some r := H
  have A6 := A0k A60
  clear A60
  replace H := Option.bind_eq_some_iff.mp H
  obtain ⟨⟨t302, t303⟩, A70, H⟩ := H
  replace H : ((posthorseref08_Put.f k t296 t297).bind fun bt304 => (if t302.toList = bt304.1.toList then ((posthorselaw08_code.f t303).bind fun t306 => (if t306 = bt304.2 then ((inode_Right.f t292 t293 a2).bind fun t307 => ((posthorseref08_Right.f k t296 t297 a2).bind fun t308 => (Wj0 k a2 t302 bt304.2 (t307 != t308)))) else (Wj0 k a2 t302 bt304.2 true))) else (Wj0 k a2 t302 bt304.2 true))) = some r := H
  have A7 := A0k A70
  clear A70
  replace H := Option.bind_eq_some_iff.mp H
  obtain ⟨⟨t304, t305⟩, A80, H⟩ := H
  replace H : (if t302.toList = t304.toList then ((posthorselaw08_code.f t303).bind fun t306 => (if t306 = t305 then ((inode_Right.f t292 t293 a2).bind fun t307 => ((posthorseref08_Right.f k t296 t297 a2).bind fun t308 => (Wj0 k a2 t302 t305 (t307 != t308)))) else (Wj0 k a2 t302 t305 true))) else (Wj0 k a2 t302 t305 true)) = some r := H
  have A8 := A0k A80
  clear A80
  have HC9 := A0k H
  clear H
  go_enter Tryz.func3, Tryz.ntmps3
  go_upto_region 6 with (first | ((with_reducible refine gC (f := 5) rfl ?_); refine gL_ (some 17) rfl rfl Tryz.func5 (by kernel_rfl) rfl #[] rfl (by (try simp only [List.map_toArray, List.map_cons, List.map_nil]); first | done | rfl | (simp only [List.length_drop, List.length_take]; rfl)) ?_; (with_reducible refine (posthorselaw08_speaks.calls k  true _ A4.out).mono ?_); rintro e w10 ⟨rfl, hb⟩; refine ⟨_, rfl, ?_⟩; have n0_ := A0k (pS (by repeat (first | (with_reducible first | exact HB.out | apply pA | apply pN | apply pD) | exact HB.out)) hb); clear HB; have HB := n0_; clear n0_; (try clear hb); (try clear hb2); (try clear hk); (try clear hi)) | ((with_reducible refine gC (f := 6) rfl ?_); refine gL_ (some 22) rfl rfl Tryz.func6 (by kernel_rfl) rfl #[.int .i64 a0, .slice A1 l1.length c1] rfl (by (try simp only [List.map_toArray, List.map_cons, List.map_nil]); first | done | rfl | (simp only [List.length_drop, List.length_take]; rfl)) ?_; (with_reducible refine (posthorselaw08_both.calls k a0 _ _ l1 t292 t293 t296 t297 _ ?side1 ?side2 A6.out).mono ?_); (case side1 => repeat (first | exact (Kd.C_below HR1.out HB.out) | (with_reducible refine Kd.C_alloc ?_ _) | (with_reducible refine Kd.C_drewN ?_ _) | (with_reducible refine Kd.C_drew ?_))); (case side2 => exact HC1.out); rintro e w11 ⟨v294, v298, rfl, ho0, ho1, hb⟩; refine ⟨_, rfl, ?_⟩; have n0_ := A0k (Kd.R_lower ho0 (pZ (by repeat (first | (with_reducible first | exact HB.out | apply pA | apply pN | apply pD) | exact HB.out)))); have n1_ := A0k (Kd.R_lower ho1 (pZ (by repeat (first | (with_reducible first | exact HB.out | apply pA | apply pN | apply pD) | exact HB.out)))); have n2_ := A0k (pS (by repeat (first | (with_reducible first | exact HB.out | apply pA | apply pN | apply pD) | exact HB.out)) hb); clear HB; have HO295 := n0_; have HO299 := n1_; have HB := n2_; clear n0_ n1_ n2_; (try clear hb); (try clear hb2); (try clear hk); (try clear hi); (try clear ho0); (try clear ho1)) | ((with_reducible refine gD (N := 7) rfl ?_); refine bE ?hg (N := 7) ?hd (cs := #[.int .i64 0, .slice none 0 0]) (t := 26) ?hr ?_; (case hd => rfl); (case hg => rfl); (case hr => first | (go_simp; done) | (go_simp; rfl)); intro gb300 hg w12 hbox hb; have n0_ := A0k (Kd.R_below (by (with_reducible repeat first | apply rA | apply rN | apply rD); exact HO295.out) hb); have n1_ := A0k (Kd.R_below (by (with_reducible repeat first | apply rA | apply rN | apply rD); exact HO299.out) hb); have n2_ := A0k (pS (by repeat (first | (with_reducible first | exact HB.out | apply pA | apply pN | apply pD) | exact HB.out)) hb); have n3_ := A0k (hbox); have n4_ := A0k ((by rw [hg]; exact (pZ (by repeat (first | (with_reducible first | exact HB.out | apply pA | apply pN | apply pD) | exact HB.out))) : w.heap.size ≤ gb300)); have n5_ := A0k ((by rw [hg]; exact (pZ (by repeat (first | (with_reducible first | exact HB.out | apply pA | apply pN | apply pD) | exact HB.out))) : w.heap.size ≤ gb300)); clear HO295 HO299 HB; have HO295 := n0_; have HO299 := n1_; have HB := n2_; have BK300 := n3_; have GW300 := n4_; have GE300 := n5_; clear n0_ n1_ n2_ n3_ n4_ n5_ hb hbox hg) | ((with_reducible refine gD (N := 8) rfl ?_); refine bE ?hg (N := 8) ?hd (cs := #[.int .i64 0, .slice none 0 0]) (t := 29) ?hr ?_; (case hd => rfl); (case hg => rfl); (case hr => first | (go_simp; done) | (go_simp; rfl)); intro gb301 hg w13 hbox hb; have n0_ := A0k (Kd.R_below (by (with_reducible repeat first | apply rA | apply rN | apply rD); exact HO295.out) hb); have n1_ := A0k (Kd.R_below (by (with_reducible repeat first | apply rA | apply rN | apply rD); exact HO299.out) hb); have n2_ := A0k (bB (g := gb300) (o := .cells #[.int .i64 0, .slice none 0 0] 26 (0, 0)) (by (with_reducible repeat first | apply bN | apply bD | apply bA); exact BK300.out) hb); have n3_ := A0k (pS (by repeat (first | (with_reducible first | exact HB.out | apply pA | apply pN | apply pD | refine bS ?_ GE300.out) | exact HB.out)) hb); have n4_ := A0k (hbox); have n5_ := A0k ((by rw [hg]; exact (pZ (by repeat (first | (with_reducible first | exact HB.out | apply pA | apply pN | apply pD | refine bS ?_ GE300.out) | exact HB.out))) : w.heap.size ≤ gb301)); have n6_ := A0k ((by rw [hg]; exact (pZ (by repeat (first | (with_reducible first | exact HB.out | apply pA | apply pN | apply pD | refine bS ?_ GE300.out) | exact HB.out))) : w.heap.size ≤ gb301)); have n7_ := A0k ((by rw [hg]; exact Nat.ne_of_lt (bL (g := gb300) (o := .cells #[.int .i64 0, .slice none 0 0] 26 (0, 0)) (by (with_reducible repeat first | apply bN | apply bD | apply bA); exact BK300.out)) : gb300 ≠ gb301)); have n8_ := A0k ((by rw [hg]; exact Nat.ne_of_gt (bL (g := gb300) (o := .cells #[.int .i64 0, .slice none 0 0] 26 (0, 0)) (by (with_reducible repeat first | apply bN | apply bD | apply bA); exact BK300.out)) : gb301 ≠ gb300)); clear HO295 HO299 BK300 HB; have HO295 := n0_; have HO299 := n1_; have BK300 := n2_; have HB := n3_; have BK301 := n4_; have GW301 := n5_; have GE301 := n6_; have NB300_301 := n7_; have NB301_300 := n8_; clear n0_ n1_ n2_ n3_ n4_ n5_ n6_ n7_ n8_ hb hbox hg; have hnb14 := NB300_301.out; have hnc14 := NB301_300.out; have hcz15_0 : w13.cell? ⟨gb300, 0, none⟩ = some (.int .i64 0) := (bC BK300.out 0).trans rfl; have hcz15_1 : w13.cell? ⟨gb300, 1, none⟩ = some (.slice none 0 0) := (bC BK300.out 1).trans rfl; have hfz15_0 := bF BK300.out 0; have hfz15_1 := bF BK300.out 1; obtain ⟨Ao16, co16, eo16⟩ := Kd.R_slice HO295.out; subst eo16; have hcz17_0 : w13.cell? ⟨gb301, 0, none⟩ = some (.int .i64 0) := (bC BK301.out 0).trans rfl; have hcz17_1 : w13.cell? ⟨gb301, 1, none⟩ = some (.slice none 0 0) := (bC BK301.out 1).trans rfl; have hfz17_0 := bF BK301.out 0; have hfz17_1 := bF BK301.out 1; obtain ⟨Ao18, co18, eo18⟩ := Kd.R_slice HO299.out; subst eo18) | ((with_reducible refine gC (f := 7) rfl ?_); refine gL_ (some 27) rfl rfl Tryz.func7 (by kernel_rfl) rfl #[.agg #[.int .i64 t292, .slice Ao16 t293.length co16]] rfl (by (try simp only [List.map_toArray, List.map_cons, List.map_nil]); first | done | rfl | (simp only [List.length_drop, List.length_take]; rfl)) ?_; (with_reducible refine (inode_Put.calls k t292 _ _ t293 t302 t303 _ (Laid.below HL_.out (by repeat (first | (with_reducible first | exact HB.out | apply pA | apply pN | apply pD | refine bS ?_ GE300.out | refine bS ?_ GE301.out) | exact HB.out))) ?side1 ?side2 A7.out).mono ?_); (case side1 => refine (Kd.R_reads' (e := 51) (base := w.heap.size) (ok := fun k_ => True) (n := t293.length) (c := co16) ?_).2.2; exact (by (with_reducible repeat first | apply rA | apply rN | apply rD); exact (Kd.R_mono (Kd.R_mono (Kd.R_far (p := ⟨gb301, 1, none⟩) (Kd.R_far (p := ⟨gb301, 0, none⟩) (Kd.R_far (p := ⟨gb300, 1, none⟩) (Kd.R_far (p := ⟨gb300, 0, none⟩) (Kd.R_types (Kd.R_types HO295.out BK300.out (by decide)) BK301.out (by decide)) (fun _ hk => hk.1.2) (.int .i64 t292)) (fun _ hk => hk.1.2) (.slice Ao16 t293.length co16)) (fun _ hk => hk.2) (.int .i64 t296)) (fun _ hk => hk.2) (.slice Ao18 t297.length co18)) (fun _ h_ => h_.1)) (fun _ h_ => h_.1)))); (case side2 => exact (Kd.R_reads' HO295.out).2.1); rintro e w19 ⟨rfl, hb⟩; refine ⟨_, rfl, ?_⟩; have n0_ := A0k (Kd.R_below (by (with_reducible repeat first | apply rA | apply rN | apply rD); exact (Kd.R_mono (Kd.R_mono (Kd.R_far (p := ⟨gb301, 1, none⟩) (Kd.R_far (p := ⟨gb301, 0, none⟩) (Kd.R_far (p := ⟨gb300, 1, none⟩) (Kd.R_far (p := ⟨gb300, 0, none⟩) (Kd.R_types (Kd.R_types HO295.out BK300.out (by decide)) BK301.out (by decide)) (fun _ hk => hk.1.2) (.int .i64 t292)) (fun _ hk => hk.1.2) (.slice Ao16 t293.length co16)) (fun _ hk => hk.2) (.int .i64 t296)) (fun _ hk => hk.2) (.slice Ao18 t297.length co18)) (fun _ h_ => h_.1)) (fun _ h_ => h_.1))) hb); have n1_ := A0k (Kd.R_below (by (with_reducible repeat first | apply rA | apply rN | apply rD); exact (Kd.R_mono (Kd.R_mono (Kd.R_far (p := ⟨gb301, 1, none⟩) (Kd.R_far (p := ⟨gb301, 0, none⟩) (Kd.R_far (p := ⟨gb300, 1, none⟩) (Kd.R_far (p := ⟨gb300, 0, none⟩) (Kd.R_types (Kd.R_types HO299.out BK300.out (by decide)) BK301.out (by decide)) (fun _ hk => hk.1.2) (.int .i64 t292)) (fun _ hk => hk.1.2) (.slice Ao16 t293.length co16)) (fun _ hk => hk.2) (.int .i64 t296)) (fun _ hk => hk.2) (.slice Ao18 t297.length co18)) (fun _ h_ => h_.1)) (fun _ h_ => h_.1))) hb); have n2_ := A0k (bB (g := gb300) (o := .cells #[.int .i64 t292, .slice Ao16 t293.length co16] 26 (0, 0)) (by (with_reducible repeat first | apply bN | apply bD | apply bA); refine bR ?_ NB300_301.out _; (with_reducible repeat first | apply bN | apply bD | apply bA); refine bR ?_ NB300_301.out _; (with_reducible repeat first | apply bN | apply bD | apply bA); refine bP (cs := #[.int .i64 t292, .slice none 0 0]) ?_ 1 _ rfl; (with_reducible repeat first | apply bN | apply bD | apply bA); refine bP (cs := #[.int .i64 0, .slice none 0 0]) ?_ 0 _ rfl; (with_reducible repeat first | apply bN | apply bD | apply bA); exact BK300.out) hb); have n3_ := A0k (bB (g := gb301) (o := .cells #[.int .i64 t296, .slice Ao18 t297.length co18] 29 (0, 0)) (by (with_reducible repeat first | apply bN | apply bD | apply bA); refine bP (cs := #[.int .i64 t296, .slice none 0 0]) ?_ 1 _ rfl; (with_reducible repeat first | apply bN | apply bD | apply bA); refine bP (cs := #[.int .i64 0, .slice none 0 0]) ?_ 0 _ rfl; (with_reducible repeat first | apply bN | apply bD | apply bA); refine bR ?_ NB301_300.out _; (with_reducible repeat first | apply bN | apply bD | apply bA); refine bR ?_ NB301_300.out _; (with_reducible repeat first | apply bN | apply bD | apply bA); exact BK301.out) hb); have n4_ := A0k (pS (by repeat (first | (with_reducible first | exact HB.out | apply pA | apply pN | apply pD | refine bS ?_ GE300.out | refine bS ?_ GE301.out) | exact HB.out)) hb); clear HO295 HO299 BK300 BK301 HB; have HO295 := n0_; have HO299 := n1_; have BK300 := n2_; have BK301 := n3_; have HB := n4_; clear n0_ n1_ n2_ n3_ n4_; (try clear hb); (try clear hb2); (try clear hk); (try clear hi); (try simp only [errW_none, errW_some]); have hcz20_0 : w19.cell? ⟨gb301, 0, none⟩ = some (.int .i64 t296) := (bC BK301.out 0).trans rfl; have hcz20_1 : w19.cell? ⟨gb301, 1, none⟩ = some (.slice Ao18 t297.length co18) := (bC BK301.out 1).trans rfl; have hfz20_0 := bF BK301.out 0; have hfz20_1 := bF BK301.out 1) | ((with_reducible refine gC (f := 8) rfl ?_); refine gL_ (some 32) rfl rfl Tryz.func8 (by kernel_rfl) rfl #[.agg #[.int .i64 t296, .slice Ao18 t297.length co18]] rfl (by (try simp only [List.map_toArray, List.map_cons, List.map_nil]); first | done | rfl | (simp only [List.length_drop, List.length_take]; rfl)) ?_; (with_reducible refine (posthorseref08_Put.calls k t296 _ _ t297 t304 t305 _ ?side1 ?side2 A8.out).mono ?_); (case side1 => repeat (first | exact (Kd.R_reads' HO299.out).2.2 | (with_reducible refine Kd.C_alloc ?_ _) | (with_reducible refine Kd.C_drewN ?_ _) | (with_reducible refine Kd.C_drew ?_))); (case side2 => exact (Kd.R_reads' HO299.out).2.1); rintro e w21 ⟨rfl, hb⟩; refine ⟨_, rfl, ?_⟩; have n0_ := A0k (Kd.R_below (by (with_reducible repeat first | apply rA | apply rN | apply rD); exact HO295.out) hb); have n1_ := A0k (Kd.R_below (by (with_reducible repeat first | apply rA | apply rN | apply rD); exact HO299.out) hb); have n2_ := A0k (bB (g := gb300) (o := .cells #[.int .i64 t292, .slice Ao16 t293.length co16] 26 (0, 0)) (by (with_reducible repeat first | apply bN | apply bD | apply bA); exact BK300.out) hb); have n3_ := A0k (bB (g := gb301) (o := .cells #[.int .i64 t296, .slice Ao18 t297.length co18] 29 (0, 0)) (by (with_reducible repeat first | apply bN | apply bD | apply bA); exact BK301.out) hb); have n4_ := A0k (pS (by repeat (first | (with_reducible first | exact HB.out | apply pA | apply pN | apply pD | refine bS ?_ GE300.out | refine bS ?_ GE301.out) | exact HB.out)) hb); clear HO295 HO299 BK300 BK301 HB; have HO295 := n0_; have HO299 := n1_; have BK300 := n2_; have BK301 := n3_; have HB := n4_; clear n0_ n1_ n2_ n3_ n4_; (try clear hb); (try clear hb2); (try clear hk); (try clear hi)))
  (try simp only [Act.put, lS, lZ, lC])
  go_cut [52] (fun v52 wc => ∃ (kq : Nat) (x52_8 : Bool), v52 = .bool x52_8 ∧ Aside0 (Wj0 kq a2 t302 t305 x52_8 = some r) ∧ Aside0 (kq ≤ k) ∧ Aside0 (Kd.R k51 51 wc w.heap.size (fun _ => True) (.slice Ao16 t293.length co16) t293) ∧ Aside0 (Kd.R k56 56 wc w.heap.size (fun _ => True) (.slice Ao18 t297.length co18) t297) ∧ Aside0 (wc.heap[gb300]? = some (.cells #[.int .i64 t292, (.slice Ao16 t293.length co16)] 26 (0, 0))) ∧ Aside0 (wc.heap[gb301]? = some (.cells #[.int .i64 t296, (.slice Ao18 t297.length co18)] 29 (0, 0))) ∧ Aside0 (Below w.heap.size w wc))
  case first =>
   have H := HC9.out
   clear HC9
   by_cases c22 : t302.toList = t304.toList
   ·rw [if_pos c22] at H
    have c22b0 : (t302.toList == t304.toList) = true := beq_iff_eq.mpr c22
    have c22b1 : (t302.toList != t304.toList) = false := bne_eq_false_iff_eq.mpr c22
    clear c22
    (first | rw [c22b0] | (simp only [i64_w, i32_w]; rw [c22b0]) | skip)
    replace H := Option.bind_eq_some_iff.mp H
    obtain ⟨t306, A230, H⟩ := H
    replace H : (if t306 = t305 then ((inode_Right.f t292 t293 a2).bind fun t307 => ((posthorseref08_Right.f k t296 t297 a2).bind fun t308 => (Wj0 k a2 t302 t305 (t307 != t308)))) else (Wj0 k a2 t302 t305 true)) = some r := H
    have A23 := A0k A230
    clear A230
    by_cases c24 : t306 = t305
    ·rw [if_pos c24] at H
     have c24b0 : (t306 == t305) = true := beq_iff_eq.mpr c24
     have c24b1 : (t306 != t305) = false := bne_eq_false_iff_eq.mpr c24
     clear c24
     replace H := Option.bind_eq_some_iff.mp H
     obtain ⟨t307, A250, H⟩ := H
     replace H : ((posthorseref08_Right.f k t296 t297 a2).bind fun t308 => (Wj0 k a2 t302 t305 (t307 != t308))) = some r := H
     have A25 := A0k A250
     clear A250
     replace H := Option.bind_eq_some_iff.mp H
     obtain ⟨t308, A260, H⟩ := H
     replace H : (Wj0 k a2 t302 t305 (t307 != t308)) = some r := H
     have A26 := A0k A260
     clear A260
     have H' := A0k H
     clear H
     try go_wp2
     have n0_ := A0k (Kd.R_drew HO295.out)
     have n1_ := A0k (Kd.R_drew HO299.out)
     have n2_ := A0k (bD BK300.out)
     have n3_ := A0k (bD BK301.out)
     have n4_ := A0k (pD HB.out)
     clear HO295
     clear HO299
     clear BK300
     clear BK301
     clear HB
     have HO295 := n0_
     have HO299 := n1_
     have BK300 := n2_
     have BK301 := n3_
     have HB := n4_
     clear n0_ n1_ n2_ n3_ n4_
     have CA23 := fun W hL_ => posthorselaw08_code.calls t303 t306 W hL_ A23.out
     try simp only [errW_none, errW_some] at CA23
     refine start_ (n := 18) (S := fun w' => w'.cell? ⟨gb300, 0, none⟩ = some (.int .i64 t292) ∧ w'.cell? ⟨gb300, 1, none⟩ = some (.slice Ao16 t293.length co16) ∧ w'.cell? ⟨gb301, 0, none⟩ = some (.int .i64 t296) ∧ w'.cell? ⟨gb301, 1, none⟩ = some (.slice Ao18 t297.length co18)) (ds := []) #[F, F, F, F, F, F, F, F, F, F, F, F, F, F, F, F, F, F] (by kernel_rfl) rfl rfl ⟨(bC BK300.out 0).trans rfl, (bC BK300.out 1).trans rfl, (bC BK301.out 0).trans rfl, (bC BK301.out 1).trans rfl⟩ (fun hHeld => ?_); refine with_tabW posthorselaw08_InodePuts.tab6 posthorselaw08_InodePuts.bits6 (fun HT_ HW_ => ?_)
     generalize w21.drew = w27 at HO295 HO299 BK300 BK301 HB hHeld ⊢
     refine pure_ (i := 0) (N := some 35) (v := ?_) (a' := ?_) #[T, F, F, F, F, F, F, F, F, F, F, F, F, F, F, F, F, F] rfl rfl (any_of HT_.out (by kernel_rfl)) (fun _ _ _ h => h) (Or.inl ⟨by rfl, ?_⟩) ?_ ?_
     rotate_left
     ·intro w'
      go_simp
      with_reducible rfl
     rotate_left
     ·simp only [Act.put, lS, lZ, lC, i64_w, i32_w]
      rfl
     refine pure_ (i := 1) (N := some 36) (v := ?_) (a' := ?_) #[T, T, F, F, F, F, F, F, F, F, F, F, F, F, F, F, F, F] rfl rfl (any_of HT_.out (by kernel_rfl)) (fun _ _ _ h => h) (Or.inl ⟨by rfl, ?_⟩) ?_ ?_
     rotate_left
     ·intro w'
      go_simp
      with_reducible rfl
     rotate_left
     ·simp only [Act.put, lS, lZ, lC, i64_w, i32_w]
      rfl
     refine pure_ (i := 2) (N := some 37) (v := ?_) (a' := ?_) #[T, T, T, F, F, F, F, F, F, F, F, F, F, F, F, F, F, F] rfl rfl (any_of HT_.out (by kernel_rfl)) (fun _ _ _ h => h) (Or.inl ⟨by rfl, ?_⟩) ?_ ?_
     rotate_left
     ·intro w'
      go_simp
      with_reducible rfl
     rotate_left
     ·simp only [Act.put, lS, lZ, lC, i64_w, i32_w]
      rfl
     refine pure_ (i := 3) (N := some 38) (v := ?_) (a' := ?_) #[T, T, T, T, F, F, F, F, F, F, F, F, F, F, F, F, F, F] rfl rfl (any_of HT_.out (by kernel_rfl)) (fun _ _ _ h => h) (Or.inl ⟨by rfl, ?_⟩) ?_ ?_
     rotate_left
     ·intro w'
      go_simp
      with_reducible rfl
     rotate_left
     ·simp only [Act.put, lS, lZ, lC, i64_w, i32_w]
      rfl
     refine pure_ (i := 4) (N := some 39) (v := ?_) (a' := ?_) #[T, T, T, T, T, F, F, F, F, F, F, F, F, F, F, F, F, F] rfl rfl (any_of HT_.out (by kernel_rfl)) (fun _ _ _ h => h) (Or.inl ⟨by rfl, ?_⟩) ?_ ?_
     rotate_left
     ·intro w'
      go_simp
      with_reducible rfl
     rotate_left
     ·simp only [Act.put, lS, lZ, lC, i64_w, i32_w]
      rfl
     refine pure_ (i := 6) (N := some 41) (v := ?_) (a' := ?_) #[T, T, T, T, T, F, T, F, F, F, F, F, F, F, F, F, F, F] rfl rfl (any_of HT_.out (by kernel_rfl)) (fun _ _ _ h => h) (Or.inl ⟨by rfl, ?_⟩) ?_ ?_
     rotate_left
     ·intro w'
      go_simp
      with_reducible rfl
     rotate_left
     ·simp only [Act.put, lS, lZ, lC, i64_w, i32_w]
      rfl
     refine one_ (i := 5) (N := some 40) #[T, T, T, T, T, T, T, F, F, F, F, F, F, F, F, F, F, F] rfl rfl (one_of HT_.out (by kernel_rfl)) (by decide) (fun K hK => ?_)
     refine goes_ Tryz.func9 (by kernel_rfl) rfl #[errW t303] (by rfl) rfl rfl (by (try simp only [List.map_toArray, List.map_cons, List.map_nil]); first | done | rfl | (simp only [List.length_drop, List.length_take]; rfl)) ?_
     with_reducible refine (CA23 _ (Laid.below HL_.out (by repeat (first | (with_reducible first | exact HB.out | apply pA | apply pN | apply pD | refine bS ?_ GE300.out | refine bS ?_ GE301.out) | exact HB.out)))).mono ?_
     rintro e w28 ⟨rfl, hb⟩
     refine ⟨_, rfl, ?_⟩
     have n0_ := A0k (Kd.R_below (by (with_reducible repeat first | apply rA | apply rN | apply rD); exact HO295.out) hb)
     have n1_ := A0k (Kd.R_below (by (with_reducible repeat first | apply rA | apply rN | apply rD); exact HO299.out) hb)
     have n2_ := A0k (bB (g := gb300) (o := .cells #[.int .i64 t292, .slice Ao16 t293.length co16] 26 (0, 0)) (by (with_reducible repeat first | apply bN | apply bD | apply bA); exact BK300.out) hb)
     have n3_ := A0k (bB (g := gb301) (o := .cells #[.int .i64 t296, .slice Ao18 t297.length co18] 29 (0, 0)) (by (with_reducible repeat first | apply bN | apply bD | apply bA); exact BK301.out) hb)
     have n4_ := A0k (pS (by repeat (first | (with_reducible first | exact HB.out | apply pA | apply pN | apply pD | refine bS ?_ GE300.out | refine bS ?_ GE301.out) | exact HB.out)) hb)
     clear HO295
     clear HO299
     clear BK300
     clear BK301
     clear HB
     have HO295 := n0_
     have HO299 := n1_
     have BK300 := n2_
     have BK301 := n3_
     have HB := n4_
     clear n0_ n1_ n2_ n3_ n4_
     (try clear hb)
     (try clear hb2)
     (try clear hk)
     (try clear hi)
     refine hK.out _ _ ⟨(bC BK300.out 0).trans rfl, (bC BK300.out 1).trans rfl, (bC BK301.out 0).trans rfl, (bC BK301.out 1).trans rfl⟩ (fun hHeld => ?_)
     clear hK K
     refine norm_ (a' := ?_) ?_ ?_
     rotate_left
     ·show Act.put _ (some 40) _ = _
      simp only [Act.put, lS, lZ, lC, i64_w, i32_w]
      rfl
     refine pure_ (i := 7) (N := some 42) (v := ?_) (a' := ?_) #[T, T, T, T, T, T, T, T, F, F, F, F, F, F, F, F, F, F] rfl rfl (any_of HT_.out (by kernel_rfl)) (fun _ _ _ h => h) (Or.inl ⟨by rfl, ?_⟩) ?_ ?_
     rotate_left
     ·intro w'
      go_simp
      with_reducible rfl
     rotate_left
     ·simp only [Act.put, lS, lZ, lC, i64_w, i32_w]
      rfl
     refine pure_ (i := 8) (N := some 43) (v := ?_) (a' := ?_) #[T, T, T, T, T, T, T, T, T, F, F, F, F, F, F, F, F, F] rfl rfl (any_of HT_.out (by kernel_rfl)) (fun _ _ _ h => h) (Or.inl ⟨by rfl, ?_⟩) ?_ ?_
     rotate_left
     ·intro w'
      go_simp
      with_reducible rfl
     rotate_left
     ·simp only [Act.put, lS, lZ, lC, i64_w, i32_w]
      rfl
     refine pure_ (i := 9) (N := some 44) (v := ?_) (a' := ?_) #[T, T, T, T, T, T, T, T, T, T, F, F, F, F, F, F, F, F] rfl rfl (any_of HT_.out (by kernel_rfl)) (fun _ _ _ h => h) (Or.inl ⟨by rfl, ?_⟩) ?_ ?_
     rotate_left
     ·intro w'
      go_simp
      with_reducible rfl
     rotate_left
     ·simp only [Act.put, lS, lZ, lC, i64_w, i32_w]
      rfl
     refine pure_ (i := 11) (N := some 46) (v := ?_) (a' := ?_) #[T, T, T, T, T, T, T, T, T, T, F, T, F, F, F, F, F, F] rfl rfl (any_of HT_.out (by kernel_rfl)) (fun _ _ _ h => h) (Or.inl ⟨by rfl, ?_⟩) ?_ ?_
     rotate_left
     ·intro w'
      go_simp
      with_reducible rfl
     rotate_left
     ·simp only [Act.put, lS, lZ, lC, i64_w, i32_w]
      rfl
     refine pure_ (i := 14) (N := some 49) (v := ?_) (a' := ?_) #[T, T, T, T, T, T, T, T, T, T, F, T, F, F, T, F, F, F] rfl rfl (any_of HT_.out (by kernel_rfl)) (fun _ _ _ h => h) (Or.inl ⟨by rfl, ?_⟩) ?_ ?_
     rotate_left
     ·intro w'
      go_simp
      with_reducible rfl
     rotate_left
     ·simp only [Act.put, lS, lZ, lC, i64_w, i32_w]
      rfl
     refine take_ (i := 10) (N := some 45) (v := ?_) (a' := ?_) #[T, T, T, T, T, T, T, T, T, T, T, T, F, F, T, F, F, F] rfl rfl (take_ofW HT_.out HW_.out (by kernel_rfl)) (fun _ _ _ h => h) (Or.inl ⟨by rfl, ?_⟩) hHeld ?_ ?_
     rotate_left; (· rintro w' ⟨s0, s1, s2, s3⟩; go_simp; with_reducible rfl); rotate_left; (· simp only [Act.put, lS, lZ, lC, i64_w, i32_w]; rfl)
     refine take_ (i := 13) (N := some 48) (v := ?_) (a' := ?_) #[T, T, T, T, T, T, T, T, T, T, T, T, F, T, T, F, F, F] rfl rfl (take_ofW HT_.out HW_.out (by kernel_rfl)) (fun _ _ _ h => h) (Or.inl ⟨by rfl, ?_⟩) hHeld ?_ ?_
     rotate_left; (· rintro w' ⟨s0, s1, s2, s3⟩; go_simp; with_reducible rfl); rotate_left; (· simp only [Act.put, lS, lZ, lC, i64_w, i32_w]; rfl)
     refine one_ (i := 12) (N := some 47) #[T, T, T, T, T, T, T, T, T, T, T, T, T, T, T, F, F, F] rfl rfl (one_of HT_.out (by kernel_rfl)) (by decide) (fun K hK => ?_)
     refine goes_ Tryz.func10 (by kernel_rfl) rfl #[.agg #[.int .i64 t292, .slice Ao16 t293.length co16], .int .i64 a2] (by rfl) rfl rfl (by (try simp only [List.map_toArray, List.map_cons, List.map_nil]); first | done | rfl | (simp only [List.length_drop, List.length_take]; rfl)) ?_
     with_reducible refine (inode_Right.calls t292 _ _ t293 a2 t307 _ ?side1 ?side2 A25.out).mono ?_
     (case side1 => repeat (first | exact (Kd.R_reads' HO295.out).2.2 | (with_reducible refine Kd.C_alloc ?_ _) | (with_reducible refine Kd.C_drewN ?_ _) | (with_reducible refine Kd.C_drew ?_)))
     (case side2 => exact (Kd.R_reads' HO295.out).2.1)
     rintro e w29 ⟨rfl, hb⟩
     refine ⟨_, rfl, ?_⟩
     have n0_ := A0k (Kd.R_below (by (with_reducible repeat first | apply rA | apply rN | apply rD); exact HO295.out) hb)
     have n1_ := A0k (Kd.R_below (by (with_reducible repeat first | apply rA | apply rN | apply rD); exact HO299.out) hb)
     have n2_ := A0k (bB (g := gb300) (o := .cells #[.int .i64 t292, .slice Ao16 t293.length co16] 26 (0, 0)) (by (with_reducible repeat first | apply bN | apply bD | apply bA); exact BK300.out) hb)
     have n3_ := A0k (bB (g := gb301) (o := .cells #[.int .i64 t296, .slice Ao18 t297.length co18] 29 (0, 0)) (by (with_reducible repeat first | apply bN | apply bD | apply bA); exact BK301.out) hb)
     have n4_ := A0k (pS (by repeat (first | (with_reducible first | exact HB.out | apply pA | apply pN | apply pD | refine bS ?_ GE300.out | refine bS ?_ GE301.out) | exact HB.out)) hb)
     clear HO295
     clear HO299
     clear BK300
     clear BK301
     clear HB
     have HO295 := n0_
     have HO299 := n1_
     have BK300 := n2_
     have BK301 := n3_
     have HB := n4_
     clear n0_ n1_ n2_ n3_ n4_
     (try clear hb)
     (try clear hb2)
     (try clear hk)
     (try clear hi)
     refine hK.out _ _ ⟨(bC BK300.out 0).trans rfl, (bC BK300.out 1).trans rfl, (bC BK301.out 0).trans rfl, (bC BK301.out 1).trans rfl⟩ (fun hHeld => ?_)
     clear hK K
     refine norm_ (a' := ?_) ?_ ?_
     rotate_left
     ·show Act.put _ (some 47) _ = _
      simp only [Act.put, lS, lZ, lC, i64_w, i32_w]
      rfl
     refine one_ (i := 15) (N := some 50) #[T, T, T, T, T, T, T, T, T, T, T, T, T, T, T, T, F, F] rfl rfl (one_of HT_.out (by kernel_rfl)) (by decide) (fun K hK => ?_)
     refine goes_ Tryz.func11 (by kernel_rfl) rfl #[.agg #[.int .i64 t296, .slice Ao18 t297.length co18], .int .i64 a2] (by rfl) rfl rfl (by (try simp only [List.map_toArray, List.map_cons, List.map_nil]); first | done | rfl | (simp only [List.length_drop, List.length_take]; rfl)) ?_
     with_reducible refine (posthorseref08_Right.calls k t296 _ _ t297 a2 t308 _ ?side1 ?side2 A26.out).mono ?_
     (case side1 => repeat (first | exact (Kd.R_reads' HO299.out).2.2 | (with_reducible refine Kd.C_alloc ?_ _) | (with_reducible refine Kd.C_drewN ?_ _) | (with_reducible refine Kd.C_drew ?_)))
     (case side2 => exact (Kd.R_reads' HO299.out).2.1)
     rintro e w30 ⟨rfl, hb⟩
     refine ⟨_, rfl, ?_⟩
     have n0_ := A0k (Kd.R_below (by (with_reducible repeat first | apply rA | apply rN | apply rD); exact HO295.out) hb)
     have n1_ := A0k (Kd.R_below (by (with_reducible repeat first | apply rA | apply rN | apply rD); exact HO299.out) hb)
     have n2_ := A0k (bB (g := gb300) (o := .cells #[.int .i64 t292, .slice Ao16 t293.length co16] 26 (0, 0)) (by (with_reducible repeat first | apply bN | apply bD | apply bA); exact BK300.out) hb)
     have n3_ := A0k (bB (g := gb301) (o := .cells #[.int .i64 t296, .slice Ao18 t297.length co18] 29 (0, 0)) (by (with_reducible repeat first | apply bN | apply bD | apply bA); exact BK301.out) hb)
     have n4_ := A0k (pS (by repeat (first | (with_reducible first | exact HB.out | apply pA | apply pN | apply pD | refine bS ?_ GE300.out | refine bS ?_ GE301.out) | exact HB.out)) hb)
     clear HO295
     clear HO299
     clear BK300
     clear BK301
     clear HB
     have HO295 := n0_
     have HO299 := n1_
     have BK300 := n2_
     have BK301 := n3_
     have HB := n4_
     clear n0_ n1_ n2_ n3_ n4_
     (try clear hb)
     (try clear hb2)
     (try clear hk)
     (try clear hi)
     refine hK.out _ _ ⟨(bC BK300.out 0).trans rfl, (bC BK300.out 1).trans rfl, (bC BK301.out 0).trans rfl, (bC BK301.out 1).trans rfl⟩ (fun hHeld => ?_)
     clear hK K
     refine norm_ (a' := ?_) ?_ ?_
     rotate_left
     ·show Act.put _ (some 50) _ = _
      simp only [Act.put, lS, lZ, lC, i64_w, i32_w]
      rfl
     refine pure_ (i := 16) (N := some 51) (v := ?_) (a' := ?_) #[T, T, T, T, T, T, T, T, T, T, T, T, T, T, T, T, T, F] rfl rfl (any_of HT_.out (by kernel_rfl)) (fun _ _ _ h => h) (Or.inl ⟨by rfl, ?_⟩) ?_ ?_
     rotate_left
     ·intro w'
      go_simp
      with_reducible rfl
     rotate_left
     ·simp only [Act.put, lS, lZ, lC, i64_w, i32_w]
      rfl
     refine pure_ (i := 17) (N := some 52) (v := ?_) (a' := ?_) #[T, T, T, T, T, T, T, T, T, T, T, T, T, T, T, T, T, T] rfl rfl (any_of HT_.out (by kernel_rfl)) (fun _ _ _ h => h) (Or.inl ⟨by rfl, ?_⟩) ?_ ?_
     rotate_left
     ·intro w'
      go_simp
      with_reducible rfl
     rotate_left
     ·simp only [Act.put, lS, lZ, lC, i64_w, i32_w]
      rfl
     refine done_ (done_of HT_.out (by kernel_rfl)) ?_
     try go_wp2
     go_meet
     case rel => exact ⟨_, ((t307 != t308)), (by first | rfl | (simp; done) | (simp [*]; done)), H', ⟨by first | omega | exact Nat.le_refl _⟩, ⟨by (with_reducible repeat first | apply rA | apply rN | apply rD); exact HO295.out⟩, ⟨by (with_reducible repeat first | apply rA | apply rN | apply rD); exact HO299.out⟩, ⟨by (with_reducible repeat first | apply bN | apply bD | apply bA); exact BK300.out⟩, ⟨by (with_reducible repeat first | apply bN | apply bD | apply bA); exact BK301.out⟩, ⟨by repeat (first | (with_reducible first | exact HB.out | apply pA | apply pN | apply pD | refine bS ?_ GE300.out | refine bS ?_ GE301.out) | exact HB.out)⟩⟩
    ·rw [if_neg c24] at H
     have c24b0 : (t306 == t305) = false := beq_eq_false_iff_ne.mpr c24
     have c24b1 : (t306 != t305) = true := bne_iff_ne.mpr c24
     have H' := A0k H
     clear H
     try go_wp2
     have n0_ := A0k (Kd.R_drew HO295.out)
     have n1_ := A0k (Kd.R_drew HO299.out)
     have n2_ := A0k (bD BK300.out)
     have n3_ := A0k (bD BK301.out)
     have n4_ := A0k (pD HB.out)
     clear HO295
     clear HO299
     clear BK300
     clear BK301
     clear HB
     have HO295 := n0_
     have HO299 := n1_
     have BK300 := n2_
     have BK301 := n3_
     have HB := n4_
     clear n0_ n1_ n2_ n3_ n4_
     have CA23 := fun W hL_ => posthorselaw08_code.calls t303 t306 W hL_ A23.out
     try simp only [errW_none, errW_some] at CA23
     refine start_ (n := 18) (S := fun w' => True) (ds := []) #[F, F, F, F, F, F, F, F, F, F, F, F, F, F, F, F, F, F] (by kernel_rfl) rfl rfl trivial (fun hHeld => ?_); refine with_tabW posthorselaw08_InodePuts.tab6 posthorselaw08_InodePuts.bits6 (fun HT_ HW_ => ?_)
     generalize w21.drew = w31 at HO295 HO299 BK300 BK301 HB hHeld ⊢
     refine pure_ (i := 0) (N := some 35) (v := ?_) (a' := ?_) #[T, F, F, F, F, F, F, F, F, F, F, F, F, F, F, F, F, F] rfl rfl (any_of HT_.out (by kernel_rfl)) (fun _ _ _ h => h) (Or.inl ⟨by rfl, ?_⟩) ?_ ?_
     rotate_left
     ·intro w'
      go_simp
      with_reducible rfl
     rotate_left
     ·simp only [Act.put, lS, lZ, lC, i64_w, i32_w]
      rfl
     refine pure_ (i := 1) (N := some 36) (v := ?_) (a' := ?_) #[T, T, F, F, F, F, F, F, F, F, F, F, F, F, F, F, F, F] rfl rfl (any_of HT_.out (by kernel_rfl)) (fun _ _ _ h => h) (Or.inl ⟨by rfl, ?_⟩) ?_ ?_
     rotate_left
     ·intro w'
      go_simp
      with_reducible rfl
     rotate_left
     ·simp only [Act.put, lS, lZ, lC, i64_w, i32_w]
      rfl
     refine pure_ (i := 2) (N := some 37) (v := ?_) (a' := ?_) #[T, T, T, F, F, F, F, F, F, F, F, F, F, F, F, F, F, F] rfl rfl (any_of HT_.out (by kernel_rfl)) (fun _ _ _ h => h) (Or.inl ⟨by rfl, ?_⟩) ?_ ?_
     rotate_left
     ·intro w'
      go_simp
      with_reducible rfl
     rotate_left
     ·simp only [Act.put, lS, lZ, lC, i64_w, i32_w]
      rfl
     refine pure_ (i := 3) (N := some 38) (v := ?_) (a' := ?_) #[T, T, T, T, F, F, F, F, F, F, F, F, F, F, F, F, F, F] rfl rfl (any_of HT_.out (by kernel_rfl)) (fun _ _ _ h => h) (Or.inl ⟨by rfl, ?_⟩) ?_ ?_
     rotate_left
     ·intro w'
      go_simp
      with_reducible rfl
     rotate_left
     ·simp only [Act.put, lS, lZ, lC, i64_w, i32_w]
      rfl
     refine pure_ (i := 4) (N := some 39) (v := ?_) (a' := ?_) #[T, T, T, T, T, F, F, F, F, F, F, F, F, F, F, F, F, F] rfl rfl (any_of HT_.out (by kernel_rfl)) (fun _ _ _ h => h) (Or.inl ⟨by rfl, ?_⟩) ?_ ?_
     rotate_left
     ·intro w'
      go_simp
      with_reducible rfl
     rotate_left
     ·simp only [Act.put, lS, lZ, lC, i64_w, i32_w]
      rfl
     refine pure_ (i := 6) (N := some 41) (v := ?_) (a' := ?_) #[T, T, T, T, T, F, T, F, F, F, F, F, F, F, F, F, F, F] rfl rfl (any_of HT_.out (by kernel_rfl)) (fun _ _ _ h => h) (Or.inl ⟨by rfl, ?_⟩) ?_ ?_
     rotate_left
     ·intro w'
      go_simp
      with_reducible rfl
     rotate_left
     ·simp only [Act.put, lS, lZ, lC, i64_w, i32_w]
      rfl
     refine one_ (i := 5) (N := some 40) #[T, T, T, T, T, T, T, F, F, F, F, F, F, F, F, F, F, F] rfl rfl (one_of HT_.out (by kernel_rfl)) (by decide) (fun K hK => ?_)
     refine goes_ Tryz.func9 (by kernel_rfl) rfl #[errW t303] (by rfl) rfl rfl (by (try simp only [List.map_toArray, List.map_cons, List.map_nil]); first | done | rfl | (simp only [List.length_drop, List.length_take]; rfl)) ?_
     with_reducible refine (CA23 _ (Laid.below HL_.out (by repeat (first | (with_reducible first | exact HB.out | apply pA | apply pN | apply pD | refine bS ?_ GE300.out | refine bS ?_ GE301.out) | exact HB.out)))).mono ?_
     rintro e w32 ⟨rfl, hb⟩
     refine ⟨_, rfl, ?_⟩
     have n0_ := A0k (Kd.R_below (by (with_reducible repeat first | apply rA | apply rN | apply rD); exact HO295.out) hb)
     have n1_ := A0k (Kd.R_below (by (with_reducible repeat first | apply rA | apply rN | apply rD); exact HO299.out) hb)
     have n2_ := A0k (bB (g := gb300) (o := .cells #[.int .i64 t292, .slice Ao16 t293.length co16] 26 (0, 0)) (by (with_reducible repeat first | apply bN | apply bD | apply bA); exact BK300.out) hb)
     have n3_ := A0k (bB (g := gb301) (o := .cells #[.int .i64 t296, .slice Ao18 t297.length co18] 29 (0, 0)) (by (with_reducible repeat first | apply bN | apply bD | apply bA); exact BK301.out) hb)
     have n4_ := A0k (pS (by repeat (first | (with_reducible first | exact HB.out | apply pA | apply pN | apply pD | refine bS ?_ GE300.out | refine bS ?_ GE301.out) | exact HB.out)) hb)
     clear HO295
     clear HO299
     clear BK300
     clear BK301
     clear HB
     have HO295 := n0_
     have HO299 := n1_
     have BK300 := n2_
     have BK301 := n3_
     have HB := n4_
     clear n0_ n1_ n2_ n3_ n4_
     (try clear hb)
     (try clear hb2)
     (try clear hk)
     (try clear hi)
     refine hK.out _ _ trivial (fun hHeld => ?_)
     clear hK K
     refine norm_ (a' := ?_) ?_ ?_
     rotate_left
     ·show Act.put _ (some 40) _ = _
      simp only [Act.put, lS, lZ, lC, i64_w, i32_w]
      rfl
     refine pure_ (i := 7) (N := some 42) (v := ?_) (a' := ?_) #[T, T, T, T, T, T, T, T, F, F, F, F, F, F, F, F, F, F] rfl rfl (any_of HT_.out (by kernel_rfl)) (fun _ _ _ h => h) (Or.inl ⟨by rfl, ?_⟩) ?_ ?_
     rotate_left
     ·intro w'
      go_simp
      with_reducible rfl
     rotate_left
     ·simp only [Act.put, lS, lZ, lC, i64_w, i32_w]
      rfl
     refine pure_ (i := 8) (N := some 43) (v := ?_) (a' := ?_) #[T, T, T, T, T, T, T, T, T, F, F, F, F, F, F, F, F, F] rfl rfl (any_of HT_.out (by kernel_rfl)) (fun _ _ _ h => h) (Or.inl ⟨by rfl, ?_⟩) ?_ ?_
     rotate_left
     ·intro w'
      go_simp
      with_reducible rfl
     rotate_left
     ·simp only [Act.put, lS, lZ, lC, i64_w, i32_w]
      rfl
     refine pure_ (i := 9) (N := some 44) (v := ?_) (a' := ?_) #[T, T, T, T, T, T, T, T, T, T, F, F, F, F, F, F, F, F] rfl rfl (any_of HT_.out (by kernel_rfl)) (fun _ _ _ h => h) (Or.inl ⟨by rfl, ?_⟩) ?_ ?_
     rotate_left
     ·intro w'
      go_simp
      with_reducible rfl
     rotate_left
     ·simp only [Act.put, lS, lZ, lC, i64_w, i32_w]
      rfl
     refine pure_ (i := 10) (N := some 45) (v := undef) (a' := ?_) #[T, T, T, T, T, T, T, T, T, T, T, F, F, F, F, F, F, F] rfl rfl (any_of HT_.out (by kernel_rfl)) (fun _ _ _ h => h) (Or.inr ⟨by rfl, rfl⟩) ?_ ?_
     rotate_left
     ·simp only [Act.put, lS, lZ, lC, i64_w, i32_w]
      rfl
     refine pure_ (i := 11) (N := some 46) (v := undef) (a' := ?_) #[T, T, T, T, T, T, T, T, T, T, T, T, F, F, F, F, F, F] rfl rfl (any_of HT_.out (by kernel_rfl)) (fun _ _ _ h => h) (Or.inr ⟨by rfl, rfl⟩) ?_ ?_
     rotate_left
     ·simp only [Act.put, lS, lZ, lC, i64_w, i32_w]
      rfl
     refine pure_ (i := 12) (N := some 47) (v := undef) (a' := ?_) #[T, T, T, T, T, T, T, T, T, T, T, T, T, F, F, F, F, F] rfl rfl (any_of HT_.out (by kernel_rfl)) (fun _ _ _ h => h) (Or.inr ⟨by rfl, rfl⟩) ?_ ?_
     rotate_left
     ·simp only [Act.put, lS, lZ, lC, i64_w, i32_w]
      rfl
     refine pure_ (i := 13) (N := some 48) (v := undef) (a' := ?_) #[T, T, T, T, T, T, T, T, T, T, T, T, T, T, F, F, F, F] rfl rfl (any_of HT_.out (by kernel_rfl)) (fun _ _ _ h => h) (Or.inr ⟨by rfl, rfl⟩) ?_ ?_
     rotate_left
     ·simp only [Act.put, lS, lZ, lC, i64_w, i32_w]
      rfl
     refine pure_ (i := 14) (N := some 49) (v := undef) (a' := ?_) #[T, T, T, T, T, T, T, T, T, T, T, T, T, T, T, F, F, F] rfl rfl (any_of HT_.out (by kernel_rfl)) (fun _ _ _ h => h) (Or.inr ⟨by rfl, rfl⟩) ?_ ?_
     rotate_left
     ·simp only [Act.put, lS, lZ, lC, i64_w, i32_w]
      rfl
     refine pure_ (i := 15) (N := some 50) (v := undef) (a' := ?_) #[T, T, T, T, T, T, T, T, T, T, T, T, T, T, T, T, F, F] rfl rfl (any_of HT_.out (by kernel_rfl)) (fun _ _ _ h => h) (Or.inr ⟨by rfl, rfl⟩) ?_ ?_
     rotate_left
     ·simp only [Act.put, lS, lZ, lC, i64_w, i32_w]
      rfl
     refine pure_ (i := 16) (N := some 51) (v := undef) (a' := ?_) #[T, T, T, T, T, T, T, T, T, T, T, T, T, T, T, T, T, F] rfl rfl (any_of HT_.out (by kernel_rfl)) (fun _ _ _ h => h) (Or.inr ⟨by rfl, rfl⟩) ?_ ?_
     rotate_left
     ·simp only [Act.put, lS, lZ, lC, i64_w, i32_w]
      rfl
     refine pure_ (i := 17) (N := some 52) (v := ?_) (a' := ?_) #[T, T, T, T, T, T, T, T, T, T, T, T, T, T, T, T, T, T] rfl rfl (any_of HT_.out (by kernel_rfl)) (fun _ _ _ h => h) (Or.inl ⟨by rfl, ?_⟩) ?_ ?_
     rotate_left
     ·intro w'
      go_simp
      with_reducible rfl
     rotate_left
     ·simp only [Act.put, lS, lZ, lC, i64_w, i32_w]
      rfl
     refine done_ (done_of HT_.out (by kernel_rfl)) ?_
     try go_wp2
     go_meet
     case rel => exact ⟨_, (true), (by first | rfl | (simp; done) | (simp [*]; done)), H', ⟨by first | omega | exact Nat.le_refl _⟩, ⟨by (with_reducible repeat first | apply rA | apply rN | apply rD); exact HO295.out⟩, ⟨by (with_reducible repeat first | apply rA | apply rN | apply rD); exact HO299.out⟩, ⟨by (with_reducible repeat first | apply bN | apply bD | apply bA); exact BK300.out⟩, ⟨by (with_reducible repeat first | apply bN | apply bD | apply bA); exact BK301.out⟩, ⟨by repeat (first | (with_reducible first | exact HB.out | apply pA | apply pN | apply pD | refine bS ?_ GE300.out | refine bS ?_ GE301.out) | exact HB.out)⟩⟩
   ·rw [if_neg c22] at H
    have c22b0 : (t302.toList == t304.toList) = false := beq_eq_false_iff_ne.mpr c22
    have c22b1 : (t302.toList != t304.toList) = true := bne_iff_ne.mpr c22
    (first | rw [c22b0] | (simp only [i64_w, i32_w]; rw [c22b0]) | skip)
    have H' := A0k H
    clear H
    try go_wp2
    have n0_ := A0k (Kd.R_drew HO295.out)
    have n1_ := A0k (Kd.R_drew HO299.out)
    have n2_ := A0k (bD BK300.out)
    have n3_ := A0k (bD BK301.out)
    have n4_ := A0k (pD HB.out)
    clear HO295
    clear HO299
    clear BK300
    clear BK301
    clear HB
    have HO295 := n0_
    have HO299 := n1_
    have BK300 := n2_
    have BK301 := n3_
    have HB := n4_
    clear n0_ n1_ n2_ n3_ n4_
    refine start_ (n := 18) (S := fun w' => True) (ds := []) #[F, F, F, F, F, F, F, F, F, F, F, F, F, F, F, F, F, F] (by kernel_rfl) rfl rfl trivial (fun hHeld => ?_); refine with_tabW posthorselaw08_InodePuts.tab6 posthorselaw08_InodePuts.bits6 (fun HT_ HW_ => ?_)
    generalize w21.drew = w33 at HO295 HO299 BK300 BK301 HB hHeld ⊢
    refine pure_ (i := 0) (N := some 35) (v := ?_) (a' := ?_) #[T, F, F, F, F, F, F, F, F, F, F, F, F, F, F, F, F, F] rfl rfl (any_of HT_.out (by kernel_rfl)) (fun _ _ _ h => h) (Or.inl ⟨by rfl, ?_⟩) ?_ ?_
    rotate_left
    ·intro w'
     go_simp
     with_reducible rfl
    rotate_left
    ·simp only [Act.put, lS, lZ, lC, i64_w, i32_w]
     rfl
    refine pure_ (i := 1) (N := some 36) (v := ?_) (a' := ?_) #[T, T, F, F, F, F, F, F, F, F, F, F, F, F, F, F, F, F] rfl rfl (any_of HT_.out (by kernel_rfl)) (fun _ _ _ h => h) (Or.inl ⟨by rfl, ?_⟩) ?_ ?_
    rotate_left
    ·intro w'
     go_simp
     with_reducible rfl
    rotate_left
    ·simp only [Act.put, lS, lZ, lC, i64_w, i32_w]
     rfl
    refine pure_ (i := 2) (N := some 37) (v := ?_) (a' := ?_) #[T, T, T, F, F, F, F, F, F, F, F, F, F, F, F, F, F, F] rfl rfl (any_of HT_.out (by kernel_rfl)) (fun _ _ _ h => h) (Or.inl ⟨by rfl, ?_⟩) ?_ ?_
    rotate_left
    ·intro w'
     go_simp
     with_reducible rfl
    rotate_left
    ·simp only [Act.put, lS, lZ, lC, i64_w, i32_w]
     rfl
    refine pure_ (i := 3) (N := some 38) (v := ?_) (a' := ?_) #[T, T, T, T, F, F, F, F, F, F, F, F, F, F, F, F, F, F] rfl rfl (any_of HT_.out (by kernel_rfl)) (fun _ _ _ h => h) (Or.inl ⟨by rfl, ?_⟩) ?_ ?_
    rotate_left
    ·intro w'
     go_simp
     with_reducible rfl
    rotate_left
    ·simp only [Act.put, lS, lZ, lC, i64_w, i32_w]
     rfl
    refine pure_ (i := 4) (N := some 39) (v := undef) (a' := ?_) #[T, T, T, T, T, F, F, F, F, F, F, F, F, F, F, F, F, F] rfl rfl (any_of HT_.out (by kernel_rfl)) (fun _ _ _ h => h) (Or.inr ⟨by rfl, rfl⟩) ?_ ?_
    rotate_left
    ·simp only [Act.put, lS, lZ, lC, i64_w, i32_w]
     rfl
    refine pure_ (i := 5) (N := some 40) (v := undef) (a' := ?_) #[T, T, T, T, T, T, F, F, F, F, F, F, F, F, F, F, F, F] rfl rfl (any_of HT_.out (by kernel_rfl)) (fun _ _ _ h => h) (Or.inr ⟨by rfl, rfl⟩) ?_ ?_
    rotate_left
    ·simp only [Act.put, lS, lZ, lC, i64_w, i32_w]
     rfl
    refine pure_ (i := 6) (N := some 41) (v := undef) (a' := ?_) #[T, T, T, T, T, T, T, F, F, F, F, F, F, F, F, F, F, F] rfl rfl (any_of HT_.out (by kernel_rfl)) (fun _ _ _ h => h) (Or.inr ⟨by rfl, rfl⟩) ?_ ?_
    rotate_left
    ·simp only [Act.put, lS, lZ, lC, i64_w, i32_w]
     rfl
    refine pure_ (i := 7) (N := some 42) (v := undef) (a' := ?_) #[T, T, T, T, T, T, T, T, F, F, F, F, F, F, F, F, F, F] rfl rfl (any_of HT_.out (by kernel_rfl)) (fun _ _ _ h => h) (Or.inr ⟨by rfl, rfl⟩) ?_ ?_
    rotate_left
    ·simp only [Act.put, lS, lZ, lC, i64_w, i32_w]
     rfl
    refine pure_ (i := 8) (N := some 43) (v := ?_) (a' := ?_) #[T, T, T, T, T, T, T, T, T, F, F, F, F, F, F, F, F, F] rfl rfl (any_of HT_.out (by kernel_rfl)) (fun _ _ _ h => h) (Or.inl ⟨by rfl, ?_⟩) ?_ ?_
    rotate_left
    ·intro w'
     go_simp
     with_reducible rfl
    rotate_left
    ·simp only [Act.put, lS, lZ, lC, i64_w, i32_w]
     rfl
    refine pure_ (i := 9) (N := some 44) (v := ?_) (a' := ?_) #[T, T, T, T, T, T, T, T, T, T, F, F, F, F, F, F, F, F] rfl rfl (any_of HT_.out (by kernel_rfl)) (fun _ _ _ h => h) (Or.inl ⟨by rfl, ?_⟩) ?_ ?_
    rotate_left
    ·intro w'
     go_simp
     with_reducible rfl
    rotate_left
    ·simp only [Act.put, lS, lZ, lC, i64_w, i32_w]
     rfl
    refine pure_ (i := 10) (N := some 45) (v := undef) (a' := ?_) #[T, T, T, T, T, T, T, T, T, T, T, F, F, F, F, F, F, F] rfl rfl (any_of HT_.out (by kernel_rfl)) (fun _ _ _ h => h) (Or.inr ⟨by rfl, rfl⟩) ?_ ?_
    rotate_left
    ·simp only [Act.put, lS, lZ, lC, i64_w, i32_w]
     rfl
    refine pure_ (i := 11) (N := some 46) (v := undef) (a' := ?_) #[T, T, T, T, T, T, T, T, T, T, T, T, F, F, F, F, F, F] rfl rfl (any_of HT_.out (by kernel_rfl)) (fun _ _ _ h => h) (Or.inr ⟨by rfl, rfl⟩) ?_ ?_
    rotate_left
    ·simp only [Act.put, lS, lZ, lC, i64_w, i32_w]
     rfl
    refine pure_ (i := 12) (N := some 47) (v := undef) (a' := ?_) #[T, T, T, T, T, T, T, T, T, T, T, T, T, F, F, F, F, F] rfl rfl (any_of HT_.out (by kernel_rfl)) (fun _ _ _ h => h) (Or.inr ⟨by rfl, rfl⟩) ?_ ?_
    rotate_left
    ·simp only [Act.put, lS, lZ, lC, i64_w, i32_w]
     rfl
    refine pure_ (i := 13) (N := some 48) (v := undef) (a' := ?_) #[T, T, T, T, T, T, T, T, T, T, T, T, T, T, F, F, F, F] rfl rfl (any_of HT_.out (by kernel_rfl)) (fun _ _ _ h => h) (Or.inr ⟨by rfl, rfl⟩) ?_ ?_
    rotate_left
    ·simp only [Act.put, lS, lZ, lC, i64_w, i32_w]
     rfl
    refine pure_ (i := 14) (N := some 49) (v := undef) (a' := ?_) #[T, T, T, T, T, T, T, T, T, T, T, T, T, T, T, F, F, F] rfl rfl (any_of HT_.out (by kernel_rfl)) (fun _ _ _ h => h) (Or.inr ⟨by rfl, rfl⟩) ?_ ?_
    rotate_left
    ·simp only [Act.put, lS, lZ, lC, i64_w, i32_w]
     rfl
    refine pure_ (i := 15) (N := some 50) (v := undef) (a' := ?_) #[T, T, T, T, T, T, T, T, T, T, T, T, T, T, T, T, F, F] rfl rfl (any_of HT_.out (by kernel_rfl)) (fun _ _ _ h => h) (Or.inr ⟨by rfl, rfl⟩) ?_ ?_
    rotate_left
    ·simp only [Act.put, lS, lZ, lC, i64_w, i32_w]
     rfl
    refine pure_ (i := 16) (N := some 51) (v := undef) (a' := ?_) #[T, T, T, T, T, T, T, T, T, T, T, T, T, T, T, T, T, F] rfl rfl (any_of HT_.out (by kernel_rfl)) (fun _ _ _ h => h) (Or.inr ⟨by rfl, rfl⟩) ?_ ?_
    rotate_left
    ·simp only [Act.put, lS, lZ, lC, i64_w, i32_w]
     rfl
    refine pure_ (i := 17) (N := some 52) (v := ?_) (a' := ?_) #[T, T, T, T, T, T, T, T, T, T, T, T, T, T, T, T, T, T] rfl rfl (any_of HT_.out (by kernel_rfl)) (fun _ _ _ h => h) (Or.inl ⟨by rfl, ?_⟩) ?_ ?_
    rotate_left
    ·intro w'
     go_simp
     with_reducible rfl
    rotate_left
    ·simp only [Act.put, lS, lZ, lC, i64_w, i32_w]
     rfl
    refine done_ (done_of HT_.out (by kernel_rfl)) ?_
    try go_wp2
    go_meet
    case rel => exact ⟨_, (true), (by first | rfl | (simp; done) | (simp [*]; done)), H', ⟨by first | omega | exact Nat.le_refl _⟩, ⟨by (with_reducible repeat first | apply rA | apply rN | apply rD); exact HO295.out⟩, ⟨by (with_reducible repeat first | apply rA | apply rN | apply rD); exact HO299.out⟩, ⟨by (with_reducible repeat first | apply bN | apply bD | apply bA); exact BK300.out⟩, ⟨by (with_reducible repeat first | apply bN | apply bD | apply bA); exact BK301.out⟩, ⟨by repeat (first | (with_reducible first | exact HB.out | apply pA | apply pN | apply pD | refine bS ?_ GE300.out | refine bS ?_ GE301.out) | exact HB.out)⟩⟩
  case rest =>
   clear HC9
   (try clear c1); (try clear c2); (try clear p2); (try clear c3); (try clear c5); (try clear c6); (try clear c7); (try clear c8); (try clear c9); (try clear c10); (try clear c11); (try clear c14); (try clear c22); (try clear c22b0); (try clear c22b1); (try clear c24); (try clear c24b0); (try clear c24b1); (try clear hcz15_0); (try clear hcz15_1); (try clear hcz17_0); (try clear hcz17_1); (try clear hcz20_0); (try clear hcz20_1); (try clear hfz15_0); (try clear hfz15_1); (try clear hfz17_0); (try clear hfz17_1); (try clear hfz20_0); (try clear hfz20_1)
   obtain ⟨kq, x52_8, rfl, HA, HJ8, qb, qa, BK300, BK301, HB⟩ := hcut
   cases kq with
   | zero => exact absurd HA.out (by simp [Wj0])
   | succ kj8 =>
    have H := HA.out
    clear HA
    simp only [Wj0] at H
    by_cases c34 : x52_8 = true
    ·subst c34
     have H1 : (none) = some r := by rw [if_pos rfl] at H; exact H
     clear H
     have H := H1
     clear H1
     exact absurd H (by simp)
    ·replace c34 := Bool.eq_false_iff.mpr c34
     subst c34
     have H1 : (if t305 = 0 then ((inode_Get.f kj8 t302 a2).bind fun bt309 => ((posthorseref08_Get.f kj8 t302 a2).bind fun bt315 => ((posthorselaw08_same.f kj8 bt309.1 bt309.2.1 bt315.1 bt315.2.1).bind fun t321 => (if t321 = true then ((posthorselaw08_code.f bt309.2.2).bind fun t322 => (some (t322 == bt315.2.2))) else (none))))) else (some true)) = some r := by rw [if_neg (show ¬ (false = true) by decide)] at H; exact H
     clear H
     have H := H1
     clear H1
     by_cases c35 : t305 = 0
     ·rw [if_pos c35] at H
      have c35b0 : (t305 == 0) = true := beq_iff_eq.mpr c35
      have c35b1 : (t305 != 0) = false := bne_eq_false_iff_eq.mpr c35
      clear c35
      replace H := Option.bind_eq_some_iff.mp H
      obtain ⟨⟨t309, t310, t313⟩, A360, H⟩ := H
      replace H : ((posthorseref08_Get.f kj8 t302 a2).bind fun bt315 => ((posthorselaw08_same.f kj8 t309 t310 bt315.1 bt315.2.1).bind fun t321 => (if t321 = true then ((posthorselaw08_code.f t313).bind fun t322 => (some (t322 == bt315.2.2))) else (none)))) = some r := H
      have A36 := A0k A360
      clear A360
      replace H := Option.bind_eq_some_iff.mp H
      obtain ⟨⟨t315, t316, t319⟩, A370, H⟩ := H
      replace H : ((posthorselaw08_same.f kj8 t309 t310 t315 t316).bind fun t321 => (if t321 = true then ((posthorselaw08_code.f t313).bind fun t322 => (some (t322 == t319))) else (none))) = some r := H
      have A37 := A0k A370
      clear A370
      replace H := Option.bind_eq_some_iff.mp H
      obtain ⟨t321, A380, H⟩ := H
      replace H : (if t321 = true then ((posthorselaw08_code.f t313).bind fun t322 => (some (t322 == t319))) else (none)) = some r := H
      have A38 := A0k A380
      clear A380
      by_cases c39 : t321 = true
      ·subst c39
       have H1 : ((posthorselaw08_code.f t313).bind fun t322 => (some (t322 == t319))) = some r := by rw [if_pos rfl] at H; exact H
       clear H
       have H := H1
       clear H1
       replace H := Option.bind_eq_some_iff.mp H
       obtain ⟨t322, A400, H⟩ := H
       replace H : (some (t322 == t319)) = some r := H
       have A40 := A0k A400
       clear A400
       obtain rfl := Option.some.inj H
       go_wp2_with (first | ((with_reducible refine gC (f := 12) rfl ?_); refine gL_ (some 58) rfl rfl Tryz.func12 (by kernel_rfl) rfl #[.string t302, .int .i64 a2] rfl (by (try simp only [List.map_toArray, List.map_cons, List.map_nil]); first | done | rfl | (simp only [List.length_drop, List.length_take]; rfl)) ?_; (with_reducible refine (inode_Get.calls kj8 t302 a2 t309 t310 t313 _ (Laid.below HL_.out (by repeat (first | (with_reducible first | exact HB.out | apply pA | apply pN | apply pD | refine bS ?_ GE300.out | refine bS ?_ GE301.out) | exact HB.out))) A36.out).mono ?_); rintro e w41 ⟨v311, rfl, ho0, hb⟩; refine ⟨_, rfl, ?_⟩; have n0_ := A0k (Kd.R_elder' (by (with_reducible repeat first | apply rA | apply rN | apply rD); exact qb.out) (Kd.R_base ho0) hb); have n1_ := A0k (Kd.R_below (by (with_reducible repeat first | apply rA | apply rN | apply rD); exact qa.out) hb); have n2_ := A0k (Kd.R_lower (Kd.R_new' ho0 (Kd.R_lt (by (with_reducible repeat first | apply rA | apply rN | apply rD); exact qb.out))) (pZ (by repeat (first | (with_reducible first | exact HB.out | apply pA | apply pN | apply pD | refine bS ?_ GE300.out | refine bS ?_ GE301.out) | exact HB.out)))); have n3_ := A0k (bB (g := gb300) (o := .cells #[.int .i64 t292, .slice Ao16 t293.length co16] 26 (0, 0)) (by (with_reducible repeat first | apply bN | apply bD | apply bA); exact BK300.out) hb); have n4_ := A0k (bB (g := gb301) (o := .cells #[.int .i64 t296, .slice Ao18 t297.length co18] 29 (0, 0)) (by (with_reducible repeat first | apply bN | apply bD | apply bA); exact BK301.out) hb); have n5_ := A0k (pS (by repeat (first | (with_reducible first | exact HB.out | apply pA | apply pN | apply pD | refine bS ?_ GE300.out | refine bS ?_ GE301.out) | exact HB.out)) hb); clear qb qa BK300 BK301 HB; have qb := n0_; have qa := n1_; have HO312 := n2_; have BK300 := n3_; have BK301 := n4_; have HB := n5_; clear n0_ n1_ n2_ n3_ n4_ n5_; (try clear hb); (try clear hb2); (try clear hk); (try clear hi); (try clear ho0); (try simp only [errW_none, errW_some])) | ((with_reducible refine gD (N := 13) rfl ?_); refine bE ?hg (N := 13) ?hd (cs := #[.int .i64 0, .slice none 0 0]) (t := 26) ?hr ?_; (case hd => rfl); (case hg => rfl); (case hr => first | (go_simp; done) | (go_simp; rfl)); intro gb314 hg w42 hbox hb; have n0_ := A0k (Kd.R_below (by (with_reducible repeat first | apply rA | apply rN | apply rD); exact qb.out) hb); have n1_ := A0k (Kd.R_below (by (with_reducible repeat first | apply rA | apply rN | apply rD); exact qa.out) hb); have n2_ := A0k (Kd.R_below (by (with_reducible repeat first | apply rA | apply rN | apply rD); exact HO312.out) hb); have n3_ := A0k (bB (g := gb300) (o := .cells #[.int .i64 t292, .slice Ao16 t293.length co16] 26 (0, 0)) (by (with_reducible repeat first | apply bN | apply bD | apply bA); exact BK300.out) hb); have n4_ := A0k (bB (g := gb301) (o := .cells #[.int .i64 t296, .slice Ao18 t297.length co18] 29 (0, 0)) (by (with_reducible repeat first | apply bN | apply bD | apply bA); exact BK301.out) hb); have n5_ := A0k (pS (by repeat (first | (with_reducible first | exact HB.out | apply pA | apply pN | apply pD | refine bS ?_ GE300.out | refine bS ?_ GE301.out) | exact HB.out)) hb); have n6_ := A0k (hbox); have n7_ := A0k ((by rw [hg]; exact (pZ (by repeat (first | (with_reducible first | exact HB.out | apply pA | apply pN | apply pD | refine bS ?_ GE300.out | refine bS ?_ GE301.out) | exact HB.out))) : w.heap.size ≤ gb314)); have n8_ := A0k ((by rw [hg]; exact (pZ (by repeat (first | (with_reducible first | exact HB.out | apply pA | apply pN | apply pD | refine bS ?_ GE300.out | refine bS ?_ GE301.out) | exact HB.out))) : w.heap.size ≤ gb314)); have n9_ := A0k ((by rw [hg]; exact Nat.ne_of_lt (bL (g := gb300) (o := .cells #[.int .i64 t292, .slice Ao16 t293.length co16] 26 (0, 0)) (by (with_reducible repeat first | apply bN | apply bD | apply bA); exact BK300.out)) : gb300 ≠ gb314)); have n10_ := A0k ((by rw [hg]; exact Nat.ne_of_gt (bL (g := gb300) (o := .cells #[.int .i64 t292, .slice Ao16 t293.length co16] 26 (0, 0)) (by (with_reducible repeat first | apply bN | apply bD | apply bA); exact BK300.out)) : gb314 ≠ gb300)); have n11_ := A0k ((by rw [hg]; exact Nat.ne_of_lt (bL (g := gb301) (o := .cells #[.int .i64 t296, .slice Ao18 t297.length co18] 29 (0, 0)) (by (with_reducible repeat first | apply bN | apply bD | apply bA); exact BK301.out)) : gb301 ≠ gb314)); have n12_ := A0k ((by rw [hg]; exact Nat.ne_of_gt (bL (g := gb301) (o := .cells #[.int .i64 t296, .slice Ao18 t297.length co18] 29 (0, 0)) (by (with_reducible repeat first | apply bN | apply bD | apply bA); exact BK301.out)) : gb314 ≠ gb301)); clear qb qa HO312 BK300 BK301 HB; have qb := n0_; have qa := n1_; have HO312 := n2_; have BK300 := n3_; have BK301 := n4_; have HB := n5_; have BK314 := n6_; have GW314 := n7_; have GE314 := n8_; have NB300_314 := n9_; have NB314_300 := n10_; have NB301_314 := n11_; have NB314_301 := n12_; clear n0_ n1_ n2_ n3_ n4_ n5_ n6_ n7_ n8_ n9_ n10_ n11_ n12_ hb hbox hg; have hnb43 := NB314_300.out; have hnc43 := NB300_314.out; have hnb44 := NB314_301.out; have hnc44 := NB301_314.out; have hcz45_0 : w42.cell? ⟨gb314, 0, none⟩ = some (.int .i64 0) := (bC BK314.out 0).trans rfl; have hcz45_1 : w42.cell? ⟨gb314, 1, none⟩ = some (.slice none 0 0) := (bC BK314.out 1).trans rfl; have hfz45_0 := bF BK314.out 0; have hfz45_1 := bF BK314.out 1; obtain ⟨Ao46, co46, eo46⟩ := Kd.R_slice HO312.out; subst eo46) | ((with_reducible refine gC (f := 13) rfl ?_); refine gL_ (some 64) rfl rfl Tryz.func13 (by kernel_rfl) rfl #[.string t302, .int .i64 a2] rfl (by (try simp only [List.map_toArray, List.map_cons, List.map_nil]); first | done | rfl | (simp only [List.length_drop, List.length_take]; rfl)) ?_; (with_reducible refine (posthorseref08_Get.calls kj8 t302 a2 t315 t316 t319 _ A37.out).mono ?_); rintro e w47 ⟨v317, rfl, ho0, hb⟩; refine ⟨_, rfl, ?_⟩; have n0_ := A0k (Kd.R_below (by (with_reducible repeat first | apply rA | apply rN | apply rD); exact (Kd.R_mono (Kd.R_far (p := ⟨gb314, 1, none⟩) (Kd.R_far (p := ⟨gb314, 0, none⟩) (Kd.R_types qb.out BK314.out (by decide)) (fun _ hk => hk.2) (.int .i64 t309)) (fun _ hk => hk.2) (.slice Ao46 t310.length co46)) (fun _ h_ => h_.1))) hb); have n1_ := A0k (Kd.R_elder' (by (with_reducible repeat first | apply rA | apply rN | apply rD); exact (Kd.R_mono (Kd.R_far (p := ⟨gb314, 1, none⟩) (Kd.R_far (p := ⟨gb314, 0, none⟩) (Kd.R_types qa.out BK314.out (by decide)) (fun _ hk => hk.2) (.int .i64 t309)) (fun _ hk => hk.2) (.slice Ao46 t310.length co46)) (fun _ h_ => h_.1))) (Kd.R_base ho0) hb); have n2_ := A0k (Kd.R_below (by (with_reducible repeat first | apply rA | apply rN | apply rD); exact (Kd.R_mono (Kd.R_far (p := ⟨gb314, 1, none⟩) (Kd.R_far (p := ⟨gb314, 0, none⟩) (Kd.R_types HO312.out BK314.out (by decide)) (fun _ hk => hk.2) (.int .i64 t309)) (fun _ hk => hk.2) (.slice Ao46 t310.length co46)) (fun _ h_ => h_.1))) hb); have n3_ := A0k (Kd.R_lower (Kd.R_new' ho0 (Kd.R_lt (by (with_reducible repeat first | apply rA | apply rN | apply rD); exact (Kd.R_mono (Kd.R_far (p := ⟨gb314, 1, none⟩) (Kd.R_far (p := ⟨gb314, 0, none⟩) (Kd.R_types qa.out BK314.out (by decide)) (fun _ hk => hk.2) (.int .i64 t309)) (fun _ hk => hk.2) (.slice Ao46 t310.length co46)) (fun _ h_ => h_.1))))) (pZ (by repeat (first | (with_reducible first | exact HB.out | apply pA | apply pN | apply pD | refine bS ?_ GE300.out | refine bS ?_ GE301.out | refine bS ?_ GE314.out) | exact HB.out)))); have n4_ := A0k (bB (g := gb300) (o := .cells #[.int .i64 t292, .slice Ao16 t293.length co16] 26 (0, 0)) (by (with_reducible repeat first | apply bN | apply bD | apply bA); refine bR ?_ NB300_314.out _; (with_reducible repeat first | apply bN | apply bD | apply bA); refine bR ?_ NB300_314.out _; (with_reducible repeat first | apply bN | apply bD | apply bA); exact BK300.out) hb); have n5_ := A0k (bB (g := gb301) (o := .cells #[.int .i64 t296, .slice Ao18 t297.length co18] 29 (0, 0)) (by (with_reducible repeat first | apply bN | apply bD | apply bA); refine bR ?_ NB301_314.out _; (with_reducible repeat first | apply bN | apply bD | apply bA); refine bR ?_ NB301_314.out _; (with_reducible repeat first | apply bN | apply bD | apply bA); exact BK301.out) hb); have n6_ := A0k (bB (g := gb314) (o := .cells #[.int .i64 t309, .slice Ao46 t310.length co46] 26 (0, 0)) (by (with_reducible repeat first | apply bN | apply bD | apply bA); refine bP (cs := #[.int .i64 t309, .slice none 0 0]) ?_ 1 _ rfl; (with_reducible repeat first | apply bN | apply bD | apply bA); refine bP (cs := #[.int .i64 0, .slice none 0 0]) ?_ 0 _ rfl; (with_reducible repeat first | apply bN | apply bD | apply bA); exact BK314.out) hb); have n7_ := A0k (pS (by repeat (first | (with_reducible first | exact HB.out | apply pA | apply pN | apply pD | refine bS ?_ GE300.out | refine bS ?_ GE301.out | refine bS ?_ GE314.out) | exact HB.out)) hb); clear qb qa HO312 BK300 BK301 BK314 HB; have qb := n0_; have qa := n1_; have HO312 := n2_; have HO318 := n3_; have BK300 := n4_; have BK301 := n5_; have BK314 := n6_; have HB := n7_; clear n0_ n1_ n2_ n3_ n4_ n5_ n6_ n7_; (try clear hb); (try clear hb2); (try clear hk); (try clear hi); (try clear ho0)) | ((with_reducible refine gD (N := 15) rfl ?_); refine bE ?hg (N := 15) ?hd (cs := #[.int .i64 0, .slice none 0 0]) (t := 29) ?hr ?_; (case hd => rfl); (case hg => rfl); (case hr => first | (go_simp; done) | (go_simp; rfl)); intro gb320 hg w48 hbox hb; have n0_ := A0k (Kd.R_below (by (with_reducible repeat first | apply rA | apply rN | apply rD); exact qb.out) hb); have n1_ := A0k (Kd.R_below (by (with_reducible repeat first | apply rA | apply rN | apply rD); exact qa.out) hb); have n2_ := A0k (Kd.R_below (by (with_reducible repeat first | apply rA | apply rN | apply rD); exact HO312.out) hb); have n3_ := A0k (Kd.R_below (by (with_reducible repeat first | apply rA | apply rN | apply rD); exact HO318.out) hb); have n4_ := A0k (bB (g := gb300) (o := .cells #[.int .i64 t292, .slice Ao16 t293.length co16] 26 (0, 0)) (by (with_reducible repeat first | apply bN | apply bD | apply bA); exact BK300.out) hb); have n5_ := A0k (bB (g := gb301) (o := .cells #[.int .i64 t296, .slice Ao18 t297.length co18] 29 (0, 0)) (by (with_reducible repeat first | apply bN | apply bD | apply bA); exact BK301.out) hb); have n6_ := A0k (bB (g := gb314) (o := .cells #[.int .i64 t309, .slice Ao46 t310.length co46] 26 (0, 0)) (by (with_reducible repeat first | apply bN | apply bD | apply bA); exact BK314.out) hb); have n7_ := A0k (pS (by repeat (first | (with_reducible first | exact HB.out | apply pA | apply pN | apply pD | refine bS ?_ GE300.out | refine bS ?_ GE301.out | refine bS ?_ GE314.out) | exact HB.out)) hb); have n8_ := A0k (hbox); have n9_ := A0k ((by rw [hg]; exact (pZ (by repeat (first | (with_reducible first | exact HB.out | apply pA | apply pN | apply pD | refine bS ?_ GE300.out | refine bS ?_ GE301.out | refine bS ?_ GE314.out) | exact HB.out))) : w.heap.size ≤ gb320)); have n10_ := A0k ((by rw [hg]; exact (pZ (by repeat (first | (with_reducible first | exact HB.out | apply pA | apply pN | apply pD | refine bS ?_ GE300.out | refine bS ?_ GE301.out | refine bS ?_ GE314.out) | exact HB.out))) : w.heap.size ≤ gb320)); have n11_ := A0k ((by rw [hg]; exact Nat.ne_of_lt (bL (g := gb300) (o := .cells #[.int .i64 t292, .slice Ao16 t293.length co16] 26 (0, 0)) (by (with_reducible repeat first | apply bN | apply bD | apply bA); exact BK300.out)) : gb300 ≠ gb320)); have n12_ := A0k ((by rw [hg]; exact Nat.ne_of_gt (bL (g := gb300) (o := .cells #[.int .i64 t292, .slice Ao16 t293.length co16] 26 (0, 0)) (by (with_reducible repeat first | apply bN | apply bD | apply bA); exact BK300.out)) : gb320 ≠ gb300)); have n13_ := A0k ((by rw [hg]; exact Nat.ne_of_lt (bL (g := gb301) (o := .cells #[.int .i64 t296, .slice Ao18 t297.length co18] 29 (0, 0)) (by (with_reducible repeat first | apply bN | apply bD | apply bA); exact BK301.out)) : gb301 ≠ gb320)); have n14_ := A0k ((by rw [hg]; exact Nat.ne_of_gt (bL (g := gb301) (o := .cells #[.int .i64 t296, .slice Ao18 t297.length co18] 29 (0, 0)) (by (with_reducible repeat first | apply bN | apply bD | apply bA); exact BK301.out)) : gb320 ≠ gb301)); have n15_ := A0k ((by rw [hg]; exact Nat.ne_of_lt (bL (g := gb314) (o := .cells #[.int .i64 t309, .slice Ao46 t310.length co46] 26 (0, 0)) (by (with_reducible repeat first | apply bN | apply bD | apply bA); exact BK314.out)) : gb314 ≠ gb320)); have n16_ := A0k ((by rw [hg]; exact Nat.ne_of_gt (bL (g := gb314) (o := .cells #[.int .i64 t309, .slice Ao46 t310.length co46] 26 (0, 0)) (by (with_reducible repeat first | apply bN | apply bD | apply bA); exact BK314.out)) : gb320 ≠ gb314)); clear qb qa HO312 HO318 BK300 BK301 BK314 HB; have qb := n0_; have qa := n1_; have HO312 := n2_; have HO318 := n3_; have BK300 := n4_; have BK301 := n5_; have BK314 := n6_; have HB := n7_; have BK320 := n8_; have GW320 := n9_; have GE320 := n10_; have NB300_320 := n11_; have NB320_300 := n12_; have NB301_320 := n13_; have NB320_301 := n14_; have NB314_320 := n15_; have NB320_314 := n16_; clear n0_ n1_ n2_ n3_ n4_ n5_ n6_ n7_ n8_ n9_ n10_ n11_ n12_ n13_ n14_ n15_ n16_ hb hbox hg; have hnb49 := NB320_300.out; have hnc49 := NB300_320.out; have hnb50 := NB320_301.out; have hnc50 := NB301_320.out; have hnb51 := NB320_314.out; have hnc51 := NB314_320.out; have hcz52_0 : w48.cell? ⟨gb320, 0, none⟩ = some (.int .i64 0) := (bC BK320.out 0).trans rfl; have hcz52_1 : w48.cell? ⟨gb320, 1, none⟩ = some (.slice none 0 0) := (bC BK320.out 1).trans rfl; have hfz52_0 := bF BK320.out 0; have hfz52_1 := bF BK320.out 1; obtain ⟨Ao53, co53, eo53⟩ := Kd.R_slice HO318.out; subst eo53; have hcz54_0 : w48.cell? ⟨gb314, 0, none⟩ = some (.int .i64 t309) := (bC BK314.out 0).trans rfl; have hcz54_1 : w48.cell? ⟨gb314, 1, none⟩ = some (.slice Ao46 t310.length co46) := (bC BK314.out 1).trans rfl; have hfz54_0 := bF BK314.out 0; have hfz54_1 := bF BK314.out 1) | ((with_reducible refine gC (f := 14) rfl ?_); refine gL_ (some 69) rfl rfl Tryz.func14 (by kernel_rfl) rfl #[.agg #[.int .i64 t309, .slice Ao46 t310.length co46], .agg #[.int .i64 t315, .slice Ao53 t316.length co53]] rfl (by (try simp only [List.map_toArray, List.map_cons, List.map_nil]); first | done | rfl | (simp only [List.length_drop, List.length_take]; rfl)) ?_; (with_reducible refine (posthorselaw08_same.calls kj8 t309 _ _ t310 t315 _ _ t316 true _ ?side1 ?side2 ?side3 ?side4 A38.out).mono ?_); (case side1 => refine (Kd.R_reads' (e := 51) (base := w.heap.size) (ok := fun k_ => (True ∧ some k_ ≠ (.slice Ao16 t293.length co16 : Value).ownBlock)) (n := t310.length) (c := co46) ?_).2.2; exact (by (with_reducible repeat first | apply rA | apply rN | apply rD); exact (Kd.R_mono (Kd.R_far (p := ⟨gb320, 1, none⟩) (Kd.R_far (p := ⟨gb320, 0, none⟩) (Kd.R_types HO312.out BK320.out (by decide)) (fun _ hk => hk.2) (.int .i64 t315)) (fun _ hk => hk.2) (.slice Ao53 t316.length co53)) (fun _ h_ => h_.1)))); (case side2 => exact (Kd.R_reads' HO312.out).2.1); (case side3 => refine (Kd.R_reads' (e := 56) (base := w.heap.size) (ok := fun k_ => (True ∧ some k_ ≠ (.slice Ao18 t297.length co18 : Value).ownBlock)) (n := t316.length) (c := co53) ?_).2.2; exact (by (with_reducible repeat first | apply rA | apply rN | apply rD); exact (Kd.R_mono (Kd.R_far (p := ⟨gb320, 1, none⟩) (Kd.R_far (p := ⟨gb320, 0, none⟩) (Kd.R_types HO318.out BK320.out (by decide)) (fun _ hk => hk.2) (.int .i64 t315)) (fun _ hk => hk.2) (.slice Ao53 t316.length co53)) (fun _ h_ => h_.1)))); (case side4 => exact (Kd.R_reads' HO318.out).2.1); rintro e w55 ⟨rfl, hb⟩; refine ⟨_, rfl, ?_⟩; have n0_ := A0k (Kd.R_below (by (with_reducible repeat first | apply rA | apply rN | apply rD); exact (Kd.R_mono (Kd.R_far (p := ⟨gb320, 1, none⟩) (Kd.R_far (p := ⟨gb320, 0, none⟩) (Kd.R_types qb.out BK320.out (by decide)) (fun _ hk => hk.2) (.int .i64 t315)) (fun _ hk => hk.2) (.slice Ao53 t316.length co53)) (fun _ h_ => h_.1))) hb); have n1_ := A0k (Kd.R_below (by (with_reducible repeat first | apply rA | apply rN | apply rD); exact (Kd.R_mono (Kd.R_far (p := ⟨gb320, 1, none⟩) (Kd.R_far (p := ⟨gb320, 0, none⟩) (Kd.R_types qa.out BK320.out (by decide)) (fun _ hk => hk.2) (.int .i64 t315)) (fun _ hk => hk.2) (.slice Ao53 t316.length co53)) (fun _ h_ => h_.1))) hb); have n2_ := A0k (Kd.R_below (by (with_reducible repeat first | apply rA | apply rN | apply rD); exact (Kd.R_mono (Kd.R_far (p := ⟨gb320, 1, none⟩) (Kd.R_far (p := ⟨gb320, 0, none⟩) (Kd.R_types HO312.out BK320.out (by decide)) (fun _ hk => hk.2) (.int .i64 t315)) (fun _ hk => hk.2) (.slice Ao53 t316.length co53)) (fun _ h_ => h_.1))) hb); have n3_ := A0k (Kd.R_below (by (with_reducible repeat first | apply rA | apply rN | apply rD); exact (Kd.R_mono (Kd.R_far (p := ⟨gb320, 1, none⟩) (Kd.R_far (p := ⟨gb320, 0, none⟩) (Kd.R_types HO318.out BK320.out (by decide)) (fun _ hk => hk.2) (.int .i64 t315)) (fun _ hk => hk.2) (.slice Ao53 t316.length co53)) (fun _ h_ => h_.1))) hb); have n4_ := A0k (bB (g := gb300) (o := .cells #[.int .i64 t292, .slice Ao16 t293.length co16] 26 (0, 0)) (by (with_reducible repeat first | apply bN | apply bD | apply bA); refine bR ?_ NB300_320.out _; (with_reducible repeat first | apply bN | apply bD | apply bA); refine bR ?_ NB300_320.out _; (with_reducible repeat first | apply bN | apply bD | apply bA); exact BK300.out) hb); have n5_ := A0k (bB (g := gb301) (o := .cells #[.int .i64 t296, .slice Ao18 t297.length co18] 29 (0, 0)) (by (with_reducible repeat first | apply bN | apply bD | apply bA); refine bR ?_ NB301_320.out _; (with_reducible repeat first | apply bN | apply bD | apply bA); refine bR ?_ NB301_320.out _; (with_reducible repeat first | apply bN | apply bD | apply bA); exact BK301.out) hb); have n6_ := A0k (bB (g := gb314) (o := .cells #[.int .i64 t309, .slice Ao46 t310.length co46] 26 (0, 0)) (by (with_reducible repeat first | apply bN | apply bD | apply bA); refine bR ?_ NB314_320.out _; (with_reducible repeat first | apply bN | apply bD | apply bA); refine bR ?_ NB314_320.out _; (with_reducible repeat first | apply bN | apply bD | apply bA); exact BK314.out) hb); have n7_ := A0k (bB (g := gb320) (o := .cells #[.int .i64 t315, .slice Ao53 t316.length co53] 29 (0, 0)) (by (with_reducible repeat first | apply bN | apply bD | apply bA); refine bP (cs := #[.int .i64 t315, .slice none 0 0]) ?_ 1 _ rfl; (with_reducible repeat first | apply bN | apply bD | apply bA); refine bP (cs := #[.int .i64 0, .slice none 0 0]) ?_ 0 _ rfl; (with_reducible repeat first | apply bN | apply bD | apply bA); exact BK320.out) hb); have n8_ := A0k (pS (by repeat (first | (with_reducible first | exact HB.out | apply pA | apply pN | apply pD | refine bS ?_ GE300.out | refine bS ?_ GE301.out | refine bS ?_ GE314.out | refine bS ?_ GE320.out) | exact HB.out)) hb); clear qb qa HO312 HO318 BK300 BK301 BK314 BK320 HB; have qb := n0_; have qa := n1_; have HO312 := n2_; have HO318 := n3_; have BK300 := n4_; have BK301 := n5_; have BK314 := n6_; have BK320 := n7_; have HB := n8_; clear n0_ n1_ n2_ n3_ n4_ n5_ n6_ n7_ n8_; (try clear hb); (try clear hb2); (try clear hk); (try clear hi); have CA40 := fun W hL_ => posthorselaw08_code.calls t313 t322 W hL_ A40.out; try simp only [errW_none, errW_some] at CA40) | (go_at_call 9; (with_reducible refine (CA40 _ (Laid.below HL_.out (by repeat (first | (with_reducible first | exact HB.out | apply pA | apply pN | apply pD | refine bS ?_ GE300.out | refine bS ?_ GE301.out | refine bS ?_ GE314.out | refine bS ?_ GE320.out) | exact HB.out)))).mono ?_); rintro e w56 ⟨rfl, hb⟩; have n0_ := A0k (Kd.R_below (by (with_reducible repeat first | apply rA | apply rN | apply rD); exact qb.out) hb); have n1_ := A0k (Kd.R_below (by (with_reducible repeat first | apply rA | apply rN | apply rD); exact qa.out) hb); have n2_ := A0k (Kd.R_below (by (with_reducible repeat first | apply rA | apply rN | apply rD); exact HO312.out) hb); have n3_ := A0k (Kd.R_below (by (with_reducible repeat first | apply rA | apply rN | apply rD); exact HO318.out) hb); have n4_ := A0k (bB (g := gb300) (o := .cells #[.int .i64 t292, .slice Ao16 t293.length co16] 26 (0, 0)) (by (with_reducible repeat first | apply bN | apply bD | apply bA); exact BK300.out) hb); have n5_ := A0k (bB (g := gb301) (o := .cells #[.int .i64 t296, .slice Ao18 t297.length co18] 29 (0, 0)) (by (with_reducible repeat first | apply bN | apply bD | apply bA); exact BK301.out) hb); have n6_ := A0k (bB (g := gb314) (o := .cells #[.int .i64 t309, .slice Ao46 t310.length co46] 26 (0, 0)) (by (with_reducible repeat first | apply bN | apply bD | apply bA); exact BK314.out) hb); have n7_ := A0k (bB (g := gb320) (o := .cells #[.int .i64 t315, .slice Ao53 t316.length co53] 29 (0, 0)) (by (with_reducible repeat first | apply bN | apply bD | apply bA); exact BK320.out) hb); have n8_ := A0k (pS (by repeat (first | (with_reducible first | exact HB.out | apply pA | apply pN | apply pD | refine bS ?_ GE300.out | refine bS ?_ GE301.out | refine bS ?_ GE314.out | refine bS ?_ GE320.out) | exact HB.out)) hb); clear qb qa HO312 HO318 BK300 BK301 BK314 BK320 HB; have qb := n0_; have qa := n1_; have HO312 := n2_; have HO318 := n3_; have BK300 := n4_; have BK301 := n5_; have BK314 := n6_; have BK320 := n7_; have HB := n8_; clear n0_ n1_ n2_ n3_ n4_ n5_ n6_ n7_ n8_; (try clear hb); (try clear hb2); (try clear hk); (try clear hi)))
       go_ret
       exact ⟨by first | rfl | (simp [errW_none, errW_some] <;> rfl) | (simp [*, errW_none, errW_some] <;> rfl), by repeat (first | (with_reducible first | exact HB.out | apply pA | apply pN | apply pD | refine bS ?_ GE300.out | refine bS ?_ GE301.out | refine bS ?_ GE314.out | refine bS ?_ GE320.out) | exact HB.out)⟩
      ·replace c39 := Bool.eq_false_iff.mpr c39
       subst c39
       have H1 : (none) = some r := by rw [if_neg (show ¬ (false = true) by decide)] at H; exact H
       clear H
       have H := H1
       clear H1
       exact absurd H (by simp)
     ·rw [if_neg c35] at H
      have c35b0 : (t305 == 0) = false := beq_eq_false_iff_ne.mpr c35
      have c35b1 : (t305 != 0) = true := bne_iff_ne.mpr c35
      obtain rfl := Option.some.inj H
      go_wp2
      go_ret
      exact ⟨by first | rfl | (simp [errW_none, errW_some] <;> rfl) | (simp [*, errW_none, errW_some] <;> rfl), by repeat (first | (with_reducible first | exact HB.out | apply pA | apply pN | apply pD | refine bS ?_ GE300.out | refine bS ?_ GE301.out) | exact HB.out)⟩
 ·replace c5 := Bool.eq_false_iff.mpr c5
  subst c5
  have H1 : (none) = some r := by rw [if_neg (show ¬ (false = true) by decide)] at H; exact H
  clear H
  have H := H1
  clear H1
  exact absurd H (by simp)

end Go.Proofs.YtmncfcebjohloaaGreatDoor.VInodePuts
