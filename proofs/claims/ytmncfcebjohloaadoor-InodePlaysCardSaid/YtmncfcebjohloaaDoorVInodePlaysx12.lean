/- Contracts of functions of this seat: each call comes to what its Lean function computes; no condition beyond what each theorem states. Printed by a program of this session's own laid over the kit's printer. -/
import Derived.Test.YtmncfcebjohloaaDoorVInodePlaysx0
import Derived.Test.YtmncfcebjohloaaDoorVInodePlaysx10
namespace Go.Proofs.YtmncfcebjohloaaDoor.VInodePlays
open Go.RowKit Go.Proofs.YtmncfcebjohloaaDoorW.PrintWords Go.Proofs.YtmncfcebjohloaaDoorW.PrintLast Go.Proofs.YtmncfcebjohloaaDoorW.PrintMore
attribute [local go_sem] max2_int min2_int max_two min_two max_three min_three max_four min_four   -- for this text's walks alone
open Go.Proofs.YtmncfcebjohloaaDoorW.PrintWords.Kd renaming R_alloc → rA
open Go.Proofs.YtmncfcebjohloaaDoorW.PrintWords.Kd renaming R_drewN → rN
open Go.Proofs.YtmncfcebjohloaaDoorW.PrintWords.Kd renaming R_drew → rD
open List renaming setIfInBounds_toArray → lS, set_cons_zero → lZ, set_cons_succ → lC
open Bool renaming true → T, false → F
open Go.Proofs.YtmncfcebjohloaaDoorW.PrintLast renaming goesL_ → gL_
open Go.Proofs.YtmncfcebjohloaaDoorW.PrintWords renaming blk_drewN → bN, blk_drew → bD, blk_alloc → bA, below_set → bS, pw_below_drewN → pN, below_drew1 → pD, below_alloc → pA, below_step → pS, below_size → pZ, blk_frozen → bF, blk_cell → bC, blk_below → bB, blk_far → bR, blk_put → bP, blk_lt → bL, gate_dst → gD, gate_callee → gC, gate_builtin → gB, cell_far → cF, box_event → bE
open Go.Proofs.YtmncfcebjohloaaDoorW.PrintWords.Aside0 renaming mk → A0k
set_option linter.unusedVariables false
set_option linter.unusedSimpArgs false

/-! ### posthorseref08_Grow: function 12 -/
def posthorseref08_Grow.j0 : Nat → Int → Bool → Int → Int → Int → List (S39) → Option (Int × (List (S39)) × Int)
 | 0, _, _, _, _, _, _ => none
 | k + 1, x7, x48, x236000, x236001, x245000, x245001 => if x48 = true then (if 0 ≤ (wrap64 (x7 - 1)) then (if (wrap64 (x7 - 1)) < (x245001.length : Int) then (some (x245000, (x245001.set ((wrap64 (x7 - 1)) : Int).toNat (⟨(rd_T39 x245001 (wrap64 (x7 - 1))).f0, wrap64 (((rd_T39 x245001 (wrap64 (x7 - 1))).f1) + x236001)⟩ : S39)), 0)) else (none)) else (none)) else (if x7 = 36 then (some (0, ([] : List (S39)), 19)) else (if x245001.length < 8796093022208 then (some (x245000, (x245001 ++ [(⟨x236000, x236001⟩ : S39)]), 0)) else (none)))
def posthorseref08_Grow.f (k : Nat) (a0_0 : Int) (l0_1 : List (S39)) (a1_0 : Int) (a1_1 : Int) : Option (Int × (List (S39)) × Int) := (posthorseref08_free.f k a0_0 l0_1 a1_0 a1_1).bind fun t237 => (if t237 = true then ((some (([] : List (S39)) : List (S39))).bind fun y238 => (if y238.length + l0_1.length < 8796093022208 then ((some (y238 ++ l0_1 : List (S39))).bind fun y241 => (if (y241.length : Int) > 0 then (if 0 ≤ (wrap64 ((y241.length : Int) - 1)) then (if (wrap64 ((y241.length : Int) - 1)) < (y241.length : Int) then (posthorseref08_Grow.j0 k (y241.length : Int) ((wrap64 (((rd_T39 y241 (wrap64 ((y241.length : Int) - 1))).f0) + ((rd_T39 y241 (wrap64 ((y241.length : Int) - 1))).f1))) == a1_0) a1_0 a1_1 (wrap64 (a0_0 + 1)) y241) else (none)) else (none)) else (posthorseref08_Grow.j0 k (y241.length : Int) false a1_0 a1_1 (wrap64 (a0_0 + 1)) y241))) else (none))) else (some (0, ([] : List (S39)), 1)))
set_option maxRecDepth 100000 in
theorem posthorseref08_Grow.mono_l : ∀ k, (∀ y0 y1 y2 y3 y4 y5, LeO (posthorseref08_Grow.j0 k y0 y1 y2 y3 y4 y5) (posthorseref08_Grow.j0 (k + 1) y0 y1 y2 y3 y4 y5))
 | 0 => fun _ _ _ _ _ _ r h => by first | (rw [posthorseref08_Grow.j0] at h; cases h) | simp [posthorseref08_Grow.j0] at h
 | k + 1 => by
  have ih0 := posthorseref08_Grow.mono_l k
  ·intro y0 y1 y2 y3 y4 y5
   unfold posthorseref08_Grow.j0
   repeat' first
   | (with_reducible exact ih0 _ _ _ _ _ _)
   | (with_reducible exact posthorseref08_free.mono _ _ _ _ _)
   | (with_reducible exact LeO.refl _)
   | (with_reducible exact LeO.none _)
   | (with_reducible refine LeO.ite ?_ ?_)
   | (with_reducible refine LeO.bind ?_ (fun _ => ?_))
   | exact ih0 _ _ _ _ _ _
   | exact posthorseref08_free.mono _ _ _ _ _
   | exact LeO.none _
   | refine LeO.ite ?_ ?_
   | refine LeO.bind ?_ (fun _ => ?_)
theorem posthorseref08_Grow.mono : ∀ a0 a1 a2 a3 k, LeO (posthorseref08_Grow.f k a0 a1 a2 a3) (posthorseref08_Grow.f (k + 1) a0 a1 a2 a3) := by
 intro a0 a1 a2 a3 k
 have ih0 := posthorseref08_Grow.mono_l k
 unfold posthorseref08_Grow.f
 repeat' first
   | (with_reducible exact ih0 _ _ _ _ _ _)
   | (with_reducible exact posthorseref08_free.mono _ _ _ _ _)
   | (with_reducible exact LeO.refl _)
   | (with_reducible exact LeO.none _)
   | (with_reducible refine LeO.ite ?_ ?_)
   | (with_reducible refine LeO.bind ?_ (fun _ => ?_))
   | exact ih0 _ _ _ _ _ _
   | exact posthorseref08_free.mono _ _ _ _ _
   | exact LeO.none _
   | refine LeO.ite ?_ ?_
   | refine LeO.bind ?_ (fun _ => ?_)
def posthorseref08_Grow.T3 : Bool × List (List Nat × List Nat) := (true, [([], []), ([0], [0]), ([1], [1]), ([], []), ([], []), ([4], [4]), ([3, 5], [3, 5]), ([2, 6], [2, 6]), ([], []), ([8, 7, 6, 0, 1, 2, 3, 4, 5, 6, 7, 8], [7, 8])])
def posthorseref08_Grow.B3 : List Nat := [0, 1, 3, 0, 0, 16, 56, 127, 0, 511]
theorem posthorseref08_Grow.tab3 : rtab .any (opsOf Tryd.f12 3) = posthorseref08_Grow.T3 := by kernel_rfl
theorem posthorseref08_Grow.bits3 : waitsOk posthorseref08_Grow.T3.2 posthorseref08_Grow.B3 = true := by kernel_rfl
def posthorseref08_Grow.T5 : Bool × List (List Nat × List Nat) := (true, [([], []), ([0], [0]), ([1], [1]), ([2], [2]), ([3, 2], [2, 3]), ([2], [2]), ([5, 2], [2, 5]), ([4, 6, 2], [2, 4, 6]), ([7, 2], [2, 7]), ([8, 2], [2, 8]), ([2], [2]), ([10, 2], [2, 10]), ([2], [2]), ([12, 2], [2, 12]), ([11, 13, 2], [2, 11, 13]), ([14, 2], [2, 14]), ([15, 2], [2, 15]), ([9, 16, 2], [2, 9, 16]), ([2], [2]), ([18, 2], [2, 18]), ([17, 19, 2], [2, 17, 19]), ([2, 20], [2, 20])])
def posthorseref08_Grow.B5 : List Nat := [0, 1, 3, 7, 15, 7, 39, 127, 255, 511, 7, 1031, 7, 4103, 15367, 31751, 64519, 131071, 7, 262151, 1048575, 2097151]
theorem posthorseref08_Grow.tab5 : rtab .any (opsOf Tryd.f12 5) = posthorseref08_Grow.T5 := by kernel_rfl
theorem posthorseref08_Grow.bits5 : waitsOk posthorseref08_Grow.T5.2 posthorseref08_Grow.B5 = true := by kernel_rfl
def posthorseref08_Grow.T6 : Bool × List (List Nat × List Nat) := (true, [([], []), ([0], [0]), ([], []), ([2], [2]), ([1, 3], [1, 3]), ([4], [4]), ([5], [5]), ([], []), ([7], [7]), ([6, 8], [6, 8]), ([1, 3, 0, 1, 2, 3, 4, 5, 6, 7, 8, 9], [1, 3]), ([10, 0, 1, 2, 3, 4, 5, 6, 7, 8, 9], [10]), ([11, 9, 0, 1, 2, 3, 4, 5, 6, 7, 8, 9], [9, 11])])
def posthorseref08_Grow.B6 : List Nat := [0, 1, 0, 4, 15, 31, 63, 0, 128, 511, 1023, 2047, 4095]
theorem posthorseref08_Grow.tab6 : rtab .any (opsOf Tryd.f12 6) = posthorseref08_Grow.T6 := by kernel_rfl
theorem posthorseref08_Grow.bits6 : waitsOk posthorseref08_Grow.T6.2 posthorseref08_Grow.B6 = true := by kernel_rfl
open Go.Proofs.YtmncfcebjohloaaDoor.VInodePlays renaming rd_T39 → d0_
open posthorseref08_Grow renaming j0 → Wj0
set_option maxHeartbeats 8000000 in
set_option maxRecDepth 100000 in
theorem posthorseref08_Grow.calls (k : Nat) (a0_0 : Int) (A0_1 : Option Addr) (c0_1 : Nat) (l0_1 : List (S39)) (a1_0 : Int) (a1_1 : Int) (r1 : Int) (r2 : List (S39)) (r3 : Int) (w : World) (hr0_1 : Kd.C k39 w A0_1 l0_1.length l0_1) (hc0_1 : l0_1.length ≤ c0_1) (h : posthorseref08_Grow.f k a0_0 l0_1 a1_0 a1_1 = some (r1, r2, r3)) :
  Calls Tryd.prog 12 #[.agg #[.int .i64 a0_0, .slice A0_1 l0_1.length c0_1], .agg #[.int .i64 a1_0, .int .i64 a1_1]] w fun e w' => ∃ v1_ : Value, e = .returned (.tuple #[.agg #[.int .i64 r1, v1_], .int .i64 r3]) ∧ Kd.R k39 39 w' w.heap.size (fun _ => True) v1_ r2 ∧ Below w.heap.size w w' := by
 have hu29 := Tryd.underlying29
 have hu39 := Tryd.underlying39
 have HR0_1 := A0k hr0_1
 have HC0_1 := A0k hc0_1
 clear hr0_1 hc0_1
 have HB := A0k (Below.refl w.heap.size w)
 have H : ((posthorseref08_free.f k a0_0 l0_1 a1_0 a1_1).bind fun t237 => (if t237 = true then ((some (([] : List (S39)) : List (S39))).bind fun y238 => (if y238.length + l0_1.length < 8796093022208 then ((some (y238 ++ l0_1 : List (S39))).bind fun y241 => (if (y241.length : Int) > 0 then (if 0 ≤ (wrap64 ((y241.length : Int) - 1)) then (if (wrap64 ((y241.length : Int) - 1)) < (y241.length : Int) then (Wj0 k (y241.length : Int) ((wrap64 (((d0_ y241 (wrap64 ((y241.length : Int) - 1))).f0) + ((d0_ y241 (wrap64 ((y241.length : Int) - 1))).f1))) == a1_0) a1_0 a1_1 (wrap64 (a0_0 + 1)) y241) else (none)) else (none)) else (Wj0 k (y241.length : Int) false a1_0 a1_1 (wrap64 (a0_0 + 1)) y241))) else (none))) else (some (0, ([] : List (S39)), 1)))) = some (r1, r2, r3) := h
 clear h
 replace H := Option.bind_eq_some_iff.mp H
 obtain ⟨t237, A30, H⟩ := H
 replace H : (if t237 = true then ((some (([] : List (S39)) : List (S39))).bind fun y238 => (if y238.length + l0_1.length < 8796093022208 then ((some (y238 ++ l0_1 : List (S39))).bind fun y241 => (if (y241.length : Int) > 0 then (if 0 ≤ (wrap64 ((y241.length : Int) - 1)) then (if (wrap64 ((y241.length : Int) - 1)) < (y241.length : Int) then (Wj0 k (y241.length : Int) ((wrap64 (((d0_ y241 (wrap64 ((y241.length : Int) - 1))).f0) + ((d0_ y241 (wrap64 ((y241.length : Int) - 1))).f1))) == a1_0) a1_0 a1_1 (wrap64 (a0_0 + 1)) y241) else (none)) else (none)) else (Wj0 k (y241.length : Int) false a1_0 a1_1 (wrap64 (a0_0 + 1)) y241))) else (none))) else (some (0, ([] : List (S39)), 1))) = some (r1, r2, r3) := H
 have A3 := A0k A30
 clear A30
 by_cases c4 : t237 = true
 ·subst c4
  have H1 : ((some (([] : List (S39)) : List (S39))).bind fun y238 => (if y238.length + l0_1.length < 8796093022208 then ((some (y238 ++ l0_1 : List (S39))).bind fun y241 => (if (y241.length : Int) > 0 then (if 0 ≤ (wrap64 ((y241.length : Int) - 1)) then (if (wrap64 ((y241.length : Int) - 1)) < (y241.length : Int) then (Wj0 k (y241.length : Int) ((wrap64 (((d0_ y241 (wrap64 ((y241.length : Int) - 1))).f0) + ((d0_ y241 (wrap64 ((y241.length : Int) - 1))).f1))) == a1_0) a1_0 a1_1 (wrap64 (a0_0 + 1)) y241) else (none)) else (none)) else (Wj0 k (y241.length : Int) false a1_0 a1_1 (wrap64 (a0_0 + 1)) y241))) else (none))) = some (r1, r2, r3) := by rw [if_pos rfl] at H; exact H
  clear H
  have H := H1
  clear H1
  obtain ⟨y238, hy238⟩ : ∃ y_ : List (S39), y_ = (([] : List (S39))) := ⟨_, rfl⟩
  replace H : (if y238.length + l0_1.length < 8796093022208 then ((some (y238 ++ l0_1 : List (S39))).bind fun y241 => (if (y241.length : Int) > 0 then (if 0 ≤ (wrap64 ((y241.length : Int) - 1)) then (if (wrap64 ((y241.length : Int) - 1)) < (y241.length : Int) then (Wj0 k (y241.length : Int) ((wrap64 (((d0_ y241 (wrap64 ((y241.length : Int) - 1))).f0) + ((d0_ y241 (wrap64 ((y241.length : Int) - 1))).f1))) == a1_0) a1_0 a1_1 (wrap64 (a0_0 + 1)) y241) else (none)) else (none)) else (Wj0 k (y241.length : Int) false a1_0 a1_1 (wrap64 (a0_0 + 1)) y241))) else (none)) = some (r1, r2, r3) := by first | (rw [hy238]; with_reducible exact H) | (have H2_ := (Option.bind_some _ _).symm.trans H; rw [hy238]; with_reducible exact H2_) | (have H2_ := (Option.bind_some _ _).symm.trans H; with_reducible exact H2_) | with_reducible exact H | (rw [hy238]; exact H) | exact H
  have Ny238 := A0k hy238
  clear hy238
  by_cases c5 : y238.length + l0_1.length < 8796093022208
  ·rw [if_pos c5] at H
   have LMc5 := A0k c5
   clear c5
   obtain ⟨y241, hy241⟩ : ∃ y_ : List (S39), y_ = (y238 ++ l0_1) := ⟨_, rfl⟩
   replace H : (if (y241.length : Int) > 0 then (if 0 ≤ (wrap64 ((y241.length : Int) - 1)) then (if (wrap64 ((y241.length : Int) - 1)) < (y241.length : Int) then (Wj0 k (y241.length : Int) ((wrap64 (((d0_ y241 (wrap64 ((y241.length : Int) - 1))).f0) + ((d0_ y241 (wrap64 ((y241.length : Int) - 1))).f1))) == a1_0) a1_0 a1_1 (wrap64 (a0_0 + 1)) y241) else (none)) else (none)) else (Wj0 k (y241.length : Int) false a1_0 a1_1 (wrap64 (a0_0 + 1)) y241)) = some (r1, r2, r3) := by first | (rw [hy241]; with_reducible exact H) | (have H2_ := (Option.bind_some _ _).symm.trans H; rw [hy241]; with_reducible exact H2_) | (have H2_ := (Option.bind_some _ _).symm.trans H; with_reducible exact H2_) | with_reducible exact H | (rw [hy241]; exact H) | exact H
   have Ny241 := A0k hy241
   clear hy241
   have HC6 := A0k H
   clear H
   go_enter Tryd.func12, Tryd.ntmps12
   try go_wp2_with (first | ((with_reducible refine gD (N := 2) rfl ?_); refine bE ?hg (N := 2) ?hd (cs := #[.int .i64 a0_0, .slice A0_1 l0_1.length c0_1]) (t := 29) ?hr ?_; (case hd => rfl); (case hg => rfl); (case hr => first | (go_simp; done) | (go_simp; rfl)); intro gb234 hg w7 hbox hb; have n0_ := A0k (pS (by repeat (first | (with_reducible first | exact HB.out | apply pA | apply pN | apply pD) | exact HB.out)) hb); have n1_ := A0k (hbox); have n2_ := A0k ((by rw [hg]; exact (pZ (by repeat (first | (with_reducible first | exact HB.out | apply pA | apply pN | apply pD) | exact HB.out))) : w.heap.size ≤ gb234)); have n3_ := A0k ((by rw [hg]; exact (pZ (by repeat (first | (with_reducible first | exact HB.out | apply pA | apply pN | apply pD) | exact HB.out))) : w.heap.size ≤ gb234)); clear HB; have HB := n0_; have BK234 := n1_; have GW234 := n2_; have GE234 := n3_; clear n0_ n1_ n2_ n3_ hb hbox hg) | ((with_reducible refine gD (N := 3) rfl ?_); refine bE ?hg (N := 3) ?hd (cs := #[.int .i64 a1_0, .int .i64 a1_1]) (t := 39) ?hr ?_; (case hd => rfl); (case hg => rfl); (case hr => first | (go_simp; done) | (go_simp; rfl)); intro gb235 hg w8 hbox hb; have n0_ := A0k (bB (g := gb234) (o := .cells #[.int .i64 a0_0, .slice A0_1 l0_1.length c0_1] 29 (0, 0)) (by (with_reducible repeat first | apply bN | apply bD | apply bA); exact BK234.out) hb); have n1_ := A0k (pS (by repeat (first | (with_reducible first | exact HB.out | apply pA | apply pN | apply pD | refine bS ?_ GE234.out) | exact HB.out)) hb); have n2_ := A0k (hbox); have n3_ := A0k ((by rw [hg]; exact (pZ (by repeat (first | (with_reducible first | exact HB.out | apply pA | apply pN | apply pD | refine bS ?_ GE234.out) | exact HB.out))) : w.heap.size ≤ gb235)); have n4_ := A0k ((by rw [hg]; exact (pZ (by repeat (first | (with_reducible first | exact HB.out | apply pA | apply pN | apply pD | refine bS ?_ GE234.out) | exact HB.out))) : w.heap.size ≤ gb235)); have n5_ := A0k ((by rw [hg]; exact Nat.ne_of_lt (bL (g := gb234) (o := .cells #[.int .i64 a0_0, .slice A0_1 l0_1.length c0_1] 29 (0, 0)) (by (with_reducible repeat first | apply bN | apply bD | apply bA); exact BK234.out)) : gb234 ≠ gb235)); have n6_ := A0k ((by rw [hg]; exact Nat.ne_of_gt (bL (g := gb234) (o := .cells #[.int .i64 a0_0, .slice A0_1 l0_1.length c0_1] 29 (0, 0)) (by (with_reducible repeat first | apply bN | apply bD | apply bA); exact BK234.out)) : gb235 ≠ gb234)); clear BK234 HB; have BK234 := n0_; have HB := n1_; have BK235 := n2_; have GW235 := n3_; have GE235 := n4_; have NB234_235 := n5_; have NB235_234 := n6_; clear n0_ n1_ n2_ n3_ n4_ n5_ n6_ hb hbox hg) | ((with_reducible refine gD (N := 4) rfl ?_); refine bE ?hg (N := 4) ?hd (cs := #[.int .i64 0, .slice none 0 0]) (t := 29) ?hr ?_; (case hd => rfl); (case hg => rfl); (case hr => first | (go_simp; done) | (go_simp; rfl)); intro gb236 hg w9 hbox hb; have n0_ := A0k (bB (g := gb234) (o := .cells #[.int .i64 a0_0, .slice A0_1 l0_1.length c0_1] 29 (0, 0)) (by (with_reducible repeat first | apply bN | apply bD | apply bA); exact BK234.out) hb); have n1_ := A0k (bB (g := gb235) (o := .cells #[.int .i64 a1_0, .int .i64 a1_1] 39 (0, 0)) (by (with_reducible repeat first | apply bN | apply bD | apply bA); exact BK235.out) hb); have n2_ := A0k (pS (by repeat (first | (with_reducible first | exact HB.out | apply pA | apply pN | apply pD | refine bS ?_ GE234.out | refine bS ?_ GE235.out) | exact HB.out)) hb); have n3_ := A0k (hbox); have n4_ := A0k ((by rw [hg]; exact (pZ (by repeat (first | (with_reducible first | exact HB.out | apply pA | apply pN | apply pD | refine bS ?_ GE234.out | refine bS ?_ GE235.out) | exact HB.out))) : w.heap.size ≤ gb236)); have n5_ := A0k ((by rw [hg]; exact (pZ (by repeat (first | (with_reducible first | exact HB.out | apply pA | apply pN | apply pD | refine bS ?_ GE234.out | refine bS ?_ GE235.out) | exact HB.out))) : w.heap.size ≤ gb236)); have n6_ := A0k ((by rw [hg]; exact Nat.ne_of_lt (bL (g := gb234) (o := .cells #[.int .i64 a0_0, .slice A0_1 l0_1.length c0_1] 29 (0, 0)) (by (with_reducible repeat first | apply bN | apply bD | apply bA); exact BK234.out)) : gb234 ≠ gb236)); have n7_ := A0k ((by rw [hg]; exact Nat.ne_of_gt (bL (g := gb234) (o := .cells #[.int .i64 a0_0, .slice A0_1 l0_1.length c0_1] 29 (0, 0)) (by (with_reducible repeat first | apply bN | apply bD | apply bA); exact BK234.out)) : gb236 ≠ gb234)); have n8_ := A0k ((by rw [hg]; exact Nat.ne_of_lt (bL (g := gb235) (o := .cells #[.int .i64 a1_0, .int .i64 a1_1] 39 (0, 0)) (by (with_reducible repeat first | apply bN | apply bD | apply bA); exact BK235.out)) : gb235 ≠ gb236)); have n9_ := A0k ((by rw [hg]; exact Nat.ne_of_gt (bL (g := gb235) (o := .cells #[.int .i64 a1_0, .int .i64 a1_1] 39 (0, 0)) (by (with_reducible repeat first | apply bN | apply bD | apply bA); exact BK235.out)) : gb236 ≠ gb235)); clear BK234 BK235 HB; have BK234 := n0_; have BK235 := n1_; have HB := n2_; have BK236 := n3_; have GW236 := n4_; have GE236 := n5_; have NB234_236 := n6_; have NB236_234 := n7_; have NB235_236 := n8_; have NB236_235 := n9_; clear n0_ n1_ n2_ n3_ n4_ n5_ n6_ n7_ n8_ n9_ hb hbox hg; have hnb10 := NB234_235.out; have hnc10 := NB235_234.out; have hnb11 := NB234_236.out; have hnc11 := NB236_234.out; have hcz12_0 : w9.cell? ⟨gb234, 0, none⟩ = some (.int .i64 a0_0) := (bC BK234.out 0).trans rfl; have hcz12_1 : w9.cell? ⟨gb234, 1, none⟩ = some (.slice A0_1 l0_1.length c0_1) := (bC BK234.out 1).trans rfl; have hfz12_0 := bF BK234.out 0; have hfz12_1 := bF BK234.out 1; have hnb13 := NB235_236.out; have hnc13 := NB236_235.out; have hcz14_0 : w9.cell? ⟨gb235, 0, none⟩ = some (.int .i64 a1_0) := (bC BK235.out 0).trans rfl; have hcz14_1 : w9.cell? ⟨gb235, 1, none⟩ = some (.int .i64 a1_1) := (bC BK235.out 1).trans rfl; have hfz14_0 := bF BK235.out 0; have hfz14_1 := bF BK235.out 1) | ((with_reducible refine gC (f := 34) rfl ?_); refine gL_ (some 13) rfl rfl Tryd.func34 (by kernel_rfl) rfl #[.agg #[.int .i64 a0_0, .slice A0_1 l0_1.length c0_1], .int .i64 a1_0, .int .i64 a1_1] rfl (by (try simp only [List.map_toArray, List.map_cons, List.map_nil]); first | done | rfl | (simp only [List.length_drop, List.length_take]; rfl)) ?_; (with_reducible refine (posthorseref08_free.calls k a0_0 _ _ l0_1 a1_0 a1_1 true _ ?side1 ?side2 A3.out).mono ?_); (case side1 => repeat (first | exact (Kd.C_below HR0_1.out HB.out) | (with_reducible refine Kd.C_alloc ?_ _) | (with_reducible refine Kd.C_drewN ?_ _) | (with_reducible refine Kd.C_drew ?_))); (case side2 => exact HC0_1.out); rintro e w15 ⟨rfl, hb⟩; refine ⟨_, rfl, ?_⟩; have n0_ := A0k (bB (g := gb234) (o := .cells #[.int .i64 a0_0, .slice A0_1 l0_1.length c0_1] 29 (0, 0)) (by (with_reducible repeat first | apply bN | apply bD | apply bA); exact BK234.out) hb); have n1_ := A0k (bB (g := gb235) (o := .cells #[.int .i64 a1_0, .int .i64 a1_1] 39 (0, 0)) (by (with_reducible repeat first | apply bN | apply bD | apply bA); exact BK235.out) hb); have n2_ := A0k (bB (g := gb236) (o := .cells #[.int .i64 0, .slice none 0 0] 29 (0, 0)) (by (with_reducible repeat first | apply bN | apply bD | apply bA); exact BK236.out) hb); have n3_ := A0k (pS (by repeat (first | (with_reducible first | exact HB.out | apply pA | apply pN | apply pD | refine bS ?_ GE234.out | refine bS ?_ GE235.out | refine bS ?_ GE236.out) | exact HB.out)) hb); clear BK234 BK235 BK236 HB; have BK234 := n0_; have BK235 := n1_; have BK236 := n2_; have HB := n3_; clear n0_ n1_ n2_ n3_; (try clear hb); (try clear hb2); (try clear hk); (try clear hi)))
   have n0_ := A0k (bD BK234.out)
   have n1_ := A0k (bD BK235.out)
   have n2_ := A0k (bD BK236.out)
   have n3_ := A0k (pD HB.out)
   clear BK234
   clear BK235
   clear BK236
   clear HB
   have BK234 := n0_
   have BK235 := n1_
   have BK236 := n2_
   have HB := n3_
   clear n0_ n1_ n2_ n3_
   refine start_ (n := 10) (S := fun w' => w'.cell? ⟨gb234, 0, none⟩ = some (.int .i64 a0_0) ∧ w'.cell? ⟨gb234, 1, none⟩ = some (.slice A0_1 l0_1.length c0_1)) (ds := []) #[F, F, F, F, F, F, F, F, F, F] (by kernel_rfl) rfl rfl ⟨(bC BK234.out 0).trans rfl, (bC BK234.out 1).trans rfl⟩ (fun hHeld => ?_); refine with_tabW posthorseref08_Grow.tab3 posthorseref08_Grow.bits3 (fun HT_ HW_ => ?_)
   generalize w15.drew = w16 at BK234 BK235 BK236 HB hHeld ⊢
   refine pure_ (i := 0) (N := some 16) (v := ?_) (a' := ?_) #[T, F, F, F, F, F, F, F, F, F] rfl rfl (any_of HT_.out (by kernel_rfl)) (fun _ _ _ h => h) (Or.inl ⟨by rfl, ?_⟩) ?_ ?_
   rotate_left
   ·intro w'
    go_simp
    with_reducible rfl
   rotate_left
   ·simp only [Act.put, lS, lZ, lC, i64_w, i32_w]
    rfl
   refine pure_ (i := 4) (N := some 20) (v := ?_) (a' := ?_) #[T, F, F, F, T, F, F, F, F, F] rfl rfl (any_of HT_.out (by kernel_rfl)) (fun _ _ _ h => h) (Or.inl ⟨by rfl, ?_⟩) ?_ ?_
   rotate_left
   ·intro w'
    go_simp
    with_reducible rfl
   rotate_left
   ·simp only [Act.put, lS, lZ, lC, i64_w, i32_w]
    rfl
   refine take_ (i := 1) (N := some 17) (v := ?_) (a' := ?_) #[T, T, F, F, T, F, F, F, F, F] rfl rfl (take_ofW HT_.out HW_.out (by kernel_rfl)) (fun _ _ _ h => h) (Or.inl ⟨by rfl, ?_⟩) hHeld ?_ ?_
   rotate_left; (· rintro w' ⟨s0, s1⟩; go_simp; with_reducible rfl); rotate_left; (· simp only [Act.put, lS, lZ, lC, i64_w, i32_w]; rfl)
   refine pure_ (i := 2) (N := some 18) (v := ?_) (a' := ?_) #[T, T, T, F, T, F, F, F, F, F] rfl rfl (any_of HT_.out (by kernel_rfl)) (fun _ _ _ h => h) (Or.inl ⟨by rfl, ?_⟩) ?_ ?_
   rotate_left
   ·intro w'
    go_simp
    with_reducible rfl
   rotate_left
   ·simp only [Act.put, lS, lZ, lC, i64_w, i32_w]
    rfl
   refine take_ (i := 5) (N := some 21) (v := ?_) (a' := ?_) #[T, T, T, F, T, T, F, F, F, F] rfl rfl (take_ofW HT_.out HW_.out (by kernel_rfl)) (fun _ _ _ h => h) (Or.inl ⟨by rfl, ?_⟩) hHeld ?_ ?_
   rotate_left; (· rintro w' ⟨s0, s1⟩; go_simp; with_reducible rfl); rotate_left; (· simp only [Act.put, lS, lZ, lC, i64_w, i32_w]; rfl)
   refine join_ (σ := Value × Value × Nat) 1 #[T, T, T, T, T, T, T, T, T, F] (fun s_ => [(19, s_.1), (22, s_.2.1), (6, .pointer (some ⟨s_.2.2, 0, none⟩)), (23, .agg #[.int .i64 (wrap64 (a0_0 + 1)), s_.2.1])]) (fun s_ w' => (w'.cell? ⟨gb234, 0, none⟩ = some (.int .i64 a0_0) ∧ w'.cell? ⟨gb234, 1, none⟩ = some (.slice A0_1 l0_1.length c0_1)) ∧ (Kd.R k39 39 w' w.heap.size (fun k_ => k_ ≠ gb235) s_.2.1 y241) ∧ (w'.heap[gb234]? = some (.cells #[.int .i64 a0_0, .slice A0_1 l0_1.length c0_1] 29 (0, 0))) ∧ (w'.heap[gb235]? = some (.cells #[.int .i64 a1_0, .int .i64 a1_1] 39 (0, 0))) ∧ (w'.heap[gb236]? = some (.cells #[.int .i64 0, .slice none 0 0] 29 (0, 0))) ∧ (w'.heap[s_.2.2]? = some (.cells #[.int .i64 0, .slice none 0 0] 29 (0, 0))) ∧ (w.heap.size ≤ s_.2.2) ∧ (w.heap.size ≤ s_.2.2) ∧ (gb234 ≠ s_.2.2) ∧ (s_.2.2 ≠ gb234) ∧ (gb235 ≠ s_.2.2) ∧ (s_.2.2 ≠ gb235) ∧ (gb236 ≠ s_.2.2) ∧ (s_.2.2 ≠ gb236) ∧ (Below w.heap.size w w')) ?_ ?_
   rotate_left
   ·intro hCont
    refine two_ (i := 3) (j := 8) (Ni := some 19) (Nj := some 6) #[T, T, T, T, T, T, F, F, F, F] #[T, T, T, F, T, T, F, F, T, F] rfl rfl rfl rfl (two_of HT_.out (by kernel_rfl)) (by decide) (by decide) (fun K hK => ?_) (fun K hK => ?_)
    ·skip
     refine Kd.R_lit_step k39 _ 39 ?hg (N := 19) ?hd (xs := ([] : List (S39))) (inner := []) (ok := fun _ => True) (okp := fun _ => True) ?hr ?hp (fun _ hk => hk) trivial (Below.refl _ _) (Nat.le_refl _) (by simp) ?_; (case hd => rfl); (case hg => rfl); (case hr => first | (go_simp; done) | (go_simp; rfl)); (case hp => exact (Reps.none _ _))
     intro v239 w17 ho18 hb hg_ hnew_
     clear hg_ hnew_
     (first | rw [← Ny238.out] at ho18 | (simp only [Int.reduceToNat] at ho18; rw [← Ny238.out] at ho18))
     have n0_ := A0k (Kd.R_lower (Kd.R_newB ho18 (g := gb235) (o := .cells #[.int .i64 a1_0, .int .i64 a1_1] 39 (0, 0)) (by (with_reducible repeat first | apply bN | apply bD | apply bA); exact BK235.out)) (pZ (by repeat (first | (with_reducible first | exact HB.out | apply pA | apply pN | apply pD | refine bS ?_ GE234.out | refine bS ?_ GE235.out | refine bS ?_ GE236.out) | exact HB.out))))
     have n1_ := A0k (bB (g := gb234) (o := .cells #[.int .i64 a0_0, .slice A0_1 l0_1.length c0_1] 29 (0, 0)) (by (with_reducible repeat first | apply bN | apply bD | apply bA); exact BK234.out) hb)
     have n2_ := A0k (bB (g := gb235) (o := .cells #[.int .i64 a1_0, .int .i64 a1_1] 39 (0, 0)) (by (with_reducible repeat first | apply bN | apply bD | apply bA); exact BK235.out) hb)
     have n3_ := A0k (bB (g := gb236) (o := .cells #[.int .i64 0, .slice none 0 0] 29 (0, 0)) (by (with_reducible repeat first | apply bN | apply bD | apply bA); exact BK236.out) hb)
     have n4_ := A0k (pS (by repeat (first | (with_reducible first | exact HB.out | apply pA | apply pN | apply pD | refine bS ?_ GE234.out | refine bS ?_ GE235.out | refine bS ?_ GE236.out) | exact HB.out)) hb)
     clear BK234
     clear BK235
     clear BK236
     clear HB
     have HO240 := n0_
     have BK234 := n1_
     have BK235 := n2_
     have BK236 := n3_
     have HB := n4_
     clear n0_ n1_ n2_ n3_ n4_
     clear hb ho18
     refine hK.out _ _ ⟨(bC BK234.out 0).trans rfl, (bC BK234.out 1).trans rfl⟩ (fun hHeld => ?_)
     clear hK K
     refine norm_ (a' := ?_) ?_ ?_
     rotate_left
     ·show Act.put _ (some 19) _ = _
      simp only [Act.put, lS, lZ, lC, i64_w, i32_w]
      rfl
     refine two_ (i := 6) (j := 8) (Ni := some 22) (Nj := some 6) #[T, T, T, T, T, T, T, F, F, F] #[T, T, T, T, T, T, F, F, T, F] rfl rfl rfl rfl (two_of HT_.out (by kernel_rfl)) (by decide) (by decide) (fun K hK => ?_) (fun K hK => ?_)
     ·skip
      refine Kd.R_append_rows_step k39 (w0 := w) w.heap.size (by rfl) (.tmp 19) (.tmp 21) 27 39 (.agg #[(.int .i64 0), (.int .i64 0)]) 16 rfl Tryd.underlying27 info39 rfl (by decide) (by omega) v239 y238 l0_1 _ _ _ (fun k_ => k_ ≠ gb235) (fun _ => False) rfl rfl ?aO ?aR (fun _ _ h => h) (fun _ h => h.elim) ?aF ?aB ?aS ?aL ?_
      (case aR => repeat (first | exact (Kd.C_below HR0_1.out HB.out) | (with_reducible refine Kd.C_alloc ?_ _) | (with_reducible refine Kd.C_drewN ?_ _) | (with_reducible refine Kd.C_drew ?_)))
      (case aB => exact (by repeat (first | (with_reducible first | exact HB.out | apply pA | apply pN | apply pD | refine bS ?_ GE234.out | refine bS ?_ GE235.out | refine bS ?_ GE236.out) | exact HB.out)))
      (case aF => exact (fun k_ hk => Kd.freshB (g := gb235) (o := .cells #[.int .i64 a1_0, .int .i64 a1_1] 39 (0, 0)) (by (with_reducible repeat first | apply bN | apply bD | apply bA); exact BK235.out) k_ hk))
      (case aO => exact (by (with_reducible repeat first | apply rA | apply rN | apply rD); exact Kd.R_mono HO240.out (fun _ hk => hk.2)))
      (case aS => exact (pZ (by repeat (first | (with_reducible first | exact HB.out | apply pA | apply pN | apply pD | refine bS ?_ GE234.out | refine bS ?_ GE235.out | refine bS ?_ GE236.out) | exact HB.out))))
      (case aL => have := LMc5.out; omega)
      intro v242 w19 ho hb hg hat
      rw [← Ny241.out] at ho
      have n0_ := A0k (blk_grown (g := gb234) (o := .cells #[.int .i64 a0_0, .slice A0_1 l0_1.length c0_1] 29 (0, 0)) (by (with_reducible repeat first | apply bN | apply bD | apply bA); exact BK234.out) hg (Kd.R_ne HO240.out BK234.out (by decide)))
      have n1_ := A0k (blk_grown (g := gb235) (o := .cells #[.int .i64 a1_0, .int .i64 a1_1] 39 (0, 0)) (by (with_reducible repeat first | apply bN | apply bD | apply bA); exact BK235.out) hg (Kd.R_away HO240.out (fun _ hk => hk.2)))
      have n2_ := A0k (blk_grown (g := gb236) (o := .cells #[.int .i64 0, .slice none 0 0] 29 (0, 0)) (by (with_reducible repeat first | apply bN | apply bD | apply bA); exact BK236.out) hg (Kd.R_ne HO240.out BK236.out (by decide)))
      have n3_ := A0k (hb)
      have n4_ := A0k (ho)
      clear BK234
      clear BK235
      clear BK236
      clear HB
      clear HO240
      have BK234 := n0_
      have BK235 := n1_
      have BK236 := n2_
      have HB := n3_
      have HO243 := n4_
      clear n0_ n1_ n2_ n3_ n4_
      clear ho hb hg hat
      obtain ⟨Ao20, co20, eo20⟩ := Kd.R_slice HO243.out
      (first | subst eo20 | (injection eo20 with f1_ f2_ f3_; have f4_ := f1_.symm; have f5_ := f3_.symm; clear f1_ f2_ f3_; subst f4_; subst f5_))
      refine hK.out _ _ ⟨(bC BK234.out 0).trans rfl, (bC BK234.out 1).trans rfl⟩ (fun hHeld => ?_)
      clear hK K
      refine norm_ (a' := ?_) ?_ ?_
      rotate_left
      ·show Act.put _ (some 22) _ = _
       simp only [Act.put, lS, lZ, lC, i64_w, i32_w]
       rfl
      refine pure_ (i := 7) (N := some 23) (v := ?_) (a' := ?_) #[T, T, T, T, T, T, T, T, F, F] rfl rfl (any_of HT_.out (by kernel_rfl)) (fun _ _ _ h => h) (Or.inl ⟨by rfl, ?_⟩) ?_ ?_
      rotate_left
      ·intro w'
       go_simp
       with_reducible rfl
      rotate_left
      ·simp only [Act.put, lS, lZ, lC, i64_w, i32_w]
       rfl
      refine one_ (i := 8) (N := some 6) #[T, T, T, T, T, T, T, T, T, F] rfl rfl (one_of HT_.out (by kernel_rfl)) (by decide) (fun K hK => ?_)
      refine box_step ?hg (N := 6) ?hd (cs := #[.int .i64 0, .slice none 0 0]) (t := 29) ?hr ?_; (case hd => rfl); (case hg => rfl); (case hr => first | (go_simp; done) | (go_simp; rfl))
      intro gb244 hg w21 hbox hb
      have n0_ := A0k (Kd.R_below (by (with_reducible repeat first | apply rA | apply rN | apply rD); exact HO243.out) hb)
      have n1_ := A0k (bB (g := gb234) (o := .cells #[.int .i64 a0_0, .slice A0_1 l0_1.length c0_1] 29 (0, 0)) (by (with_reducible repeat first | apply bN | apply bD | apply bA); exact BK234.out) hb)
      have n2_ := A0k (bB (g := gb235) (o := .cells #[.int .i64 a1_0, .int .i64 a1_1] 39 (0, 0)) (by (with_reducible repeat first | apply bN | apply bD | apply bA); exact BK235.out) hb)
      have n3_ := A0k (bB (g := gb236) (o := .cells #[.int .i64 0, .slice none 0 0] 29 (0, 0)) (by (with_reducible repeat first | apply bN | apply bD | apply bA); exact BK236.out) hb)
      have n4_ := A0k (pS (by repeat (first | (with_reducible first | exact HB.out | apply pA | apply pN | apply pD | refine bS ?_ GE234.out | refine bS ?_ GE235.out | refine bS ?_ GE236.out) | exact HB.out)) hb)
      have n5_ := A0k (hbox)
      have n6_ := A0k ((by rw [hg]; exact (pZ (by repeat (first | (with_reducible first | exact HB.out | apply pA | apply pN | apply pD | refine bS ?_ GE234.out | refine bS ?_ GE235.out | refine bS ?_ GE236.out) | exact HB.out))) : w.heap.size ≤ gb244))
      have n7_ := A0k ((by rw [hg]; exact (pZ (by repeat (first | (with_reducible first | exact HB.out | apply pA | apply pN | apply pD | refine bS ?_ GE234.out | refine bS ?_ GE235.out | refine bS ?_ GE236.out) | exact HB.out))) : w.heap.size ≤ gb244))
      have n8_ := A0k ((by rw [hg]; exact Nat.ne_of_lt (bL (g := gb234) (o := .cells #[.int .i64 a0_0, .slice A0_1 l0_1.length c0_1] 29 (0, 0)) (by (with_reducible repeat first | apply bN | apply bD | apply bA); exact BK234.out)) : gb234 ≠ gb244))
      have n9_ := A0k ((by rw [hg]; exact Nat.ne_of_gt (bL (g := gb234) (o := .cells #[.int .i64 a0_0, .slice A0_1 l0_1.length c0_1] 29 (0, 0)) (by (with_reducible repeat first | apply bN | apply bD | apply bA); exact BK234.out)) : gb244 ≠ gb234))
      have n10_ := A0k ((by rw [hg]; exact Nat.ne_of_lt (bL (g := gb235) (o := .cells #[.int .i64 a1_0, .int .i64 a1_1] 39 (0, 0)) (by (with_reducible repeat first | apply bN | apply bD | apply bA); exact BK235.out)) : gb235 ≠ gb244))
      have n11_ := A0k ((by rw [hg]; exact Nat.ne_of_gt (bL (g := gb235) (o := .cells #[.int .i64 a1_0, .int .i64 a1_1] 39 (0, 0)) (by (with_reducible repeat first | apply bN | apply bD | apply bA); exact BK235.out)) : gb244 ≠ gb235))
      have n12_ := A0k ((by rw [hg]; exact Nat.ne_of_lt (bL (g := gb236) (o := .cells #[.int .i64 0, .slice none 0 0] 29 (0, 0)) (by (with_reducible repeat first | apply bN | apply bD | apply bA); exact BK236.out)) : gb236 ≠ gb244))
      have n13_ := A0k ((by rw [hg]; exact Nat.ne_of_gt (bL (g := gb236) (o := .cells #[.int .i64 0, .slice none 0 0] 29 (0, 0)) (by (with_reducible repeat first | apply bN | apply bD | apply bA); exact BK236.out)) : gb244 ≠ gb236))
      clear HO243
      clear BK234
      clear BK235
      clear BK236
      clear HB
      have HO243 := n0_
      have BK234 := n1_
      have BK235 := n2_
      have BK236 := n3_
      have HB := n4_
      have BK244 := n5_
      have GW244 := n6_
      have GE244 := n7_
      have NB234_244 := n8_
      have NB244_234 := n9_
      have NB235_244 := n10_
      have NB244_235 := n11_
      have NB236_244 := n12_
      have NB244_236 := n13_
      clear n0_ n1_ n2_ n3_ n4_ n5_ n6_ n7_ n8_ n9_ n10_ n11_ n12_ n13_
      clear hb hbox hg
      refine hK.out _ _ ⟨(bC BK234.out 0).trans rfl, (bC BK234.out 1).trans rfl⟩ (fun hHeld => ?_)
      clear hK K
      refine norm_ (a' := ?_) ?_ ?_
      rotate_left
      ·show Act.put _ (some 6) _ = _
       simp only [Act.put, lS, lZ, lC, i64_w, i32_w]
       rfl
      exact norm_ (by simp only [putAll, Act.put, lS, lZ, lC]) (hCont (v239, .slice Ao20 y241.length co20, gb244) _ ⟨hHeld, (by (with_reducible repeat first | apply rA | apply rN | apply rD); exact HO243.out), (by (with_reducible repeat first | apply bN | apply bD | apply bA); exact BK234.out), (by (with_reducible repeat first | apply bN | apply bD | apply bA); exact BK235.out), (by (with_reducible repeat first | apply bN | apply bD | apply bA); exact BK236.out), (by (with_reducible repeat first | apply bN | apply bD | apply bA); exact BK244.out), GW244.out, GE244.out, NB234_244.out, NB244_234.out, NB235_244.out, NB244_235.out, NB236_244.out, NB244_236.out, (by repeat (first | (with_reducible first | exact HB.out | apply pA | apply pN | apply pD | refine bS ?_ GE234.out | refine bS ?_ GE235.out | refine bS ?_ GE236.out | refine bS ?_ GE244.out) | exact HB.out))⟩)
     ·skip
      refine box_step ?hg (N := 6) ?hd (cs := #[.int .i64 0, .slice none 0 0]) (t := 29) ?hr ?_; (case hd => rfl); (case hg => rfl); (case hr => first | (go_simp; done) | (go_simp; rfl))
      intro gb244 hg w19 hbox hb
      have n0_ := A0k (Kd.R_below (by (with_reducible repeat first | apply rA | apply rN | apply rD); exact HO240.out) hb)
      have n1_ := A0k (bB (g := gb234) (o := .cells #[.int .i64 a0_0, .slice A0_1 l0_1.length c0_1] 29 (0, 0)) (by (with_reducible repeat first | apply bN | apply bD | apply bA); exact BK234.out) hb)
      have n2_ := A0k (bB (g := gb235) (o := .cells #[.int .i64 a1_0, .int .i64 a1_1] 39 (0, 0)) (by (with_reducible repeat first | apply bN | apply bD | apply bA); exact BK235.out) hb)
      have n3_ := A0k (bB (g := gb236) (o := .cells #[.int .i64 0, .slice none 0 0] 29 (0, 0)) (by (with_reducible repeat first | apply bN | apply bD | apply bA); exact BK236.out) hb)
      have n4_ := A0k (pS (by repeat (first | (with_reducible first | exact HB.out | apply pA | apply pN | apply pD | refine bS ?_ GE234.out | refine bS ?_ GE235.out | refine bS ?_ GE236.out) | exact HB.out)) hb)
      have n5_ := A0k (hbox)
      have n6_ := A0k ((by rw [hg]; exact (pZ (by repeat (first | (with_reducible first | exact HB.out | apply pA | apply pN | apply pD | refine bS ?_ GE234.out | refine bS ?_ GE235.out | refine bS ?_ GE236.out) | exact HB.out))) : w.heap.size ≤ gb244))
      have n7_ := A0k ((by rw [hg]; exact (pZ (by repeat (first | (with_reducible first | exact HB.out | apply pA | apply pN | apply pD | refine bS ?_ GE234.out | refine bS ?_ GE235.out | refine bS ?_ GE236.out) | exact HB.out))) : w.heap.size ≤ gb244))
      have n8_ := A0k ((by rw [hg]; exact Nat.ne_of_lt (bL (g := gb234) (o := .cells #[.int .i64 a0_0, .slice A0_1 l0_1.length c0_1] 29 (0, 0)) (by (with_reducible repeat first | apply bN | apply bD | apply bA); exact BK234.out)) : gb234 ≠ gb244))
      have n9_ := A0k ((by rw [hg]; exact Nat.ne_of_gt (bL (g := gb234) (o := .cells #[.int .i64 a0_0, .slice A0_1 l0_1.length c0_1] 29 (0, 0)) (by (with_reducible repeat first | apply bN | apply bD | apply bA); exact BK234.out)) : gb244 ≠ gb234))
      have n10_ := A0k ((by rw [hg]; exact Nat.ne_of_lt (bL (g := gb235) (o := .cells #[.int .i64 a1_0, .int .i64 a1_1] 39 (0, 0)) (by (with_reducible repeat first | apply bN | apply bD | apply bA); exact BK235.out)) : gb235 ≠ gb244))
      have n11_ := A0k ((by rw [hg]; exact Nat.ne_of_gt (bL (g := gb235) (o := .cells #[.int .i64 a1_0, .int .i64 a1_1] 39 (0, 0)) (by (with_reducible repeat first | apply bN | apply bD | apply bA); exact BK235.out)) : gb244 ≠ gb235))
      have n12_ := A0k ((by rw [hg]; exact Nat.ne_of_lt (bL (g := gb236) (o := .cells #[.int .i64 0, .slice none 0 0] 29 (0, 0)) (by (with_reducible repeat first | apply bN | apply bD | apply bA); exact BK236.out)) : gb236 ≠ gb244))
      have n13_ := A0k ((by rw [hg]; exact Nat.ne_of_gt (bL (g := gb236) (o := .cells #[.int .i64 0, .slice none 0 0] 29 (0, 0)) (by (with_reducible repeat first | apply bN | apply bD | apply bA); exact BK236.out)) : gb244 ≠ gb236))
      clear HO240
      clear BK234
      clear BK235
      clear BK236
      clear HB
      have HO240 := n0_
      have BK234 := n1_
      have BK235 := n2_
      have BK236 := n3_
      have HB := n4_
      have BK244 := n5_
      have GW244 := n6_
      have GE244 := n7_
      have NB234_244 := n8_
      have NB244_234 := n9_
      have NB235_244 := n10_
      have NB244_235 := n11_
      have NB236_244 := n12_
      have NB244_236 := n13_
      clear n0_ n1_ n2_ n3_ n4_ n5_ n6_ n7_ n8_ n9_ n10_ n11_ n12_ n13_
      clear hb hbox hg
      refine hK.out _ _ ⟨(bC BK234.out 0).trans rfl, (bC BK234.out 1).trans rfl⟩ (fun hHeld => ?_)
      clear hK K
      refine norm_ (a' := ?_) ?_ ?_
      rotate_left
      ·show Act.put _ (some 6) _ = _
       simp only [Act.put, lS, lZ, lC, i64_w, i32_w]
       rfl
      refine one_ (i := 6) (N := some 22) #[T, T, T, T, T, T, T, F, T, F] rfl rfl (one_of HT_.out (by kernel_rfl)) (by decide) (fun K hK => ?_)
      refine Kd.R_append_rows_step k39 (w0 := w) w.heap.size (by rfl) (.tmp 19) (.tmp 21) 27 39 (.agg #[(.int .i64 0), (.int .i64 0)]) 16 rfl Tryd.underlying27 info39 rfl (by decide) (by omega) v239 y238 l0_1 _ _ _ (fun k_ => k_ ≠ gb235) (fun _ => False) rfl rfl ?aO ?aR (fun _ _ h => h) (fun _ h => h.elim) ?aF ?aB ?aS ?aL ?_
      (case aR => repeat (first | exact (Kd.C_below HR0_1.out HB.out) | (with_reducible refine Kd.C_alloc ?_ _) | (with_reducible refine Kd.C_drewN ?_ _) | (with_reducible refine Kd.C_drew ?_)))
      (case aB => exact (by repeat (first | (with_reducible first | exact HB.out | apply pA | apply pN | apply pD | refine bS ?_ GE234.out | refine bS ?_ GE235.out | refine bS ?_ GE236.out | refine bS ?_ GE244.out) | exact HB.out)))
      (case aF => exact (fun k_ hk => Kd.freshB (g := gb235) (o := .cells #[.int .i64 a1_0, .int .i64 a1_1] 39 (0, 0)) (by (with_reducible repeat first | apply bN | apply bD | apply bA); exact BK235.out) k_ hk))
      (case aO => exact (by (with_reducible repeat first | apply rA | apply rN | apply rD); exact Kd.R_mono HO240.out (fun _ hk => hk.2)))
      (case aS => exact (pZ (by repeat (first | (with_reducible first | exact HB.out | apply pA | apply pN | apply pD | refine bS ?_ GE234.out | refine bS ?_ GE235.out | refine bS ?_ GE236.out | refine bS ?_ GE244.out) | exact HB.out))))
      (case aL => have := LMc5.out; omega)
      intro v242 w20 ho hb hg hat
      rw [← Ny241.out] at ho
      have n0_ := A0k (blk_grown (g := gb234) (o := .cells #[.int .i64 a0_0, .slice A0_1 l0_1.length c0_1] 29 (0, 0)) (by (with_reducible repeat first | apply bN | apply bD | apply bA); exact BK234.out) hg (Kd.R_ne HO240.out BK234.out (by decide)))
      have n1_ := A0k (blk_grown (g := gb235) (o := .cells #[.int .i64 a1_0, .int .i64 a1_1] 39 (0, 0)) (by (with_reducible repeat first | apply bN | apply bD | apply bA); exact BK235.out) hg (Kd.R_away HO240.out (fun _ hk => hk.2)))
      have n2_ := A0k (blk_grown (g := gb236) (o := .cells #[.int .i64 0, .slice none 0 0] 29 (0, 0)) (by (with_reducible repeat first | apply bN | apply bD | apply bA); exact BK236.out) hg (Kd.R_ne HO240.out BK236.out (by decide)))
      have n3_ := A0k (blk_grown (g := gb244) (o := .cells #[.int .i64 0, .slice none 0 0] 29 (0, 0)) (by (with_reducible repeat first | apply bN | apply bD | apply bA); exact BK244.out) hg (Kd.R_ne HO240.out BK244.out (by decide)))
      have n4_ := A0k (hb)
      have n5_ := A0k (ho)
      clear BK234
      clear BK235
      clear BK236
      clear BK244
      clear HB
      clear HO240
      have BK234 := n0_
      have BK235 := n1_
      have BK236 := n2_
      have BK244 := n3_
      have HB := n4_
      have HO243 := n5_
      clear n0_ n1_ n2_ n3_ n4_ n5_
      clear ho hb hg hat
      obtain ⟨Ao21, co21, eo21⟩ := Kd.R_slice HO243.out
      (first | subst eo21 | (injection eo21 with f1_ f2_ f3_; have f4_ := f1_.symm; have f5_ := f3_.symm; clear f1_ f2_ f3_; subst f4_; subst f5_))
      refine hK.out _ _ ⟨(bC BK234.out 0).trans rfl, (bC BK234.out 1).trans rfl⟩ (fun hHeld => ?_)
      clear hK K
      refine norm_ (a' := ?_) ?_ ?_
      rotate_left
      ·show Act.put _ (some 22) _ = _
       simp only [Act.put, lS, lZ, lC, i64_w, i32_w]
       rfl
      refine pure_ (i := 7) (N := some 23) (v := ?_) (a' := ?_) #[T, T, T, T, T, T, T, T, T, F] rfl rfl (any_of HT_.out (by kernel_rfl)) (fun _ _ _ h => h) (Or.inl ⟨by rfl, ?_⟩) ?_ ?_
      rotate_left
      ·intro w'
       go_simp
       with_reducible rfl
      rotate_left
      ·simp only [Act.put, lS, lZ, lC, i64_w, i32_w]
       rfl
      exact norm_ (by simp only [putAll, Act.put, lS, lZ, lC]) (hCont (v239, .slice Ao21 y241.length co21, gb244) _ ⟨hHeld, (by (with_reducible repeat first | apply rA | apply rN | apply rD); exact HO243.out), (by (with_reducible repeat first | apply bN | apply bD | apply bA); exact BK234.out), (by (with_reducible repeat first | apply bN | apply bD | apply bA); exact BK235.out), (by (with_reducible repeat first | apply bN | apply bD | apply bA); exact BK236.out), (by (with_reducible repeat first | apply bN | apply bD | apply bA); exact BK244.out), GW244.out, GE244.out, NB234_244.out, NB244_234.out, NB235_244.out, NB244_235.out, NB236_244.out, NB244_236.out, (by repeat (first | (with_reducible first | exact HB.out | apply pA | apply pN | apply pD | refine bS ?_ GE234.out | refine bS ?_ GE235.out | refine bS ?_ GE236.out | refine bS ?_ GE244.out) | exact HB.out))⟩)
    ·skip
     refine box_step ?hg (N := 6) ?hd (cs := #[.int .i64 0, .slice none 0 0]) (t := 29) ?hr ?_; (case hd => rfl); (case hg => rfl); (case hr => first | (go_simp; done) | (go_simp; rfl))
     intro gb244 hg w17 hbox hb
     have n0_ := A0k (bB (g := gb234) (o := .cells #[.int .i64 a0_0, .slice A0_1 l0_1.length c0_1] 29 (0, 0)) (by (with_reducible repeat first | apply bN | apply bD | apply bA); exact BK234.out) hb)
     have n1_ := A0k (bB (g := gb235) (o := .cells #[.int .i64 a1_0, .int .i64 a1_1] 39 (0, 0)) (by (with_reducible repeat first | apply bN | apply bD | apply bA); exact BK235.out) hb)
     have n2_ := A0k (bB (g := gb236) (o := .cells #[.int .i64 0, .slice none 0 0] 29 (0, 0)) (by (with_reducible repeat first | apply bN | apply bD | apply bA); exact BK236.out) hb)
     have n3_ := A0k (pS (by repeat (first | (with_reducible first | exact HB.out | apply pA | apply pN | apply pD | refine bS ?_ GE234.out | refine bS ?_ GE235.out | refine bS ?_ GE236.out) | exact HB.out)) hb)
     have n4_ := A0k (hbox)
     have n5_ := A0k ((by rw [hg]; exact (pZ (by repeat (first | (with_reducible first | exact HB.out | apply pA | apply pN | apply pD | refine bS ?_ GE234.out | refine bS ?_ GE235.out | refine bS ?_ GE236.out) | exact HB.out))) : w.heap.size ≤ gb244))
     have n6_ := A0k ((by rw [hg]; exact (pZ (by repeat (first | (with_reducible first | exact HB.out | apply pA | apply pN | apply pD | refine bS ?_ GE234.out | refine bS ?_ GE235.out | refine bS ?_ GE236.out) | exact HB.out))) : w.heap.size ≤ gb244))
     have n7_ := A0k ((by rw [hg]; exact Nat.ne_of_lt (bL (g := gb234) (o := .cells #[.int .i64 a0_0, .slice A0_1 l0_1.length c0_1] 29 (0, 0)) (by (with_reducible repeat first | apply bN | apply bD | apply bA); exact BK234.out)) : gb234 ≠ gb244))
     have n8_ := A0k ((by rw [hg]; exact Nat.ne_of_gt (bL (g := gb234) (o := .cells #[.int .i64 a0_0, .slice A0_1 l0_1.length c0_1] 29 (0, 0)) (by (with_reducible repeat first | apply bN | apply bD | apply bA); exact BK234.out)) : gb244 ≠ gb234))
     have n9_ := A0k ((by rw [hg]; exact Nat.ne_of_lt (bL (g := gb235) (o := .cells #[.int .i64 a1_0, .int .i64 a1_1] 39 (0, 0)) (by (with_reducible repeat first | apply bN | apply bD | apply bA); exact BK235.out)) : gb235 ≠ gb244))
     have n10_ := A0k ((by rw [hg]; exact Nat.ne_of_gt (bL (g := gb235) (o := .cells #[.int .i64 a1_0, .int .i64 a1_1] 39 (0, 0)) (by (with_reducible repeat first | apply bN | apply bD | apply bA); exact BK235.out)) : gb244 ≠ gb235))
     have n11_ := A0k ((by rw [hg]; exact Nat.ne_of_lt (bL (g := gb236) (o := .cells #[.int .i64 0, .slice none 0 0] 29 (0, 0)) (by (with_reducible repeat first | apply bN | apply bD | apply bA); exact BK236.out)) : gb236 ≠ gb244))
     have n12_ := A0k ((by rw [hg]; exact Nat.ne_of_gt (bL (g := gb236) (o := .cells #[.int .i64 0, .slice none 0 0] 29 (0, 0)) (by (with_reducible repeat first | apply bN | apply bD | apply bA); exact BK236.out)) : gb244 ≠ gb236))
     clear BK234
     clear BK235
     clear BK236
     clear HB
     have BK234 := n0_
     have BK235 := n1_
     have BK236 := n2_
     have HB := n3_
     have BK244 := n4_
     have GW244 := n5_
     have GE244 := n6_
     have NB234_244 := n7_
     have NB244_234 := n8_
     have NB235_244 := n9_
     have NB244_235 := n10_
     have NB236_244 := n11_
     have NB244_236 := n12_
     clear n0_ n1_ n2_ n3_ n4_ n5_ n6_ n7_ n8_ n9_ n10_ n11_ n12_
     clear hb hbox hg
     refine hK.out _ _ ⟨(bC BK234.out 0).trans rfl, (bC BK234.out 1).trans rfl⟩ (fun hHeld => ?_)
     clear hK K
     refine norm_ (a' := ?_) ?_ ?_
     rotate_left
     ·show Act.put _ (some 6) _ = _
      simp only [Act.put, lS, lZ, lC, i64_w, i32_w]
      rfl
     refine one_ (i := 3) (N := some 19) #[T, T, T, T, T, T, F, F, T, F] rfl rfl (one_of HT_.out (by kernel_rfl)) (by decide) (fun K hK => ?_)
     refine Kd.R_lit_step k39 _ 39 ?hg (N := 19) ?hd (xs := ([] : List (S39))) (inner := []) (ok := fun _ => True) (okp := fun _ => True) ?hr ?hp (fun _ hk => hk) trivial (Below.refl _ _) (Nat.le_refl _) (by simp) ?_; (case hd => rfl); (case hg => rfl); (case hr => first | (go_simp; done) | (go_simp; rfl)); (case hp => exact (Reps.none _ _))
     intro v239 w18 ho19 hb hg_ hnew_
     clear hg_ hnew_
     (first | rw [← Ny238.out] at ho19 | (simp only [Int.reduceToNat] at ho19; rw [← Ny238.out] at ho19))
     have n0_ := A0k (Kd.R_lower (Kd.R_newB ho19 (g := gb235) (o := .cells #[.int .i64 a1_0, .int .i64 a1_1] 39 (0, 0)) (by (with_reducible repeat first | apply bN | apply bD | apply bA); exact BK235.out)) (pZ (by repeat (first | (with_reducible first | exact HB.out | apply pA | apply pN | apply pD | refine bS ?_ GE234.out | refine bS ?_ GE235.out | refine bS ?_ GE236.out | refine bS ?_ GE244.out) | exact HB.out))))
     have n1_ := A0k (bB (g := gb234) (o := .cells #[.int .i64 a0_0, .slice A0_1 l0_1.length c0_1] 29 (0, 0)) (by (with_reducible repeat first | apply bN | apply bD | apply bA); exact BK234.out) hb)
     have n2_ := A0k (bB (g := gb235) (o := .cells #[.int .i64 a1_0, .int .i64 a1_1] 39 (0, 0)) (by (with_reducible repeat first | apply bN | apply bD | apply bA); exact BK235.out) hb)
     have n3_ := A0k (bB (g := gb236) (o := .cells #[.int .i64 0, .slice none 0 0] 29 (0, 0)) (by (with_reducible repeat first | apply bN | apply bD | apply bA); exact BK236.out) hb)
     have n4_ := A0k (bB (g := gb244) (o := .cells #[.int .i64 0, .slice none 0 0] 29 (0, 0)) (by (with_reducible repeat first | apply bN | apply bD | apply bA); exact BK244.out) hb)
     have n5_ := A0k (pS (by repeat (first | (with_reducible first | exact HB.out | apply pA | apply pN | apply pD | refine bS ?_ GE234.out | refine bS ?_ GE235.out | refine bS ?_ GE236.out | refine bS ?_ GE244.out) | exact HB.out)) hb)
     clear BK234
     clear BK235
     clear BK236
     clear BK244
     clear HB
     have HO240 := n0_
     have BK234 := n1_
     have BK235 := n2_
     have BK236 := n3_
     have BK244 := n4_
     have HB := n5_
     clear n0_ n1_ n2_ n3_ n4_ n5_
     clear hb ho19
     refine hK.out _ _ ⟨(bC BK234.out 0).trans rfl, (bC BK234.out 1).trans rfl⟩ (fun hHeld => ?_)
     clear hK K
     refine norm_ (a' := ?_) ?_ ?_
     rotate_left
     ·show Act.put _ (some 19) _ = _
      simp only [Act.put, lS, lZ, lC, i64_w, i32_w]
      rfl
     refine one_ (i := 6) (N := some 22) #[T, T, T, T, T, T, T, F, T, F] rfl rfl (one_of HT_.out (by kernel_rfl)) (by decide) (fun K hK => ?_)
     refine Kd.R_append_rows_step k39 (w0 := w) w.heap.size (by rfl) (.tmp 19) (.tmp 21) 27 39 (.agg #[(.int .i64 0), (.int .i64 0)]) 16 rfl Tryd.underlying27 info39 rfl (by decide) (by omega) v239 y238 l0_1 _ _ _ (fun k_ => k_ ≠ gb235) (fun _ => False) rfl rfl ?aO ?aR (fun _ _ h => h) (fun _ h => h.elim) ?aF ?aB ?aS ?aL ?_
     (case aR => repeat (first | exact (Kd.C_below HR0_1.out HB.out) | (with_reducible refine Kd.C_alloc ?_ _) | (with_reducible refine Kd.C_drewN ?_ _) | (with_reducible refine Kd.C_drew ?_)))
     (case aB => exact (by repeat (first | (with_reducible first | exact HB.out | apply pA | apply pN | apply pD | refine bS ?_ GE234.out | refine bS ?_ GE235.out | refine bS ?_ GE236.out | refine bS ?_ GE244.out) | exact HB.out)))
     (case aF => exact (fun k_ hk => Kd.freshB (g := gb235) (o := .cells #[.int .i64 a1_0, .int .i64 a1_1] 39 (0, 0)) (by (with_reducible repeat first | apply bN | apply bD | apply bA); exact BK235.out) k_ hk))
     (case aO => exact (by (with_reducible repeat first | apply rA | apply rN | apply rD); exact Kd.R_mono HO240.out (fun _ hk => hk.2)))
     (case aS => exact (pZ (by repeat (first | (with_reducible first | exact HB.out | apply pA | apply pN | apply pD | refine bS ?_ GE234.out | refine bS ?_ GE235.out | refine bS ?_ GE236.out | refine bS ?_ GE244.out) | exact HB.out))))
     (case aL => have := LMc5.out; omega)
     intro v242 w20 ho hb hg hat
     rw [← Ny241.out] at ho
     have n0_ := A0k (blk_grown (g := gb234) (o := .cells #[.int .i64 a0_0, .slice A0_1 l0_1.length c0_1] 29 (0, 0)) (by (with_reducible repeat first | apply bN | apply bD | apply bA); exact BK234.out) hg (Kd.R_ne HO240.out BK234.out (by decide)))
     have n1_ := A0k (blk_grown (g := gb235) (o := .cells #[.int .i64 a1_0, .int .i64 a1_1] 39 (0, 0)) (by (with_reducible repeat first | apply bN | apply bD | apply bA); exact BK235.out) hg (Kd.R_away HO240.out (fun _ hk => hk.2)))
     have n2_ := A0k (blk_grown (g := gb236) (o := .cells #[.int .i64 0, .slice none 0 0] 29 (0, 0)) (by (with_reducible repeat first | apply bN | apply bD | apply bA); exact BK236.out) hg (Kd.R_ne HO240.out BK236.out (by decide)))
     have n3_ := A0k (blk_grown (g := gb244) (o := .cells #[.int .i64 0, .slice none 0 0] 29 (0, 0)) (by (with_reducible repeat first | apply bN | apply bD | apply bA); exact BK244.out) hg (Kd.R_ne HO240.out BK244.out (by decide)))
     have n4_ := A0k (hb)
     have n5_ := A0k (ho)
     clear BK234
     clear BK235
     clear BK236
     clear BK244
     clear HB
     clear HO240
     have BK234 := n0_
     have BK235 := n1_
     have BK236 := n2_
     have BK244 := n3_
     have HB := n4_
     have HO243 := n5_
     clear n0_ n1_ n2_ n3_ n4_ n5_
     clear ho hb hg hat
     obtain ⟨Ao21, co21, eo21⟩ := Kd.R_slice HO243.out
     (first | subst eo21 | (injection eo21 with f1_ f2_ f3_; have f4_ := f1_.symm; have f5_ := f3_.symm; clear f1_ f2_ f3_; subst f4_; subst f5_))
     refine hK.out _ _ ⟨(bC BK234.out 0).trans rfl, (bC BK234.out 1).trans rfl⟩ (fun hHeld => ?_)
     clear hK K
     refine norm_ (a' := ?_) ?_ ?_
     rotate_left
     ·show Act.put _ (some 22) _ = _
      simp only [Act.put, lS, lZ, lC, i64_w, i32_w]
      rfl
     refine pure_ (i := 7) (N := some 23) (v := ?_) (a' := ?_) #[T, T, T, T, T, T, T, T, T, F] rfl rfl (any_of HT_.out (by kernel_rfl)) (fun _ _ _ h => h) (Or.inl ⟨by rfl, ?_⟩) ?_ ?_
     rotate_left
     ·intro w'
      go_simp
      with_reducible rfl
     rotate_left
     ·simp only [Act.put, lS, lZ, lC, i64_w, i32_w]
      rfl
     exact norm_ (by simp only [putAll, Act.put, lS, lZ, lC]) (hCont (v239, .slice Ao21 y241.length co21, gb244) _ ⟨hHeld, (by (with_reducible repeat first | apply rA | apply rN | apply rD); exact HO243.out), (by (with_reducible repeat first | apply bN | apply bD | apply bA); exact BK234.out), (by (with_reducible repeat first | apply bN | apply bD | apply bA); exact BK235.out), (by (with_reducible repeat first | apply bN | apply bD | apply bA); exact BK236.out), (by (with_reducible repeat first | apply bN | apply bD | apply bA); exact BK244.out), GW244.out, GE244.out, NB234_244.out, NB244_234.out, NB235_244.out, NB244_235.out, NB236_244.out, NB244_236.out, (by repeat (first | (with_reducible first | exact HB.out | apply pA | apply pN | apply pD | refine bS ?_ GE234.out | refine bS ?_ GE235.out | refine bS ?_ GE236.out | refine bS ?_ GE244.out) | exact HB.out))⟩)
   rintro ⟨v239, v242, gb244⟩ w22 ⟨hS_, h0_, h1_, h2_, h3_, h4_, h5_, h6_, h7_, h8_, h9_, h10_, h11_, h12_, h13_⟩
   have n0_ : Aside0 (Kd.R k39 39 w22 w.heap.size (fun k_ => k_ ≠ gb235) v242 y241) := ⟨h0_⟩
   have n1_ : Aside0 (w22.heap[gb234]? = some (.cells #[.int .i64 a0_0, .slice A0_1 l0_1.length c0_1] 29 (0, 0))) := ⟨h1_⟩
   have n2_ : Aside0 (w22.heap[gb235]? = some (.cells #[.int .i64 a1_0, .int .i64 a1_1] 39 (0, 0))) := ⟨h2_⟩
   have n3_ : Aside0 (w22.heap[gb236]? = some (.cells #[.int .i64 0, .slice none 0 0] 29 (0, 0))) := ⟨h3_⟩
   have n4_ : Aside0 (w22.heap[gb244]? = some (.cells #[.int .i64 0, .slice none 0 0] 29 (0, 0))) := ⟨h4_⟩
   have n5_ : Aside0 (w.heap.size ≤ gb244) := ⟨h5_⟩
   have n6_ : Aside0 (w.heap.size ≤ gb244) := ⟨h6_⟩
   have n7_ : Aside0 (gb234 ≠ gb244) := ⟨h7_⟩
   have n8_ : Aside0 (gb244 ≠ gb234) := ⟨h8_⟩
   have n9_ : Aside0 (gb235 ≠ gb244) := ⟨h9_⟩
   have n10_ : Aside0 (gb244 ≠ gb235) := ⟨h10_⟩
   have n11_ : Aside0 (gb236 ≠ gb244) := ⟨h11_⟩
   have n12_ : Aside0 (gb244 ≠ gb236) := ⟨h12_⟩
   have n13_ : Aside0 (Below w.heap.size w w22) := ⟨h13_⟩
   clear BK234
   clear BK235
   clear BK236
   clear HB
   clear h0_ h1_ h2_ h3_ h4_ h5_ h6_ h7_ h8_ h9_ h10_ h11_ h12_ h13_
   have HO243 := n0_
   have BK234 := n1_
   have BK235 := n2_
   have BK236 := n3_
   have BK244 := n4_
   have GW244 := n5_
   have GE244 := n6_
   have NB234_244 := n7_
   have NB244_234 := n8_
   have NB235_244 := n9_
   have NB244_235 := n10_
   have NB236_244 := n11_
   have NB244_236 := n12_
   have HB := n13_
   clear n0_ n1_ n2_ n3_ n4_ n5_ n6_ n7_ n8_ n9_ n10_ n11_ n12_ n13_
   have hHeld : w22.cell? ⟨gb234, 0, none⟩ = some (.int .i64 a0_0) ∧ w22.cell? ⟨gb234, 1, none⟩ = some (.slice A0_1 l0_1.length c0_1) := hS_
   obtain ⟨Ao23, co23, eo23⟩ := Kd.R_slice HO243.out
   (first | subst eo23 | (injection eo23 with f1_ f2_ f3_; have f4_ := f1_.symm; have f5_ := f3_.symm; clear f1_ f2_ f3_; subst f4_; subst f5_))
   refine norm_ (a' := ?_) ?_ ?_
   rotate_left
   ·simp only [putAll, Act.put, lS, lZ, lC]
    rfl
   refine one_ (i := 9) (N := none) #[T, T, T, T, T, T, T, T, T, T] rfl rfl (one_of HT_.out (by kernel_rfl)) (by decide) (fun K hK => ?_)
   have hs24 : w22.cell? ⟨gb244, 0, none⟩ = some (.int .i64 0) := (bC BK244.out 0).trans rfl
   have hfs24 := bF BK244.out 0
   have hns24_0 := NB234_244.out
   have hns24_1 := NB235_244.out
   have hns24_2 := NB236_244.out
   have hms24_0 := NB244_234.out
   have hms24_1 := NB244_235.out
   have hms24_2 := NB244_236.out
   have hs25 : w22.cell? ⟨gb244, 1, none⟩ = some (.slice none 0 0) := (bC BK244.out 1).trans rfl
   have hfs25 := bF BK244.out 1
   have hns25_0 := NB234_244.out
   have hns25_1 := NB235_244.out
   have hns25_2 := NB236_244.out
   have hms25_0 := NB244_234.out
   have hms25_1 := NB244_235.out
   have hms25_2 := NB244_236.out
   refine skip_ (w1 := ?_) (by rfl) rfl ?_ ?_
   rotate_left
   ·go_simp
    rfl
   refine hK.out _ _ ⟨((cF (p := ⟨gb244, _, none⟩) NB234_244.out _).trans (((cF (p := ⟨gb244, _, none⟩) NB234_244.out _).trans (hHeld.1)))), ((cF (p := ⟨gb244, _, none⟩) NB234_244.out _).trans (((cF (p := ⟨gb244, _, none⟩) NB234_244.out _).trans (hHeld.2))))⟩ (fun hHeld => ?_)
   clear hK K
   refine done_ (done_of HT_.out (by kernel_rfl)) ?_
   have hnb26 := NB244_234.out
   have hnc26 := NB234_244.out
   have hnb27 := NB244_235.out
   have hnc27 := NB235_244.out
   have hnb28 := NB244_236.out
   have hnc28 := NB236_244.out
   have hcz29_0 : w22.cell? ⟨gb244, 0, none⟩ = some (.int .i64 0) := (bC BK244.out 0).trans rfl
   have hcz29_1 : w22.cell? ⟨gb244, 1, none⟩ = some (.slice none 0 0) := (bC BK244.out 1).trans rfl
   have hfz29_0 := bF BK244.out 0
   have hfz29_1 := bF BK244.out 1
   go_upto_region 5 with (fail)
   go_cut [48] (fun v48 wc => ∃ (kq : Nat) (x48_5 : Bool), v48 = .bool x48_5 ∧ Aside0 (Wj0 kq (y241.length : Int) x48_5 a1_0 a1_1 (wrap64 (a0_0 + 1)) y241 = some (r1, r2, r3)) ∧ Aside0 (kq ≤ k) ∧ Aside0 (Kd.R k39 39 wc w.heap.size (fun k_ => k_ ≠ gb235) (.slice Ao23 y241.length co23) y241) ∧ Aside0 (wc.heap[gb234]? = some (.cells #[.int .i64 a0_0, (.slice A0_1 l0_1.length c0_1)] 29 (0, 0))) ∧ Aside0 (wc.heap[gb235]? = some (.cells #[.int .i64 a1_0, .int .i64 a1_1] 39 (0, 0))) ∧ Aside0 (wc.heap[gb236]? = some (.cells #[.int .i64 0, (.slice none 0 0)] 29 (0, 0))) ∧ Aside0 (wc.heap[gb244]? = some (.cells #[.int .i64 (wrap64 (a0_0 + 1)), (.slice Ao23 y241.length co23)] 29 (0, 0))) ∧ Aside0 (Below w.heap.size w wc))
   case first =>
    as_aux_lemma =>
    have H := HC6.out
    clear HC6
    by_cases c30 : (y241.length : Int) > 0
    ·rw [if_pos c30] at H
     have c30b0 : decide (0 < (y241.length : Int)) = true := decide_eq_true c30
     have c30b1 : decide (0 < y241.length) = true := decide_eq_true (by omega)
     clear c30
     (first | rw [c30b0] | (simp only [i64_w, i32_w]; rw [c30b0]) | skip)
     obtain ⟨ji31, hji31⟩ : ∃ j_ : Int, (wrap64 ((y241.length : Int) - 1)) = j_ := ⟨_, rfl⟩
     replace H : (if 0 ≤ (ji31) then (if (ji31) < (y241.length : Int) then (Wj0 k (y241.length : Int) ((wrap64 (((d0_ y241 (ji31)).f0) + ((d0_ y241 (ji31)).f1))) == a1_0) a1_0 a1_1 (wrap64 (a0_0 + 1)) y241) else (none)) else (none)) = some (r1, r2, r3) := by first | (rw [hji31] at H; exact H) | (simp only [hji31] at H ⊢; exact H)
     have hji31w : (IntKind.i64.wrap ((y241.length : Int) - 1)) = ji31 := (i64_w _).trans hji31
     by_cases c32 : 0 ≤ (ji31)
     ·rw [if_pos c32] at H
      have c32b0 : decide (0 ≤ (ji31)) = true := decide_eq_true c32
      clear c32
      by_cases c33 : (ji31) < (y241.length : Int)
      ·rw [if_pos c33] at H
       have c33b0 : decide ((ji31) < (y241.length : Int)) = true := decide_eq_true c33
       clear c33
       have H' := A0k H
       clear H
       try go_wp2
       have n0_ : Aside0 (Kd.R k39 39 ((w22.setCell ⟨gb244, 0, none⟩ (.int .i64 (wrap64 (a0_0 + 1)))).setCell ⟨gb244, 1, none⟩ (.slice Ao23 y241.length co23)) w.heap.size (fun k_ => k_ ≠ gb235) (.slice Ao23 y241.length co23) y241) := ⟨by (with_reducible repeat first | apply rA | apply rN | apply rD); exact Kd.R_mono (Kd.R_far (p := ⟨gb244, 1, none⟩) (Kd.R_far (p := ⟨gb244, 0, none⟩) (Kd.R_types HO243.out BK244.out (by decide)) (fun _ hk => hk.2) (.int .i64 (wrap64 (a0_0 + 1)))) (fun _ hk => hk.2) (.slice Ao23 y241.length co23)) (fun _ hk => hk.1)⟩
       have n1_ : Aside0 (((w22.setCell ⟨gb244, 0, none⟩ (.int .i64 (wrap64 (a0_0 + 1)))).setCell ⟨gb244, 1, none⟩ (.slice Ao23 y241.length co23)).heap[gb234]? = some (.cells #[.int .i64 a0_0, .slice A0_1 l0_1.length c0_1] 29 (0, 0))) := ⟨by (with_reducible repeat first | apply bN | apply bD | apply bA); refine bR ?_ NB234_244.out _; (with_reducible repeat first | apply bN | apply bD | apply bA); refine bR ?_ NB234_244.out _; (with_reducible repeat first | apply bN | apply bD | apply bA); exact BK234.out⟩
       have n2_ : Aside0 (((w22.setCell ⟨gb244, 0, none⟩ (.int .i64 (wrap64 (a0_0 + 1)))).setCell ⟨gb244, 1, none⟩ (.slice Ao23 y241.length co23)).heap[gb235]? = some (.cells #[.int .i64 a1_0, .int .i64 a1_1] 39 (0, 0))) := ⟨by (with_reducible repeat first | apply bN | apply bD | apply bA); refine bR ?_ NB235_244.out _; (with_reducible repeat first | apply bN | apply bD | apply bA); refine bR ?_ NB235_244.out _; (with_reducible repeat first | apply bN | apply bD | apply bA); exact BK235.out⟩
       have n3_ : Aside0 (((w22.setCell ⟨gb244, 0, none⟩ (.int .i64 (wrap64 (a0_0 + 1)))).setCell ⟨gb244, 1, none⟩ (.slice Ao23 y241.length co23)).heap[gb236]? = some (.cells #[.int .i64 0, .slice none 0 0] 29 (0, 0))) := ⟨by (with_reducible repeat first | apply bN | apply bD | apply bA); refine bR ?_ NB236_244.out _; (with_reducible repeat first | apply bN | apply bD | apply bA); refine bR ?_ NB236_244.out _; (with_reducible repeat first | apply bN | apply bD | apply bA); exact BK236.out⟩
       have n4_ : Aside0 (((w22.setCell ⟨gb244, 0, none⟩ (.int .i64 (wrap64 (a0_0 + 1)))).setCell ⟨gb244, 1, none⟩ (.slice Ao23 y241.length co23)).heap[gb244]? = some (.cells #[.int .i64 (wrap64 (a0_0 + 1)), .slice Ao23 y241.length co23] 29 (0, 0))) := ⟨by (with_reducible repeat first | apply bN | apply bD | apply bA); refine bP (cs := #[.int .i64 (wrap64 (a0_0 + 1)), .slice none 0 0]) ?_ 1 _ rfl; (with_reducible repeat first | apply bN | apply bD | apply bA); refine bP (cs := #[.int .i64 0, .slice none 0 0]) ?_ 0 _ rfl; (with_reducible repeat first | apply bN | apply bD | apply bA); exact BK244.out⟩
       have n5_ : Aside0 (Below w.heap.size w ((w22.setCell ⟨gb244, 0, none⟩ (.int .i64 (wrap64 (a0_0 + 1)))).setCell ⟨gb244, 1, none⟩ (.slice Ao23 y241.length co23))) := ⟨by repeat (first | (with_reducible first | exact HB.out | apply pA | apply pN | apply pD | refine bS ?_ GE234.out | refine bS ?_ GE235.out | refine bS ?_ GE236.out | refine bS ?_ GE244.out) | exact HB.out)⟩
       (try clear HO243)
       (try clear BK234)
       (try clear BK235)
       (try clear BK236)
       (try clear BK244)
       (try clear HB)
       generalize ((w22.setCell ⟨gb244, 0, none⟩ (.int .i64 (wrap64 (a0_0 + 1)))).setCell ⟨gb244, 1, none⟩ (.slice Ao23 y241.length co23)) = w34 at n0_ n1_ n2_ n3_ n4_ n5_ ⊢
       have HO243 := n0_
       have BK234 := n1_
       have BK235 := n2_
       have BK236 := n3_
       have BK244 := n4_
       have HB := n5_
       clear n0_ n1_ n2_ n3_ n4_ n5_
       have n0_ := A0k (Kd.R_drew HO243.out)
       have n1_ := A0k (bD BK234.out)
       have n2_ := A0k (bD BK235.out)
       have n3_ := A0k (bD BK236.out)
       have n4_ := A0k (bD BK244.out)
       have n5_ := A0k (pD HB.out)
       clear HO243
       clear BK234
       clear BK235
       clear BK236
       clear BK244
       clear HB
       have HO243 := n0_
       have BK234 := n1_
       have BK235 := n2_
       have BK236 := n3_
       have BK244 := n4_
       have HB := n5_
       clear n0_ n1_ n2_ n3_ n4_ n5_
       have p245 : 0 ≤ ((ji31) : Int) := of_decide_eq_true (by first | (with_reducible assumption) | assumption)
       have q245 : (ji31) < (y241.length : Int) := of_decide_eq_true (by first | (with_reducible assumption) | assumption)
       obtain ⟨ad245, e245, hx245_0, hx245_1⟩ := at_T39 (Kd.R_reads' HO243.out).2.2 (ji31) p245 q245
       cases e245
       replace p245 := eq_true p245
       replace q245 := eq_true q245
       have p246 : 0 ≤ ((ji31) : Int) := of_decide_eq_true (by first | (with_reducible assumption) | assumption)
       have q246 : (ji31) < (y241.length : Int) := of_decide_eq_true (by first | (with_reducible assumption) | assumption)
       obtain ⟨ad246, e246, hx246_0, hx246_1⟩ := at_T39 (Kd.R_reads' HO243.out).2.2 (ji31) p246 q246
       obtain rfl : ad245 = ad246 := (by injection e246)
       replace p246 := eq_true p246
       replace q246 := eq_true q246
       refine start_ (n := 22) (S := fun w' => w'.cell? ⟨gb244, 0, none⟩ = some (.int .i64 (wrap64 (a0_0 + 1))) ∧ w'.cell? ⟨gb244, 1, none⟩ = some (.slice (some ad245) y241.length co23) ∧ w'.cell? ⟨gb235, 0, none⟩ = some (.int .i64 a1_0) ∧ w'.cell? ⟨gb235, 1, none⟩ = some (.int .i64 a1_1) ∧ w'.cell? (ad245.add (((ji31)).toNat * 2)) = some (.int .i64 ((d0_ y241 (ji31)).f0)) ∧ w'.cell? ⟨(ad245.add (((ji31)).toNat * 2)).block, (ad245.add (((ji31)).toNat * 2)).off + 1, none⟩ = some (.int .i64 ((d0_ y241 (ji31)).f1)) ∧ w'.cell? (ad245.add (((ji31)).toNat * 2)) = some (.int .i64 ((d0_ y241 (ji31)).f0)) ∧ w'.cell? ⟨(ad245.add (((ji31)).toNat * 2)).block, (ad245.add (((ji31)).toNat * 2)).off + 1, none⟩ = some (.int .i64 ((d0_ y241 (ji31)).f1))) (ds := []) #[F, F, F, F, F, F, F, F, F, F, F, F, F, F, F, F, F, F, F, F, F, F] (by kernel_rfl) rfl rfl ⟨(bC BK244.out 0).trans rfl, (bC BK244.out 1).trans rfl, (bC BK235.out 0).trans rfl, (bC BK235.out 1).trans rfl, hx245_0, hx245_1, hx246_0, hx246_1⟩ (fun hHeld => ?_); refine with_tabW posthorseref08_Grow.tab5 posthorseref08_Grow.bits5 (fun HT_ HW_ => ?_)
       generalize w34.drew = w35 at HO243 BK234 BK235 BK236 BK244 HB hx245_0 hx245_1 hx246_0 hx246_1 hHeld ⊢
       refine pure_ (i := 0) (N := some 27) (v := ?_) (a' := ?_) #[T, F, F, F, F, F, F, F, F, F, F, F, F, F, F, F, F, F, F, F, F, F] rfl rfl (any_of HT_.out (by kernel_rfl)) (fun _ _ _ h => h) (Or.inl ⟨by rfl, ?_⟩) ?_ ?_
       rotate_left
       ·intro w'
        go_simp
        with_reducible rfl
       rotate_left
       ·simp only [Act.put, lS, lZ, lC, i64_w, i32_w]
        rfl
       refine pure_ (i := 1) (N := some 28) (v := ?_) (a' := ?_) #[T, T, F, F, F, F, F, F, F, F, F, F, F, F, F, F, F, F, F, F, F, F] rfl rfl (any_of HT_.out (by kernel_rfl)) (fun _ _ _ h => h) (Or.inl ⟨by rfl, ?_⟩) ?_ ?_
       rotate_left
       ·intro w'
        go_simp
        with_reducible rfl
       rotate_left
       ·simp only [Act.put, lS, lZ, lC, i64_w, i32_w]
        rfl
       refine pure_ (i := 2) (N := some 29) (v := ?_) (a' := ?_) #[T, T, T, F, F, F, F, F, F, F, F, F, F, F, F, F, F, F, F, F, F, F] rfl rfl (any_of HT_.out (by kernel_rfl)) (fun _ _ _ h => h) (Or.inl ⟨by rfl, ?_⟩) ?_ ?_
       rotate_left
       ·intro w'
        go_simp
        with_reducible rfl
       rotate_left
       ·simp only [Act.put, lS, lZ, lC, i64_w, i32_w]
        rfl
       refine pure_ (i := 3) (N := some 30) (v := ?_) (a' := ?_) #[T, T, T, T, F, F, F, F, F, F, F, F, F, F, F, F, F, F, F, F, F, F] rfl rfl (any_of HT_.out (by kernel_rfl)) (fun _ _ _ h => h) (Or.inl ⟨by rfl, ?_⟩) ?_ ?_
       rotate_left
       ·intro w'
        go_simp
        with_reducible rfl
       rotate_left
       ·simp only [Act.put, lS, lZ, lC, i64_w, i32_w]
        rfl
       refine pure_ (i := 5) (N := some 32) (v := ?_) (a' := ?_) #[T, T, T, T, F, T, F, F, F, F, F, F, F, F, F, F, F, F, F, F, F, F] rfl rfl (any_of HT_.out (by kernel_rfl)) (fun _ _ _ h => h) (Or.inl ⟨by rfl, ?_⟩) ?_ ?_
       rotate_left
       ·intro w'
        go_simp
        with_reducible rfl
       rotate_left
       ·simp only [Act.put, lS, lZ, lC, i64_w, i32_w]
        rfl
       refine pure_ (i := 6) (N := some 33) (v := ?_) (a' := ?_) #[T, T, T, T, F, T, T, F, F, F, F, F, F, F, F, F, F, F, F, F, F, F] rfl rfl (any_of HT_.out (by kernel_rfl)) (fun _ _ _ h => h) (Or.inl ⟨by rfl, ?_⟩) ?_ ?_
       rotate_left
       ·intro w'
        go_simp
        with_reducible rfl
       rotate_left
       ·simp only [Act.put, lS, lZ, lC, i64_w, i32_w]
        rfl
       refine pure_ (i := 10) (N := some 37) (v := ?_) (a' := ?_) #[T, T, T, T, F, T, T, F, F, F, T, F, F, F, F, F, F, F, F, F, F, F] rfl rfl (any_of HT_.out (by kernel_rfl)) (fun _ _ _ h => h) (Or.inl ⟨by rfl, ?_⟩) ?_ ?_
       rotate_left
       ·intro w'
        go_simp
        with_reducible rfl
       rotate_left
       ·simp only [Act.put, lS, lZ, lC, i64_w, i32_w]
        rfl
       refine pure_ (i := 12) (N := some 39) (v := ?_) (a' := ?_) #[T, T, T, T, F, T, T, F, F, F, T, F, T, F, F, F, F, F, F, F, F, F] rfl rfl (any_of HT_.out (by kernel_rfl)) (fun _ _ _ h => h) (Or.inl ⟨by rfl, ?_⟩) ?_ ?_
       rotate_left
       ·intro w'
        go_simp
        with_reducible rfl
       rotate_left
       ·simp only [Act.put, lS, lZ, lC, i64_w, i32_w]
        rfl
       refine pure_ (i := 13) (N := some 40) (v := ?_) (a' := ?_) #[T, T, T, T, F, T, T, F, F, F, T, F, T, T, F, F, F, F, F, F, F, F] rfl rfl (any_of HT_.out (by kernel_rfl)) (fun _ _ _ h => h) (Or.inl ⟨by rfl, ?_⟩) ?_ ?_
       rotate_left
       ·intro w'
        go_simp
        with_reducible rfl
       rotate_left
       ·simp only [Act.put, lS, lZ, lC, i64_w, i32_w]
        rfl
       refine pure_ (i := 18) (N := some 45) (v := ?_) (a' := ?_) #[T, T, T, T, F, T, T, F, F, F, T, F, T, T, F, F, F, F, T, F, F, F] rfl rfl (any_of HT_.out (by kernel_rfl)) (fun _ _ _ h => h) (Or.inl ⟨by rfl, ?_⟩) ?_ ?_
       rotate_left
       ·intro w'
        go_simp
        with_reducible rfl
       rotate_left
       ·simp only [Act.put, lS, lZ, lC, i64_w, i32_w]
        rfl
       refine take_ (i := 4) (N := some 31) (v := ?_) (a' := ?_) #[T, T, T, T, T, T, T, F, F, F, T, F, T, T, F, F, F, F, T, F, F, F] rfl rfl (take_ofW HT_.out HW_.out (by kernel_rfl)) (fun _ _ _ h => h) (Or.inl ⟨by rfl, ?_⟩) hHeld ?_ ?_
       rotate_left; (· rintro w' ⟨s0, s1, s2, s3, s4, s5, s6, s7⟩; go_simp; with_reducible rfl); rotate_left; (· simp only [Act.put, lS, lZ, lC, i64_w, i32_w]; rfl)
       refine pure_ (i := 7) (N := some 34) (v := ?_) (a' := ?_) #[T, T, T, T, T, T, T, T, F, F, T, F, T, T, F, F, F, F, T, F, F, F] rfl rfl (any_of HT_.out (by kernel_rfl)) (fun _ _ _ h => h) (Or.inl ⟨by rfl, ?_⟩) ?_ ?_
       rotate_left
       ·intro w'
        go_simp
        with_reducible rfl
       rotate_left
       ·simp only [Act.put, lS, lZ, lC, i64_w, i32_w]
        rfl
       refine pure_ (i := 8) (N := some 35) (v := ?_) (a' := ?_) #[T, T, T, T, T, T, T, T, T, F, T, F, T, T, F, F, F, F, T, F, F, F] rfl rfl (any_of HT_.out (by kernel_rfl)) (fun _ _ _ h => h) (Or.inl ⟨by rfl, ?_⟩) ?_ ?_
       rotate_left
       ·intro w'
        go_simp
        with_reducible rfl
       rotate_left
       ·simp only [Act.put, lS, lZ, lC, i64_w, i32_w]
        rfl
       refine take_ (i := 9) (N := some 36) (v := ?_) (a' := ?_) #[T, T, T, T, T, T, T, T, T, T, T, F, T, T, F, F, F, F, T, F, F, F] rfl rfl (take_ofW HT_.out HW_.out (by kernel_rfl)) (fun _ _ _ h => h) (Or.inl ⟨by rfl, ?_⟩) hHeld ?_ ?_
       rotate_left; (· rintro w' ⟨s0, s1, s2, s3, s4, s5, s6, s7⟩; go_simp; with_reducible rfl); rotate_left; (· simp only [Act.put, lS, lZ, lC, i64_w, i32_w]; rfl)
       refine take_ (i := 11) (N := some 38) (v := ?_) (a' := ?_) #[T, T, T, T, T, T, T, T, T, T, T, T, T, T, F, F, F, F, T, F, F, F] rfl rfl (take_ofW HT_.out HW_.out (by kernel_rfl)) (fun _ _ _ h => h) (Or.inl ⟨by rfl, ?_⟩) hHeld ?_ ?_
       rotate_left; (· rintro w' ⟨s0, s1, s2, s3, s4, s5, s6, s7⟩; go_simp; with_reducible rfl); rotate_left; (· simp only [Act.put, lS, lZ, lC, i64_w, i32_w]; rfl)
       refine pure_ (i := 14) (N := some 41) (v := ?_) (a' := ?_) #[T, T, T, T, T, T, T, T, T, T, T, T, T, T, T, F, F, F, T, F, F, F] rfl rfl (any_of HT_.out (by kernel_rfl)) (fun _ _ _ h => h) (Or.inl ⟨by rfl, ?_⟩) ?_ ?_
       rotate_left
       ·intro w'
        go_simp
        with_reducible rfl
       rotate_left
       ·simp only [Act.put, lS, lZ, lC, i64_w, i32_w]
        rfl
       refine pure_ (i := 15) (N := some 42) (v := ?_) (a' := ?_) #[T, T, T, T, T, T, T, T, T, T, T, T, T, T, T, T, F, F, T, F, F, F] rfl rfl (any_of HT_.out (by kernel_rfl)) (fun _ _ _ h => h) (Or.inl ⟨by rfl, ?_⟩) ?_ ?_
       rotate_left
       ·intro w'
        go_simp
        with_reducible rfl
       rotate_left
       ·simp only [Act.put, lS, lZ, lC, i64_w, i32_w]
        rfl
       refine take_ (i := 16) (N := some 43) (v := ?_) (a' := ?_) #[T, T, T, T, T, T, T, T, T, T, T, T, T, T, T, T, T, F, T, F, F, F] rfl rfl (take_ofW HT_.out HW_.out (by kernel_rfl)) (fun _ _ _ h => h) (Or.inl ⟨by rfl, ?_⟩) hHeld ?_ ?_
       rotate_left; (· rintro w' ⟨s0, s1, s2, s3, s4, s5, s6, s7⟩; go_simp; with_reducible rfl); rotate_left; (· simp only [Act.put, lS, lZ, lC, i64_w, i32_w]; rfl)
       refine pure_ (i := 17) (N := some 44) (v := ?_) (a' := ?_) #[T, T, T, T, T, T, T, T, T, T, T, T, T, T, T, T, T, T, T, F, F, F] rfl rfl (any_of HT_.out (by kernel_rfl)) (fun _ _ _ h => h) (Or.inl ⟨by rfl, ?_⟩) ?_ ?_
       rotate_left
       ·intro w'
        go_simp
        with_reducible rfl
       rotate_left
       ·simp only [Act.put, lS, lZ, lC, i64_w, i32_w]
        rfl
       refine take_ (i := 19) (N := some 46) (v := ?_) (a' := ?_) #[T, T, T, T, T, T, T, T, T, T, T, T, T, T, T, T, T, T, T, T, F, F] rfl rfl (take_ofW HT_.out HW_.out (by kernel_rfl)) (fun _ _ _ h => h) (Or.inl ⟨by rfl, ?_⟩) hHeld ?_ ?_
       rotate_left; (· rintro w' ⟨s0, s1, s2, s3, s4, s5, s6, s7⟩; go_simp; with_reducible rfl); rotate_left; (· simp only [Act.put, lS, lZ, lC, i64_w, i32_w]; rfl)
       refine pure_ (i := 20) (N := some 47) (v := ?_) (a' := ?_) #[T, T, T, T, T, T, T, T, T, T, T, T, T, T, T, T, T, T, T, T, T, F] rfl rfl (any_of HT_.out (by kernel_rfl)) (fun _ _ _ h => h) (Or.inl ⟨by rfl, ?_⟩) ?_ ?_
       rotate_left
       ·intro w'
        go_simp
        with_reducible rfl
       rotate_left
       ·simp only [Act.put, lS, lZ, lC, i64_w, i32_w]
        rfl
       refine pure_ (i := 21) (N := some 48) (v := ?_) (a' := ?_) #[T, T, T, T, T, T, T, T, T, T, T, T, T, T, T, T, T, T, T, T, T, T] rfl rfl (any_of HT_.out (by kernel_rfl)) (fun _ _ _ h => h) (Or.inl ⟨by rfl, ?_⟩) ?_ ?_
       rotate_left
       ·intro w'
        go_simp
        with_reducible rfl
       rotate_left
       ·simp only [Act.put, lS, lZ, lC, i64_w, i32_w]
        rfl
       refine done_ (done_of HT_.out (by kernel_rfl)) ?_
       try go_wp2
       go_meet
       case rel => exact ⟨_, (((wrap64 (((d0_ y241 (ji31)).f0) + ((d0_ y241 (ji31)).f1))) == a1_0)), (by first | rfl | (simp; done) | (simp only [← hji31] <;> (first | rfl | simp)) | (simp [*]; done)), H', ⟨by first | omega | exact Nat.le_refl _⟩, ⟨by (with_reducible repeat first | apply rA | apply rN | apply rD); exact HO243.out⟩, ⟨by (with_reducible repeat first | apply bN | apply bD | apply bA); exact BK234.out⟩, ⟨by (with_reducible repeat first | apply bN | apply bD | apply bA); exact BK235.out⟩, ⟨by (with_reducible repeat first | apply bN | apply bD | apply bA); exact BK236.out⟩, ⟨by (with_reducible repeat first | apply bN | apply bD | apply bA); exact BK244.out⟩, ⟨by repeat (first | (with_reducible first | exact HB.out | apply pA | apply pN | apply pD | refine bS ?_ GE234.out | refine bS ?_ GE235.out | refine bS ?_ GE236.out | refine bS ?_ GE244.out) | exact HB.out)⟩⟩
      ·rw [if_neg c33] at H
       exact absurd H (by simp)
     ·rw [if_neg c32] at H
      exact absurd H (by simp)
    ·rw [if_neg c30] at H
     have c30b0 : decide (0 < (y241.length : Int)) = false := decide_eq_false c30
     have c30b1 : decide (0 < y241.length) = false := decide_eq_false (by omega)
     clear c30
     (first | rw [c30b0] | (simp only [i64_w, i32_w]; rw [c30b0]) | skip)
     have H' := A0k H
     clear H
     try go_wp2
     have n0_ : Aside0 (Kd.R k39 39 ((w22.setCell ⟨gb244, 0, none⟩ (.int .i64 (wrap64 (a0_0 + 1)))).setCell ⟨gb244, 1, none⟩ (.slice Ao23 y241.length co23)) w.heap.size (fun k_ => k_ ≠ gb235) (.slice Ao23 y241.length co23) y241) := ⟨by (with_reducible repeat first | apply rA | apply rN | apply rD); exact Kd.R_mono (Kd.R_far (p := ⟨gb244, 1, none⟩) (Kd.R_far (p := ⟨gb244, 0, none⟩) (Kd.R_types HO243.out BK244.out (by decide)) (fun _ hk => hk.2) (.int .i64 (wrap64 (a0_0 + 1)))) (fun _ hk => hk.2) (.slice Ao23 y241.length co23)) (fun _ hk => hk.1)⟩
     have n1_ : Aside0 (((w22.setCell ⟨gb244, 0, none⟩ (.int .i64 (wrap64 (a0_0 + 1)))).setCell ⟨gb244, 1, none⟩ (.slice Ao23 y241.length co23)).heap[gb234]? = some (.cells #[.int .i64 a0_0, .slice A0_1 l0_1.length c0_1] 29 (0, 0))) := ⟨by (with_reducible repeat first | apply bN | apply bD | apply bA); refine bR ?_ NB234_244.out _; (with_reducible repeat first | apply bN | apply bD | apply bA); refine bR ?_ NB234_244.out _; (with_reducible repeat first | apply bN | apply bD | apply bA); exact BK234.out⟩
     have n2_ : Aside0 (((w22.setCell ⟨gb244, 0, none⟩ (.int .i64 (wrap64 (a0_0 + 1)))).setCell ⟨gb244, 1, none⟩ (.slice Ao23 y241.length co23)).heap[gb235]? = some (.cells #[.int .i64 a1_0, .int .i64 a1_1] 39 (0, 0))) := ⟨by (with_reducible repeat first | apply bN | apply bD | apply bA); refine bR ?_ NB235_244.out _; (with_reducible repeat first | apply bN | apply bD | apply bA); refine bR ?_ NB235_244.out _; (with_reducible repeat first | apply bN | apply bD | apply bA); exact BK235.out⟩
     have n3_ : Aside0 (((w22.setCell ⟨gb244, 0, none⟩ (.int .i64 (wrap64 (a0_0 + 1)))).setCell ⟨gb244, 1, none⟩ (.slice Ao23 y241.length co23)).heap[gb236]? = some (.cells #[.int .i64 0, .slice none 0 0] 29 (0, 0))) := ⟨by (with_reducible repeat first | apply bN | apply bD | apply bA); refine bR ?_ NB236_244.out _; (with_reducible repeat first | apply bN | apply bD | apply bA); refine bR ?_ NB236_244.out _; (with_reducible repeat first | apply bN | apply bD | apply bA); exact BK236.out⟩
     have n4_ : Aside0 (((w22.setCell ⟨gb244, 0, none⟩ (.int .i64 (wrap64 (a0_0 + 1)))).setCell ⟨gb244, 1, none⟩ (.slice Ao23 y241.length co23)).heap[gb244]? = some (.cells #[.int .i64 (wrap64 (a0_0 + 1)), .slice Ao23 y241.length co23] 29 (0, 0))) := ⟨by (with_reducible repeat first | apply bN | apply bD | apply bA); refine bP (cs := #[.int .i64 (wrap64 (a0_0 + 1)), .slice none 0 0]) ?_ 1 _ rfl; (with_reducible repeat first | apply bN | apply bD | apply bA); refine bP (cs := #[.int .i64 0, .slice none 0 0]) ?_ 0 _ rfl; (with_reducible repeat first | apply bN | apply bD | apply bA); exact BK244.out⟩
     have n5_ : Aside0 (Below w.heap.size w ((w22.setCell ⟨gb244, 0, none⟩ (.int .i64 (wrap64 (a0_0 + 1)))).setCell ⟨gb244, 1, none⟩ (.slice Ao23 y241.length co23))) := ⟨by repeat (first | (with_reducible first | exact HB.out | apply pA | apply pN | apply pD | refine bS ?_ GE234.out | refine bS ?_ GE235.out | refine bS ?_ GE236.out | refine bS ?_ GE244.out) | exact HB.out)⟩
     (try clear HO243)
     (try clear BK234)
     (try clear BK235)
     (try clear BK236)
     (try clear BK244)
     (try clear HB)
     generalize ((w22.setCell ⟨gb244, 0, none⟩ (.int .i64 (wrap64 (a0_0 + 1)))).setCell ⟨gb244, 1, none⟩ (.slice Ao23 y241.length co23)) = w36 at n0_ n1_ n2_ n3_ n4_ n5_ ⊢
     have HO243 := n0_
     have BK234 := n1_
     have BK235 := n2_
     have BK236 := n3_
     have BK244 := n4_
     have HB := n5_
     clear n0_ n1_ n2_ n3_ n4_ n5_
     have n0_ := A0k (Kd.R_drew HO243.out)
     have n1_ := A0k (bD BK234.out)
     have n2_ := A0k (bD BK235.out)
     have n3_ := A0k (bD BK236.out)
     have n4_ := A0k (bD BK244.out)
     have n5_ := A0k (pD HB.out)
     clear HO243
     clear BK234
     clear BK235
     clear BK236
     clear BK244
     clear HB
     have HO243 := n0_
     have BK234 := n1_
     have BK235 := n2_
     have BK236 := n3_
     have BK244 := n4_
     have HB := n5_
     clear n0_ n1_ n2_ n3_ n4_ n5_
     refine start_ (n := 22) (S := fun w' => True) (ds := []) #[F, F, F, F, F, F, F, F, F, F, F, F, F, F, F, F, F, F, F, F, F, F] (by kernel_rfl) rfl rfl trivial (fun hHeld => ?_); refine with_tabW posthorseref08_Grow.tab5 posthorseref08_Grow.bits5 (fun HT_ HW_ => ?_)
     generalize w36.drew = w37 at HO243 BK234 BK235 BK236 BK244 HB hHeld ⊢
     refine pure_ (i := 0) (N := some 27) (v := ?_) (a' := ?_) #[T, F, F, F, F, F, F, F, F, F, F, F, F, F, F, F, F, F, F, F, F, F] rfl rfl (any_of HT_.out (by kernel_rfl)) (fun _ _ _ h => h) (Or.inl ⟨by rfl, ?_⟩) ?_ ?_
     rotate_left
     ·intro w'
      go_simp
      with_reducible rfl
     rotate_left
     ·simp only [Act.put, lS, lZ, lC, i64_w, i32_w]
      rfl
     refine pure_ (i := 1) (N := some 28) (v := ?_) (a' := ?_) #[T, T, F, F, F, F, F, F, F, F, F, F, F, F, F, F, F, F, F, F, F, F] rfl rfl (any_of HT_.out (by kernel_rfl)) (fun _ _ _ h => h) (Or.inl ⟨by rfl, ?_⟩) ?_ ?_
     rotate_left
     ·intro w'
      go_simp
      with_reducible rfl
     rotate_left
     ·simp only [Act.put, lS, lZ, lC, i64_w, i32_w]
      rfl
     refine pure_ (i := 2) (N := some 29) (v := ?_) (a' := ?_) #[T, T, T, F, F, F, F, F, F, F, F, F, F, F, F, F, F, F, F, F, F, F] rfl rfl (any_of HT_.out (by kernel_rfl)) (fun _ _ _ h => h) (Or.inl ⟨by rfl, ?_⟩) ?_ ?_
     rotate_left
     ·intro w'
      go_simp
      with_reducible rfl
     rotate_left
     ·simp only [Act.put, lS, lZ, lC, i64_w, i32_w]
      rfl
     refine pure_ (i := 3) (N := some 30) (v := undef) (a' := ?_) #[T, T, T, T, F, F, F, F, F, F, F, F, F, F, F, F, F, F, F, F, F, F] rfl rfl (any_of HT_.out (by kernel_rfl)) (fun _ _ _ h => h) (Or.inr ⟨by rfl, rfl⟩) ?_ ?_
     rotate_left
     ·simp only [Act.put, lS, lZ, lC, i64_w, i32_w]
      rfl
     refine pure_ (i := 4) (N := some 31) (v := undef) (a' := ?_) #[T, T, T, T, T, F, F, F, F, F, F, F, F, F, F, F, F, F, F, F, F, F] rfl rfl (any_of HT_.out (by kernel_rfl)) (fun _ _ _ h => h) (Or.inr ⟨by rfl, rfl⟩) ?_ ?_
     rotate_left
     ·simp only [Act.put, lS, lZ, lC, i64_w, i32_w]
      rfl
     refine pure_ (i := 5) (N := some 32) (v := undef) (a' := ?_) #[T, T, T, T, T, T, F, F, F, F, F, F, F, F, F, F, F, F, F, F, F, F] rfl rfl (any_of HT_.out (by kernel_rfl)) (fun _ _ _ h => h) (Or.inr ⟨by rfl, rfl⟩) ?_ ?_
     rotate_left
     ·simp only [Act.put, lS, lZ, lC, i64_w, i32_w]
      rfl
     refine pure_ (i := 6) (N := some 33) (v := undef) (a' := ?_) #[T, T, T, T, T, T, T, F, F, F, F, F, F, F, F, F, F, F, F, F, F, F] rfl rfl (any_of HT_.out (by kernel_rfl)) (fun _ _ _ h => h) (Or.inr ⟨by rfl, rfl⟩) ?_ ?_
     rotate_left
     ·simp only [Act.put, lS, lZ, lC, i64_w, i32_w]
      rfl
     refine pure_ (i := 7) (N := some 34) (v := undef) (a' := ?_) #[T, T, T, T, T, T, T, T, F, F, F, F, F, F, F, F, F, F, F, F, F, F] rfl rfl (any_of HT_.out (by kernel_rfl)) (fun _ _ _ h => h) (Or.inr ⟨by rfl, rfl⟩) ?_ ?_
     rotate_left
     ·simp only [Act.put, lS, lZ, lC, i64_w, i32_w]
      rfl
     refine pure_ (i := 8) (N := some 35) (v := undef) (a' := ?_) #[T, T, T, T, T, T, T, T, T, F, F, F, F, F, F, F, F, F, F, F, F, F] rfl rfl (any_of HT_.out (by kernel_rfl)) (fun _ _ _ h => h) (Or.inr ⟨by rfl, rfl⟩) ?_ ?_
     rotate_left
     ·simp only [Act.put, lS, lZ, lC, i64_w, i32_w]
      rfl
     refine pure_ (i := 9) (N := some 36) (v := undef) (a' := ?_) #[T, T, T, T, T, T, T, T, T, T, F, F, F, F, F, F, F, F, F, F, F, F] rfl rfl (any_of HT_.out (by kernel_rfl)) (fun _ _ _ h => h) (Or.inr ⟨by rfl, rfl⟩) ?_ ?_
     rotate_left
     ·simp only [Act.put, lS, lZ, lC, i64_w, i32_w]
      rfl
     refine pure_ (i := 10) (N := some 37) (v := undef) (a' := ?_) #[T, T, T, T, T, T, T, T, T, T, T, F, F, F, F, F, F, F, F, F, F, F] rfl rfl (any_of HT_.out (by kernel_rfl)) (fun _ _ _ h => h) (Or.inr ⟨by rfl, rfl⟩) ?_ ?_
     rotate_left
     ·simp only [Act.put, lS, lZ, lC, i64_w, i32_w]
      rfl
     refine pure_ (i := 11) (N := some 38) (v := undef) (a' := ?_) #[T, T, T, T, T, T, T, T, T, T, T, T, F, F, F, F, F, F, F, F, F, F] rfl rfl (any_of HT_.out (by kernel_rfl)) (fun _ _ _ h => h) (Or.inr ⟨by rfl, rfl⟩) ?_ ?_
     rotate_left
     ·simp only [Act.put, lS, lZ, lC, i64_w, i32_w]
      rfl
     refine pure_ (i := 12) (N := some 39) (v := undef) (a' := ?_) #[T, T, T, T, T, T, T, T, T, T, T, T, T, F, F, F, F, F, F, F, F, F] rfl rfl (any_of HT_.out (by kernel_rfl)) (fun _ _ _ h => h) (Or.inr ⟨by rfl, rfl⟩) ?_ ?_
     rotate_left
     ·simp only [Act.put, lS, lZ, lC, i64_w, i32_w]
      rfl
     refine pure_ (i := 13) (N := some 40) (v := undef) (a' := ?_) #[T, T, T, T, T, T, T, T, T, T, T, T, T, T, F, F, F, F, F, F, F, F] rfl rfl (any_of HT_.out (by kernel_rfl)) (fun _ _ _ h => h) (Or.inr ⟨by rfl, rfl⟩) ?_ ?_
     rotate_left
     ·simp only [Act.put, lS, lZ, lC, i64_w, i32_w]
      rfl
     refine pure_ (i := 14) (N := some 41) (v := undef) (a' := ?_) #[T, T, T, T, T, T, T, T, T, T, T, T, T, T, T, F, F, F, F, F, F, F] rfl rfl (any_of HT_.out (by kernel_rfl)) (fun _ _ _ h => h) (Or.inr ⟨by rfl, rfl⟩) ?_ ?_
     rotate_left
     ·simp only [Act.put, lS, lZ, lC, i64_w, i32_w]
      rfl
     refine pure_ (i := 15) (N := some 42) (v := undef) (a' := ?_) #[T, T, T, T, T, T, T, T, T, T, T, T, T, T, T, T, F, F, F, F, F, F] rfl rfl (any_of HT_.out (by kernel_rfl)) (fun _ _ _ h => h) (Or.inr ⟨by rfl, rfl⟩) ?_ ?_
     rotate_left
     ·simp only [Act.put, lS, lZ, lC, i64_w, i32_w]
      rfl
     refine pure_ (i := 16) (N := some 43) (v := undef) (a' := ?_) #[T, T, T, T, T, T, T, T, T, T, T, T, T, T, T, T, T, F, F, F, F, F] rfl rfl (any_of HT_.out (by kernel_rfl)) (fun _ _ _ h => h) (Or.inr ⟨by rfl, rfl⟩) ?_ ?_
     rotate_left
     ·simp only [Act.put, lS, lZ, lC, i64_w, i32_w]
      rfl
     refine pure_ (i := 17) (N := some 44) (v := undef) (a' := ?_) #[T, T, T, T, T, T, T, T, T, T, T, T, T, T, T, T, T, T, F, F, F, F] rfl rfl (any_of HT_.out (by kernel_rfl)) (fun _ _ _ h => h) (Or.inr ⟨by rfl, rfl⟩) ?_ ?_
     rotate_left
     ·simp only [Act.put, lS, lZ, lC, i64_w, i32_w]
      rfl
     refine pure_ (i := 18) (N := some 45) (v := undef) (a' := ?_) #[T, T, T, T, T, T, T, T, T, T, T, T, T, T, T, T, T, T, T, F, F, F] rfl rfl (any_of HT_.out (by kernel_rfl)) (fun _ _ _ h => h) (Or.inr ⟨by rfl, rfl⟩) ?_ ?_
     rotate_left
     ·simp only [Act.put, lS, lZ, lC, i64_w, i32_w]
      rfl
     refine pure_ (i := 19) (N := some 46) (v := undef) (a' := ?_) #[T, T, T, T, T, T, T, T, T, T, T, T, T, T, T, T, T, T, T, T, F, F] rfl rfl (any_of HT_.out (by kernel_rfl)) (fun _ _ _ h => h) (Or.inr ⟨by rfl, rfl⟩) ?_ ?_
     rotate_left
     ·simp only [Act.put, lS, lZ, lC, i64_w, i32_w]
      rfl
     refine pure_ (i := 20) (N := some 47) (v := undef) (a' := ?_) #[T, T, T, T, T, T, T, T, T, T, T, T, T, T, T, T, T, T, T, T, T, F] rfl rfl (any_of HT_.out (by kernel_rfl)) (fun _ _ _ h => h) (Or.inr ⟨by rfl, rfl⟩) ?_ ?_
     rotate_left
     ·simp only [Act.put, lS, lZ, lC, i64_w, i32_w]
      rfl
     refine pure_ (i := 21) (N := some 48) (v := ?_) (a' := ?_) #[T, T, T, T, T, T, T, T, T, T, T, T, T, T, T, T, T, T, T, T, T, T] rfl rfl (any_of HT_.out (by kernel_rfl)) (fun _ _ _ h => h) (Or.inl ⟨by rfl, ?_⟩) ?_ ?_
     rotate_left
     ·intro w'
      go_simp
      with_reducible rfl
     rotate_left
     ·simp only [Act.put, lS, lZ, lC, i64_w, i32_w]
      rfl
     refine done_ (done_of HT_.out (by kernel_rfl)) ?_
     try go_wp2
     go_meet
     case rel => exact ⟨_, (false), (by first | rfl | (simp; done) | (simp [*]; done)), H', ⟨by first | omega | exact Nat.le_refl _⟩, ⟨by (with_reducible repeat first | apply rA | apply rN | apply rD); exact HO243.out⟩, ⟨by (with_reducible repeat first | apply bN | apply bD | apply bA); exact BK234.out⟩, ⟨by (with_reducible repeat first | apply bN | apply bD | apply bA); exact BK235.out⟩, ⟨by (with_reducible repeat first | apply bN | apply bD | apply bA); exact BK236.out⟩, ⟨by (with_reducible repeat first | apply bN | apply bD | apply bA); exact BK244.out⟩, ⟨by repeat (first | (with_reducible first | exact HB.out | apply pA | apply pN | apply pD | refine bS ?_ GE234.out | refine bS ?_ GE235.out | refine bS ?_ GE236.out | refine bS ?_ GE244.out) | exact HB.out)⟩⟩
   case rest =>
    as_aux_lemma =>
    clear HC6
    (try clear c2); (try clear p2); (try clear q2); (try clear hx2); (try clear c3); (try clear c5); (try clear p6); (try clear p24); (try clear q24); (try clear hx24); (try clear c26); (try clear c27); (try clear c28); (try clear c30); (try clear c30b0); (try clear c30b1); (try clear c32); (try clear c32b0); (try clear c33); (try clear c33b0); (try clear hcz29_0); (try clear hcz29_1); (try clear hfz29_0); (try clear hfz29_1); (try clear hx245_0); (try clear hx245_1); (try clear hx246_0); (try clear hx246_1); (try clear p245); (try clear p246); (try clear q245); (try clear q246)
    obtain ⟨kq, x48_5, rfl, HA, HJ5, qa, BK234, BK235, BK236, BK244, HB⟩ := hcut
    cases kq with
    | zero => exact absurd HA.out (by simp [Wj0])
    | succ kj5 =>
     have H := HA.out
     clear HA
     simp only [Wj0] at H
     by_cases c38 : x48_5 = true
     ·subst c38
      have H1 : (if 0 ≤ (wrap64 ((y241.length : Int) - 1)) then (if (wrap64 ((y241.length : Int) - 1)) < (y241.length : Int) then (some ((wrap64 (a0_0 + 1)), (y241.set ((wrap64 ((y241.length : Int) - 1)) : Int).toNat (⟨(d0_ y241 (wrap64 ((y241.length : Int) - 1))).f0, wrap64 (((d0_ y241 (wrap64 ((y241.length : Int) - 1))).f1) + a1_1)⟩ : S39)), 0)) else (none)) else (none)) = some (r1, r2, r3) := by rw [if_pos rfl] at H; exact H
      clear H
      have H := H1
      clear H1
      obtain ⟨ji39, hji39⟩ : ∃ j_ : Int, (wrap64 ((y241.length : Int) - 1)) = j_ := ⟨_, rfl⟩
      replace H : (if 0 ≤ (ji39) then (if (ji39) < (y241.length : Int) then (some ((wrap64 (a0_0 + 1)), (y241.set ((ji39) : Int).toNat (⟨(d0_ y241 (ji39)).f0, wrap64 (((d0_ y241 (ji39)).f1) + a1_1)⟩ : S39)), 0)) else (none)) else (none)) = some (r1, r2, r3) := by first | (rw [hji39] at H; exact H) | (simp only [hji39] at H ⊢; exact H)
      have hji39w : (IntKind.i64.wrap ((y241.length : Int) - 1)) = ji39 := (i64_w _).trans hji39
      by_cases c40 : 0 ≤ (ji39)
      ·rw [if_pos c40] at H
       have c40b0 : decide (0 ≤ (ji39)) = true := decide_eq_true c40
       clear c40
       by_cases c41 : (ji39) < (y241.length : Int)
       ·rw [if_pos c41] at H
        have c41b0 : decide ((ji39) < (y241.length : Int)) = true := decide_eq_true c41
        clear c41
        obtain ⟨y248, hy248⟩ : ∃ y_ : List (S39), y_ = (y241.set ((ji39) : Int).toNat (⟨(d0_ y241 (ji39)).f0, wrap64 (((d0_ y241 (ji39)).f1) + a1_1)⟩ : S39)) := ⟨_, rfl⟩
        replace H : (some ((wrap64 (a0_0 + 1)), y248, 0)) = some (r1, r2, r3) := by first | (rw [hy248]; with_reducible exact H) | (have H2_ := (Option.bind_some _ _).symm.trans H; rw [hy248]; with_reducible exact H2_) | (have H2_ := (Option.bind_some _ _).symm.trans H; with_reducible exact H2_) | with_reducible exact H | (rw [hy248]; exact H) | exact H
        have Ny248 := A0k hy248
        clear hy248
        simp only [Option.some.injEq, Prod.mk.injEq] at H
        obtain ⟨rfl, rfl, rfl⟩ := H
        try go_wp2
        have n0_ := A0k (Kd.R_drew qa.out)
        have n1_ := A0k (bD BK234.out)
        have n2_ := A0k (bD BK235.out)
        have n3_ := A0k (bD BK236.out)
        have n4_ := A0k (bD BK244.out)
        have n5_ := A0k (pD HB.out)
        clear qa
        clear BK234
        clear BK235
        clear BK236
        clear BK244
        clear HB
        have qa := n0_
        have BK234 := n1_
        have BK235 := n2_
        have BK236 := n3_
        have BK244 := n4_
        have HB := n5_
        clear n0_ n1_ n2_ n3_ n4_ n5_
        have p247 : 0 ≤ ((ji39) : Int) := of_decide_eq_true (by first | (with_reducible assumption) | assumption)
        have q247 : (ji39) < (y241.length : Int) := of_decide_eq_true (by first | (with_reducible assumption) | assumption)
        obtain ⟨ad247, e247, hx247_0, hx247_1⟩ := at_T39 (Kd.R_reads' qa.out).2.2 (ji39) p247 q247
        cases e247
        replace p247 := eq_true p247
        replace q247 := eq_true q247
        have p42 : 0 ≤ ((ji39) : Int) := of_decide_eq_true (by first | (with_reducible assumption) | assumption)
        have q42 : ((ji39) : Int) < ((y241.length : Int) : Int) := of_decide_eq_true (by first | (with_reducible assumption) | assumption)
        obtain ⟨go42, co42, eo42, gb42, gl42, cl42, HG42⟩ := Kd.R_form qa.out (by omega)
        (first | cases eo42 | (injection eo42 with ea_ en_ ec_; (first | subst ea_ | (injection ea_ with ea_; subst ea_)); subst ec_; clear en_))
        have GB42 := A0k gb42
        have GG42 := A0k HG42
        clear gb42 gl42 HG42
        (first | simp only [add_plain] at hx247_0 | skip)
        (first | simp only [add_plain] at hx247_1 | skip)
        obtain ⟨ce42, hcl42, hM42, hcc42, hfr42⟩ := Kd.R_elem qa.out z39 ((ji39) : Int) p42 q42
        obtain rfl := k39_openM hM42
        have hx42_0 : World.cell? _ ⟨go42, ((ji39) : Int).toNat * 2, none⟩ = some (.int .i64 ((d0_ y241 (ji39)).f0)) := hcc42 0 _ rfl
        have hx42_1 : World.cell? _ ⟨go42, ((ji39) : Int).toNat * 2 + 1, none⟩ = some (.int .i64 ((d0_ y241 (ji39)).f1)) := hcc42 1 _ rfl
        have hf42_0 : World.frozen? _ ⟨go42, ((ji39) : Int).toNat * 2, none⟩ = false := hfr42 0
        have hf42_1 : World.frozen? _ ⟨go42, ((ji39) : Int).toNat * 2 + 1, none⟩ = false := hfr42 1
        clear hcl42 hcc42 hfr42 hM42
        replace p42 := eq_true p42
        replace q42 := eq_true q42
        obtain ⟨ce44, hcl44, hM44, hcc44, hfr44⟩ := Kd.R_elem qa.out z39 ((ji39) : Int) (of_decide_eq_true (by first | (with_reducible assumption) | assumption)) (by have h_ : ((ji39) : Int) < ((y241.length : Int) : Int) := of_decide_eq_true (by first | (with_reducible assumption) | assumption); first | exact h_ | (have e_ := (Kd.R_reads' qa.out).1; omega) | simpa using h_)
        obtain rfl := k39_openM hM44
        have HP44 := (Kd.R_seg qa.out ((ji39) : Int) (of_decide_eq_true (by first | (with_reducible assumption) | assumption)) (by have h_ : ((ji39) : Int) < ((y241.length : Int) : Int) := of_decide_eq_true (by first | (with_reducible assumption) | assumption); first | exact h_ | (have e_ := (Kd.R_reads' qa.out).1; omega) | simpa using h_) (seg := [.int .i64 (wrap64 (((d0_ y241 (ji39)).f1) + a1_1))]) (j := 1) hcl44 hcc44 (show 2 ≤ 2 from by decide) (x' := (⟨(d0_ y241 (ji39)).f0, wrap64 (((d0_ y241 (ji39)).f1) + a1_1)⟩ : S39)) (k39_mkM _ _ _ (⟨(d0_ y241 (ji39)).f0, wrap64 (((d0_ y241 (ji39)).f1) + a1_1)⟩ : S39) ) (fun _ hk => hk)).1
        rw [← Ny248.out] at HP44
        have HQ44 := A0k HP44
        clear hcl44 hcc44 hfr44 hM44 HP44
        refine start_ (n := 13) (S := fun w' => w'.cell? ⟨gb244, 0, none⟩ = some (.int .i64 (wrap64 (a0_0 + 1))) ∧ w'.cell? ⟨gb244, 1, none⟩ = some (.slice (some ⟨go42, 0, none⟩) y241.length co23) ∧ w'.cell? ⟨gb235, 0, none⟩ = some (.int .i64 a1_0) ∧ w'.cell? ⟨gb235, 1, none⟩ = some (.int .i64 a1_1) ∧ w'.cell? ⟨go42, ((ji39)).toNat * 2, none⟩ = some (.int .i64 ((d0_ y241 (ji39)).f0)) ∧ w'.cell? ⟨go42, ((ji39)).toNat * 2 + 1, none⟩ = some (.int .i64 ((d0_ y241 (ji39)).f1))) (ds := [12]) #[F, F, F, F, F, F, F, F, F, F, F, F, F] (by kernel_rfl) rfl rfl ⟨(bC BK244.out 0).trans rfl, (bC BK244.out 1).trans rfl, (bC BK235.out 0).trans rfl, (bC BK235.out 1).trans rfl, hx247_0, hx247_1⟩ (fun hHeld => ?_); refine with_tabW posthorseref08_Grow.tab6 posthorseref08_Grow.bits6 (fun HT_ HW_ => ?_)
        generalize wc.drew = w43 at qa BK234 BK235 BK236 BK244 HB GG42 HQ44 hf42_0 hf42_1 hx247_0 hx247_1 hx42_0 hx42_1 hHeld ⊢
        refine pure_ (i := 0) (N := some 49) (v := ?_) (a' := ?_) #[T, F, F, F, F, F, F, F, F, F, F, F, F] rfl rfl (any_of HT_.out (by kernel_rfl)) (fun _ _ _ h => h) (Or.inl ⟨by rfl, ?_⟩) ?_ ?_
        rotate_left
        ·intro w'
         go_simp
         with_reducible rfl
        rotate_left
        ·simp only [Act.put, lS, lZ, lC, i64_w, i32_w]
         rfl
        refine pure_ (i := 2) (N := some 51) (v := ?_) (a' := ?_) #[T, F, T, F, F, F, F, F, F, F, F, F, F] rfl rfl (any_of HT_.out (by kernel_rfl)) (fun _ _ _ h => h) (Or.inl ⟨by rfl, ?_⟩) ?_ ?_
        rotate_left
        ·intro w'
         go_simp
         with_reducible rfl
        rotate_left
        ·simp only [Act.put, lS, lZ, lC, i64_w, i32_w]
         rfl
        refine pure_ (i := 3) (N := some 52) (v := ?_) (a' := ?_) #[T, F, T, T, F, F, F, F, F, F, F, F, F] rfl rfl (any_of HT_.out (by kernel_rfl)) (fun _ _ _ h => h) (Or.inl ⟨by rfl, ?_⟩) ?_ ?_
        rotate_left
        ·intro w'
         go_simp
         with_reducible rfl
        rotate_left
        ·simp only [Act.put, lS, lZ, lC, i64_w, i32_w]
         rfl
        refine pure_ (i := 7) (N := some 56) (v := ?_) (a' := ?_) #[T, F, T, T, F, F, F, T, F, F, F, F, F] rfl rfl (any_of HT_.out (by kernel_rfl)) (fun _ _ _ h => h) (Or.inl ⟨by rfl, ?_⟩) ?_ ?_
        rotate_left
        ·intro w'
         go_simp
         with_reducible rfl
        rotate_left
        ·simp only [Act.put, lS, lZ, lC, i64_w, i32_w]
         rfl
        refine take_ (i := 1) (N := some 50) (v := ?_) (a' := ?_) #[T, T, T, T, F, F, F, T, F, F, F, F, F] rfl rfl (take_ofW HT_.out HW_.out (by kernel_rfl)) (fun _ _ _ h => h) (Or.inl ⟨by rfl, ?_⟩) hHeld ?_ ?_
        rotate_left; (· rintro w' ⟨s0, s1, s2, s3, s4, s5⟩; go_simp; with_reducible rfl); rotate_left; (· simp only [Act.put, lS, lZ, lC, i64_w, i32_w]; rfl)
        refine pure_ (i := 4) (N := some 53) (v := ?_) (a' := ?_) #[T, T, T, T, T, F, F, T, F, F, F, F, F] rfl rfl (any_of HT_.out (by kernel_rfl)) (fun _ _ _ h => h) (Or.inl ⟨by rfl, ?_⟩) ?_ ?_
        rotate_left
        ·intro w'
         go_simp
         with_reducible rfl
        rotate_left
        ·simp only [Act.put, lS, lZ, lC, i64_w, i32_w]
         rfl
        refine pure_ (i := 5) (N := some 54) (v := ?_) (a' := ?_) #[T, T, T, T, T, T, F, T, F, F, F, F, F] rfl rfl (any_of HT_.out (by kernel_rfl)) (fun _ _ _ h => h) (Or.inl ⟨by rfl, ?_⟩) ?_ ?_
        rotate_left
        ·intro w'
         go_simp
         with_reducible rfl
        rotate_left
        ·simp only [Act.put, lS, lZ, lC, i64_w, i32_w]
         rfl
        refine take_ (i := 6) (N := some 55) (v := ?_) (a' := ?_) #[T, T, T, T, T, T, T, T, F, F, F, F, F] rfl rfl (take_ofW HT_.out HW_.out (by kernel_rfl)) (fun _ _ _ h => h) (Or.inl ⟨by rfl, ?_⟩) hHeld ?_ ?_
        rotate_left; (· rintro w' ⟨s0, s1, s2, s3, s4, s5⟩; go_simp; with_reducible rfl); rotate_left; (· simp only [Act.put, lS, lZ, lC, i64_w, i32_w]; rfl)
        refine take_ (i := 8) (N := some 57) (v := ?_) (a' := ?_) #[T, T, T, T, T, T, T, T, T, F, F, F, F] rfl rfl (take_ofW HT_.out HW_.out (by kernel_rfl)) (fun _ _ _ h => h) (Or.inl ⟨by rfl, ?_⟩) hHeld ?_ ?_
        rotate_left; (· rintro w' ⟨s0, s1, s2, s3, s4, s5⟩; go_simp; with_reducible rfl); rotate_left; (· simp only [Act.put, lS, lZ, lC, i64_w, i32_w]; rfl)
        refine pure_ (i := 9) (N := some 58) (v := ?_) (a' := ?_) #[T, T, T, T, T, T, T, T, T, T, F, F, F] rfl rfl (any_of HT_.out (by kernel_rfl)) (fun _ _ _ h => h) (Or.inl ⟨by rfl, ?_⟩) ?_ ?_
        rotate_left
        ·intro w'
         go_simp
         with_reducible rfl
        rotate_left
        ·simp only [Act.put, lS, lZ, lC, i64_w, i32_w]
         rfl
        refine pure_ (i := 10) (N := some 59) (v := ?_) (a' := ?_) #[T, T, T, T, T, T, T, T, T, T, T, F, F] rfl rfl (any_of HT_.out (by kernel_rfl)) (fun _ _ _ h => h) (Or.inl ⟨by rfl, ?_⟩) ?_ ?_
        rotate_left
        ·intro w'
         go_simp
         with_reducible rfl
        rotate_left
        ·simp only [Act.put, lS, lZ, lC, i64_w, i32_w]
         rfl
        refine pure_ (i := 11) (N := some 60) (v := ?_) (a' := ?_) #[T, T, T, T, T, T, T, T, T, T, T, T, F] rfl rfl (any_of HT_.out (by kernel_rfl)) (fun _ _ _ h => h) (Or.inl ⟨by rfl, ?_⟩) ?_ ?_
        rotate_left
        ·intro w'
         go_simp
         with_reducible rfl
        rotate_left
        ·simp only [Act.put, lS, lZ, lC, i64_w, i32_w]
         rfl
        refine last_ (i := 12) (N := none) #[T, T, T, T, T, T, T, T, T, T, T, T, T] rfl rfl (one_of HT_.out (by kernel_rfl)) (by decide) (fun K hK => ?_)
        refine skip_ (w1 := ?_) (by rfl) rfl ?_ ?_
        rotate_left
        ·go_simp
         rfl
        refine hK.out _ _ ?_
        clear hK K
        refine done_ (done_of HT_.out (by kernel_rfl)) ?_
        have n0_ : Aside0 (Kd.R k39 39 (w43.setCell ⟨go42, ((ji39) : Int).toNat * 2 + 1, none⟩ (.int .i64 (wrap64 (((d0_ y241 (ji39)).f1) + a1_1)))) w.heap.size (fun k_ => k_ ≠ gb235) (.slice (some ⟨go42, 0, none⟩) y241.length co23) y248) := ⟨by (with_reducible repeat first | apply rA | apply rN | apply rD); exact HQ44.out⟩
        have n1_ : Aside0 ((w43.setCell ⟨go42, ((ji39) : Int).toNat * 2 + 1, none⟩ (.int .i64 (wrap64 (((d0_ y241 (ji39)).f1) + a1_1)))).heap[gb234]? = some (.cells #[.int .i64 a0_0, .slice A0_1 l0_1.length c0_1] 29 (0, 0))) := ⟨by (with_reducible repeat first | apply bN | apply bD | apply bA); refine bR ?_ (by have h_ := Kd.R_ne qa.out BK234.out (by decide); intro e_; exact h_ (by rw [e_]; rfl)) _; (with_reducible repeat first | apply bN | apply bD | apply bA); exact BK234.out⟩
        have n2_ : Aside0 ((w43.setCell ⟨go42, ((ji39) : Int).toNat * 2 + 1, none⟩ (.int .i64 (wrap64 (((d0_ y241 (ji39)).f1) + a1_1)))).heap[gb235]? = some (.cells #[.int .i64 a1_0, .int .i64 a1_1] 39 (0, 0))) := ⟨by (with_reducible repeat first | apply bN | apply bD | apply bA); refine bR ?_ (by have h_ := Kd.R_away qa.out (fun _ hk => hk); intro e_; exact h_ (by rw [e_]; rfl)) _; (with_reducible repeat first | apply bN | apply bD | apply bA); exact BK235.out⟩
        have n3_ : Aside0 ((w43.setCell ⟨go42, ((ji39) : Int).toNat * 2 + 1, none⟩ (.int .i64 (wrap64 (((d0_ y241 (ji39)).f1) + a1_1)))).heap[gb236]? = some (.cells #[.int .i64 0, .slice none 0 0] 29 (0, 0))) := ⟨by (with_reducible repeat first | apply bN | apply bD | apply bA); refine bR ?_ (by have h_ := Kd.R_ne qa.out BK236.out (by decide); intro e_; exact h_ (by rw [e_]; rfl)) _; (with_reducible repeat first | apply bN | apply bD | apply bA); exact BK236.out⟩
        have n4_ : Aside0 ((w43.setCell ⟨go42, ((ji39) : Int).toNat * 2 + 1, none⟩ (.int .i64 (wrap64 (((d0_ y241 (ji39)).f1) + a1_1)))).heap[gb244]? = some (.cells #[.int .i64 (wrap64 (a0_0 + 1)), .slice (some ⟨go42, 0, none⟩) y241.length co23] 29 (0, 0))) := ⟨by (with_reducible repeat first | apply bN | apply bD | apply bA); refine bR ?_ (by have h_ := Kd.R_ne qa.out BK244.out (by decide); intro e_; exact h_ (by rw [e_]; rfl)) _; (with_reducible repeat first | apply bN | apply bD | apply bA); exact BK244.out⟩
        have n5_ : Aside0 (Below w.heap.size w (w43.setCell ⟨go42, ((ji39) : Int).toNat * 2 + 1, none⟩ (.int .i64 (wrap64 (((d0_ y241 (ji39)).f1) + a1_1))))) := ⟨by repeat (first | (with_reducible first | exact HB.out | apply pA | apply pN | apply pD | refine bS ?_ GB42.out | refine bS ?_ GE234.out | refine bS ?_ GE235.out | refine bS ?_ GE236.out | refine bS ?_ GE244.out) | exact HB.out)⟩
        (try clear qa)
        (try clear BK234)
        (try clear BK235)
        (try clear BK236)
        (try clear BK244)
        (try clear HB)
        generalize (w43.setCell ⟨go42, ((ji39) : Int).toNat * 2 + 1, none⟩ (.int .i64 (wrap64 (((d0_ y241 (ji39)).f1) + a1_1)))) = w45 at n0_ n1_ n2_ n3_ n4_ n5_ ⊢
        have qa := n0_
        have BK234 := n1_
        have BK235 := n2_
        have BK236 := n3_
        have BK244 := n4_
        have HB := n5_
        clear n0_ n1_ n2_ n3_ n4_ n5_
        have hnb46 := NB244_234.out
        have hnc46 := NB234_244.out
        have hnb47 := NB244_235.out
        have hnc47 := NB235_244.out
        have hnb48 := NB244_236.out
        have hnc48 := NB236_244.out
        have hcz49_0 : w45.cell? ⟨gb244, 0, none⟩ = some (.int .i64 (wrap64 (a0_0 + 1))) := (bC BK244.out 0).trans rfl
        have hcz49_1 : w45.cell? ⟨gb244, 1, none⟩ = some (.slice (some ⟨go42, 0, none⟩) y241.length co23) := (bC BK244.out 1).trans rfl
        have hfz49_0 := bF BK244.out 0
        have hfz49_1 := bF BK244.out 1
        have hnb50 := NB236_234.out
        have hnc50 := NB234_236.out
        have hnb51 := NB236_235.out
        have hnc51 := NB235_236.out
        have hcz52_0 : w45.cell? ⟨gb236, 0, none⟩ = some (.int .i64 0) := (bC BK236.out 0).trans rfl
        have hcz52_1 : w45.cell? ⟨gb236, 1, none⟩ = some (.slice none 0 0) := (bC BK236.out 1).trans rfl
        have hfz52_0 := bF BK236.out 0
        have hfz52_1 := bF BK236.out 1
        try go_wp2
        refine bodyPost_ret (results_ct rfl _ _ gb236 29 #[.int .i64 (wrap64 (a0_0 + 1)), .slice (some ⟨go42, 0, none⟩) y241.length co23] (0, 0) _ rfl (by (with_reducible repeat first | apply bN | apply bD | apply bA); refine bP (cs := #[.int .i64 (wrap64 (a0_0 + 1)), .slice none 0 0]) ?_ 1 _ rfl; (with_reducible repeat first | apply bN | apply bD | apply bA); refine bP (cs := #[.int .i64 0, .slice none 0 0]) ?_ 0 _ rfl; (with_reducible repeat first | apply bN | apply bD | apply bA); exact BK236.out) Tryd.underlying29 rfl (by kernel_rfl)) rfl ?_
        exact ⟨_, by first | rfl | (simp [errW_none, errW_some] <;> rfl) | (simp only [← hji39]; first | rfl | (simp [errW_none, errW_some] <;> rfl)) | (simp [*, errW_none, errW_some] <;> rfl), by (with_reducible repeat first | apply rA | apply rN | apply rD); exact Kd.R_mono (Kd.R_far (p := ⟨gb236, 1, none⟩) (Kd.R_far (p := ⟨gb236, 0, none⟩) (Kd.R_types qa.out BK236.out (by decide)) (fun _ hk => hk.2) (.int .i64 (wrap64 (a0_0 + 1)))) (fun _ hk => hk.2) (.slice (some ⟨go42, 0, none⟩) y241.length co23)) (fun _ hk => trivial), by repeat (first | (with_reducible first | exact HB.out | apply pA | apply pN | apply pD | refine bS ?_ GE234.out | refine bS ?_ GE235.out | refine bS ?_ GE236.out | refine bS ?_ GE244.out) | exact HB.out)⟩
       ·rw [if_neg c41] at H
        exact absurd H (by simp)
      ·rw [if_neg c40] at H
       exact absurd H (by simp)
     ·replace c38 := Bool.eq_false_iff.mpr c38
      subst c38
      have H1 : (if (y241.length : Int) = 36 then (some (0, ([] : List (S39)), 19)) else (if y241.length < 8796093022208 then (some ((wrap64 (a0_0 + 1)), (y241 ++ [(⟨a1_0, a1_1⟩ : S39)]), 0)) else (none))) = some (r1, r2, r3) := by rw [if_neg (show ¬ (false = true) by decide)] at H; exact H
      clear H
      have H := H1
      clear H1
      by_cases c53 : (y241.length : Int) = 36
      ·rw [if_pos c53] at H
       have c53b0 : ((y241.length : Int) == 36) = true := beq_iff_eq.mpr c53
       have c53b1 : ((y241.length : Int) != 36) = false := bne_eq_false_iff_eq.mpr c53
       clear c53
       simp only [Option.some.injEq, Prod.mk.injEq] at H
       obtain ⟨rfl, rfl, rfl⟩ := H
       have hnb54 := NB236_234.out
       have hnc54 := NB234_236.out
       have hnb55 := NB236_235.out
       have hnc55 := NB235_236.out
       have hnb56 := NB236_244.out
       have hnc56 := NB244_236.out
       have hcz57_0 : wc.cell? ⟨gb236, 0, none⟩ = some (.int .i64 0) := (bC BK236.out 0).trans rfl
       have hcz57_1 : wc.cell? ⟨gb236, 1, none⟩ = some (.slice none 0 0) := (bC BK236.out 1).trans rfl
       have hfz57_0 := bF BK236.out 0
       have hfz57_1 := bF BK236.out 1
       go_wp2
       refine bodyPost_ret (results_ct rfl _ _ gb236 29 #[.int .i64 0, .slice none 0 0] (0, 0) _ rfl (by (with_reducible repeat first | apply bN | apply bD | apply bA); refine bP (cs := #[.int .i64 0, .slice none 0 0]) ?_ 1 _ rfl; (with_reducible repeat first | apply bN | apply bD | apply bA); refine bP (cs := #[.int .i64 0, .slice none 0 0]) ?_ 0 _ rfl; (with_reducible repeat first | apply bN | apply bD | apply bA); exact BK236.out) Tryd.underlying29 rfl (by kernel_rfl)) rfl ?_
       exact ⟨_, by first | rfl | (simp [errW_none, errW_some] <;> rfl) | (simp [*, errW_none, errW_some] <;> rfl), by first | exact Kd.R_nil _ _ _ _ _ | exact Kd.N_nil _ _ _ _ _ | exact Kd.V_nil _ _ _ _ _ | exact Kd.Q_nil _ _ _ _ _ | exact Kd.S_nil _ _ _ _ _, by repeat (first | (with_reducible first | exact HB.out | apply pA | apply pN | apply pD | refine bS ?_ GE234.out | refine bS ?_ GE235.out | refine bS ?_ GE236.out | refine bS ?_ GE244.out) | exact HB.out)⟩
      ·rw [if_neg c53] at H
       have c53b0 : ((y241.length : Int) == 36) = false := beq_eq_false_iff_ne.mpr c53
       have c53b1 : ((y241.length : Int) != 36) = true := bne_iff_ne.mpr c53
       by_cases c58 : y241.length < 8796093022208
       ·rw [if_pos c58] at H
        have LMc58 := A0k c58
        clear c58
        obtain ⟨y249, hy249⟩ : ∃ y_ : List (S39), y_ = (y241 ++ [(⟨a1_0, a1_1⟩ : S39)]) := ⟨_, rfl⟩
        replace H : (some ((wrap64 (a0_0 + 1)), y249, 0)) = some (r1, r2, r3) := by first | (rw [hy249]; with_reducible exact H) | (have H2_ := (Option.bind_some _ _).symm.trans H; rw [hy249]; with_reducible exact H2_) | (have H2_ := (Option.bind_some _ _).symm.trans H; with_reducible exact H2_) | with_reducible exact H | (rw [hy249]; exact H) | exact H
        have Ny249 := A0k hy249
        clear hy249
        simp only [Option.some.injEq, Prod.mk.injEq] at H
        obtain ⟨rfl, rfl, rfl⟩ := H
        have hnb59 := NB244_234.out
        have hnc59 := NB234_244.out
        have hnb60 := NB244_235.out
        have hnc60 := NB235_244.out
        have hnb61 := NB244_236.out
        have hnc61 := NB236_244.out
        have hcz62_0 : wc.cell? ⟨gb244, 0, none⟩ = some (.int .i64 (wrap64 (a0_0 + 1))) := (bC BK244.out 0).trans rfl
        have hcz62_1 : wc.cell? ⟨gb244, 1, none⟩ = some (.slice Ao23 y241.length co23) := (bC BK244.out 1).trans rfl
        have hfz62_0 := bF BK244.out 0
        have hfz62_1 := bF BK244.out 1
        have hnb63 := NB235_234.out
        have hnc63 := NB234_235.out
        have hnb64 := NB235_236.out
        have hnc64 := NB236_235.out
        have hcz65_0 : wc.cell? ⟨gb235, 0, none⟩ = some (.int .i64 a1_0) := (bC BK235.out 0).trans rfl
        have hcz65_1 : wc.cell? ⟨gb235, 1, none⟩ = some (.int .i64 a1_1) := (bC BK235.out 1).trans rfl
        have hfz65_0 := bF BK235.out 0
        have hfz65_1 := bF BK235.out 1
        go_wp2_with (first | ((with_reducible refine gB (b := .append) (xs := #[.tmp 66, .tmp 68]) rfl ?_); at_builtin; refine Kd.R_append k39 (w0 := w) w.heap.size rfl (.tmp 66) (.tmp 68) 27 39 (.agg #[(.int .i64 0), (.int .i64 0)]) 16 rfl Tryd.underlying27 info39 rfl (by decide) (by omega) (.slice Ao23 y241.length co23) y241 (⟨a1_0, a1_1⟩ : S39) [.int .i64 a1_0, .int .i64 a1_1] (fun k_ => k_ ≠ gb235) (fun _ => False) rfl rfl ?aP (fun _ hk => hk.elim) ?aF ?aO ?aB ?aS ?aL ?_; (case aP => exact k39_mkM _ _ _ (⟨a1_0, a1_1⟩ : S39)); (case aB => exact (by repeat (first | (with_reducible first | exact HB.out | apply pA | apply pN | apply pD | refine bS ?_ GE234.out | refine bS ?_ GE235.out | refine bS ?_ GE236.out | refine bS ?_ GE244.out) | exact HB.out))); (case aF => exact (fun k_ hk => Kd.freshB (g := gb235) (o := .cells #[.int .i64 a1_0, .int .i64 a1_1] 39 (0, 0)) (by (with_reducible repeat first | apply bN | apply bD | apply bA); exact BK235.out) k_ hk)); (case aO => exact (by (with_reducible repeat first | apply rA | apply rN | apply rD); exact qa.out)); (case aS => exact (pZ (by repeat (first | (with_reducible first | exact HB.out | apply pA | apply pN | apply pD | refine bS ?_ GE234.out | refine bS ?_ GE235.out | refine bS ?_ GE236.out | refine bS ?_ GE244.out) | exact HB.out)))); (case aL => have := LMc58.out; omega); intro v250 w66 ho hb hg hat; rw [← Ny249.out] at ho; have n0_ := A0k (blk_grown (g := gb234) (o := .cells #[.int .i64 a0_0, .slice A0_1 l0_1.length c0_1] 29 (0, 0)) (by (with_reducible repeat first | apply bN | apply bD | apply bA); exact BK234.out) hg (Kd.R_ne qa.out BK234.out (by decide))); have n1_ := A0k (blk_grown (g := gb235) (o := .cells #[.int .i64 a1_0, .int .i64 a1_1] 39 (0, 0)) (by (with_reducible repeat first | apply bN | apply bD | apply bA); exact BK235.out) hg (Kd.R_away qa.out (fun _ hk => hk))); have n2_ := A0k (blk_grown (g := gb236) (o := .cells #[.int .i64 0, .slice none 0 0] 29 (0, 0)) (by (with_reducible repeat first | apply bN | apply bD | apply bA); exact BK236.out) hg (Kd.R_ne qa.out BK236.out (by decide))); have n3_ := A0k (blk_grown (g := gb244) (o := .cells #[.int .i64 (wrap64 (a0_0 + 1)), .slice Ao23 y241.length co23] 29 (0, 0)) (by (with_reducible repeat first | apply bN | apply bD | apply bA); exact BK244.out) hg (Kd.R_ne qa.out BK244.out (by decide))); have n4_ := A0k (hb); have n5_ := A0k (ho); clear BK234 BK235 BK236 BK244 HB qa; have BK234 := n0_; have BK235 := n1_; have BK236 := n2_; have BK244 := n3_; have HB := n4_; have HO251 := n5_; clear n0_ n1_ n2_ n3_ n4_ n5_ ho hb hg hat; obtain ⟨Ao67, co67, eo67⟩ := Kd.R_slice HO251.out; subst eo67; have hcz68_0 : w66.cell? ⟨gb244, 0, none⟩ = some (.int .i64 (wrap64 (a0_0 + 1))) := (bC BK244.out 0).trans rfl; have hcz68_1 : w66.cell? ⟨gb244, 1, none⟩ = some (.slice Ao23 y241.length co23) := (bC BK244.out 1).trans rfl; have hfz68_0 := bF BK244.out 0; have hfz68_1 := bF BK244.out 1; have hnb69 := NB236_234.out; have hnc69 := NB234_236.out; have hcz70_0 : w66.cell? ⟨gb236, 0, none⟩ = some (.int .i64 0) := (bC BK236.out 0).trans rfl; have hcz70_1 : w66.cell? ⟨gb236, 1, none⟩ = some (.slice none 0 0) := (bC BK236.out 1).trans rfl; have hfz70_0 := bF BK236.out 0; have hfz70_1 := bF BK236.out 1))
        refine bodyPost_ret (results_ct rfl _ _ gb236 29 #[.int .i64 (wrap64 (a0_0 + 1)), .slice Ao67 y249.length co67] (0, 0) _ rfl (by (with_reducible repeat first | apply bN | apply bD | apply bA); refine bP (cs := #[.int .i64 (wrap64 (a0_0 + 1)), .slice none 0 0]) ?_ 1 _ rfl; (with_reducible repeat first | apply bN | apply bD | apply bA); refine bP (cs := #[.int .i64 0, .slice none 0 0]) ?_ 0 _ rfl; (with_reducible repeat first | apply bN | apply bD | apply bA); refine bR ?_ NB236_244.out _; (with_reducible repeat first | apply bN | apply bD | apply bA); exact BK236.out) Tryd.underlying29 rfl (by kernel_rfl)) rfl ?_
        exact ⟨_, by first | rfl | (simp [errW_none, errW_some] <;> rfl) | (simp [*, errW_none, errW_some] <;> rfl), by (with_reducible repeat first | apply rA | apply rN | apply rD); exact Kd.R_mono (Kd.R_far (p := ⟨gb236, 1, none⟩) (Kd.R_far (p := ⟨gb236, 0, none⟩) (Kd.R_far (p := ⟨gb244, 1, none⟩) (Kd.R_types (Kd.R_types HO251.out BK244.out (by decide)) BK236.out (by decide)) (fun _ hk => hk.1.2) (.slice Ao67 y249.length co67)) (fun _ hk => hk.2) (.int .i64 (wrap64 (a0_0 + 1)))) (fun _ hk => hk.2) (.slice Ao67 y249.length co67)) (fun _ hk => trivial), by repeat (first | (with_reducible first | exact HB.out | apply pA | apply pN | apply pD | refine bS ?_ GE234.out | refine bS ?_ GE235.out | refine bS ?_ GE236.out | refine bS ?_ GE244.out) | exact HB.out)⟩
       ·rw [if_neg c58] at H
        exact absurd H (by simp)
  ·rw [if_neg c5] at H
   exact absurd H (by simp)
 ·replace c4 := Bool.eq_false_iff.mpr c4
  subst c4
  have H1 : (some (0, ([] : List (S39)), 1)) = some (r1, r2, r3) := by rw [if_neg (show ¬ (false = true) by decide)] at H; exact H
  clear H
  have H := H1
  clear H1
  simp only [Option.some.injEq, Prod.mk.injEq] at H
  obtain ⟨rfl, rfl, rfl⟩ := H
  go_enter Tryd.func12, Tryd.ntmps12
  go_wp2_with (first | ((with_reducible refine gD (N := 2) rfl ?_); refine bE ?hg (N := 2) ?hd (cs := #[.int .i64 a0_0, .slice A0_1 l0_1.length c0_1]) (t := 29) ?hr ?_; (case hd => rfl); (case hg => rfl); (case hr => first | (go_simp; done) | (go_simp; rfl)); intro gb234 hg w71 hbox hb; have n0_ := A0k (pS (by repeat (first | (with_reducible first | exact HB.out | apply pA | apply pN | apply pD) | exact HB.out)) hb); have n1_ := A0k (hbox); have n2_ := A0k ((by rw [hg]; exact (pZ (by repeat (first | (with_reducible first | exact HB.out | apply pA | apply pN | apply pD) | exact HB.out))) : w.heap.size ≤ gb234)); have n3_ := A0k ((by rw [hg]; exact (pZ (by repeat (first | (with_reducible first | exact HB.out | apply pA | apply pN | apply pD) | exact HB.out))) : w.heap.size ≤ gb234)); clear HB; have HB := n0_; have BK234 := n1_; have GW234 := n2_; have GE234 := n3_; clear n0_ n1_ n2_ n3_ hb hbox hg) | ((with_reducible refine gD (N := 3) rfl ?_); refine bE ?hg (N := 3) ?hd (cs := #[.int .i64 a1_0, .int .i64 a1_1]) (t := 39) ?hr ?_; (case hd => rfl); (case hg => rfl); (case hr => first | (go_simp; done) | (go_simp; rfl)); intro gb235 hg w72 hbox hb; have n0_ := A0k (bB (g := gb234) (o := .cells #[.int .i64 a0_0, .slice A0_1 l0_1.length c0_1] 29 (0, 0)) (by (with_reducible repeat first | apply bN | apply bD | apply bA); exact BK234.out) hb); have n1_ := A0k (pS (by repeat (first | (with_reducible first | exact HB.out | apply pA | apply pN | apply pD | refine bS ?_ GE234.out) | exact HB.out)) hb); have n2_ := A0k (hbox); have n3_ := A0k ((by rw [hg]; exact (pZ (by repeat (first | (with_reducible first | exact HB.out | apply pA | apply pN | apply pD | refine bS ?_ GE234.out) | exact HB.out))) : w.heap.size ≤ gb235)); have n4_ := A0k ((by rw [hg]; exact (pZ (by repeat (first | (with_reducible first | exact HB.out | apply pA | apply pN | apply pD | refine bS ?_ GE234.out) | exact HB.out))) : w.heap.size ≤ gb235)); have n5_ := A0k ((by rw [hg]; exact Nat.ne_of_lt (bL (g := gb234) (o := .cells #[.int .i64 a0_0, .slice A0_1 l0_1.length c0_1] 29 (0, 0)) (by (with_reducible repeat first | apply bN | apply bD | apply bA); exact BK234.out)) : gb234 ≠ gb235)); have n6_ := A0k ((by rw [hg]; exact Nat.ne_of_gt (bL (g := gb234) (o := .cells #[.int .i64 a0_0, .slice A0_1 l0_1.length c0_1] 29 (0, 0)) (by (with_reducible repeat first | apply bN | apply bD | apply bA); exact BK234.out)) : gb235 ≠ gb234)); clear BK234 HB; have BK234 := n0_; have HB := n1_; have BK235 := n2_; have GW235 := n3_; have GE235 := n4_; have NB234_235 := n5_; have NB235_234 := n6_; clear n0_ n1_ n2_ n3_ n4_ n5_ n6_ hb hbox hg) | ((with_reducible refine gD (N := 4) rfl ?_); refine bE ?hg (N := 4) ?hd (cs := #[.int .i64 0, .slice none 0 0]) (t := 29) ?hr ?_; (case hd => rfl); (case hg => rfl); (case hr => first | (go_simp; done) | (go_simp; rfl)); intro gb236 hg w73 hbox hb; have n0_ := A0k (bB (g := gb234) (o := .cells #[.int .i64 a0_0, .slice A0_1 l0_1.length c0_1] 29 (0, 0)) (by (with_reducible repeat first | apply bN | apply bD | apply bA); exact BK234.out) hb); have n1_ := A0k (bB (g := gb235) (o := .cells #[.int .i64 a1_0, .int .i64 a1_1] 39 (0, 0)) (by (with_reducible repeat first | apply bN | apply bD | apply bA); exact BK235.out) hb); have n2_ := A0k (pS (by repeat (first | (with_reducible first | exact HB.out | apply pA | apply pN | apply pD | refine bS ?_ GE234.out | refine bS ?_ GE235.out) | exact HB.out)) hb); have n3_ := A0k (hbox); have n4_ := A0k ((by rw [hg]; exact (pZ (by repeat (first | (with_reducible first | exact HB.out | apply pA | apply pN | apply pD | refine bS ?_ GE234.out | refine bS ?_ GE235.out) | exact HB.out))) : w.heap.size ≤ gb236)); have n5_ := A0k ((by rw [hg]; exact (pZ (by repeat (first | (with_reducible first | exact HB.out | apply pA | apply pN | apply pD | refine bS ?_ GE234.out | refine bS ?_ GE235.out) | exact HB.out))) : w.heap.size ≤ gb236)); have n6_ := A0k ((by rw [hg]; exact Nat.ne_of_lt (bL (g := gb234) (o := .cells #[.int .i64 a0_0, .slice A0_1 l0_1.length c0_1] 29 (0, 0)) (by (with_reducible repeat first | apply bN | apply bD | apply bA); exact BK234.out)) : gb234 ≠ gb236)); have n7_ := A0k ((by rw [hg]; exact Nat.ne_of_gt (bL (g := gb234) (o := .cells #[.int .i64 a0_0, .slice A0_1 l0_1.length c0_1] 29 (0, 0)) (by (with_reducible repeat first | apply bN | apply bD | apply bA); exact BK234.out)) : gb236 ≠ gb234)); have n8_ := A0k ((by rw [hg]; exact Nat.ne_of_lt (bL (g := gb235) (o := .cells #[.int .i64 a1_0, .int .i64 a1_1] 39 (0, 0)) (by (with_reducible repeat first | apply bN | apply bD | apply bA); exact BK235.out)) : gb235 ≠ gb236)); have n9_ := A0k ((by rw [hg]; exact Nat.ne_of_gt (bL (g := gb235) (o := .cells #[.int .i64 a1_0, .int .i64 a1_1] 39 (0, 0)) (by (with_reducible repeat first | apply bN | apply bD | apply bA); exact BK235.out)) : gb236 ≠ gb235)); clear BK234 BK235 HB; have BK234 := n0_; have BK235 := n1_; have HB := n2_; have BK236 := n3_; have GW236 := n4_; have GE236 := n5_; have NB234_236 := n6_; have NB236_234 := n7_; have NB235_236 := n8_; have NB236_235 := n9_; clear n0_ n1_ n2_ n3_ n4_ n5_ n6_ n7_ n8_ n9_ hb hbox hg; have hnb74 := NB234_235.out; have hnc74 := NB235_234.out; have hnb75 := NB234_236.out; have hnc75 := NB236_234.out; have hcz76_0 : w73.cell? ⟨gb234, 0, none⟩ = some (.int .i64 a0_0) := (bC BK234.out 0).trans rfl; have hcz76_1 : w73.cell? ⟨gb234, 1, none⟩ = some (.slice A0_1 l0_1.length c0_1) := (bC BK234.out 1).trans rfl; have hfz76_0 := bF BK234.out 0; have hfz76_1 := bF BK234.out 1; have hnb77 := NB235_236.out; have hnc77 := NB236_235.out; have hcz78_0 : w73.cell? ⟨gb235, 0, none⟩ = some (.int .i64 a1_0) := (bC BK235.out 0).trans rfl; have hcz78_1 : w73.cell? ⟨gb235, 1, none⟩ = some (.int .i64 a1_1) := (bC BK235.out 1).trans rfl; have hfz78_0 := bF BK235.out 0; have hfz78_1 := bF BK235.out 1) | ((with_reducible refine gC (f := 34) rfl ?_); refine gL_ (some 13) rfl rfl Tryd.func34 (by kernel_rfl) rfl #[.agg #[.int .i64 a0_0, .slice A0_1 l0_1.length c0_1], .int .i64 a1_0, .int .i64 a1_1] rfl (by (try simp only [List.map_toArray, List.map_cons, List.map_nil]); first | done | rfl | (simp only [List.length_drop, List.length_take]; rfl)) ?_; (with_reducible refine (posthorseref08_free.calls k a0_0 _ _ l0_1 a1_0 a1_1 false _ ?side1 ?side2 A3.out).mono ?_); (case side1 => repeat (first | exact (Kd.C_below HR0_1.out HB.out) | (with_reducible refine Kd.C_alloc ?_ _) | (with_reducible refine Kd.C_drewN ?_ _) | (with_reducible refine Kd.C_drew ?_))); (case side2 => exact HC0_1.out); rintro e w79 ⟨rfl, hb⟩; refine ⟨_, rfl, ?_⟩; have n0_ := A0k (bB (g := gb234) (o := .cells #[.int .i64 a0_0, .slice A0_1 l0_1.length c0_1] 29 (0, 0)) (by (with_reducible repeat first | apply bN | apply bD | apply bA); exact BK234.out) hb); have n1_ := A0k (bB (g := gb235) (o := .cells #[.int .i64 a1_0, .int .i64 a1_1] 39 (0, 0)) (by (with_reducible repeat first | apply bN | apply bD | apply bA); exact BK235.out) hb); have n2_ := A0k (bB (g := gb236) (o := .cells #[.int .i64 0, .slice none 0 0] 29 (0, 0)) (by (with_reducible repeat first | apply bN | apply bD | apply bA); exact BK236.out) hb); have n3_ := A0k (pS (by repeat (first | (with_reducible first | exact HB.out | apply pA | apply pN | apply pD | refine bS ?_ GE234.out | refine bS ?_ GE235.out | refine bS ?_ GE236.out) | exact HB.out)) hb); clear BK234 BK235 BK236 HB; have BK234 := n0_; have BK235 := n1_; have BK236 := n2_; have HB := n3_; clear n0_ n1_ n2_ n3_; (try clear hb); (try clear hb2); (try clear hk); (try clear hi); have hcz80_0 : w79.cell? ⟨gb236, 0, none⟩ = some (.int .i64 0) := (bC BK236.out 0).trans rfl; have hcz80_1 : w79.cell? ⟨gb236, 1, none⟩ = some (.slice none 0 0) := (bC BK236.out 1).trans rfl; have hfz80_0 := bF BK236.out 0; have hfz80_1 := bF BK236.out 1))
  refine bodyPost_ret (results_ct rfl _ _ gb236 29 #[.int .i64 0, .slice none 0 0] (0, 0) _ rfl (by (with_reducible repeat first | apply bN | apply bD | apply bA); refine bP (cs := #[.int .i64 0, .slice none 0 0]) ?_ 1 _ rfl; (with_reducible repeat first | apply bN | apply bD | apply bA); refine bP (cs := #[.int .i64 0, .slice none 0 0]) ?_ 0 _ rfl; (with_reducible repeat first | apply bN | apply bD | apply bA); exact BK236.out) Tryd.underlying29 rfl (by kernel_rfl)) rfl ?_
  exact ⟨_, by first | rfl | (simp [errW_none, errW_some] <;> rfl) | (simp [*, errW_none, errW_some] <;> rfl), by first | exact Kd.R_nil _ _ _ _ _ | exact Kd.N_nil _ _ _ _ _ | exact Kd.V_nil _ _ _ _ _ | exact Kd.Q_nil _ _ _ _ _ | exact Kd.S_nil _ _ _ _ _, by repeat (first | (with_reducible first | exact HB.out | apply pA | apply pN | apply pD | refine bS ?_ GE234.out | refine bS ?_ GE235.out | refine bS ?_ GE236.out) | exact HB.out)⟩

end Go.Proofs.YtmncfcebjohloaaDoor.VInodePlays
