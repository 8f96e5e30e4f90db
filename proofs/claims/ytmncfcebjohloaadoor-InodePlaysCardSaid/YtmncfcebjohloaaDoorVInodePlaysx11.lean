/- Contracts of functions of this seat: each call comes to what its Lean function computes; no condition beyond what each theorem states. Printed by a program of this session's own laid over the kit's printer. -/
import Derived.Test.YtmncfcebjohloaaDoorVInodePlaysx0
import Derived.Test.YtmncfcebjohloaaDoorVInodePlaysx10
namespace Go.Proofs.YtmncfcebjohloaaDoor.VInodePlays
open Go.RowKit Go.Proofs.YtmncfcebjohloaaDoorW.PrintWords Go.Proofs.YtmncfcebjohloaaDoorW.PrintLast Go.Proofs.YtmncfcebjohloaaDoorW.PrintMore
attribute [local go_sem] max2_int min2_int max_two min_two max_three min_three max_four min_four   -- for this text's walks alone
open Go.Proofs.YtmncfcebjohloaaDoorW.PrintWords.Kd renaming R_alloc → rA
open Go.Proofs.YtmncfcebjohloaaDoorW.PrintWords.Kd renaming R_drewN → rN
open Go.Proofs.YtmncfcebjohloaaDoorW.PrintWords.Kd renaming R_drew → rD
open List renaming setIfInBounds_toArray → lS, set_cons_zero → lZ, set_cons_succ → lC
open Bool renaming true → T, false → F
open Go.Proofs.YtmncfcebjohloaaDoorW.PrintWords renaming blk_drewN → bN, blk_drew → bD, blk_alloc → bA, below_set → bS, pw_below_drewN → pN, below_drew1 → pD, below_alloc → pA, below_step → pS, below_size → pZ, blk_frozen → bF, blk_cell → bC, blk_below → bB, blk_far → bR, blk_put → bP, blk_lt → bL, gate_dst → gD, gate_guard → gG, cell_far → cF, box_event → bE
open Go.Proofs.YtmncfcebjohloaaDoorW.PrintWords.Aside0 renaming mk → A0k
set_option linter.unusedVariables false
set_option linter.unusedSimpArgs false

/-! ### posthorseref08_Move: function 10 -/
def posthorseref08_Move.f (k : Nat) (a0_0 : Int) (l0_1 : List (S39)) (a1 : Int) (a2 : Int) : Option (Int × (List (S39)) × Int × Int × Int) := if a1 < 0 then (some (0, ([] : List (S39)), 0, 0, 1)) else (if a1 ≥ (l0_1.length : Int) then (some (0, ([] : List (S39)), 0, 0, 1)) else (if 0 ≤ a1 then (if a1 < (l0_1.length : Int) then ((posthorseref08_free.f k a0_0 l0_1 a2 ((rd_T39 l0_1 a1).f1)).bind fun t224 => (if t224 = true then ((some (([] : List (S39)) : List (S39))).bind fun y225 => (if y225.length + l0_1.length < 8796093022208 then ((some (y225 ++ l0_1 : List (S39))).bind fun y228 => (if a1 < (y228.length : Int) then (some (wrap64 (a0_0 + 1), (y228.set (a1 : Int).toNat (⟨a2, (rd_T39 y228 a1).f1⟩ : S39)), (rd_T39 l0_1 a1).f0, (rd_T39 l0_1 a1).f1, 0)) else (none))) else (none))) else (some (0, ([] : List (S39)), 0, 0, 1)))) else (none)) else (none)))
theorem posthorseref08_Move.mono : ∀ a0 a1 a2 a3 k, LeO (posthorseref08_Move.f k a0 a1 a2 a3) (posthorseref08_Move.f (k + 1) a0 a1 a2 a3) := by
 intro a0 a1 a2 a3 k
 unfold posthorseref08_Move.f
 repeat' first
   | (with_reducible exact posthorseref08_free.mono _ _ _ _ _)
   | (with_reducible exact LeO.refl _)
   | (with_reducible exact LeO.none _)
   | (with_reducible refine LeO.ite ?_ ?_)
   | (with_reducible refine LeO.bind ?_ (fun _ => ?_))
   | exact posthorseref08_free.mono _ _ _ _ _
   | exact LeO.none _
   | refine LeO.ite ?_ ?_
   | refine LeO.bind ?_ (fun _ => ?_)
def posthorseref08_Move.T1 : Bool × List (List Nat × List Nat) := (true, [([], []), ([0], [0]), ([1], [1]), ([2], [2]), ([2], [2]), ([4, 2], [2, 4]), ([5, 2], [2, 5]), ([3, 6, 2], [2, 3, 6]), ([2, 7], [2, 7]), ([8, 2], [8]), ([9], [9]), ([9], [9]), ([9], [9]), ([12, 9], [9, 12]), ([9], [9]), ([13, 14, 9], [9, 13, 14]), ([15, 9], [9, 15]), ([16, 9], [9, 16]), ([10, 11, 17, 9, 9], [9, 10, 11, 17]), ([18, 9], [9, 18]), ([9, 19], [9, 19])])
def posthorseref08_Move.B1 : List Nat := [0, 1, 3, 7, 7, 23, 55, 127, 255, 511, 1023, 1023, 1023, 5119, 1023, 29695, 62463, 127999, 262143, 524287, 1048575]
theorem posthorseref08_Move.tab1 : rtab .any (opsOf Tryd.f10 1) = posthorseref08_Move.T1 := by kernel_rfl
theorem posthorseref08_Move.bits1 : waitsOk posthorseref08_Move.T1.2 posthorseref08_Move.B1 = true := by kernel_rfl
def posthorseref08_Move.T3 : Bool × List (List Nat × List Nat) := (true, [([], []), ([0], [0]), ([1], [1]), ([], []), ([], []), ([4], [4]), ([3, 5], [3, 5]), ([2, 6], [2, 6]), ([], []), ([8, 7, 6, 0, 1, 2, 3, 4, 5, 6, 7, 8], [7, 8])])
def posthorseref08_Move.B3 : List Nat := [0, 1, 3, 0, 0, 16, 56, 127, 0, 511]
theorem posthorseref08_Move.tab3 : rtab .any (opsOf Tryd.f10 3) = posthorseref08_Move.T3 := by kernel_rfl
theorem posthorseref08_Move.bits3 : waitsOk posthorseref08_Move.T3.2 posthorseref08_Move.B3 = true := by kernel_rfl
def posthorseref08_Move.T5 : Bool × List (List Nat × List Nat) := (true, [([], []), ([], []), ([1], [1]), ([], []), ([2, 3], [2, 3]), ([4], [4]), ([0, 0], [0]), ([5, 6, 0, 1, 2, 3, 4, 5, 6], [5]), ([7, 0, 1, 2, 3, 4, 5, 6, 7], [])])
def posthorseref08_Move.B5 : List Nat := [0, 0, 2, 0, 14, 30, 1, 127, 255]
theorem posthorseref08_Move.tab5 : rtab .any (opsOf Tryd.f10 5) = posthorseref08_Move.T5 := by kernel_rfl
theorem posthorseref08_Move.bits5 : waitsOk posthorseref08_Move.T5.2 posthorseref08_Move.B5 = true := by kernel_rfl
open Go.Proofs.YtmncfcebjohloaaDoor.VInodePlays renaming rd_T39 → d0_
set_option maxHeartbeats 8000000 in
set_option maxRecDepth 100000 in
theorem posthorseref08_Move.calls (k : Nat) (a0_0 : Int) (A0_1 : Option Addr) (c0_1 : Nat) (l0_1 : List (S39)) (a1 : Int) (a2 : Int) (r1 : Int) (r2 : List (S39)) (r3 : Int) (r4 : Int) (r5 : Int) (w : World) (hr0_1 : Kd.C k39 w A0_1 l0_1.length l0_1) (hc0_1 : l0_1.length ≤ c0_1) (h : posthorseref08_Move.f k a0_0 l0_1 a1 a2 = some (r1, r2, r3, r4, r5)) :
  Calls Tryd.prog 10 #[.agg #[.int .i64 a0_0, .slice A0_1 l0_1.length c0_1], .int .i64 a1, .int .i64 a2] w fun e w' => ∃ v1_ : Value, e = .returned (.tuple #[.agg #[.int .i64 r1, v1_], .agg #[.int .i64 r3, .int .i64 r4], .int .i64 r5]) ∧ Kd.R k39 39 w' w.heap.size (fun _ => True) v1_ r2 ∧ Below w.heap.size w w' := by
 have hu29 := Tryd.underlying29
 have hu39 := Tryd.underlying39
 have HR0_1 := A0k hr0_1
 have HC0_1 := A0k hc0_1
 clear hr0_1 hc0_1
 have HB := A0k (Below.refl w.heap.size w)
 have H : (if a1 < 0 then (some (0, ([] : List (S39)), 0, 0, 1)) else (if a1 ≥ (l0_1.length : Int) then (some (0, ([] : List (S39)), 0, 0, 1)) else (if 0 ≤ a1 then (if a1 < (l0_1.length : Int) then ((posthorseref08_free.f k a0_0 l0_1 a2 ((d0_ l0_1 a1).f1)).bind fun t224 => (if t224 = true then ((some (([] : List (S39)) : List (S39))).bind fun y225 => (if y225.length + l0_1.length < 8796093022208 then ((some (y225 ++ l0_1 : List (S39))).bind fun y228 => (if a1 < (y228.length : Int) then (some (wrap64 (a0_0 + 1), (y228.set (a1 : Int).toNat (⟨a2, (d0_ y228 a1).f1⟩ : S39)), (d0_ l0_1 a1).f0, (d0_ l0_1 a1).f1, 0)) else (none))) else (none))) else (some (0, ([] : List (S39)), 0, 0, 1)))) else (none)) else (none)))) = some (r1, r2, r3, r4, r5) := h
 clear h
 by_cases c4 : a1 < 0
 ·rw [if_pos c4] at H
  have c4b0 : decide (a1 < 0) = true := decide_eq_true c4
  clear c4
  simp only [Option.some.injEq, Prod.mk.injEq] at H
  obtain ⟨rfl, rfl, rfl, rfl, rfl⟩ := H
  go_enter Tryd.func10, Tryd.ntmps10
  try go_wp2_with (first | ((with_reducible refine gD (N := 3) rfl ?_); (try (refine gG (by rfl) ?_; dsimp only)); refine bE ?hg (N := 3) ?hd (cs := #[.int .i64 a0_0, .slice A0_1 l0_1.length c0_1]) (t := 29) ?hr ?_; (case hd => rfl); (case hg => rfl); (case hr => first | (go_simp; done) | (go_simp; rfl)); intro gb220 hg w5 hbox hb; have n0_ := A0k (pS (by repeat (first | (with_reducible first | exact HB.out | apply pA | apply pN | apply pD) | exact HB.out)) hb); have n1_ := A0k (hbox); have n2_ := A0k ((by rw [hg]; exact (pZ (by repeat (first | (with_reducible first | exact HB.out | apply pA | apply pN | apply pD) | exact HB.out))) : w.heap.size ≤ gb220)); have n3_ := A0k ((by rw [hg]; exact (pZ (by repeat (first | (with_reducible first | exact HB.out | apply pA | apply pN | apply pD) | exact HB.out))) : w.heap.size ≤ gb220)); clear HB; have HB := n0_; have BK220 := n1_; have GW220 := n2_; have GE220 := n3_; clear n0_ n1_ n2_ n3_ hb hbox hg) | ((with_reducible refine gD (N := 6) rfl ?_); (try (refine gG (by rfl) ?_; dsimp only)); refine bE ?hg (N := 6) ?hd (cs := #[.int .i64 0, .slice none 0 0]) (t := 29) ?hr ?_; (case hd => rfl); (case hg => rfl); (case hr => first | (go_simp; done) | (go_simp; rfl)); intro gb221 hg w6 hbox hb; have n0_ := A0k (bB (g := gb220) (o := .cells #[.int .i64 a0_0, .slice A0_1 l0_1.length c0_1] 29 (0, 0)) (by (with_reducible repeat first | apply bN | apply bD | apply bA); exact BK220.out) hb); have n1_ := A0k (pS (by repeat (first | (with_reducible first | exact HB.out | apply pA | apply pN | apply pD | refine bS ?_ GE220.out) | exact HB.out)) hb); have n2_ := A0k (hbox); have n3_ := A0k ((by rw [hg]; exact (pZ (by repeat (first | (with_reducible first | exact HB.out | apply pA | apply pN | apply pD | refine bS ?_ GE220.out) | exact HB.out))) : w.heap.size ≤ gb221)); have n4_ := A0k ((by rw [hg]; exact (pZ (by repeat (first | (with_reducible first | exact HB.out | apply pA | apply pN | apply pD | refine bS ?_ GE220.out) | exact HB.out))) : w.heap.size ≤ gb221)); have n5_ := A0k ((by rw [hg]; exact Nat.ne_of_lt (bL (g := gb220) (o := .cells #[.int .i64 a0_0, .slice A0_1 l0_1.length c0_1] 29 (0, 0)) (by (with_reducible repeat first | apply bN | apply bD | apply bA); exact BK220.out)) : gb220 ≠ gb221)); have n6_ := A0k ((by rw [hg]; exact Nat.ne_of_gt (bL (g := gb220) (o := .cells #[.int .i64 a0_0, .slice A0_1 l0_1.length c0_1] 29 (0, 0)) (by (with_reducible repeat first | apply bN | apply bD | apply bA); exact BK220.out)) : gb221 ≠ gb220)); clear BK220 HB; have BK220 := n0_; have HB := n1_; have BK221 := n2_; have GW221 := n3_; have GE221 := n4_; have NB220_221 := n5_; have NB221_220 := n6_; clear n0_ n1_ n2_ n3_ n4_ n5_ n6_ hb hbox hg) | ((with_reducible refine gD (N := 7) rfl ?_); (try (refine gG (by rfl) ?_; dsimp only)); refine bE ?hg (N := 7) ?hd (cs := #[.int .i64 0, .int .i64 0]) (t := 39) ?hr ?_; (case hd => rfl); (case hg => rfl); (case hr => first | (go_simp; done) | (go_simp; rfl)); intro gb222 hg w7 hbox hb; have n0_ := A0k (bB (g := gb220) (o := .cells #[.int .i64 a0_0, .slice A0_1 l0_1.length c0_1] 29 (0, 0)) (by (with_reducible repeat first | apply bN | apply bD | apply bA); exact BK220.out) hb); have n1_ := A0k (bB (g := gb221) (o := .cells #[.int .i64 0, .slice none 0 0] 29 (0, 0)) (by (with_reducible repeat first | apply bN | apply bD | apply bA); exact BK221.out) hb); have n2_ := A0k (pS (by repeat (first | (with_reducible first | exact HB.out | apply pA | apply pN | apply pD | refine bS ?_ GE220.out | refine bS ?_ GE221.out) | exact HB.out)) hb); have n3_ := A0k (hbox); have n4_ := A0k ((by rw [hg]; exact (pZ (by repeat (first | (with_reducible first | exact HB.out | apply pA | apply pN | apply pD | refine bS ?_ GE220.out | refine bS ?_ GE221.out) | exact HB.out))) : w.heap.size ≤ gb222)); have n5_ := A0k ((by rw [hg]; exact (pZ (by repeat (first | (with_reducible first | exact HB.out | apply pA | apply pN | apply pD | refine bS ?_ GE220.out | refine bS ?_ GE221.out) | exact HB.out))) : w.heap.size ≤ gb222)); have n6_ := A0k ((by rw [hg]; exact Nat.ne_of_lt (bL (g := gb220) (o := .cells #[.int .i64 a0_0, .slice A0_1 l0_1.length c0_1] 29 (0, 0)) (by (with_reducible repeat first | apply bN | apply bD | apply bA); exact BK220.out)) : gb220 ≠ gb222)); have n7_ := A0k ((by rw [hg]; exact Nat.ne_of_gt (bL (g := gb220) (o := .cells #[.int .i64 a0_0, .slice A0_1 l0_1.length c0_1] 29 (0, 0)) (by (with_reducible repeat first | apply bN | apply bD | apply bA); exact BK220.out)) : gb222 ≠ gb220)); have n8_ := A0k ((by rw [hg]; exact Nat.ne_of_lt (bL (g := gb221) (o := .cells #[.int .i64 0, .slice none 0 0] 29 (0, 0)) (by (with_reducible repeat first | apply bN | apply bD | apply bA); exact BK221.out)) : gb221 ≠ gb222)); have n9_ := A0k ((by rw [hg]; exact Nat.ne_of_gt (bL (g := gb221) (o := .cells #[.int .i64 0, .slice none 0 0] 29 (0, 0)) (by (with_reducible repeat first | apply bN | apply bD | apply bA); exact BK221.out)) : gb222 ≠ gb221)); clear BK220 BK221 HB; have BK220 := n0_; have BK221 := n1_; have HB := n2_; have BK222 := n3_; have GW222 := n4_; have GE222 := n5_; have NB220_222 := n6_; have NB222_220 := n7_; have NB221_222 := n8_; have NB222_221 := n9_; clear n0_ n1_ n2_ n3_ n4_ n5_ n6_ n7_ n8_ n9_ hb hbox hg))
  have n0_ := A0k (bD BK220.out)
  have n1_ := A0k (bD BK221.out)
  have n2_ := A0k (bD BK222.out)
  have n3_ := A0k (pD HB.out)
  clear BK220
  clear BK221
  clear BK222
  clear HB
  have BK220 := n0_
  have BK221 := n1_
  have BK222 := n2_
  have HB := n3_
  clear n0_ n1_ n2_ n3_
  refine start_ (n := 21) (S := fun w' => True) (ds := []) #[F, F, F, F, F, F, F, F, F, F, F, F, F, F, F, F, F, F, F, F, F] (by kernel_rfl) rfl rfl trivial (fun hHeld => ?_); refine with_tabW posthorseref08_Move.tab1 posthorseref08_Move.bits1 (fun HT_ HW_ => ?_)
  generalize w7.drew = w8 at BK220 BK221 BK222 HB hHeld ⊢
  refine pure_ (i := 0) (N := some 10) (v := ?_) (a' := ?_) #[T, F, F, F, F, F, F, F, F, F, F, F, F, F, F, F, F, F, F, F, F] rfl rfl (any_of HT_.out (by kernel_rfl)) (fun _ _ _ h => h) (Or.inl ⟨by rfl, ?_⟩) ?_ ?_
  rotate_left
  ·intro w'
   go_simp
   with_reducible rfl
  rotate_left
  ·simp only [Act.put, lS, lZ, lC, i64_w, i32_w]
   rfl
  refine pure_ (i := 1) (N := some 11) (v := ?_) (a' := ?_) #[T, T, F, F, F, F, F, F, F, F, F, F, F, F, F, F, F, F, F, F, F] rfl rfl (any_of HT_.out (by kernel_rfl)) (fun _ _ _ h => h) (Or.inl ⟨by rfl, ?_⟩) ?_ ?_
  rotate_left
  ·intro w'
   go_simp
   with_reducible rfl
  rotate_left
  ·simp only [Act.put, lS, lZ, lC, i64_w, i32_w]
   rfl
  refine pure_ (i := 2) (N := some 12) (v := ?_) (a' := ?_) #[T, T, T, F, F, F, F, F, F, F, F, F, F, F, F, F, F, F, F, F, F] rfl rfl (any_of HT_.out (by kernel_rfl)) (fun _ _ _ h => h) (Or.inl ⟨by rfl, ?_⟩) ?_ ?_
  rotate_left
  ·intro w'
   go_simp
   with_reducible rfl
  rotate_left
  ·simp only [Act.put, lS, lZ, lC, i64_w, i32_w]
   rfl
  refine pure_ (i := 3) (N := some 13) (v := undef) (a' := ?_) #[T, T, T, T, F, F, F, F, F, F, F, F, F, F, F, F, F, F, F, F, F] rfl rfl (any_of HT_.out (by kernel_rfl)) (fun _ _ _ h => h) (Or.inr ⟨by rfl, rfl⟩) ?_ ?_
  rotate_left
  ·simp only [Act.put, lS, lZ, lC, i64_w, i32_w]
   rfl
  refine pure_ (i := 4) (N := some 14) (v := undef) (a' := ?_) #[T, T, T, T, T, F, F, F, F, F, F, F, F, F, F, F, F, F, F, F, F] rfl rfl (any_of HT_.out (by kernel_rfl)) (fun _ _ _ h => h) (Or.inr ⟨by rfl, rfl⟩) ?_ ?_
  rotate_left
  ·simp only [Act.put, lS, lZ, lC, i64_w, i32_w]
   rfl
  refine pure_ (i := 5) (N := some 15) (v := undef) (a' := ?_) #[T, T, T, T, T, T, F, F, F, F, F, F, F, F, F, F, F, F, F, F, F] rfl rfl (any_of HT_.out (by kernel_rfl)) (fun _ _ _ h => h) (Or.inr ⟨by rfl, rfl⟩) ?_ ?_
  rotate_left
  ·simp only [Act.put, lS, lZ, lC, i64_w, i32_w]
   rfl
  refine pure_ (i := 6) (N := some 16) (v := undef) (a' := ?_) #[T, T, T, T, T, T, T, F, F, F, F, F, F, F, F, F, F, F, F, F, F] rfl rfl (any_of HT_.out (by kernel_rfl)) (fun _ _ _ h => h) (Or.inr ⟨by rfl, rfl⟩) ?_ ?_
  rotate_left
  ·simp only [Act.put, lS, lZ, lC, i64_w, i32_w]
   rfl
  refine pure_ (i := 7) (N := some 17) (v := undef) (a' := ?_) #[T, T, T, T, T, T, T, T, F, F, F, F, F, F, F, F, F, F, F, F, F] rfl rfl (any_of HT_.out (by kernel_rfl)) (fun _ _ _ h => h) (Or.inr ⟨by rfl, rfl⟩) ?_ ?_
  rotate_left
  ·simp only [Act.put, lS, lZ, lC, i64_w, i32_w]
   rfl
  refine pure_ (i := 8) (N := some 18) (v := ?_) (a' := ?_) #[T, T, T, T, T, T, T, T, T, F, F, F, F, F, F, F, F, F, F, F, F] rfl rfl (any_of HT_.out (by kernel_rfl)) (fun _ _ _ h => h) (Or.inl ⟨by rfl, ?_⟩) ?_ ?_
  rotate_left
  ·intro w'
   go_simp
   with_reducible rfl
  rotate_left
  ·simp only [Act.put, lS, lZ, lC, i64_w, i32_w]
   rfl
  refine pure_ (i := 9) (N := some 19) (v := ?_) (a' := ?_) #[T, T, T, T, T, T, T, T, T, T, F, F, F, F, F, F, F, F, F, F, F] rfl rfl (any_of HT_.out (by kernel_rfl)) (fun _ _ _ h => h) (Or.inl ⟨by rfl, ?_⟩) ?_ ?_
  rotate_left
  ·intro w'
   go_simp
   with_reducible rfl
  rotate_left
  ·simp only [Act.put, lS, lZ, lC, i64_w, i32_w]
   rfl
  refine pure_ (i := 10) (N := some 20) (v := undef) (a' := ?_) #[T, T, T, T, T, T, T, T, T, T, T, F, F, F, F, F, F, F, F, F, F] rfl rfl (any_of HT_.out (by kernel_rfl)) (fun _ _ _ h => h) (Or.inr ⟨by rfl, rfl⟩) ?_ ?_
  rotate_left
  ·simp only [Act.put, lS, lZ, lC, i64_w, i32_w]
   rfl
  refine pure_ (i := 11) (N := some 21) (v := undef) (a' := ?_) #[T, T, T, T, T, T, T, T, T, T, T, T, F, F, F, F, F, F, F, F, F] rfl rfl (any_of HT_.out (by kernel_rfl)) (fun _ _ _ h => h) (Or.inr ⟨by rfl, rfl⟩) ?_ ?_
  rotate_left
  ·simp only [Act.put, lS, lZ, lC, i64_w, i32_w]
   rfl
  refine pure_ (i := 12) (N := some 22) (v := undef) (a' := ?_) #[T, T, T, T, T, T, T, T, T, T, T, T, T, F, F, F, F, F, F, F, F] rfl rfl (any_of HT_.out (by kernel_rfl)) (fun _ _ _ h => h) (Or.inr ⟨by rfl, rfl⟩) ?_ ?_
  rotate_left
  ·simp only [Act.put, lS, lZ, lC, i64_w, i32_w]
   rfl
  refine pure_ (i := 13) (N := some 23) (v := undef) (a' := ?_) #[T, T, T, T, T, T, T, T, T, T, T, T, T, T, F, F, F, F, F, F, F] rfl rfl (any_of HT_.out (by kernel_rfl)) (fun _ _ _ h => h) (Or.inr ⟨by rfl, rfl⟩) ?_ ?_
  rotate_left
  ·simp only [Act.put, lS, lZ, lC, i64_w, i32_w]
   rfl
  refine pure_ (i := 14) (N := some 24) (v := undef) (a' := ?_) #[T, T, T, T, T, T, T, T, T, T, T, T, T, T, T, F, F, F, F, F, F] rfl rfl (any_of HT_.out (by kernel_rfl)) (fun _ _ _ h => h) (Or.inr ⟨by rfl, rfl⟩) ?_ ?_
  rotate_left
  ·simp only [Act.put, lS, lZ, lC, i64_w, i32_w]
   rfl
  refine pure_ (i := 15) (N := some 25) (v := undef) (a' := ?_) #[T, T, T, T, T, T, T, T, T, T, T, T, T, T, T, T, F, F, F, F, F] rfl rfl (any_of HT_.out (by kernel_rfl)) (fun _ _ _ h => h) (Or.inr ⟨by rfl, rfl⟩) ?_ ?_
  rotate_left
  ·simp only [Act.put, lS, lZ, lC, i64_w, i32_w]
   rfl
  refine pure_ (i := 16) (N := some 26) (v := undef) (a' := ?_) #[T, T, T, T, T, T, T, T, T, T, T, T, T, T, T, T, T, F, F, F, F] rfl rfl (any_of HT_.out (by kernel_rfl)) (fun _ _ _ h => h) (Or.inr ⟨by rfl, rfl⟩) ?_ ?_
  rotate_left
  ·simp only [Act.put, lS, lZ, lC, i64_w, i32_w]
   rfl
  refine pure_ (i := 17) (N := some 27) (v := undef) (a' := ?_) #[T, T, T, T, T, T, T, T, T, T, T, T, T, T, T, T, T, T, F, F, F] rfl rfl (any_of HT_.out (by kernel_rfl)) (fun _ _ _ h => h) (Or.inr ⟨by rfl, rfl⟩) ?_ ?_
  rotate_left
  ·simp only [Act.put, lS, lZ, lC, i64_w, i32_w]
   rfl
  refine pure_ (i := 18) (N := some 28) (v := undef) (a' := ?_) #[T, T, T, T, T, T, T, T, T, T, T, T, T, T, T, T, T, T, T, F, F] rfl rfl (any_of HT_.out (by kernel_rfl)) (fun _ _ _ h => h) (Or.inr ⟨by rfl, rfl⟩) ?_ ?_
  rotate_left
  ·simp only [Act.put, lS, lZ, lC, i64_w, i32_w]
   rfl
  refine pure_ (i := 19) (N := some 29) (v := undef) (a' := ?_) #[T, T, T, T, T, T, T, T, T, T, T, T, T, T, T, T, T, T, T, T, F] rfl rfl (any_of HT_.out (by kernel_rfl)) (fun _ _ _ h => h) (Or.inr ⟨by rfl, rfl⟩) ?_ ?_
  rotate_left
  ·simp only [Act.put, lS, lZ, lC, i64_w, i32_w]
   rfl
  refine pure_ (i := 20) (N := some 30) (v := ?_) (a' := ?_) #[T, T, T, T, T, T, T, T, T, T, T, T, T, T, T, T, T, T, T, T, T] rfl rfl (any_of HT_.out (by kernel_rfl)) (fun _ _ _ h => h) (Or.inl ⟨by rfl, ?_⟩) ?_ ?_
  rotate_left
  ·intro w'
   go_simp
   with_reducible rfl
  rotate_left
  ·simp only [Act.put, lS, lZ, lC, i64_w, i32_w]
   rfl
  refine done_ (done_of HT_.out (by kernel_rfl)) ?_
  have hnb9 := NB221_220.out
  have hnc9 := NB220_221.out
  have hnb10 := NB221_222.out
  have hnc10 := NB222_221.out
  have hcz11_0 : w8.cell? ⟨gb221, 0, none⟩ = some (.int .i64 0) := (bC BK221.out 0).trans rfl
  have hcz11_1 : w8.cell? ⟨gb221, 1, none⟩ = some (.slice none 0 0) := (bC BK221.out 1).trans rfl
  have hfz11_0 := bF BK221.out 0
  have hfz11_1 := bF BK221.out 1
  have hnb12 := NB222_220.out
  have hnc12 := NB220_222.out
  have hcz13_0 : w8.cell? ⟨gb222, 0, none⟩ = some (.int .i64 0) := (bC BK222.out 0).trans rfl
  have hcz13_1 : w8.cell? ⟨gb222, 1, none⟩ = some (.int .i64 0) := (bC BK222.out 1).trans rfl
  have hfz13_0 := bF BK222.out 0
  have hfz13_1 := bF BK222.out 1
  try go_wp2
  refine bodyPost_ret (results_list (rs := [.cell 6 29, .cell 7 39, .tmp 8]) rfl (by simp) (.cell gb221 29 #[.int .i64 0, .slice none 0 0] (0, 0) _ rfl (by (with_reducible repeat first | apply bN | apply bD | apply bA); refine bR ?_ NB221_222.out _; (with_reducible repeat first | apply bN | apply bD | apply bA); refine bR ?_ NB221_222.out _; (with_reducible repeat first | apply bN | apply bD | apply bA); refine bP (cs := #[.int .i64 0, .slice none 0 0]) ?_ 1 _ rfl; (with_reducible repeat first | apply bN | apply bD | apply bA); refine bP (cs := #[.int .i64 0, .slice none 0 0]) ?_ 0 _ rfl; (with_reducible repeat first | apply bN | apply bD | apply bA); exact BK221.out) Tryd.underlying29 rfl (by kernel_rfl) (.cell gb222 39 #[.int .i64 0, .int .i64 0] (0, 0) _ rfl (by (with_reducible repeat first | apply bN | apply bD | apply bA); refine bP (cs := #[.int .i64 0, .int .i64 0]) ?_ 1 _ rfl; (with_reducible repeat first | apply bN | apply bD | apply bA); refine bP (cs := #[.int .i64 0, .int .i64 0]) ?_ 0 _ rfl; (with_reducible repeat first | apply bN | apply bD | apply bA); refine bR ?_ NB222_221.out _; (with_reducible repeat first | apply bN | apply bD | apply bA); refine bR ?_ NB222_221.out _; (with_reducible repeat first | apply bN | apply bD | apply bA); exact BK222.out) Tryd.underlying39 rfl (by kernel_rfl) (.tmp .nil)))) rfl ?_
  exact ⟨_, by first | rfl | (simp [errW_none, errW_some] <;> rfl) | (simp [*, errW_none, errW_some] <;> rfl), by first | exact Kd.R_nil _ _ _ _ _ | exact Kd.N_nil _ _ _ _ _ | exact Kd.V_nil _ _ _ _ _ | exact Kd.Q_nil _ _ _ _ _ | exact Kd.S_nil _ _ _ _ _, by repeat (first | (with_reducible first | exact HB.out | apply pA | apply pN | apply pD | refine bS ?_ GE220.out | refine bS ?_ GE221.out | refine bS ?_ GE222.out) | exact HB.out)⟩
 ·rw [if_neg c4] at H
  have c4b0 : decide (a1 < 0) = false := decide_eq_false c4
  clear c4
  by_cases c14 : a1 ≥ (l0_1.length : Int)
  ·rw [if_pos c14] at H
   have c14b0 : decide ((l0_1.length : Int) ≤ a1) = true := decide_eq_true c14
   clear c14
   simp only [Option.some.injEq, Prod.mk.injEq] at H
   obtain ⟨rfl, rfl, rfl, rfl, rfl⟩ := H
   go_enter Tryd.func10, Tryd.ntmps10
   try go_wp2_with (first | ((with_reducible refine gD (N := 3) rfl ?_); (try (refine gG (by rfl) ?_; dsimp only)); refine bE ?hg (N := 3) ?hd (cs := #[.int .i64 a0_0, .slice A0_1 l0_1.length c0_1]) (t := 29) ?hr ?_; (case hd => rfl); (case hg => rfl); (case hr => first | (go_simp; done) | (go_simp; rfl)); intro gb220 hg w15 hbox hb; have n0_ := A0k (pS (by repeat (first | (with_reducible first | exact HB.out | apply pA | apply pN | apply pD) | exact HB.out)) hb); have n1_ := A0k (hbox); have n2_ := A0k ((by rw [hg]; exact (pZ (by repeat (first | (with_reducible first | exact HB.out | apply pA | apply pN | apply pD) | exact HB.out))) : w.heap.size ≤ gb220)); have n3_ := A0k ((by rw [hg]; exact (pZ (by repeat (first | (with_reducible first | exact HB.out | apply pA | apply pN | apply pD) | exact HB.out))) : w.heap.size ≤ gb220)); clear HB; have HB := n0_; have BK220 := n1_; have GW220 := n2_; have GE220 := n3_; clear n0_ n1_ n2_ n3_ hb hbox hg) | ((with_reducible refine gD (N := 6) rfl ?_); (try (refine gG (by rfl) ?_; dsimp only)); refine bE ?hg (N := 6) ?hd (cs := #[.int .i64 0, .slice none 0 0]) (t := 29) ?hr ?_; (case hd => rfl); (case hg => rfl); (case hr => first | (go_simp; done) | (go_simp; rfl)); intro gb221 hg w16 hbox hb; have n0_ := A0k (bB (g := gb220) (o := .cells #[.int .i64 a0_0, .slice A0_1 l0_1.length c0_1] 29 (0, 0)) (by (with_reducible repeat first | apply bN | apply bD | apply bA); exact BK220.out) hb); have n1_ := A0k (pS (by repeat (first | (with_reducible first | exact HB.out | apply pA | apply pN | apply pD | refine bS ?_ GE220.out) | exact HB.out)) hb); have n2_ := A0k (hbox); have n3_ := A0k ((by rw [hg]; exact (pZ (by repeat (first | (with_reducible first | exact HB.out | apply pA | apply pN | apply pD | refine bS ?_ GE220.out) | exact HB.out))) : w.heap.size ≤ gb221)); have n4_ := A0k ((by rw [hg]; exact (pZ (by repeat (first | (with_reducible first | exact HB.out | apply pA | apply pN | apply pD | refine bS ?_ GE220.out) | exact HB.out))) : w.heap.size ≤ gb221)); have n5_ := A0k ((by rw [hg]; exact Nat.ne_of_lt (bL (g := gb220) (o := .cells #[.int .i64 a0_0, .slice A0_1 l0_1.length c0_1] 29 (0, 0)) (by (with_reducible repeat first | apply bN | apply bD | apply bA); exact BK220.out)) : gb220 ≠ gb221)); have n6_ := A0k ((by rw [hg]; exact Nat.ne_of_gt (bL (g := gb220) (o := .cells #[.int .i64 a0_0, .slice A0_1 l0_1.length c0_1] 29 (0, 0)) (by (with_reducible repeat first | apply bN | apply bD | apply bA); exact BK220.out)) : gb221 ≠ gb220)); clear BK220 HB; have BK220 := n0_; have HB := n1_; have BK221 := n2_; have GW221 := n3_; have GE221 := n4_; have NB220_221 := n5_; have NB221_220 := n6_; clear n0_ n1_ n2_ n3_ n4_ n5_ n6_ hb hbox hg) | ((with_reducible refine gD (N := 7) rfl ?_); (try (refine gG (by rfl) ?_; dsimp only)); refine bE ?hg (N := 7) ?hd (cs := #[.int .i64 0, .int .i64 0]) (t := 39) ?hr ?_; (case hd => rfl); (case hg => rfl); (case hr => first | (go_simp; done) | (go_simp; rfl)); intro gb222 hg w17 hbox hb; have n0_ := A0k (bB (g := gb220) (o := .cells #[.int .i64 a0_0, .slice A0_1 l0_1.length c0_1] 29 (0, 0)) (by (with_reducible repeat first | apply bN | apply bD | apply bA); exact BK220.out) hb); have n1_ := A0k (bB (g := gb221) (o := .cells #[.int .i64 0, .slice none 0 0] 29 (0, 0)) (by (with_reducible repeat first | apply bN | apply bD | apply bA); exact BK221.out) hb); have n2_ := A0k (pS (by repeat (first | (with_reducible first | exact HB.out | apply pA | apply pN | apply pD | refine bS ?_ GE220.out | refine bS ?_ GE221.out) | exact HB.out)) hb); have n3_ := A0k (hbox); have n4_ := A0k ((by rw [hg]; exact (pZ (by repeat (first | (with_reducible first | exact HB.out | apply pA | apply pN | apply pD | refine bS ?_ GE220.out | refine bS ?_ GE221.out) | exact HB.out))) : w.heap.size ≤ gb222)); have n5_ := A0k ((by rw [hg]; exact (pZ (by repeat (first | (with_reducible first | exact HB.out | apply pA | apply pN | apply pD | refine bS ?_ GE220.out | refine bS ?_ GE221.out) | exact HB.out))) : w.heap.size ≤ gb222)); have n6_ := A0k ((by rw [hg]; exact Nat.ne_of_lt (bL (g := gb220) (o := .cells #[.int .i64 a0_0, .slice A0_1 l0_1.length c0_1] 29 (0, 0)) (by (with_reducible repeat first | apply bN | apply bD | apply bA); exact BK220.out)) : gb220 ≠ gb222)); have n7_ := A0k ((by rw [hg]; exact Nat.ne_of_gt (bL (g := gb220) (o := .cells #[.int .i64 a0_0, .slice A0_1 l0_1.length c0_1] 29 (0, 0)) (by (with_reducible repeat first | apply bN | apply bD | apply bA); exact BK220.out)) : gb222 ≠ gb220)); have n8_ := A0k ((by rw [hg]; exact Nat.ne_of_lt (bL (g := gb221) (o := .cells #[.int .i64 0, .slice none 0 0] 29 (0, 0)) (by (with_reducible repeat first | apply bN | apply bD | apply bA); exact BK221.out)) : gb221 ≠ gb222)); have n9_ := A0k ((by rw [hg]; exact Nat.ne_of_gt (bL (g := gb221) (o := .cells #[.int .i64 0, .slice none 0 0] 29 (0, 0)) (by (with_reducible repeat first | apply bN | apply bD | apply bA); exact BK221.out)) : gb222 ≠ gb221)); clear BK220 BK221 HB; have BK220 := n0_; have BK221 := n1_; have HB := n2_; have BK222 := n3_; have GW222 := n4_; have GE222 := n5_; have NB220_222 := n6_; have NB222_220 := n7_; have NB221_222 := n8_; have NB222_221 := n9_; clear n0_ n1_ n2_ n3_ n4_ n5_ n6_ n7_ n8_ n9_ hb hbox hg))
   have n0_ := A0k (bD BK220.out)
   have n1_ := A0k (bD BK221.out)
   have n2_ := A0k (bD BK222.out)
   have n3_ := A0k (pD HB.out)
   clear BK220
   clear BK221
   clear BK222
   clear HB
   have BK220 := n0_
   have BK221 := n1_
   have BK222 := n2_
   have HB := n3_
   clear n0_ n1_ n2_ n3_
   refine start_ (n := 21) (S := fun w' => w'.cell? ⟨gb220, 0, none⟩ = some (.int .i64 a0_0) ∧ w'.cell? ⟨gb220, 1, none⟩ = some (.slice A0_1 l0_1.length c0_1)) (ds := []) #[F, F, F, F, F, F, F, F, F, F, F, F, F, F, F, F, F, F, F, F, F] (by kernel_rfl) rfl rfl ⟨(bC BK220.out 0).trans rfl, (bC BK220.out 1).trans rfl⟩ (fun hHeld => ?_); refine with_tabW posthorseref08_Move.tab1 posthorseref08_Move.bits1 (fun HT_ HW_ => ?_)
   generalize w17.drew = w18 at BK220 BK221 BK222 HB hHeld ⊢
   refine pure_ (i := 0) (N := some 10) (v := ?_) (a' := ?_) #[T, F, F, F, F, F, F, F, F, F, F, F, F, F, F, F, F, F, F, F, F] rfl rfl (any_of HT_.out (by kernel_rfl)) (fun _ _ _ h => h) (Or.inl ⟨by rfl, ?_⟩) ?_ ?_
   rotate_left
   ·intro w'
    go_simp
    with_reducible rfl
   rotate_left
   ·simp only [Act.put, lS, lZ, lC, i64_w, i32_w]
    rfl
   refine pure_ (i := 1) (N := some 11) (v := ?_) (a' := ?_) #[T, T, F, F, F, F, F, F, F, F, F, F, F, F, F, F, F, F, F, F, F] rfl rfl (any_of HT_.out (by kernel_rfl)) (fun _ _ _ h => h) (Or.inl ⟨by rfl, ?_⟩) ?_ ?_
   rotate_left
   ·intro w'
    go_simp
    with_reducible rfl
   rotate_left
   ·simp only [Act.put, lS, lZ, lC, i64_w, i32_w]
    rfl
   refine pure_ (i := 2) (N := some 12) (v := ?_) (a' := ?_) #[T, T, T, F, F, F, F, F, F, F, F, F, F, F, F, F, F, F, F, F, F] rfl rfl (any_of HT_.out (by kernel_rfl)) (fun _ _ _ h => h) (Or.inl ⟨by rfl, ?_⟩) ?_ ?_
   rotate_left
   ·intro w'
    go_simp
    with_reducible rfl
   rotate_left
   ·simp only [Act.put, lS, lZ, lC, i64_w, i32_w]
    rfl
   refine pure_ (i := 3) (N := some 13) (v := ?_) (a' := ?_) #[T, T, T, T, F, F, F, F, F, F, F, F, F, F, F, F, F, F, F, F, F] rfl rfl (any_of HT_.out (by kernel_rfl)) (fun _ _ _ h => h) (Or.inl ⟨by rfl, ?_⟩) ?_ ?_
   rotate_left
   ·intro w'
    go_simp
    with_reducible rfl
   rotate_left
   ·simp only [Act.put, lS, lZ, lC, i64_w, i32_w]
    rfl
   refine pure_ (i := 4) (N := some 14) (v := ?_) (a' := ?_) #[T, T, T, T, T, F, F, F, F, F, F, F, F, F, F, F, F, F, F, F, F] rfl rfl (any_of HT_.out (by kernel_rfl)) (fun _ _ _ h => h) (Or.inl ⟨by rfl, ?_⟩) ?_ ?_
   rotate_left
   ·intro w'
    go_simp
    with_reducible rfl
   rotate_left
   ·simp only [Act.put, lS, lZ, lC, i64_w, i32_w]
    rfl
   refine take_ (i := 5) (N := some 15) (v := ?_) (a' := ?_) #[T, T, T, T, T, T, F, F, F, F, F, F, F, F, F, F, F, F, F, F, F] rfl rfl (take_ofW HT_.out HW_.out (by kernel_rfl)) (fun _ _ _ h => h) (Or.inl ⟨by rfl, ?_⟩) hHeld ?_ ?_
   rotate_left; (· rintro w' ⟨s0, s1⟩; go_simp; with_reducible rfl); rotate_left; (· simp only [Act.put, lS, lZ, lC, i64_w, i32_w]; rfl)
   refine pure_ (i := 6) (N := some 16) (v := ?_) (a' := ?_) #[T, T, T, T, T, T, T, F, F, F, F, F, F, F, F, F, F, F, F, F, F] rfl rfl (any_of HT_.out (by kernel_rfl)) (fun _ _ _ h => h) (Or.inl ⟨by rfl, ?_⟩) ?_ ?_
   rotate_left
   ·intro w'
    go_simp
    with_reducible rfl
   rotate_left
   ·simp only [Act.put, lS, lZ, lC, i64_w, i32_w]
    rfl
   refine pure_ (i := 7) (N := some 17) (v := ?_) (a' := ?_) #[T, T, T, T, T, T, T, T, F, F, F, F, F, F, F, F, F, F, F, F, F] rfl rfl (any_of HT_.out (by kernel_rfl)) (fun _ _ _ h => h) (Or.inl ⟨by rfl, ?_⟩) ?_ ?_
   rotate_left
   ·intro w'
    go_simp
    with_reducible rfl
   rotate_left
   ·simp only [Act.put, lS, lZ, lC, i64_w, i32_w]
    rfl
   refine pure_ (i := 8) (N := some 18) (v := ?_) (a' := ?_) #[T, T, T, T, T, T, T, T, T, F, F, F, F, F, F, F, F, F, F, F, F] rfl rfl (any_of HT_.out (by kernel_rfl)) (fun _ _ _ h => h) (Or.inl ⟨by rfl, ?_⟩) ?_ ?_
   rotate_left
   ·intro w'
    go_simp
    with_reducible rfl
   rotate_left
   ·simp only [Act.put, lS, lZ, lC, i64_w, i32_w]
    rfl
   refine pure_ (i := 9) (N := some 19) (v := ?_) (a' := ?_) #[T, T, T, T, T, T, T, T, T, T, F, F, F, F, F, F, F, F, F, F, F] rfl rfl (any_of HT_.out (by kernel_rfl)) (fun _ _ _ h => h) (Or.inl ⟨by rfl, ?_⟩) ?_ ?_
   rotate_left
   ·intro w'
    go_simp
    with_reducible rfl
   rotate_left
   ·simp only [Act.put, lS, lZ, lC, i64_w, i32_w]
    rfl
   refine pure_ (i := 10) (N := some 20) (v := undef) (a' := ?_) #[T, T, T, T, T, T, T, T, T, T, T, F, F, F, F, F, F, F, F, F, F] rfl rfl (any_of HT_.out (by kernel_rfl)) (fun _ _ _ h => h) (Or.inr ⟨by rfl, rfl⟩) ?_ ?_
   rotate_left
   ·simp only [Act.put, lS, lZ, lC, i64_w, i32_w]
    rfl
   refine pure_ (i := 11) (N := some 21) (v := undef) (a' := ?_) #[T, T, T, T, T, T, T, T, T, T, T, T, F, F, F, F, F, F, F, F, F] rfl rfl (any_of HT_.out (by kernel_rfl)) (fun _ _ _ h => h) (Or.inr ⟨by rfl, rfl⟩) ?_ ?_
   rotate_left
   ·simp only [Act.put, lS, lZ, lC, i64_w, i32_w]
    rfl
   refine pure_ (i := 12) (N := some 22) (v := undef) (a' := ?_) #[T, T, T, T, T, T, T, T, T, T, T, T, T, F, F, F, F, F, F, F, F] rfl rfl (any_of HT_.out (by kernel_rfl)) (fun _ _ _ h => h) (Or.inr ⟨by rfl, rfl⟩) ?_ ?_
   rotate_left
   ·simp only [Act.put, lS, lZ, lC, i64_w, i32_w]
    rfl
   refine pure_ (i := 13) (N := some 23) (v := undef) (a' := ?_) #[T, T, T, T, T, T, T, T, T, T, T, T, T, T, F, F, F, F, F, F, F] rfl rfl (any_of HT_.out (by kernel_rfl)) (fun _ _ _ h => h) (Or.inr ⟨by rfl, rfl⟩) ?_ ?_
   rotate_left
   ·simp only [Act.put, lS, lZ, lC, i64_w, i32_w]
    rfl
   refine pure_ (i := 14) (N := some 24) (v := undef) (a' := ?_) #[T, T, T, T, T, T, T, T, T, T, T, T, T, T, T, F, F, F, F, F, F] rfl rfl (any_of HT_.out (by kernel_rfl)) (fun _ _ _ h => h) (Or.inr ⟨by rfl, rfl⟩) ?_ ?_
   rotate_left
   ·simp only [Act.put, lS, lZ, lC, i64_w, i32_w]
    rfl
   refine pure_ (i := 15) (N := some 25) (v := undef) (a' := ?_) #[T, T, T, T, T, T, T, T, T, T, T, T, T, T, T, T, F, F, F, F, F] rfl rfl (any_of HT_.out (by kernel_rfl)) (fun _ _ _ h => h) (Or.inr ⟨by rfl, rfl⟩) ?_ ?_
   rotate_left
   ·simp only [Act.put, lS, lZ, lC, i64_w, i32_w]
    rfl
   refine pure_ (i := 16) (N := some 26) (v := undef) (a' := ?_) #[T, T, T, T, T, T, T, T, T, T, T, T, T, T, T, T, T, F, F, F, F] rfl rfl (any_of HT_.out (by kernel_rfl)) (fun _ _ _ h => h) (Or.inr ⟨by rfl, rfl⟩) ?_ ?_
   rotate_left
   ·simp only [Act.put, lS, lZ, lC, i64_w, i32_w]
    rfl
   refine pure_ (i := 17) (N := some 27) (v := undef) (a' := ?_) #[T, T, T, T, T, T, T, T, T, T, T, T, T, T, T, T, T, T, F, F, F] rfl rfl (any_of HT_.out (by kernel_rfl)) (fun _ _ _ h => h) (Or.inr ⟨by rfl, rfl⟩) ?_ ?_
   rotate_left
   ·simp only [Act.put, lS, lZ, lC, i64_w, i32_w]
    rfl
   refine pure_ (i := 18) (N := some 28) (v := undef) (a' := ?_) #[T, T, T, T, T, T, T, T, T, T, T, T, T, T, T, T, T, T, T, F, F] rfl rfl (any_of HT_.out (by kernel_rfl)) (fun _ _ _ h => h) (Or.inr ⟨by rfl, rfl⟩) ?_ ?_
   rotate_left
   ·simp only [Act.put, lS, lZ, lC, i64_w, i32_w]
    rfl
   refine pure_ (i := 19) (N := some 29) (v := undef) (a' := ?_) #[T, T, T, T, T, T, T, T, T, T, T, T, T, T, T, T, T, T, T, T, F] rfl rfl (any_of HT_.out (by kernel_rfl)) (fun _ _ _ h => h) (Or.inr ⟨by rfl, rfl⟩) ?_ ?_
   rotate_left
   ·simp only [Act.put, lS, lZ, lC, i64_w, i32_w]
    rfl
   refine pure_ (i := 20) (N := some 30) (v := ?_) (a' := ?_) #[T, T, T, T, T, T, T, T, T, T, T, T, T, T, T, T, T, T, T, T, T] rfl rfl (any_of HT_.out (by kernel_rfl)) (fun _ _ _ h => h) (Or.inl ⟨by rfl, ?_⟩) ?_ ?_
   rotate_left
   ·intro w'
    go_simp
    with_reducible rfl
   rotate_left
   ·simp only [Act.put, lS, lZ, lC, i64_w, i32_w]
    rfl
   refine done_ (done_of HT_.out (by kernel_rfl)) ?_
   have hnb19 := NB221_220.out
   have hnc19 := NB220_221.out
   have hnb20 := NB221_222.out
   have hnc20 := NB222_221.out
   have hcz21_0 : w18.cell? ⟨gb221, 0, none⟩ = some (.int .i64 0) := (bC BK221.out 0).trans rfl
   have hcz21_1 : w18.cell? ⟨gb221, 1, none⟩ = some (.slice none 0 0) := (bC BK221.out 1).trans rfl
   have hfz21_0 := bF BK221.out 0
   have hfz21_1 := bF BK221.out 1
   have hnb22 := NB222_220.out
   have hnc22 := NB220_222.out
   have hcz23_0 : w18.cell? ⟨gb222, 0, none⟩ = some (.int .i64 0) := (bC BK222.out 0).trans rfl
   have hcz23_1 : w18.cell? ⟨gb222, 1, none⟩ = some (.int .i64 0) := (bC BK222.out 1).trans rfl
   have hfz23_0 := bF BK222.out 0
   have hfz23_1 := bF BK222.out 1
   try go_wp2
   refine bodyPost_ret (results_list (rs := [.cell 6 29, .cell 7 39, .tmp 8]) rfl (by simp) (.cell gb221 29 #[.int .i64 0, .slice none 0 0] (0, 0) _ rfl (by (with_reducible repeat first | apply bN | apply bD | apply bA); refine bR ?_ NB221_222.out _; (with_reducible repeat first | apply bN | apply bD | apply bA); refine bR ?_ NB221_222.out _; (with_reducible repeat first | apply bN | apply bD | apply bA); refine bP (cs := #[.int .i64 0, .slice none 0 0]) ?_ 1 _ rfl; (with_reducible repeat first | apply bN | apply bD | apply bA); refine bP (cs := #[.int .i64 0, .slice none 0 0]) ?_ 0 _ rfl; (with_reducible repeat first | apply bN | apply bD | apply bA); exact BK221.out) Tryd.underlying29 rfl (by kernel_rfl) (.cell gb222 39 #[.int .i64 0, .int .i64 0] (0, 0) _ rfl (by (with_reducible repeat first | apply bN | apply bD | apply bA); refine bP (cs := #[.int .i64 0, .int .i64 0]) ?_ 1 _ rfl; (with_reducible repeat first | apply bN | apply bD | apply bA); refine bP (cs := #[.int .i64 0, .int .i64 0]) ?_ 0 _ rfl; (with_reducible repeat first | apply bN | apply bD | apply bA); refine bR ?_ NB222_221.out _; (with_reducible repeat first | apply bN | apply bD | apply bA); refine bR ?_ NB222_221.out _; (with_reducible repeat first | apply bN | apply bD | apply bA); exact BK222.out) Tryd.underlying39 rfl (by kernel_rfl) (.tmp .nil)))) rfl ?_
   exact ⟨_, by first | rfl | (simp [errW_none, errW_some] <;> rfl) | (simp [*, errW_none, errW_some] <;> rfl), by first | exact Kd.R_nil _ _ _ _ _ | exact Kd.N_nil _ _ _ _ _ | exact Kd.V_nil _ _ _ _ _ | exact Kd.Q_nil _ _ _ _ _ | exact Kd.S_nil _ _ _ _ _, by repeat (first | (with_reducible first | exact HB.out | apply pA | apply pN | apply pD | refine bS ?_ GE220.out | refine bS ?_ GE221.out | refine bS ?_ GE222.out) | exact HB.out)⟩
  ·rw [if_neg c14] at H
   have c14b0 : decide ((l0_1.length : Int) ≤ a1) = false := decide_eq_false c14
   clear c14
   by_cases c24 : 0 ≤ a1
   ·rw [if_pos c24] at H
    have c24b0 : decide (0 ≤ a1) = true := decide_eq_true c24
    clear c24
    by_cases c25 : a1 < (l0_1.length : Int)
    ·rw [if_pos c25] at H
     have c25b0 : decide (a1 < (l0_1.length : Int)) = true := decide_eq_true c25
     clear c25
     replace H := Option.bind_eq_some_iff.mp H
     obtain ⟨t224, A260, H⟩ := H
     replace H : (if t224 = true then ((some (([] : List (S39)) : List (S39))).bind fun y225 => (if y225.length + l0_1.length < 8796093022208 then ((some (y225 ++ l0_1 : List (S39))).bind fun y228 => (if a1 < (y228.length : Int) then (some (wrap64 (a0_0 + 1), (y228.set (a1 : Int).toNat (⟨a2, (d0_ y228 a1).f1⟩ : S39)), (d0_ l0_1 a1).f0, (d0_ l0_1 a1).f1, 0)) else (none))) else (none))) else (some (0, ([] : List (S39)), 0, 0, 1))) = some (r1, r2, r3, r4, r5) := H
     have A26 := A0k A260
     clear A260
     by_cases c27 : t224 = true
     ·subst c27
      have H1 : ((some (([] : List (S39)) : List (S39))).bind fun y225 => (if y225.length + l0_1.length < 8796093022208 then ((some (y225 ++ l0_1 : List (S39))).bind fun y228 => (if a1 < (y228.length : Int) then (some (wrap64 (a0_0 + 1), (y228.set (a1 : Int).toNat (⟨a2, (d0_ y228 a1).f1⟩ : S39)), (d0_ l0_1 a1).f0, (d0_ l0_1 a1).f1, 0)) else (none))) else (none))) = some (r1, r2, r3, r4, r5) := by rw [if_pos rfl] at H; exact H
      clear H
      have H := H1
      clear H1
      obtain ⟨y225, hy225⟩ : ∃ y_ : List (S39), y_ = (([] : List (S39))) := ⟨_, rfl⟩
      replace H : (if y225.length + l0_1.length < 8796093022208 then ((some (y225 ++ l0_1 : List (S39))).bind fun y228 => (if a1 < (y228.length : Int) then (some (wrap64 (a0_0 + 1), (y228.set (a1 : Int).toNat (⟨a2, (d0_ y228 a1).f1⟩ : S39)), (d0_ l0_1 a1).f0, (d0_ l0_1 a1).f1, 0)) else (none))) else (none)) = some (r1, r2, r3, r4, r5) := by first | (rw [hy225]; with_reducible exact H) | (have H2_ := (Option.bind_some _ _).symm.trans H; rw [hy225]; with_reducible exact H2_) | (have H2_ := (Option.bind_some _ _).symm.trans H; with_reducible exact H2_) | with_reducible exact H | (rw [hy225]; exact H) | exact H
      have Ny225 := A0k hy225
      clear hy225
      by_cases c28 : y225.length + l0_1.length < 8796093022208
      ·rw [if_pos c28] at H
       have LMc28 := A0k c28
       clear c28
       obtain ⟨y228, hy228⟩ : ∃ y_ : List (S39), y_ = (y225 ++ l0_1) := ⟨_, rfl⟩
       replace H : (if a1 < (y228.length : Int) then (some (wrap64 (a0_0 + 1), (y228.set (a1 : Int).toNat (⟨a2, (d0_ y228 a1).f1⟩ : S39)), (d0_ l0_1 a1).f0, (d0_ l0_1 a1).f1, 0)) else (none)) = some (r1, r2, r3, r4, r5) := by first | (rw [hy228]; with_reducible exact H) | (have H2_ := (Option.bind_some _ _).symm.trans H; rw [hy228]; with_reducible exact H2_) | (have H2_ := (Option.bind_some _ _).symm.trans H; with_reducible exact H2_) | with_reducible exact H | (rw [hy228]; exact H) | exact H
       have Ny228 := A0k hy228
       clear hy228
       by_cases c29 : a1 < (y228.length : Int)
       ·rw [if_pos c29] at H
        have c29b0 : decide (a1 < (y228.length : Int)) = true := decide_eq_true c29
        clear c29
        obtain ⟨y232, hy232⟩ : ∃ y_ : List (S39), y_ = (y228.set (a1 : Int).toNat (⟨a2, (d0_ y228 a1).f1⟩ : S39)) := ⟨_, rfl⟩
        replace H : (some (wrap64 (a0_0 + 1), y232, (d0_ l0_1 a1).f0, (d0_ l0_1 a1).f1, 0)) = some (r1, r2, r3, r4, r5) := by first | (rw [hy232]; with_reducible exact H) | (have H2_ := (Option.bind_some _ _).symm.trans H; rw [hy232]; with_reducible exact H2_) | (have H2_ := (Option.bind_some _ _).symm.trans H; with_reducible exact H2_) | with_reducible exact H | (rw [hy232]; exact H) | exact H
        have Ny232 := A0k hy232
        clear hy232
        simp only [Option.some.injEq, Prod.mk.injEq] at H
        obtain ⟨rfl, rfl, rfl, rfl, rfl⟩ := H
        go_enter Tryd.func10, Tryd.ntmps10
        try go_wp2_with (first | ((with_reducible refine gD (N := 3) rfl ?_); (try (refine gG (by rfl) ?_; dsimp only)); refine bE ?hg (N := 3) ?hd (cs := #[.int .i64 a0_0, .slice A0_1 l0_1.length c0_1]) (t := 29) ?hr ?_; (case hd => rfl); (case hg => rfl); (case hr => first | (go_simp; done) | (go_simp; rfl)); intro gb220 hg w31 hbox hb; have n0_ := A0k (pS (by repeat (first | (with_reducible first | exact HB.out | apply pA | apply pN | apply pD) | exact HB.out)) hb); have n1_ := A0k (hbox); have n2_ := A0k ((by rw [hg]; exact (pZ (by repeat (first | (with_reducible first | exact HB.out | apply pA | apply pN | apply pD) | exact HB.out))) : w.heap.size ≤ gb220)); have n3_ := A0k ((by rw [hg]; exact (pZ (by repeat (first | (with_reducible first | exact HB.out | apply pA | apply pN | apply pD) | exact HB.out))) : w.heap.size ≤ gb220)); clear HB; have HB := n0_; have BK220 := n1_; have GW220 := n2_; have GE220 := n3_; clear n0_ n1_ n2_ n3_ hb hbox hg) | ((with_reducible refine gD (N := 6) rfl ?_); (try (refine gG (by rfl) ?_; dsimp only)); refine bE ?hg (N := 6) ?hd (cs := #[.int .i64 0, .slice none 0 0]) (t := 29) ?hr ?_; (case hd => rfl); (case hg => rfl); (case hr => first | (go_simp; done) | (go_simp; rfl)); intro gb221 hg w32 hbox hb; have n0_ := A0k (bB (g := gb220) (o := .cells #[.int .i64 a0_0, .slice A0_1 l0_1.length c0_1] 29 (0, 0)) (by (with_reducible repeat first | apply bN | apply bD | apply bA); exact BK220.out) hb); have n1_ := A0k (pS (by repeat (first | (with_reducible first | exact HB.out | apply pA | apply pN | apply pD | refine bS ?_ GE220.out) | exact HB.out)) hb); have n2_ := A0k (hbox); have n3_ := A0k ((by rw [hg]; exact (pZ (by repeat (first | (with_reducible first | exact HB.out | apply pA | apply pN | apply pD | refine bS ?_ GE220.out) | exact HB.out))) : w.heap.size ≤ gb221)); have n4_ := A0k ((by rw [hg]; exact (pZ (by repeat (first | (with_reducible first | exact HB.out | apply pA | apply pN | apply pD | refine bS ?_ GE220.out) | exact HB.out))) : w.heap.size ≤ gb221)); have n5_ := A0k ((by rw [hg]; exact Nat.ne_of_lt (bL (g := gb220) (o := .cells #[.int .i64 a0_0, .slice A0_1 l0_1.length c0_1] 29 (0, 0)) (by (with_reducible repeat first | apply bN | apply bD | apply bA); exact BK220.out)) : gb220 ≠ gb221)); have n6_ := A0k ((by rw [hg]; exact Nat.ne_of_gt (bL (g := gb220) (o := .cells #[.int .i64 a0_0, .slice A0_1 l0_1.length c0_1] 29 (0, 0)) (by (with_reducible repeat first | apply bN | apply bD | apply bA); exact BK220.out)) : gb221 ≠ gb220)); clear BK220 HB; have BK220 := n0_; have HB := n1_; have BK221 := n2_; have GW221 := n3_; have GE221 := n4_; have NB220_221 := n5_; have NB221_220 := n6_; clear n0_ n1_ n2_ n3_ n4_ n5_ n6_ hb hbox hg) | ((with_reducible refine gD (N := 7) rfl ?_); (try (refine gG (by rfl) ?_; dsimp only)); refine bE ?hg (N := 7) ?hd (cs := #[.int .i64 0, .int .i64 0]) (t := 39) ?hr ?_; (case hd => rfl); (case hg => rfl); (case hr => first | (go_simp; done) | (go_simp; rfl)); intro gb222 hg w33 hbox hb; have n0_ := A0k (bB (g := gb220) (o := .cells #[.int .i64 a0_0, .slice A0_1 l0_1.length c0_1] 29 (0, 0)) (by (with_reducible repeat first | apply bN | apply bD | apply bA); exact BK220.out) hb); have n1_ := A0k (bB (g := gb221) (o := .cells #[.int .i64 0, .slice none 0 0] 29 (0, 0)) (by (with_reducible repeat first | apply bN | apply bD | apply bA); exact BK221.out) hb); have n2_ := A0k (pS (by repeat (first | (with_reducible first | exact HB.out | apply pA | apply pN | apply pD | refine bS ?_ GE220.out | refine bS ?_ GE221.out) | exact HB.out)) hb); have n3_ := A0k (hbox); have n4_ := A0k ((by rw [hg]; exact (pZ (by repeat (first | (with_reducible first | exact HB.out | apply pA | apply pN | apply pD | refine bS ?_ GE220.out | refine bS ?_ GE221.out) | exact HB.out))) : w.heap.size ≤ gb222)); have n5_ := A0k ((by rw [hg]; exact (pZ (by repeat (first | (with_reducible first | exact HB.out | apply pA | apply pN | apply pD | refine bS ?_ GE220.out | refine bS ?_ GE221.out) | exact HB.out))) : w.heap.size ≤ gb222)); have n6_ := A0k ((by rw [hg]; exact Nat.ne_of_lt (bL (g := gb220) (o := .cells #[.int .i64 a0_0, .slice A0_1 l0_1.length c0_1] 29 (0, 0)) (by (with_reducible repeat first | apply bN | apply bD | apply bA); exact BK220.out)) : gb220 ≠ gb222)); have n7_ := A0k ((by rw [hg]; exact Nat.ne_of_gt (bL (g := gb220) (o := .cells #[.int .i64 a0_0, .slice A0_1 l0_1.length c0_1] 29 (0, 0)) (by (with_reducible repeat first | apply bN | apply bD | apply bA); exact BK220.out)) : gb222 ≠ gb220)); have n8_ := A0k ((by rw [hg]; exact Nat.ne_of_lt (bL (g := gb221) (o := .cells #[.int .i64 0, .slice none 0 0] 29 (0, 0)) (by (with_reducible repeat first | apply bN | apply bD | apply bA); exact BK221.out)) : gb221 ≠ gb222)); have n9_ := A0k ((by rw [hg]; exact Nat.ne_of_gt (bL (g := gb221) (o := .cells #[.int .i64 0, .slice none 0 0] 29 (0, 0)) (by (with_reducible repeat first | apply bN | apply bD | apply bA); exact BK221.out)) : gb222 ≠ gb221)); clear BK220 BK221 HB; have BK220 := n0_; have BK221 := n1_; have HB := n2_; have BK222 := n3_; have GW222 := n4_; have GE222 := n5_; have NB220_222 := n6_; have NB222_220 := n7_; have NB221_222 := n8_; have NB222_221 := n9_; clear n0_ n1_ n2_ n3_ n4_ n5_ n6_ n7_ n8_ n9_ hb hbox hg))
        have n0_ := A0k (bD BK220.out)
        have n1_ := A0k (bD BK221.out)
        have n2_ := A0k (bD BK222.out)
        have n3_ := A0k (pD HB.out)
        clear BK220
        clear BK221
        clear BK222
        clear HB
        have BK220 := n0_
        have BK221 := n1_
        have BK222 := n2_
        have HB := n3_
        clear n0_ n1_ n2_ n3_
        have p223 : 0 ≤ (a1 : Int) := of_decide_eq_true (by first | (with_reducible assumption) | assumption)
        have q223 : a1 < (l0_1.length : Int) := of_decide_eq_true (by first | (with_reducible assumption) | assumption)
        obtain ⟨ad223, e223, hx223_0, hx223_1⟩ := at_T39 HR0_1.out a1 p223 q223
        have hw223_1 := hx223_1
        have hw223_0 := hx223_0
        cases e223
        replace hx223_0 := (HB.out.cell (World.block_lt_of_cell? w _ hx223_0)).trans hx223_0
        replace hx223_1 := (HB.out.cell (World.block_lt_of_cell? w _ hx223_1)).trans hx223_1
        replace p223 := eq_true p223
        replace q223 := eq_true q223
        refine start_ (n := 21) (S := fun w' => w'.cell? ⟨gb220, 0, none⟩ = some (.int .i64 a0_0) ∧ w'.cell? ⟨gb220, 1, none⟩ = some (.slice (some ad223) l0_1.length c0_1) ∧ w'.cell? (ad223.add ((a1).toNat * 2)) = some (.int .i64 ((d0_ l0_1 a1).f0)) ∧ w'.cell? ⟨(ad223.add ((a1).toNat * 2)).block, (ad223.add ((a1).toNat * 2)).off + 1, none⟩ = some (.int .i64 ((d0_ l0_1 a1).f1))) (ds := []) #[F, F, F, F, F, F, F, F, F, F, F, F, F, F, F, F, F, F, F, F, F] (by kernel_rfl) rfl rfl ⟨(bC BK220.out 0).trans rfl, (bC BK220.out 1).trans rfl, ((HB.out.cell (World.block_lt_of_cell? w _ hw223_0)).trans hw223_0), ((HB.out.cell (World.block_lt_of_cell? w _ hw223_1)).trans hw223_1)⟩ (fun hHeld => ?_); refine with_tabW posthorseref08_Move.tab1 posthorseref08_Move.bits1 (fun HT_ HW_ => ?_)
        generalize w33.drew = w34 at BK220 BK221 BK222 HB hx223_0 hx223_1 hHeld ⊢
        refine pure_ (i := 0) (N := some 10) (v := ?_) (a' := ?_) #[T, F, F, F, F, F, F, F, F, F, F, F, F, F, F, F, F, F, F, F, F] rfl rfl (any_of HT_.out (by kernel_rfl)) (fun _ _ _ h => h) (Or.inl ⟨by rfl, ?_⟩) ?_ ?_
        rotate_left
        ·intro w'
         go_simp
         with_reducible rfl
        rotate_left
        ·simp only [Act.put, lS, lZ, lC, i64_w, i32_w]
         rfl
        refine pure_ (i := 1) (N := some 11) (v := ?_) (a' := ?_) #[T, T, F, F, F, F, F, F, F, F, F, F, F, F, F, F, F, F, F, F, F] rfl rfl (any_of HT_.out (by kernel_rfl)) (fun _ _ _ h => h) (Or.inl ⟨by rfl, ?_⟩) ?_ ?_
        rotate_left
        ·intro w'
         go_simp
         with_reducible rfl
        rotate_left
        ·simp only [Act.put, lS, lZ, lC, i64_w, i32_w]
         rfl
        refine pure_ (i := 2) (N := some 12) (v := ?_) (a' := ?_) #[T, T, T, F, F, F, F, F, F, F, F, F, F, F, F, F, F, F, F, F, F] rfl rfl (any_of HT_.out (by kernel_rfl)) (fun _ _ _ h => h) (Or.inl ⟨by rfl, ?_⟩) ?_ ?_
        rotate_left
        ·intro w'
         go_simp
         with_reducible rfl
        rotate_left
        ·simp only [Act.put, lS, lZ, lC, i64_w, i32_w]
         rfl
        refine pure_ (i := 3) (N := some 13) (v := ?_) (a' := ?_) #[T, T, T, T, F, F, F, F, F, F, F, F, F, F, F, F, F, F, F, F, F] rfl rfl (any_of HT_.out (by kernel_rfl)) (fun _ _ _ h => h) (Or.inl ⟨by rfl, ?_⟩) ?_ ?_
        rotate_left
        ·intro w'
         go_simp
         with_reducible rfl
        rotate_left
        ·simp only [Act.put, lS, lZ, lC, i64_w, i32_w]
         rfl
        refine pure_ (i := 4) (N := some 14) (v := ?_) (a' := ?_) #[T, T, T, T, T, F, F, F, F, F, F, F, F, F, F, F, F, F, F, F, F] rfl rfl (any_of HT_.out (by kernel_rfl)) (fun _ _ _ h => h) (Or.inl ⟨by rfl, ?_⟩) ?_ ?_
        rotate_left
        ·intro w'
         go_simp
         with_reducible rfl
        rotate_left
        ·simp only [Act.put, lS, lZ, lC, i64_w, i32_w]
         rfl
        refine take_ (i := 5) (N := some 15) (v := ?_) (a' := ?_) #[T, T, T, T, T, T, F, F, F, F, F, F, F, F, F, F, F, F, F, F, F] rfl rfl (take_ofW HT_.out HW_.out (by kernel_rfl)) (fun _ _ _ h => h) (Or.inl ⟨by rfl, ?_⟩) hHeld ?_ ?_
        rotate_left; (· rintro w' ⟨s0, s1, s2, s3⟩; go_simp; with_reducible rfl); rotate_left; (· simp only [Act.put, lS, lZ, lC, i64_w, i32_w]; rfl)
        refine pure_ (i := 6) (N := some 16) (v := ?_) (a' := ?_) #[T, T, T, T, T, T, T, F, F, F, F, F, F, F, F, F, F, F, F, F, F] rfl rfl (any_of HT_.out (by kernel_rfl)) (fun _ _ _ h => h) (Or.inl ⟨by rfl, ?_⟩) ?_ ?_
        rotate_left
        ·intro w'
         go_simp
         with_reducible rfl
        rotate_left
        ·simp only [Act.put, lS, lZ, lC, i64_w, i32_w]
         rfl
        refine pure_ (i := 7) (N := some 17) (v := ?_) (a' := ?_) #[T, T, T, T, T, T, T, T, F, F, F, F, F, F, F, F, F, F, F, F, F] rfl rfl (any_of HT_.out (by kernel_rfl)) (fun _ _ _ h => h) (Or.inl ⟨by rfl, ?_⟩) ?_ ?_
        rotate_left
        ·intro w'
         go_simp
         with_reducible rfl
        rotate_left
        ·simp only [Act.put, lS, lZ, lC, i64_w, i32_w]
         rfl
        refine pure_ (i := 8) (N := some 18) (v := ?_) (a' := ?_) #[T, T, T, T, T, T, T, T, T, F, F, F, F, F, F, F, F, F, F, F, F] rfl rfl (any_of HT_.out (by kernel_rfl)) (fun _ _ _ h => h) (Or.inl ⟨by rfl, ?_⟩) ?_ ?_
        rotate_left
        ·intro w'
         go_simp
         with_reducible rfl
        rotate_left
        ·simp only [Act.put, lS, lZ, lC, i64_w, i32_w]
         rfl
        refine pure_ (i := 9) (N := some 19) (v := ?_) (a' := ?_) #[T, T, T, T, T, T, T, T, T, T, F, F, F, F, F, F, F, F, F, F, F] rfl rfl (any_of HT_.out (by kernel_rfl)) (fun _ _ _ h => h) (Or.inl ⟨by rfl, ?_⟩) ?_ ?_
        rotate_left
        ·intro w'
         go_simp
         with_reducible rfl
        rotate_left
        ·simp only [Act.put, lS, lZ, lC, i64_w, i32_w]
         rfl
        refine pure_ (i := 11) (N := some 21) (v := ?_) (a' := ?_) #[T, T, T, T, T, T, T, T, T, T, F, T, F, F, F, F, F, F, F, F, F] rfl rfl (any_of HT_.out (by kernel_rfl)) (fun _ _ _ h => h) (Or.inl ⟨by rfl, ?_⟩) ?_ ?_
        rotate_left
        ·intro w'
         go_simp
         with_reducible rfl
        rotate_left
        ·simp only [Act.put, lS, lZ, lC, i64_w, i32_w]
         rfl
        refine pure_ (i := 12) (N := some 22) (v := ?_) (a' := ?_) #[T, T, T, T, T, T, T, T, T, T, F, T, T, F, F, F, F, F, F, F, F] rfl rfl (any_of HT_.out (by kernel_rfl)) (fun _ _ _ h => h) (Or.inl ⟨by rfl, ?_⟩) ?_ ?_
        rotate_left
        ·intro w'
         go_simp
         with_reducible rfl
        rotate_left
        ·simp only [Act.put, lS, lZ, lC, i64_w, i32_w]
         rfl
        refine pure_ (i := 14) (N := some 24) (v := ?_) (a' := ?_) #[T, T, T, T, T, T, T, T, T, T, F, T, T, F, T, F, F, F, F, F, F] rfl rfl (any_of HT_.out (by kernel_rfl)) (fun _ _ _ h => h) (Or.inl ⟨by rfl, ?_⟩) ?_ ?_
        rotate_left
        ·intro w'
         go_simp
         with_reducible rfl
        rotate_left
        ·simp only [Act.put, lS, lZ, lC, i64_w, i32_w]
         rfl
        refine take_ (i := 10) (N := some 20) (v := ?_) (a' := ?_) #[T, T, T, T, T, T, T, T, T, T, T, T, T, F, T, F, F, F, F, F, F] rfl rfl (take_ofW HT_.out HW_.out (by kernel_rfl)) (fun _ _ _ h => h) (Or.inl ⟨by rfl, ?_⟩) hHeld ?_ ?_
        rotate_left; (· rintro w' ⟨s0, s1, s2, s3⟩; go_simp; with_reducible rfl); rotate_left; (· simp only [Act.put, lS, lZ, lC, i64_w, i32_w]; rfl)
        refine take_ (i := 13) (N := some 23) (v := ?_) (a' := ?_) #[T, T, T, T, T, T, T, T, T, T, T, T, T, T, T, F, F, F, F, F, F] rfl rfl (take_ofW HT_.out HW_.out (by kernel_rfl)) (fun _ _ _ h => h) (Or.inl ⟨by rfl, ?_⟩) hHeld ?_ ?_
        rotate_left; (· rintro w' ⟨s0, s1, s2, s3⟩; go_simp; with_reducible rfl); rotate_left; (· simp only [Act.put, lS, lZ, lC, i64_w, i32_w]; rfl)
        refine pure_ (i := 15) (N := some 25) (v := ?_) (a' := ?_) #[T, T, T, T, T, T, T, T, T, T, T, T, T, T, T, T, F, F, F, F, F] rfl rfl (any_of HT_.out (by kernel_rfl)) (fun _ _ _ h => h) (Or.inl ⟨by rfl, ?_⟩) ?_ ?_
        rotate_left
        ·intro w'
         go_simp
         with_reducible rfl
        rotate_left
        ·simp only [Act.put, lS, lZ, lC, i64_w, i32_w]
         rfl
        refine pure_ (i := 16) (N := some 26) (v := ?_) (a' := ?_) #[T, T, T, T, T, T, T, T, T, T, T, T, T, T, T, T, T, F, F, F, F] rfl rfl (any_of HT_.out (by kernel_rfl)) (fun _ _ _ h => h) (Or.inl ⟨by rfl, ?_⟩) ?_ ?_
        rotate_left
        ·intro w'
         go_simp
         with_reducible rfl
        rotate_left
        ·simp only [Act.put, lS, lZ, lC, i64_w, i32_w]
         rfl
        refine take_ (i := 17) (N := some 27) (v := ?_) (a' := ?_) #[T, T, T, T, T, T, T, T, T, T, T, T, T, T, T, T, T, T, F, F, F] rfl rfl (take_ofW HT_.out HW_.out (by kernel_rfl)) (fun _ _ _ h => h) (Or.inl ⟨by rfl, ?_⟩) hHeld ?_ ?_
        rotate_left; (· rintro w' ⟨s0, s1, s2, s3⟩; go_simp; with_reducible rfl); rotate_left; (· simp only [Act.put, lS, lZ, lC, i64_w, i32_w]; rfl)
        refine one_ (i := 18) (N := some 28) #[T, T, T, T, T, T, T, T, T, T, T, T, T, T, T, T, T, T, T, F, F] rfl rfl (one_of HT_.out (by kernel_rfl)) (by decide) (fun K hK => ?_)
        refine goes_ Tryd.func34 (by kernel_rfl) rfl #[.agg #[.int .i64 a0_0, .slice (some ad223) l0_1.length c0_1], .int .i64 a2, .int .i64 ((d0_ l0_1 a1).f1)] (by rfl) rfl rfl (by (try simp only [List.map_toArray, List.map_cons, List.map_nil]); first | done | rfl | (simp only [List.length_drop, List.length_take]; rfl)) ?_
        with_reducible refine (posthorseref08_free.calls k a0_0 _ _ l0_1 a2 ((d0_ l0_1 a1).f1) true _ ?side1 ?side2 A26.out).mono ?_
        (case side1 => repeat (first | exact (Kd.C_below HR0_1.out HB.out) | (with_reducible refine Kd.C_alloc ?_ _) | (with_reducible refine Kd.C_drewN ?_ _) | (with_reducible refine Kd.C_drew ?_)))
        (case side2 => exact HC0_1.out)
        rintro e w35 ⟨rfl, hb⟩
        refine ⟨_, rfl, ?_⟩
        have n0_ := A0k (bB (g := gb220) (o := .cells #[.int .i64 a0_0, .slice (some ad223) l0_1.length c0_1] 29 (0, 0)) (by (with_reducible repeat first | apply bN | apply bD | apply bA); exact BK220.out) hb)
        have n1_ := A0k (bB (g := gb221) (o := .cells #[.int .i64 0, .slice none 0 0] 29 (0, 0)) (by (with_reducible repeat first | apply bN | apply bD | apply bA); exact BK221.out) hb)
        have n2_ := A0k (bB (g := gb222) (o := .cells #[.int .i64 0, .int .i64 0] 39 (0, 0)) (by (with_reducible repeat first | apply bN | apply bD | apply bA); exact BK222.out) hb)
        have n3_ := A0k (pS (by repeat (first | (with_reducible first | exact HB.out | apply pA | apply pN | apply pD | refine bS ?_ GE220.out | refine bS ?_ GE221.out | refine bS ?_ GE222.out) | exact HB.out)) hb)
        clear BK220
        clear BK221
        clear BK222
        clear HB
        have BK220 := n0_
        have BK221 := n1_
        have BK222 := n2_
        have HB := n3_
        clear n0_ n1_ n2_ n3_
        (try clear hb)
        (try clear hb2)
        (try clear hk)
        (try clear hi)
        refine hK.out _ _ ⟨(bC BK220.out 0).trans rfl, (bC BK220.out 1).trans rfl, ((HB.out.cell (World.block_lt_of_cell? w _ hw223_0)).trans hw223_0), ((HB.out.cell (World.block_lt_of_cell? w _ hw223_1)).trans hw223_1)⟩ (fun hHeld => ?_)
        clear hK K
        refine norm_ (a' := ?_) ?_ ?_
        rotate_left
        ·show Act.put _ (some 28) _ = _
         simp only [Act.put, lS, lZ, lC, i64_w, i32_w]
         rfl
        refine pure_ (i := 19) (N := some 29) (v := ?_) (a' := ?_) #[T, T, T, T, T, T, T, T, T, T, T, T, T, T, T, T, T, T, T, T, F] rfl rfl (any_of HT_.out (by kernel_rfl)) (fun _ _ _ h => h) (Or.inl ⟨by rfl, ?_⟩) ?_ ?_
        rotate_left
        ·intro w'
         go_simp
         with_reducible rfl
        rotate_left
        ·simp only [Act.put, lS, lZ, lC, i64_w, i32_w]
         rfl
        refine pure_ (i := 20) (N := some 30) (v := ?_) (a' := ?_) #[T, T, T, T, T, T, T, T, T, T, T, T, T, T, T, T, T, T, T, T, T] rfl rfl (any_of HT_.out (by kernel_rfl)) (fun _ _ _ h => h) (Or.inl ⟨by rfl, ?_⟩) ?_ ?_
        rotate_left
        ·intro w'
         go_simp
         with_reducible rfl
        rotate_left
        ·simp only [Act.put, lS, lZ, lC, i64_w, i32_w]
         rfl
        refine done_ (done_of HT_.out (by kernel_rfl)) ?_
        try go_wp2
        have n0_ := A0k (bD BK220.out)
        have n1_ := A0k (bD BK221.out)
        have n2_ := A0k (bD BK222.out)
        have n3_ := A0k (pD HB.out)
        clear BK220
        clear BK221
        clear BK222
        clear HB
        have BK220 := n0_
        have BK221 := n1_
        have BK222 := n2_
        have HB := n3_
        clear n0_ n1_ n2_ n3_
        refine start_ (n := 10) (S := fun w' => w'.cell? ⟨gb220, 0, none⟩ = some (.int .i64 a0_0) ∧ w'.cell? ⟨gb220, 1, none⟩ = some (.slice (some ad223) l0_1.length c0_1)) (ds := []) #[F, F, F, F, F, F, F, F, F, F] (by kernel_rfl) rfl rfl ⟨(bC BK220.out 0).trans rfl, (bC BK220.out 1).trans rfl⟩ (fun hHeld => ?_); refine with_tabW posthorseref08_Move.tab3 posthorseref08_Move.bits3 (fun HT_ HW_ => ?_)
        generalize w35.drew = w36 at BK220 BK221 BK222 HB hHeld ⊢
        refine pure_ (i := 0) (N := some 33) (v := ?_) (a' := ?_) #[T, F, F, F, F, F, F, F, F, F] rfl rfl (any_of HT_.out (by kernel_rfl)) (fun _ _ _ h => h) (Or.inl ⟨by rfl, ?_⟩) ?_ ?_
        rotate_left
        ·intro w'
         go_simp
         with_reducible rfl
        rotate_left
        ·simp only [Act.put, lS, lZ, lC, i64_w, i32_w]
         rfl
        refine pure_ (i := 4) (N := some 37) (v := ?_) (a' := ?_) #[T, F, F, F, T, F, F, F, F, F] rfl rfl (any_of HT_.out (by kernel_rfl)) (fun _ _ _ h => h) (Or.inl ⟨by rfl, ?_⟩) ?_ ?_
        rotate_left
        ·intro w'
         go_simp
         with_reducible rfl
        rotate_left
        ·simp only [Act.put, lS, lZ, lC, i64_w, i32_w]
         rfl
        refine take_ (i := 1) (N := some 34) (v := ?_) (a' := ?_) #[T, T, F, F, T, F, F, F, F, F] rfl rfl (take_ofW HT_.out HW_.out (by kernel_rfl)) (fun _ _ _ h => h) (Or.inl ⟨by rfl, ?_⟩) hHeld ?_ ?_
        rotate_left; (· rintro w' ⟨s0, s1⟩; go_simp; with_reducible rfl); rotate_left; (· simp only [Act.put, lS, lZ, lC, i64_w, i32_w]; rfl)
        refine pure_ (i := 2) (N := some 35) (v := ?_) (a' := ?_) #[T, T, T, F, T, F, F, F, F, F] rfl rfl (any_of HT_.out (by kernel_rfl)) (fun _ _ _ h => h) (Or.inl ⟨by rfl, ?_⟩) ?_ ?_
        rotate_left
        ·intro w'
         go_simp
         with_reducible rfl
        rotate_left
        ·simp only [Act.put, lS, lZ, lC, i64_w, i32_w]
         rfl
        refine take_ (i := 5) (N := some 38) (v := ?_) (a' := ?_) #[T, T, T, F, T, T, F, F, F, F] rfl rfl (take_ofW HT_.out HW_.out (by kernel_rfl)) (fun _ _ _ h => h) (Or.inl ⟨by rfl, ?_⟩) hHeld ?_ ?_
        rotate_left; (· rintro w' ⟨s0, s1⟩; go_simp; with_reducible rfl); rotate_left; (· simp only [Act.put, lS, lZ, lC, i64_w, i32_w]; rfl)
        refine join_ (σ := Value × Value × Nat) 1 #[T, T, T, T, T, T, T, T, T, F] (fun s_ => [(36, s_.1), (39, s_.2.1), (9, .pointer (some ⟨s_.2.2, 0, none⟩)), (40, .agg #[.int .i64 (wrap64 (a0_0 + 1)), s_.2.1])]) (fun s_ w' => (w'.cell? ⟨gb220, 0, none⟩ = some (.int .i64 a0_0) ∧ w'.cell? ⟨gb220, 1, none⟩ = some (.slice (some ad223) l0_1.length c0_1)) ∧ (Kd.R k39 39 w' w.heap.size (fun k_ => k_ ≠ gb222) s_.2.1 y228) ∧ (w'.heap[gb220]? = some (.cells #[.int .i64 a0_0, .slice (some ad223) l0_1.length c0_1] 29 (0, 0))) ∧ (w'.heap[gb221]? = some (.cells #[.int .i64 0, .slice none 0 0] 29 (0, 0))) ∧ (w'.heap[gb222]? = some (.cells #[.int .i64 0, .int .i64 0] 39 (0, 0))) ∧ (w'.heap[s_.2.2]? = some (.cells #[.int .i64 0, .slice none 0 0] 29 (0, 0))) ∧ (w.heap.size ≤ s_.2.2) ∧ (w.heap.size ≤ s_.2.2) ∧ (gb220 ≠ s_.2.2) ∧ (s_.2.2 ≠ gb220) ∧ (gb221 ≠ s_.2.2) ∧ (s_.2.2 ≠ gb221) ∧ (gb222 ≠ s_.2.2) ∧ (s_.2.2 ≠ gb222) ∧ (Below w.heap.size w w')) ?_ ?_
        rotate_left
        ·intro hCont
         refine two_ (i := 3) (j := 8) (Ni := some 36) (Nj := some 9) #[T, T, T, T, T, T, F, F, F, F] #[T, T, T, F, T, T, F, F, T, F] rfl rfl rfl rfl (two_of HT_.out (by kernel_rfl)) (by decide) (by decide) (fun K hK => ?_) (fun K hK => ?_)
         ·skip
          refine Kd.R_lit_step k39 _ 39 ?hg (N := 36) ?hd (xs := ([] : List (S39))) (inner := []) (ok := fun _ => True) (okp := fun _ => True) ?hr ?hp (fun _ hk => hk) trivial (Below.refl _ _) (Nat.le_refl _) (by simp) ?_; (case hd => rfl); (case hg => rfl); (case hr => first | (go_simp; done) | (go_simp; rfl)); (case hp => exact (Reps.none _ _))
          intro v226 w37 ho38 hb hg_ hnew_
          clear hg_ hnew_
          (first | rw [← Ny225.out] at ho38 | (simp only [Int.reduceToNat] at ho38; rw [← Ny225.out] at ho38))
          have n0_ := A0k (Kd.R_lower (Kd.R_newB ho38 (g := gb222) (o := .cells #[.int .i64 0, .int .i64 0] 39 (0, 0)) (by (with_reducible repeat first | apply bN | apply bD | apply bA); exact BK222.out)) (pZ (by repeat (first | (with_reducible first | exact HB.out | apply pA | apply pN | apply pD | refine bS ?_ GE220.out | refine bS ?_ GE221.out | refine bS ?_ GE222.out) | exact HB.out))))
          have n1_ := A0k (bB (g := gb220) (o := .cells #[.int .i64 a0_0, .slice (some ad223) l0_1.length c0_1] 29 (0, 0)) (by (with_reducible repeat first | apply bN | apply bD | apply bA); exact BK220.out) hb)
          have n2_ := A0k (bB (g := gb221) (o := .cells #[.int .i64 0, .slice none 0 0] 29 (0, 0)) (by (with_reducible repeat first | apply bN | apply bD | apply bA); exact BK221.out) hb)
          have n3_ := A0k (bB (g := gb222) (o := .cells #[.int .i64 0, .int .i64 0] 39 (0, 0)) (by (with_reducible repeat first | apply bN | apply bD | apply bA); exact BK222.out) hb)
          have n4_ := A0k (pS (by repeat (first | (with_reducible first | exact HB.out | apply pA | apply pN | apply pD | refine bS ?_ GE220.out | refine bS ?_ GE221.out | refine bS ?_ GE222.out) | exact HB.out)) hb)
          clear BK220
          clear BK221
          clear BK222
          clear HB
          have HO227 := n0_
          have BK220 := n1_
          have BK221 := n2_
          have BK222 := n3_
          have HB := n4_
          clear n0_ n1_ n2_ n3_ n4_
          clear hb ho38
          refine hK.out _ _ ⟨(bC BK220.out 0).trans rfl, (bC BK220.out 1).trans rfl⟩ (fun hHeld => ?_)
          clear hK K
          refine norm_ (a' := ?_) ?_ ?_
          rotate_left
          ·show Act.put _ (some 36) _ = _
           simp only [Act.put, lS, lZ, lC, i64_w, i32_w]
           rfl
          refine two_ (i := 6) (j := 8) (Ni := some 39) (Nj := some 9) #[T, T, T, T, T, T, T, F, F, F] #[T, T, T, T, T, T, F, F, T, F] rfl rfl rfl rfl (two_of HT_.out (by kernel_rfl)) (by decide) (by decide) (fun K hK => ?_) (fun K hK => ?_)
          ·skip
           refine Kd.R_append_rows_step k39 (w0 := w) w.heap.size (by rfl) (.tmp 36) (.tmp 38) 27 39 (.agg #[(.int .i64 0), (.int .i64 0)]) 16 rfl Tryd.underlying27 info39 rfl (by decide) (by omega) v226 y225 l0_1 _ _ _ (fun k_ => k_ ≠ gb222) (fun _ => False) rfl rfl ?aO ?aR (fun _ _ h => h) (fun _ h => h.elim) ?aF ?aB ?aS ?aL ?_
           (case aR => repeat (first | exact (Kd.C_below HR0_1.out HB.out) | (with_reducible refine Kd.C_alloc ?_ _) | (with_reducible refine Kd.C_drewN ?_ _) | (with_reducible refine Kd.C_drew ?_)))
           (case aB => exact (by repeat (first | (with_reducible first | exact HB.out | apply pA | apply pN | apply pD | refine bS ?_ GE220.out | refine bS ?_ GE221.out | refine bS ?_ GE222.out) | exact HB.out)))
           (case aF => exact (fun k_ hk => Kd.freshB (g := gb222) (o := .cells #[.int .i64 0, .int .i64 0] 39 (0, 0)) (by (with_reducible repeat first | apply bN | apply bD | apply bA); exact BK222.out) k_ hk))
           (case aO => exact (by (with_reducible repeat first | apply rA | apply rN | apply rD); exact Kd.R_mono HO227.out (fun _ hk => hk.2)))
           (case aS => exact (pZ (by repeat (first | (with_reducible first | exact HB.out | apply pA | apply pN | apply pD | refine bS ?_ GE220.out | refine bS ?_ GE221.out | refine bS ?_ GE222.out) | exact HB.out))))
           (case aL => have := LMc28.out; omega)
           intro v229 w39 ho hb hg hat
           rw [← Ny228.out] at ho
           have n0_ := A0k (blk_grown (g := gb220) (o := .cells #[.int .i64 a0_0, .slice (some ad223) l0_1.length c0_1] 29 (0, 0)) (by (with_reducible repeat first | apply bN | apply bD | apply bA); exact BK220.out) hg (Kd.R_ne HO227.out BK220.out (by decide)))
           have n1_ := A0k (blk_grown (g := gb221) (o := .cells #[.int .i64 0, .slice none 0 0] 29 (0, 0)) (by (with_reducible repeat first | apply bN | apply bD | apply bA); exact BK221.out) hg (Kd.R_ne HO227.out BK221.out (by decide)))
           have n2_ := A0k (blk_grown (g := gb222) (o := .cells #[.int .i64 0, .int .i64 0] 39 (0, 0)) (by (with_reducible repeat first | apply bN | apply bD | apply bA); exact BK222.out) hg (Kd.R_away HO227.out (fun _ hk => hk.2)))
           have n3_ := A0k (hb)
           have n4_ := A0k (ho)
           clear BK220
           clear BK221
           clear BK222
           clear HB
           clear HO227
           have BK220 := n0_
           have BK221 := n1_
           have BK222 := n2_
           have HB := n3_
           have HO230 := n4_
           clear n0_ n1_ n2_ n3_ n4_
           clear ho hb hg hat
           obtain ⟨Ao40, co40, eo40⟩ := Kd.R_slice HO230.out
           (first | subst eo40 | (injection eo40 with f1_ f2_ f3_; have f4_ := f1_.symm; have f5_ := f3_.symm; clear f1_ f2_ f3_; subst f4_; subst f5_))
           refine hK.out _ _ ⟨(bC BK220.out 0).trans rfl, (bC BK220.out 1).trans rfl⟩ (fun hHeld => ?_)
           clear hK K
           refine norm_ (a' := ?_) ?_ ?_
           rotate_left
           ·show Act.put _ (some 39) _ = _
            simp only [Act.put, lS, lZ, lC, i64_w, i32_w]
            rfl
           refine pure_ (i := 7) (N := some 40) (v := ?_) (a' := ?_) #[T, T, T, T, T, T, T, T, F, F] rfl rfl (any_of HT_.out (by kernel_rfl)) (fun _ _ _ h => h) (Or.inl ⟨by rfl, ?_⟩) ?_ ?_
           rotate_left
           ·intro w'
            go_simp
            with_reducible rfl
           rotate_left
           ·simp only [Act.put, lS, lZ, lC, i64_w, i32_w]
            rfl
           refine one_ (i := 8) (N := some 9) #[T, T, T, T, T, T, T, T, T, F] rfl rfl (one_of HT_.out (by kernel_rfl)) (by decide) (fun K hK => ?_)
           refine box_step ?hg (N := 9) ?hd (cs := #[.int .i64 0, .slice none 0 0]) (t := 29) ?hr ?_; (case hd => rfl); (case hg => rfl); (case hr => first | (go_simp; done) | (go_simp; rfl))
           intro gb231 hg w41 hbox hb
           have n0_ := A0k (Kd.R_below (by (with_reducible repeat first | apply rA | apply rN | apply rD); exact HO230.out) hb)
           have n1_ := A0k (bB (g := gb220) (o := .cells #[.int .i64 a0_0, .slice (some ad223) l0_1.length c0_1] 29 (0, 0)) (by (with_reducible repeat first | apply bN | apply bD | apply bA); exact BK220.out) hb)
           have n2_ := A0k (bB (g := gb221) (o := .cells #[.int .i64 0, .slice none 0 0] 29 (0, 0)) (by (with_reducible repeat first | apply bN | apply bD | apply bA); exact BK221.out) hb)
           have n3_ := A0k (bB (g := gb222) (o := .cells #[.int .i64 0, .int .i64 0] 39 (0, 0)) (by (with_reducible repeat first | apply bN | apply bD | apply bA); exact BK222.out) hb)
           have n4_ := A0k (pS (by repeat (first | (with_reducible first | exact HB.out | apply pA | apply pN | apply pD | refine bS ?_ GE220.out | refine bS ?_ GE221.out | refine bS ?_ GE222.out) | exact HB.out)) hb)
           have n5_ := A0k (hbox)
           have n6_ := A0k ((by rw [hg]; exact (pZ (by repeat (first | (with_reducible first | exact HB.out | apply pA | apply pN | apply pD | refine bS ?_ GE220.out | refine bS ?_ GE221.out | refine bS ?_ GE222.out) | exact HB.out))) : w.heap.size ≤ gb231))
           have n7_ := A0k ((by rw [hg]; exact (pZ (by repeat (first | (with_reducible first | exact HB.out | apply pA | apply pN | apply pD | refine bS ?_ GE220.out | refine bS ?_ GE221.out | refine bS ?_ GE222.out) | exact HB.out))) : w.heap.size ≤ gb231))
           have n8_ := A0k ((by rw [hg]; exact Nat.ne_of_lt (bL (g := gb220) (o := .cells #[.int .i64 a0_0, .slice (some ad223) l0_1.length c0_1] 29 (0, 0)) (by (with_reducible repeat first | apply bN | apply bD | apply bA); exact BK220.out)) : gb220 ≠ gb231))
           have n9_ := A0k ((by rw [hg]; exact Nat.ne_of_gt (bL (g := gb220) (o := .cells #[.int .i64 a0_0, .slice (some ad223) l0_1.length c0_1] 29 (0, 0)) (by (with_reducible repeat first | apply bN | apply bD | apply bA); exact BK220.out)) : gb231 ≠ gb220))
           have n10_ := A0k ((by rw [hg]; exact Nat.ne_of_lt (bL (g := gb221) (o := .cells #[.int .i64 0, .slice none 0 0] 29 (0, 0)) (by (with_reducible repeat first | apply bN | apply bD | apply bA); exact BK221.out)) : gb221 ≠ gb231))
           have n11_ := A0k ((by rw [hg]; exact Nat.ne_of_gt (bL (g := gb221) (o := .cells #[.int .i64 0, .slice none 0 0] 29 (0, 0)) (by (with_reducible repeat first | apply bN | apply bD | apply bA); exact BK221.out)) : gb231 ≠ gb221))
           have n12_ := A0k ((by rw [hg]; exact Nat.ne_of_lt (bL (g := gb222) (o := .cells #[.int .i64 0, .int .i64 0] 39 (0, 0)) (by (with_reducible repeat first | apply bN | apply bD | apply bA); exact BK222.out)) : gb222 ≠ gb231))
           have n13_ := A0k ((by rw [hg]; exact Nat.ne_of_gt (bL (g := gb222) (o := .cells #[.int .i64 0, .int .i64 0] 39 (0, 0)) (by (with_reducible repeat first | apply bN | apply bD | apply bA); exact BK222.out)) : gb231 ≠ gb222))
           clear HO230
           clear BK220
           clear BK221
           clear BK222
           clear HB
           have HO230 := n0_
           have BK220 := n1_
           have BK221 := n2_
           have BK222 := n3_
           have HB := n4_
           have BK231 := n5_
           have GW231 := n6_
           have GE231 := n7_
           have NB220_231 := n8_
           have NB231_220 := n9_
           have NB221_231 := n10_
           have NB231_221 := n11_
           have NB222_231 := n12_
           have NB231_222 := n13_
           clear n0_ n1_ n2_ n3_ n4_ n5_ n6_ n7_ n8_ n9_ n10_ n11_ n12_ n13_
           clear hb hbox hg
           refine hK.out _ _ ⟨(bC BK220.out 0).trans rfl, (bC BK220.out 1).trans rfl⟩ (fun hHeld => ?_)
           clear hK K
           refine norm_ (a' := ?_) ?_ ?_
           rotate_left
           ·show Act.put _ (some 9) _ = _
            simp only [Act.put, lS, lZ, lC, i64_w, i32_w]
            rfl
           exact norm_ (by simp only [putAll, Act.put, lS, lZ, lC]) (hCont (v226, .slice Ao40 y228.length co40, gb231) _ ⟨hHeld, (by (with_reducible repeat first | apply rA | apply rN | apply rD); exact HO230.out), (by (with_reducible repeat first | apply bN | apply bD | apply bA); exact BK220.out), (by (with_reducible repeat first | apply bN | apply bD | apply bA); exact BK221.out), (by (with_reducible repeat first | apply bN | apply bD | apply bA); exact BK222.out), (by (with_reducible repeat first | apply bN | apply bD | apply bA); exact BK231.out), GW231.out, GE231.out, NB220_231.out, NB231_220.out, NB221_231.out, NB231_221.out, NB222_231.out, NB231_222.out, (by repeat (first | (with_reducible first | exact HB.out | apply pA | apply pN | apply pD | refine bS ?_ GE220.out | refine bS ?_ GE221.out | refine bS ?_ GE222.out | refine bS ?_ GE231.out) | exact HB.out))⟩)
          ·skip
           refine box_step ?hg (N := 9) ?hd (cs := #[.int .i64 0, .slice none 0 0]) (t := 29) ?hr ?_; (case hd => rfl); (case hg => rfl); (case hr => first | (go_simp; done) | (go_simp; rfl))
           intro gb231 hg w39 hbox hb
           have n0_ := A0k (Kd.R_below (by (with_reducible repeat first | apply rA | apply rN | apply rD); exact HO227.out) hb)
           have n1_ := A0k (bB (g := gb220) (o := .cells #[.int .i64 a0_0, .slice (some ad223) l0_1.length c0_1] 29 (0, 0)) (by (with_reducible repeat first | apply bN | apply bD | apply bA); exact BK220.out) hb)
           have n2_ := A0k (bB (g := gb221) (o := .cells #[.int .i64 0, .slice none 0 0] 29 (0, 0)) (by (with_reducible repeat first | apply bN | apply bD | apply bA); exact BK221.out) hb)
           have n3_ := A0k (bB (g := gb222) (o := .cells #[.int .i64 0, .int .i64 0] 39 (0, 0)) (by (with_reducible repeat first | apply bN | apply bD | apply bA); exact BK222.out) hb)
           have n4_ := A0k (pS (by repeat (first | (with_reducible first | exact HB.out | apply pA | apply pN | apply pD | refine bS ?_ GE220.out | refine bS ?_ GE221.out | refine bS ?_ GE222.out) | exact HB.out)) hb)
           have n5_ := A0k (hbox)
           have n6_ := A0k ((by rw [hg]; exact (pZ (by repeat (first | (with_reducible first | exact HB.out | apply pA | apply pN | apply pD | refine bS ?_ GE220.out | refine bS ?_ GE221.out | refine bS ?_ GE222.out) | exact HB.out))) : w.heap.size ≤ gb231))
           have n7_ := A0k ((by rw [hg]; exact (pZ (by repeat (first | (with_reducible first | exact HB.out | apply pA | apply pN | apply pD | refine bS ?_ GE220.out | refine bS ?_ GE221.out | refine bS ?_ GE222.out) | exact HB.out))) : w.heap.size ≤ gb231))
           have n8_ := A0k ((by rw [hg]; exact Nat.ne_of_lt (bL (g := gb220) (o := .cells #[.int .i64 a0_0, .slice (some ad223) l0_1.length c0_1] 29 (0, 0)) (by (with_reducible repeat first | apply bN | apply bD | apply bA); exact BK220.out)) : gb220 ≠ gb231))
           have n9_ := A0k ((by rw [hg]; exact Nat.ne_of_gt (bL (g := gb220) (o := .cells #[.int .i64 a0_0, .slice (some ad223) l0_1.length c0_1] 29 (0, 0)) (by (with_reducible repeat first | apply bN | apply bD | apply bA); exact BK220.out)) : gb231 ≠ gb220))
           have n10_ := A0k ((by rw [hg]; exact Nat.ne_of_lt (bL (g := gb221) (o := .cells #[.int .i64 0, .slice none 0 0] 29 (0, 0)) (by (with_reducible repeat first | apply bN | apply bD | apply bA); exact BK221.out)) : gb221 ≠ gb231))
           have n11_ := A0k ((by rw [hg]; exact Nat.ne_of_gt (bL (g := gb221) (o := .cells #[.int .i64 0, .slice none 0 0] 29 (0, 0)) (by (with_reducible repeat first | apply bN | apply bD | apply bA); exact BK221.out)) : gb231 ≠ gb221))
           have n12_ := A0k ((by rw [hg]; exact Nat.ne_of_lt (bL (g := gb222) (o := .cells #[.int .i64 0, .int .i64 0] 39 (0, 0)) (by (with_reducible repeat first | apply bN | apply bD | apply bA); exact BK222.out)) : gb222 ≠ gb231))
           have n13_ := A0k ((by rw [hg]; exact Nat.ne_of_gt (bL (g := gb222) (o := .cells #[.int .i64 0, .int .i64 0] 39 (0, 0)) (by (with_reducible repeat first | apply bN | apply bD | apply bA); exact BK222.out)) : gb231 ≠ gb222))
           clear HO227
           clear BK220
           clear BK221
           clear BK222
           clear HB
           have HO227 := n0_
           have BK220 := n1_
           have BK221 := n2_
           have BK222 := n3_
           have HB := n4_
           have BK231 := n5_
           have GW231 := n6_
           have GE231 := n7_
           have NB220_231 := n8_
           have NB231_220 := n9_
           have NB221_231 := n10_
           have NB231_221 := n11_
           have NB222_231 := n12_
           have NB231_222 := n13_
           clear n0_ n1_ n2_ n3_ n4_ n5_ n6_ n7_ n8_ n9_ n10_ n11_ n12_ n13_
           clear hb hbox hg
           refine hK.out _ _ ⟨(bC BK220.out 0).trans rfl, (bC BK220.out 1).trans rfl⟩ (fun hHeld => ?_)
           clear hK K
           refine norm_ (a' := ?_) ?_ ?_
           rotate_left
           ·show Act.put _ (some 9) _ = _
            simp only [Act.put, lS, lZ, lC, i64_w, i32_w]
            rfl
           refine one_ (i := 6) (N := some 39) #[T, T, T, T, T, T, T, F, T, F] rfl rfl (one_of HT_.out (by kernel_rfl)) (by decide) (fun K hK => ?_)
           refine Kd.R_append_rows_step k39 (w0 := w) w.heap.size (by rfl) (.tmp 36) (.tmp 38) 27 39 (.agg #[(.int .i64 0), (.int .i64 0)]) 16 rfl Tryd.underlying27 info39 rfl (by decide) (by omega) v226 y225 l0_1 _ _ _ (fun k_ => k_ ≠ gb222) (fun _ => False) rfl rfl ?aO ?aR (fun _ _ h => h) (fun _ h => h.elim) ?aF ?aB ?aS ?aL ?_
           (case aR => repeat (first | exact (Kd.C_below HR0_1.out HB.out) | (with_reducible refine Kd.C_alloc ?_ _) | (with_reducible refine Kd.C_drewN ?_ _) | (with_reducible refine Kd.C_drew ?_)))
           (case aB => exact (by repeat (first | (with_reducible first | exact HB.out | apply pA | apply pN | apply pD | refine bS ?_ GE220.out | refine bS ?_ GE221.out | refine bS ?_ GE222.out | refine bS ?_ GE231.out) | exact HB.out)))
           (case aF => exact (fun k_ hk => Kd.freshB (g := gb222) (o := .cells #[.int .i64 0, .int .i64 0] 39 (0, 0)) (by (with_reducible repeat first | apply bN | apply bD | apply bA); exact BK222.out) k_ hk))
           (case aO => exact (by (with_reducible repeat first | apply rA | apply rN | apply rD); exact Kd.R_mono HO227.out (fun _ hk => hk.2)))
           (case aS => exact (pZ (by repeat (first | (with_reducible first | exact HB.out | apply pA | apply pN | apply pD | refine bS ?_ GE220.out | refine bS ?_ GE221.out | refine bS ?_ GE222.out | refine bS ?_ GE231.out) | exact HB.out))))
           (case aL => have := LMc28.out; omega)
           intro v229 w40 ho hb hg hat
           rw [← Ny228.out] at ho
           have n0_ := A0k (blk_grown (g := gb220) (o := .cells #[.int .i64 a0_0, .slice (some ad223) l0_1.length c0_1] 29 (0, 0)) (by (with_reducible repeat first | apply bN | apply bD | apply bA); exact BK220.out) hg (Kd.R_ne HO227.out BK220.out (by decide)))
           have n1_ := A0k (blk_grown (g := gb221) (o := .cells #[.int .i64 0, .slice none 0 0] 29 (0, 0)) (by (with_reducible repeat first | apply bN | apply bD | apply bA); exact BK221.out) hg (Kd.R_ne HO227.out BK221.out (by decide)))
           have n2_ := A0k (blk_grown (g := gb222) (o := .cells #[.int .i64 0, .int .i64 0] 39 (0, 0)) (by (with_reducible repeat first | apply bN | apply bD | apply bA); exact BK222.out) hg (Kd.R_away HO227.out (fun _ hk => hk.2)))
           have n3_ := A0k (blk_grown (g := gb231) (o := .cells #[.int .i64 0, .slice none 0 0] 29 (0, 0)) (by (with_reducible repeat first | apply bN | apply bD | apply bA); exact BK231.out) hg (Kd.R_ne HO227.out BK231.out (by decide)))
           have n4_ := A0k (hb)
           have n5_ := A0k (ho)
           clear BK220
           clear BK221
           clear BK222
           clear BK231
           clear HB
           clear HO227
           have BK220 := n0_
           have BK221 := n1_
           have BK222 := n2_
           have BK231 := n3_
           have HB := n4_
           have HO230 := n5_
           clear n0_ n1_ n2_ n3_ n4_ n5_
           clear ho hb hg hat
           obtain ⟨Ao41, co41, eo41⟩ := Kd.R_slice HO230.out
           (first | subst eo41 | (injection eo41 with f1_ f2_ f3_; have f4_ := f1_.symm; have f5_ := f3_.symm; clear f1_ f2_ f3_; subst f4_; subst f5_))
           refine hK.out _ _ ⟨(bC BK220.out 0).trans rfl, (bC BK220.out 1).trans rfl⟩ (fun hHeld => ?_)
           clear hK K
           refine norm_ (a' := ?_) ?_ ?_
           rotate_left
           ·show Act.put _ (some 39) _ = _
            simp only [Act.put, lS, lZ, lC, i64_w, i32_w]
            rfl
           refine pure_ (i := 7) (N := some 40) (v := ?_) (a' := ?_) #[T, T, T, T, T, T, T, T, T, F] rfl rfl (any_of HT_.out (by kernel_rfl)) (fun _ _ _ h => h) (Or.inl ⟨by rfl, ?_⟩) ?_ ?_
           rotate_left
           ·intro w'
            go_simp
            with_reducible rfl
           rotate_left
           ·simp only [Act.put, lS, lZ, lC, i64_w, i32_w]
            rfl
           exact norm_ (by simp only [putAll, Act.put, lS, lZ, lC]) (hCont (v226, .slice Ao41 y228.length co41, gb231) _ ⟨hHeld, (by (with_reducible repeat first | apply rA | apply rN | apply rD); exact HO230.out), (by (with_reducible repeat first | apply bN | apply bD | apply bA); exact BK220.out), (by (with_reducible repeat first | apply bN | apply bD | apply bA); exact BK221.out), (by (with_reducible repeat first | apply bN | apply bD | apply bA); exact BK222.out), (by (with_reducible repeat first | apply bN | apply bD | apply bA); exact BK231.out), GW231.out, GE231.out, NB220_231.out, NB231_220.out, NB221_231.out, NB231_221.out, NB222_231.out, NB231_222.out, (by repeat (first | (with_reducible first | exact HB.out | apply pA | apply pN | apply pD | refine bS ?_ GE220.out | refine bS ?_ GE221.out | refine bS ?_ GE222.out | refine bS ?_ GE231.out) | exact HB.out))⟩)
         ·skip
          refine box_step ?hg (N := 9) ?hd (cs := #[.int .i64 0, .slice none 0 0]) (t := 29) ?hr ?_; (case hd => rfl); (case hg => rfl); (case hr => first | (go_simp; done) | (go_simp; rfl))
          intro gb231 hg w37 hbox hb
          have n0_ := A0k (bB (g := gb220) (o := .cells #[.int .i64 a0_0, .slice (some ad223) l0_1.length c0_1] 29 (0, 0)) (by (with_reducible repeat first | apply bN | apply bD | apply bA); exact BK220.out) hb)
          have n1_ := A0k (bB (g := gb221) (o := .cells #[.int .i64 0, .slice none 0 0] 29 (0, 0)) (by (with_reducible repeat first | apply bN | apply bD | apply bA); exact BK221.out) hb)
          have n2_ := A0k (bB (g := gb222) (o := .cells #[.int .i64 0, .int .i64 0] 39 (0, 0)) (by (with_reducible repeat first | apply bN | apply bD | apply bA); exact BK222.out) hb)
          have n3_ := A0k (pS (by repeat (first | (with_reducible first | exact HB.out | apply pA | apply pN | apply pD | refine bS ?_ GE220.out | refine bS ?_ GE221.out | refine bS ?_ GE222.out) | exact HB.out)) hb)
          have n4_ := A0k (hbox)
          have n5_ := A0k ((by rw [hg]; exact (pZ (by repeat (first | (with_reducible first | exact HB.out | apply pA | apply pN | apply pD | refine bS ?_ GE220.out | refine bS ?_ GE221.out | refine bS ?_ GE222.out) | exact HB.out))) : w.heap.size ≤ gb231))
          have n6_ := A0k ((by rw [hg]; exact (pZ (by repeat (first | (with_reducible first | exact HB.out | apply pA | apply pN | apply pD | refine bS ?_ GE220.out | refine bS ?_ GE221.out | refine bS ?_ GE222.out) | exact HB.out))) : w.heap.size ≤ gb231))
          have n7_ := A0k ((by rw [hg]; exact Nat.ne_of_lt (bL (g := gb220) (o := .cells #[.int .i64 a0_0, .slice (some ad223) l0_1.length c0_1] 29 (0, 0)) (by (with_reducible repeat first | apply bN | apply bD | apply bA); exact BK220.out)) : gb220 ≠ gb231))
          have n8_ := A0k ((by rw [hg]; exact Nat.ne_of_gt (bL (g := gb220) (o := .cells #[.int .i64 a0_0, .slice (some ad223) l0_1.length c0_1] 29 (0, 0)) (by (with_reducible repeat first | apply bN | apply bD | apply bA); exact BK220.out)) : gb231 ≠ gb220))
          have n9_ := A0k ((by rw [hg]; exact Nat.ne_of_lt (bL (g := gb221) (o := .cells #[.int .i64 0, .slice none 0 0] 29 (0, 0)) (by (with_reducible repeat first | apply bN | apply bD | apply bA); exact BK221.out)) : gb221 ≠ gb231))
          have n10_ := A0k ((by rw [hg]; exact Nat.ne_of_gt (bL (g := gb221) (o := .cells #[.int .i64 0, .slice none 0 0] 29 (0, 0)) (by (with_reducible repeat first | apply bN | apply bD | apply bA); exact BK221.out)) : gb231 ≠ gb221))
          have n11_ := A0k ((by rw [hg]; exact Nat.ne_of_lt (bL (g := gb222) (o := .cells #[.int .i64 0, .int .i64 0] 39 (0, 0)) (by (with_reducible repeat first | apply bN | apply bD | apply bA); exact BK222.out)) : gb222 ≠ gb231))
          have n12_ := A0k ((by rw [hg]; exact Nat.ne_of_gt (bL (g := gb222) (o := .cells #[.int .i64 0, .int .i64 0] 39 (0, 0)) (by (with_reducible repeat first | apply bN | apply bD | apply bA); exact BK222.out)) : gb231 ≠ gb222))
          clear BK220
          clear BK221
          clear BK222
          clear HB
          have BK220 := n0_
          have BK221 := n1_
          have BK222 := n2_
          have HB := n3_
          have BK231 := n4_
          have GW231 := n5_
          have GE231 := n6_
          have NB220_231 := n7_
          have NB231_220 := n8_
          have NB221_231 := n9_
          have NB231_221 := n10_
          have NB222_231 := n11_
          have NB231_222 := n12_
          clear n0_ n1_ n2_ n3_ n4_ n5_ n6_ n7_ n8_ n9_ n10_ n11_ n12_
          clear hb hbox hg
          refine hK.out _ _ ⟨(bC BK220.out 0).trans rfl, (bC BK220.out 1).trans rfl⟩ (fun hHeld => ?_)
          clear hK K
          refine norm_ (a' := ?_) ?_ ?_
          rotate_left
          ·show Act.put _ (some 9) _ = _
           simp only [Act.put, lS, lZ, lC, i64_w, i32_w]
           rfl
          refine one_ (i := 3) (N := some 36) #[T, T, T, T, T, T, F, F, T, F] rfl rfl (one_of HT_.out (by kernel_rfl)) (by decide) (fun K hK => ?_)
          refine Kd.R_lit_step k39 _ 39 ?hg (N := 36) ?hd (xs := ([] : List (S39))) (inner := []) (ok := fun _ => True) (okp := fun _ => True) ?hr ?hp (fun _ hk => hk) trivial (Below.refl _ _) (Nat.le_refl _) (by simp) ?_; (case hd => rfl); (case hg => rfl); (case hr => first | (go_simp; done) | (go_simp; rfl)); (case hp => exact (Reps.none _ _))
          intro v226 w38 ho39 hb hg_ hnew_
          clear hg_ hnew_
          (first | rw [← Ny225.out] at ho39 | (simp only [Int.reduceToNat] at ho39; rw [← Ny225.out] at ho39))
          have n0_ := A0k (Kd.R_lower (Kd.R_newB ho39 (g := gb222) (o := .cells #[.int .i64 0, .int .i64 0] 39 (0, 0)) (by (with_reducible repeat first | apply bN | apply bD | apply bA); exact BK222.out)) (pZ (by repeat (first | (with_reducible first | exact HB.out | apply pA | apply pN | apply pD | refine bS ?_ GE220.out | refine bS ?_ GE221.out | refine bS ?_ GE222.out | refine bS ?_ GE231.out) | exact HB.out))))
          have n1_ := A0k (bB (g := gb220) (o := .cells #[.int .i64 a0_0, .slice (some ad223) l0_1.length c0_1] 29 (0, 0)) (by (with_reducible repeat first | apply bN | apply bD | apply bA); exact BK220.out) hb)
          have n2_ := A0k (bB (g := gb221) (o := .cells #[.int .i64 0, .slice none 0 0] 29 (0, 0)) (by (with_reducible repeat first | apply bN | apply bD | apply bA); exact BK221.out) hb)
          have n3_ := A0k (bB (g := gb222) (o := .cells #[.int .i64 0, .int .i64 0] 39 (0, 0)) (by (with_reducible repeat first | apply bN | apply bD | apply bA); exact BK222.out) hb)
          have n4_ := A0k (bB (g := gb231) (o := .cells #[.int .i64 0, .slice none 0 0] 29 (0, 0)) (by (with_reducible repeat first | apply bN | apply bD | apply bA); exact BK231.out) hb)
          have n5_ := A0k (pS (by repeat (first | (with_reducible first | exact HB.out | apply pA | apply pN | apply pD | refine bS ?_ GE220.out | refine bS ?_ GE221.out | refine bS ?_ GE222.out | refine bS ?_ GE231.out) | exact HB.out)) hb)
          clear BK220
          clear BK221
          clear BK222
          clear BK231
          clear HB
          have HO227 := n0_
          have BK220 := n1_
          have BK221 := n2_
          have BK222 := n3_
          have BK231 := n4_
          have HB := n5_
          clear n0_ n1_ n2_ n3_ n4_ n5_
          clear hb ho39
          refine hK.out _ _ ⟨(bC BK220.out 0).trans rfl, (bC BK220.out 1).trans rfl⟩ (fun hHeld => ?_)
          clear hK K
          refine norm_ (a' := ?_) ?_ ?_
          rotate_left
          ·show Act.put _ (some 36) _ = _
           simp only [Act.put, lS, lZ, lC, i64_w, i32_w]
           rfl
          refine one_ (i := 6) (N := some 39) #[T, T, T, T, T, T, T, F, T, F] rfl rfl (one_of HT_.out (by kernel_rfl)) (by decide) (fun K hK => ?_)
          refine Kd.R_append_rows_step k39 (w0 := w) w.heap.size (by rfl) (.tmp 36) (.tmp 38) 27 39 (.agg #[(.int .i64 0), (.int .i64 0)]) 16 rfl Tryd.underlying27 info39 rfl (by decide) (by omega) v226 y225 l0_1 _ _ _ (fun k_ => k_ ≠ gb222) (fun _ => False) rfl rfl ?aO ?aR (fun _ _ h => h) (fun _ h => h.elim) ?aF ?aB ?aS ?aL ?_
          (case aR => repeat (first | exact (Kd.C_below HR0_1.out HB.out) | (with_reducible refine Kd.C_alloc ?_ _) | (with_reducible refine Kd.C_drewN ?_ _) | (with_reducible refine Kd.C_drew ?_)))
          (case aB => exact (by repeat (first | (with_reducible first | exact HB.out | apply pA | apply pN | apply pD | refine bS ?_ GE220.out | refine bS ?_ GE221.out | refine bS ?_ GE222.out | refine bS ?_ GE231.out) | exact HB.out)))
          (case aF => exact (fun k_ hk => Kd.freshB (g := gb222) (o := .cells #[.int .i64 0, .int .i64 0] 39 (0, 0)) (by (with_reducible repeat first | apply bN | apply bD | apply bA); exact BK222.out) k_ hk))
          (case aO => exact (by (with_reducible repeat first | apply rA | apply rN | apply rD); exact Kd.R_mono HO227.out (fun _ hk => hk.2)))
          (case aS => exact (pZ (by repeat (first | (with_reducible first | exact HB.out | apply pA | apply pN | apply pD | refine bS ?_ GE220.out | refine bS ?_ GE221.out | refine bS ?_ GE222.out | refine bS ?_ GE231.out) | exact HB.out))))
          (case aL => have := LMc28.out; omega)
          intro v229 w40 ho hb hg hat
          rw [← Ny228.out] at ho
          have n0_ := A0k (blk_grown (g := gb220) (o := .cells #[.int .i64 a0_0, .slice (some ad223) l0_1.length c0_1] 29 (0, 0)) (by (with_reducible repeat first | apply bN | apply bD | apply bA); exact BK220.out) hg (Kd.R_ne HO227.out BK220.out (by decide)))
          have n1_ := A0k (blk_grown (g := gb221) (o := .cells #[.int .i64 0, .slice none 0 0] 29 (0, 0)) (by (with_reducible repeat first | apply bN | apply bD | apply bA); exact BK221.out) hg (Kd.R_ne HO227.out BK221.out (by decide)))
          have n2_ := A0k (blk_grown (g := gb222) (o := .cells #[.int .i64 0, .int .i64 0] 39 (0, 0)) (by (with_reducible repeat first | apply bN | apply bD | apply bA); exact BK222.out) hg (Kd.R_away HO227.out (fun _ hk => hk.2)))
          have n3_ := A0k (blk_grown (g := gb231) (o := .cells #[.int .i64 0, .slice none 0 0] 29 (0, 0)) (by (with_reducible repeat first | apply bN | apply bD | apply bA); exact BK231.out) hg (Kd.R_ne HO227.out BK231.out (by decide)))
          have n4_ := A0k (hb)
          have n5_ := A0k (ho)
          clear BK220
          clear BK221
          clear BK222
          clear BK231
          clear HB
          clear HO227
          have BK220 := n0_
          have BK221 := n1_
          have BK222 := n2_
          have BK231 := n3_
          have HB := n4_
          have HO230 := n5_
          clear n0_ n1_ n2_ n3_ n4_ n5_
          clear ho hb hg hat
          obtain ⟨Ao41, co41, eo41⟩ := Kd.R_slice HO230.out
          (first | subst eo41 | (injection eo41 with f1_ f2_ f3_; have f4_ := f1_.symm; have f5_ := f3_.symm; clear f1_ f2_ f3_; subst f4_; subst f5_))
          refine hK.out _ _ ⟨(bC BK220.out 0).trans rfl, (bC BK220.out 1).trans rfl⟩ (fun hHeld => ?_)
          clear hK K
          refine norm_ (a' := ?_) ?_ ?_
          rotate_left
          ·show Act.put _ (some 39) _ = _
           simp only [Act.put, lS, lZ, lC, i64_w, i32_w]
           rfl
          refine pure_ (i := 7) (N := some 40) (v := ?_) (a' := ?_) #[T, T, T, T, T, T, T, T, T, F] rfl rfl (any_of HT_.out (by kernel_rfl)) (fun _ _ _ h => h) (Or.inl ⟨by rfl, ?_⟩) ?_ ?_
          rotate_left
          ·intro w'
           go_simp
           with_reducible rfl
          rotate_left
          ·simp only [Act.put, lS, lZ, lC, i64_w, i32_w]
           rfl
          exact norm_ (by simp only [putAll, Act.put, lS, lZ, lC]) (hCont (v226, .slice Ao41 y228.length co41, gb231) _ ⟨hHeld, (by (with_reducible repeat first | apply rA | apply rN | apply rD); exact HO230.out), (by (with_reducible repeat first | apply bN | apply bD | apply bA); exact BK220.out), (by (with_reducible repeat first | apply bN | apply bD | apply bA); exact BK221.out), (by (with_reducible repeat first | apply bN | apply bD | apply bA); exact BK222.out), (by (with_reducible repeat first | apply bN | apply bD | apply bA); exact BK231.out), GW231.out, GE231.out, NB220_231.out, NB231_220.out, NB221_231.out, NB231_221.out, NB222_231.out, NB231_222.out, (by repeat (first | (with_reducible first | exact HB.out | apply pA | apply pN | apply pD | refine bS ?_ GE220.out | refine bS ?_ GE221.out | refine bS ?_ GE222.out | refine bS ?_ GE231.out) | exact HB.out))⟩)
        rintro ⟨v226, v229, gb231⟩ w42 ⟨hS_, h0_, h1_, h2_, h3_, h4_, h5_, h6_, h7_, h8_, h9_, h10_, h11_, h12_, h13_⟩
        have n0_ : Aside0 (Kd.R k39 39 w42 w.heap.size (fun k_ => k_ ≠ gb222) v229 y228) := ⟨h0_⟩
        have n1_ : Aside0 (w42.heap[gb220]? = some (.cells #[.int .i64 a0_0, .slice (some ad223) l0_1.length c0_1] 29 (0, 0))) := ⟨h1_⟩
        have n2_ : Aside0 (w42.heap[gb221]? = some (.cells #[.int .i64 0, .slice none 0 0] 29 (0, 0))) := ⟨h2_⟩
        have n3_ : Aside0 (w42.heap[gb222]? = some (.cells #[.int .i64 0, .int .i64 0] 39 (0, 0))) := ⟨h3_⟩
        have n4_ : Aside0 (w42.heap[gb231]? = some (.cells #[.int .i64 0, .slice none 0 0] 29 (0, 0))) := ⟨h4_⟩
        have n5_ : Aside0 (w.heap.size ≤ gb231) := ⟨h5_⟩
        have n6_ : Aside0 (w.heap.size ≤ gb231) := ⟨h6_⟩
        have n7_ : Aside0 (gb220 ≠ gb231) := ⟨h7_⟩
        have n8_ : Aside0 (gb231 ≠ gb220) := ⟨h8_⟩
        have n9_ : Aside0 (gb221 ≠ gb231) := ⟨h9_⟩
        have n10_ : Aside0 (gb231 ≠ gb221) := ⟨h10_⟩
        have n11_ : Aside0 (gb222 ≠ gb231) := ⟨h11_⟩
        have n12_ : Aside0 (gb231 ≠ gb222) := ⟨h12_⟩
        have n13_ : Aside0 (Below w.heap.size w w42) := ⟨h13_⟩
        clear BK220
        clear BK221
        clear BK222
        clear HB
        clear h0_ h1_ h2_ h3_ h4_ h5_ h6_ h7_ h8_ h9_ h10_ h11_ h12_ h13_
        have HO230 := n0_
        have BK220 := n1_
        have BK221 := n2_
        have BK222 := n3_
        have BK231 := n4_
        have GW231 := n5_
        have GE231 := n6_
        have NB220_231 := n7_
        have NB231_220 := n8_
        have NB221_231 := n9_
        have NB231_221 := n10_
        have NB222_231 := n11_
        have NB231_222 := n12_
        have HB := n13_
        clear n0_ n1_ n2_ n3_ n4_ n5_ n6_ n7_ n8_ n9_ n10_ n11_ n12_ n13_
        have hHeld : w42.cell? ⟨gb220, 0, none⟩ = some (.int .i64 a0_0) ∧ w42.cell? ⟨gb220, 1, none⟩ = some (.slice (some ad223) l0_1.length c0_1) := hS_
        obtain ⟨Ao43, co43, eo43⟩ := Kd.R_slice HO230.out
        (first | subst eo43 | (injection eo43 with f1_ f2_ f3_; have f4_ := f1_.symm; have f5_ := f3_.symm; clear f1_ f2_ f3_; subst f4_; subst f5_))
        refine norm_ (a' := ?_) ?_ ?_
        rotate_left
        ·simp only [putAll, Act.put, lS, lZ, lC]
         rfl
        refine one_ (i := 9) (N := none) #[T, T, T, T, T, T, T, T, T, T] rfl rfl (one_of HT_.out (by kernel_rfl)) (by decide) (fun K hK => ?_)
        have hs44 : w42.cell? ⟨gb231, 0, none⟩ = some (.int .i64 0) := (bC BK231.out 0).trans rfl
        have hfs44 := bF BK231.out 0
        have hns44_0 := NB220_231.out
        have hns44_1 := NB221_231.out
        have hns44_2 := NB222_231.out
        have hms44_0 := NB231_220.out
        have hms44_1 := NB231_221.out
        have hms44_2 := NB231_222.out
        have hs45 : w42.cell? ⟨gb231, 1, none⟩ = some (.slice none 0 0) := (bC BK231.out 1).trans rfl
        have hfs45 := bF BK231.out 1
        have hns45_0 := NB220_231.out
        have hns45_1 := NB221_231.out
        have hns45_2 := NB222_231.out
        have hms45_0 := NB231_220.out
        have hms45_1 := NB231_221.out
        have hms45_2 := NB231_222.out
        refine skip_ (w1 := ?_) (by rfl) rfl ?_ ?_
        rotate_left
        ·go_simp
         rfl
        refine hK.out _ _ ⟨((cF (p := ⟨gb231, _, none⟩) NB220_231.out _).trans (((cF (p := ⟨gb231, _, none⟩) NB220_231.out _).trans (hHeld.1)))), ((cF (p := ⟨gb231, _, none⟩) NB220_231.out _).trans (((cF (p := ⟨gb231, _, none⟩) NB220_231.out _).trans (hHeld.2))))⟩ (fun hHeld => ?_)
        clear hK K
        refine done_ (done_of HT_.out (by kernel_rfl)) ?_
        have n0_ : Aside0 (Kd.R k39 39 ((w42.setCell ⟨gb231, 0, none⟩ (.int .i64 (wrap64 (a0_0 + 1)))).setCell ⟨gb231, 1, none⟩ (.slice Ao43 y228.length co43)) w.heap.size (fun k_ => k_ ≠ gb222) (.slice Ao43 y228.length co43) y228) := ⟨by (with_reducible repeat first | apply rA | apply rN | apply rD); exact Kd.R_mono (Kd.R_far (p := ⟨gb231, 1, none⟩) (Kd.R_far (p := ⟨gb231, 0, none⟩) (Kd.R_types HO230.out BK231.out (by decide)) (fun _ hk => hk.2) (.int .i64 (wrap64 (a0_0 + 1)))) (fun _ hk => hk.2) (.slice Ao43 y228.length co43)) (fun _ hk => hk.1)⟩
        have n1_ : Aside0 (((w42.setCell ⟨gb231, 0, none⟩ (.int .i64 (wrap64 (a0_0 + 1)))).setCell ⟨gb231, 1, none⟩ (.slice Ao43 y228.length co43)).heap[gb220]? = some (.cells #[.int .i64 a0_0, .slice (some ad223) l0_1.length c0_1] 29 (0, 0))) := ⟨by (with_reducible repeat first | apply bN | apply bD | apply bA); refine bR ?_ NB220_231.out _; (with_reducible repeat first | apply bN | apply bD | apply bA); refine bR ?_ NB220_231.out _; (with_reducible repeat first | apply bN | apply bD | apply bA); exact BK220.out⟩
        have n2_ : Aside0 (((w42.setCell ⟨gb231, 0, none⟩ (.int .i64 (wrap64 (a0_0 + 1)))).setCell ⟨gb231, 1, none⟩ (.slice Ao43 y228.length co43)).heap[gb221]? = some (.cells #[.int .i64 0, .slice none 0 0] 29 (0, 0))) := ⟨by (with_reducible repeat first | apply bN | apply bD | apply bA); refine bR ?_ NB221_231.out _; (with_reducible repeat first | apply bN | apply bD | apply bA); refine bR ?_ NB221_231.out _; (with_reducible repeat first | apply bN | apply bD | apply bA); exact BK221.out⟩
        have n3_ : Aside0 (((w42.setCell ⟨gb231, 0, none⟩ (.int .i64 (wrap64 (a0_0 + 1)))).setCell ⟨gb231, 1, none⟩ (.slice Ao43 y228.length co43)).heap[gb222]? = some (.cells #[.int .i64 0, .int .i64 0] 39 (0, 0))) := ⟨by (with_reducible repeat first | apply bN | apply bD | apply bA); refine bR ?_ NB222_231.out _; (with_reducible repeat first | apply bN | apply bD | apply bA); refine bR ?_ NB222_231.out _; (with_reducible repeat first | apply bN | apply bD | apply bA); exact BK222.out⟩
        have n4_ : Aside0 (((w42.setCell ⟨gb231, 0, none⟩ (.int .i64 (wrap64 (a0_0 + 1)))).setCell ⟨gb231, 1, none⟩ (.slice Ao43 y228.length co43)).heap[gb231]? = some (.cells #[.int .i64 (wrap64 (a0_0 + 1)), .slice Ao43 y228.length co43] 29 (0, 0))) := ⟨by (with_reducible repeat first | apply bN | apply bD | apply bA); refine bP (cs := #[.int .i64 (wrap64 (a0_0 + 1)), .slice none 0 0]) ?_ 1 _ rfl; (with_reducible repeat first | apply bN | apply bD | apply bA); refine bP (cs := #[.int .i64 0, .slice none 0 0]) ?_ 0 _ rfl; (with_reducible repeat first | apply bN | apply bD | apply bA); exact BK231.out⟩
        have n5_ : Aside0 (Below w.heap.size w ((w42.setCell ⟨gb231, 0, none⟩ (.int .i64 (wrap64 (a0_0 + 1)))).setCell ⟨gb231, 1, none⟩ (.slice Ao43 y228.length co43))) := ⟨by repeat (first | (with_reducible first | exact HB.out | apply pA | apply pN | apply pD | refine bS ?_ GE220.out | refine bS ?_ GE221.out | refine bS ?_ GE222.out | refine bS ?_ GE231.out) | exact HB.out)⟩
        (try clear HO230)
        (try clear BK220)
        (try clear BK221)
        (try clear BK222)
        (try clear BK231)
        (try clear HB)
        generalize ((w42.setCell ⟨gb231, 0, none⟩ (.int .i64 (wrap64 (a0_0 + 1)))).setCell ⟨gb231, 1, none⟩ (.slice Ao43 y228.length co43)) = w46 at n0_ n1_ n2_ n3_ n4_ n5_ ⊢
        have HO230 := n0_
        have BK220 := n1_
        have BK221 := n2_
        have BK222 := n3_
        have BK231 := n4_
        have HB := n5_
        clear n0_ n1_ n2_ n3_ n4_ n5_
        have hnb47 := NB231_220.out
        have hnc47 := NB220_231.out
        have hnb48 := NB231_221.out
        have hnc48 := NB221_231.out
        have hnb49 := NB231_222.out
        have hnc49 := NB222_231.out
        have hcz50_0 : w46.cell? ⟨gb231, 0, none⟩ = some (.int .i64 (wrap64 (a0_0 + 1))) := (bC BK231.out 0).trans rfl
        have hcz50_1 : w46.cell? ⟨gb231, 1, none⟩ = some (.slice Ao43 y228.length co43) := (bC BK231.out 1).trans rfl
        have hfz50_0 := bF BK231.out 0
        have hfz50_1 := bF BK231.out 1
        have p30 : 0 ≤ (a1 : Int) := of_decide_eq_true (by first | (with_reducible assumption) | assumption)
        have q30 : (a1 : Int) < ((y228.length : Int) : Int) := of_decide_eq_true (by first | (with_reducible assumption) | assumption)
        obtain ⟨go30, co30, eo30, gb30, gl30, cl30, HG30⟩ := Kd.R_form HO230.out (by omega)
        (first | cases eo30 | (injection eo30 with ea_ en_ ec_; (first | subst ea_ | (injection ea_ with ea_; subst ea_)); subst ec_; clear en_))
        have GB30 := A0k gb30
        have GG30 := A0k HG30
        clear gb30 gl30 HG30
        obtain ⟨ce30, hcl30, hM30, hcc30, hfr30⟩ := Kd.R_elem HO230.out z39 (a1 : Int) p30 q30
        obtain rfl := k39_openM hM30
        have hx30_0 : w46.cell? ⟨go30, (a1 : Int).toNat * 2, none⟩ = some (.int .i64 ((d0_ y228 a1).f0)) := hcc30 0 _ rfl
        have hx30_1 : w46.cell? ⟨go30, (a1 : Int).toNat * 2 + 1, none⟩ = some (.int .i64 ((d0_ y228 a1).f1)) := hcc30 1 _ rfl
        have hf30_0 : w46.frozen? ⟨go30, (a1 : Int).toNat * 2, none⟩ = false := hfr30 0
        have hf30_1 : w46.frozen? ⟨go30, (a1 : Int).toNat * 2 + 1, none⟩ = false := hfr30 1
        clear hcl30 hcc30 hfr30 hM30
        replace p30 := eq_true p30
        replace q30 := eq_true q30
        have HX51 := A0k (show Kd.R k39 39 w46 w.heap.size (fun k_ => k_ ≠ gb222) (.slice (some ⟨go30, 0, none⟩) y228.length co43) y228 from (by (with_reducible repeat first | apply rA | apply rN | apply rD); exact HO230.out))
        obtain ⟨ce51, hcl51, hM51, hcc51, hfr51⟩ := Kd.R_elem HX51.out z39 (a1 : Int) (of_decide_eq_true (by first | (with_reducible assumption) | assumption)) (by have h_ : (a1 : Int) < ((y228.length : Int) : Int) := of_decide_eq_true (by first | (with_reducible assumption) | assumption); first | exact h_ | (have e_ := (Kd.R_reads' HO230.out).1; omega) | simpa using h_)
        obtain rfl := k39_openM hM51
        have HP51 := Kd.R_seg HX51.out (a1 : Int) (of_decide_eq_true (by first | (with_reducible assumption) | assumption)) (by have h_ : (a1 : Int) < ((y228.length : Int) : Int) := of_decide_eq_true (by first | (with_reducible assumption) | assumption); first | exact h_ | (have e_ := (Kd.R_reads' HO230.out).1; omega) | simpa using h_) (seg := [.int .i64 a2]) (j := 0) hcl51 hcc51 (show 1 ≤ 2 from by decide) (x' := (⟨a2, (d0_ y228 a1).f1⟩ : S39)) (k39_mkM _ _ _ (⟨a2, (d0_ y228 a1).f1⟩ : S39) ) (fun _ hk => hk)
        have hx51_0 := hcc51 0 _ rfl
        (try simp only [show (k39).sz = 2 from rfl, Nat.mul_one, Nat.add_zero] at hx51_0)
        have hf51_0 := hfr51 0
        (try simp only [show (k39).sz = 2 from rfl, Nat.mul_one, Nat.add_zero] at hf51_0)
        clear hcl51 hcc51 hfr51 hM51
        try go_wp2_with (first | ((with_reducible refine gate_store (t := 3) (p := 46) rfl ?_); refine store_event (t := 3) (p := 46) (v := ?vo_w52) (w1 := (w46.setCell ⟨go30, (a1 : Int).toNat * 2, none⟩ (.int .i64 a2))) ?hg ?ho ?hn ?hr ?_; (case ho => rfl); (case hg => rfl); (case hn => rfl); (case hr => first | (go_simp; done) | (go_simp; rfl)); intro w52 hw; have hg : w46.grownBy w52 (some go30) := (by rw [hw]; exact HP51.2); have hp_ : Kd.R k39 39 w52 w.heap.size (fun k_ => k_ ≠ gb222) (.slice (some ⟨go30, 0, none⟩) y228.length co43) y232 := (by rw [hw, Ny232.out]; exact HP51.1); clear HP51; have n0_ := A0k (blk_grown (g := gb220) (o := .cells #[.int .i64 a0_0, .slice (some ad223) l0_1.length c0_1] 29 (0, 0)) (by (with_reducible repeat first | apply bN | apply bD | apply bA); exact BK220.out) hg (Kd.R_ne HO230.out BK220.out (by decide))); have n1_ := A0k (blk_grown (g := gb221) (o := .cells #[.int .i64 0, .slice none 0 0] 29 (0, 0)) (by (with_reducible repeat first | apply bN | apply bD | apply bA); exact BK221.out) hg (Kd.R_ne HO230.out BK221.out (by decide))); have n2_ := A0k (blk_grown (g := gb222) (o := .cells #[.int .i64 0, .int .i64 0] 39 (0, 0)) (by (with_reducible repeat first | apply bN | apply bD | apply bA); exact BK222.out) hg (Kd.R_away HO230.out (fun _ hk => hk))); have n3_ := A0k (hp_); have n4_ := A0k (blk_grown (g := gb231) (o := .cells #[.int .i64 (wrap64 (a0_0 + 1)), .slice (some ⟨go30, 0, none⟩) y228.length co43] 29 (0, 0)) (by (with_reducible repeat first | apply bN | apply bD | apply bA); exact BK231.out) hg (Kd.R_ne HO230.out BK231.out (by decide))); have n5_ := A0k ((by rw [hw]; exact bS (HB.out) GB30.out : Below w.heap.size w w52)); clear BK220 BK221 BK222 HO230 BK231 HB; have BK220 := n0_; have BK221 := n1_; have BK222 := n2_; have HO230 := n3_; have BK231 := n4_; have HB := n5_; clear n0_ n1_ n2_ n3_ n4_ n5_ hg hw hp_))
        have n0_ := A0k (Kd.R_drew HO230.out)
        have n1_ := A0k (bD BK220.out)
        have n2_ := A0k (bD BK221.out)
        have n3_ := A0k (bD BK222.out)
        have n4_ := A0k (bD BK231.out)
        have n5_ := A0k (pD HB.out)
        clear HO230
        clear BK220
        clear BK221
        clear BK222
        clear BK231
        clear HB
        have HO230 := n0_
        have BK220 := n1_
        have BK221 := n2_
        have BK222 := n3_
        have BK231 := n4_
        have HB := n5_
        clear n0_ n1_ n2_ n3_ n4_ n5_
        have p233 : 0 ≤ (a1 : Int) := of_decide_eq_true (by first | (with_reducible assumption) | assumption)
        have q233 : a1 < (l0_1.length : Int) := of_decide_eq_true (by first | (with_reducible assumption) | assumption)
        obtain ⟨ad233, e233, hx233_0, hx233_1⟩ := at_T39 HR0_1.out a1 p233 q233
        have hw233_1 := hx233_1
        have hw233_0 := hx233_0
        obtain rfl : ad223 = ad233 := (by injection e233)
        replace hx233_0 := (HB.out.cell (World.block_lt_of_cell? w _ hx233_0)).trans hx233_0
        replace hx233_1 := (HB.out.cell (World.block_lt_of_cell? w _ hx233_1)).trans hx233_1
        replace p233 := eq_true p233
        replace q233 := eq_true q233
        refine start_ (n := 9) (S := fun w' => w'.cell? ⟨gb231, 0, none⟩ = some (.int .i64 (wrap64 (a0_0 + 1))) ∧ w'.cell? ⟨gb231, 1, none⟩ = some (.slice (some ⟨go30, 0, none⟩) y228.length co43) ∧ w'.cell? ⟨gb220, 0, none⟩ = some (.int .i64 a0_0) ∧ w'.cell? ⟨gb220, 1, none⟩ = some (.slice (some ad223) l0_1.length c0_1) ∧ w'.cell? (ad223.add ((a1).toNat * 2)) = some (.int .i64 ((d0_ l0_1 a1).f0)) ∧ w'.cell? ⟨(ad223.add ((a1).toNat * 2)).block, (ad223.add ((a1).toNat * 2)).off + 1, none⟩ = some (.int .i64 ((d0_ l0_1 a1).f1))) (ds := []) #[F, F, F, F, F, F, F, F, F] (by kernel_rfl) rfl rfl ⟨(bC BK231.out 0).trans rfl, (bC BK231.out 1).trans rfl, (bC BK220.out 0).trans rfl, (bC BK220.out 1).trans rfl, ((HB.out.cell (World.block_lt_of_cell? w _ hw233_0)).trans hw233_0), ((HB.out.cell (World.block_lt_of_cell? w _ hw233_1)).trans hw233_1)⟩ (fun hHeld => ?_); refine with_tabW posthorseref08_Move.tab5 posthorseref08_Move.bits5 (fun HT_ HW_ => ?_)
        generalize w52.drew = w53 at HO230 BK220 BK221 BK222 BK231 HB hx233_0 hx233_1 hHeld ⊢
        refine pure_ (i := 1) (N := some 48) (v := ?_) (a' := ?_) #[F, T, F, F, F, F, F, F, F] rfl rfl (any_of HT_.out (by kernel_rfl)) (fun _ _ _ h => h) (Or.inl ⟨by rfl, ?_⟩) ?_ ?_
        rotate_left
        ·intro w'
         go_simp
         with_reducible rfl
        rotate_left
        ·simp only [Act.put, lS, lZ, lC, i64_w, i32_w]
         rfl
        refine pure_ (i := 3) (N := some 50) (v := ?_) (a' := ?_) #[F, T, F, T, F, F, F, F, F] rfl rfl (any_of HT_.out (by kernel_rfl)) (fun _ _ _ h => h) (Or.inl ⟨by rfl, ?_⟩) ?_ ?_
        rotate_left
        ·intro w'
         go_simp
         with_reducible rfl
        rotate_left
        ·simp only [Act.put, lS, lZ, lC, i64_w, i32_w]
         rfl
        refine take_ (i := 0) (N := some 47) (v := ?_) (a' := ?_) #[T, T, F, T, F, F, F, F, F] rfl rfl (take_ofW HT_.out HW_.out (by kernel_rfl)) (fun _ _ _ h => h) (Or.inl ⟨by rfl, ?_⟩) hHeld ?_ ?_
        rotate_left; (· rintro w' ⟨s0, s1, s2, s3, s4, s5⟩; go_simp; with_reducible rfl); rotate_left; (· simp only [Act.put, lS, lZ, lC, i64_w, i32_w]; rfl)
        refine take_ (i := 2) (N := some 49) (v := ?_) (a' := ?_) #[T, T, T, T, F, F, F, F, F] rfl rfl (take_ofW HT_.out HW_.out (by kernel_rfl)) (fun _ _ _ h => h) (Or.inl ⟨by rfl, ?_⟩) hHeld ?_ ?_
        rotate_left; (· rintro w' ⟨s0, s1, s2, s3, s4, s5⟩; go_simp; with_reducible rfl); rotate_left; (· simp only [Act.put, lS, lZ, lC, i64_w, i32_w]; rfl)
        refine pure_ (i := 4) (N := some 51) (v := ?_) (a' := ?_) #[T, T, T, T, T, F, F, F, F] rfl rfl (any_of HT_.out (by kernel_rfl)) (fun _ _ _ h => h) (Or.inl ⟨by rfl, ?_⟩) ?_ ?_
        rotate_left
        ·intro w'
         go_simp
         with_reducible rfl
        rotate_left
        ·simp only [Act.put, lS, lZ, lC, i64_w, i32_w]
         rfl
        refine take_ (i := 5) (N := some 52) (v := ?_) (a' := ?_) #[T, T, T, T, T, T, F, F, F] rfl rfl (take_ofW HT_.out HW_.out (by kernel_rfl)) (fun _ _ _ h => h) (Or.inl ⟨by rfl, ?_⟩) hHeld ?_ ?_
        rotate_left; (· rintro w' ⟨s0, s1, s2, s3, s4, s5⟩; go_simp; with_reducible rfl); rotate_left; (· simp only [Act.put, lS, lZ, lC, i64_w, i32_w]; rfl)
        refine one_ (i := 6) (N := none) #[T, T, T, T, T, T, T, F, F] rfl rfl (one_of HT_.out (by kernel_rfl)) (by decide) (fun K hK => ?_)
        have hs54 : w53.cell? ⟨gb221, 0, none⟩ = some (.int .i64 0) := (bC BK221.out 0).trans rfl
        have hfs54 := bF BK221.out 0
        have hns54_0 := NB220_221.out
        have hns54_2 := NB222_221.out
        have hns54_3 := NB231_221.out
        have hms54_0 := NB221_220.out
        have hms54_2 := NB221_222.out
        have hms54_3 := NB221_231.out
        have hs55 : w53.cell? ⟨gb221, 1, none⟩ = some (.slice none 0 0) := (bC BK221.out 1).trans rfl
        have hfs55 := bF BK221.out 1
        have hns55_0 := NB220_221.out
        have hns55_2 := NB222_221.out
        have hns55_3 := NB231_221.out
        have hms55_0 := NB221_220.out
        have hms55_2 := NB221_222.out
        have hms55_3 := NB221_231.out
        refine skip_ (w1 := ?_) (by rfl) rfl ?_ ?_
        rotate_left
        ·go_simp
         rfl
        refine hK.out _ _ ⟨((cF (p := ⟨gb221, _, none⟩) NB231_221.out _).trans (((cF (p := ⟨gb221, _, none⟩) NB231_221.out _).trans (hHeld.1)))), ((cF (p := ⟨gb221, _, none⟩) NB231_221.out _).trans (((cF (p := ⟨gb221, _, none⟩) NB231_221.out _).trans (hHeld.2.1)))), ((cF (p := ⟨gb221, _, none⟩) NB220_221.out _).trans (((cF (p := ⟨gb221, _, none⟩) NB220_221.out _).trans (hHeld.2.2.1)))), ((cF (p := ⟨gb221, _, none⟩) NB220_221.out _).trans (((cF (p := ⟨gb221, _, none⟩) NB220_221.out _).trans (hHeld.2.2.2.1)))), ((cF (p := ⟨gb221, _, none⟩) (by first | exact Nat.ne_of_lt (Nat.lt_of_lt_of_le (by have := World.block_lt_of_cell? _ _ hw233_0; first | rwa [add_block] at this | exact this) GW221.out) | (rw [add_block]; exact Nat.ne_of_lt (Nat.lt_of_lt_of_le (by have := World.block_lt_of_cell? _ _ hw233_0; first | rwa [add_block] at this | exact this) GW221.out)) | (show (Addr.add _ _).block ≠ _; rw [add_block]; exact Nat.ne_of_lt (Nat.lt_of_lt_of_le (by have := World.block_lt_of_cell? _ _ hw233_0; first | rwa [add_block] at this | exact this) GW221.out)) | (dsimp only; exact Nat.ne_of_lt (Nat.lt_of_lt_of_le (by have := World.block_lt_of_cell? _ _ hw233_0; first | rwa [add_block] at this | exact this) GW221.out))) _).trans (((cF (p := ⟨gb221, _, none⟩) (by first | exact Nat.ne_of_lt (Nat.lt_of_lt_of_le (by have := World.block_lt_of_cell? _ _ hw233_0; first | rwa [add_block] at this | exact this) GW221.out) | (rw [add_block]; exact Nat.ne_of_lt (Nat.lt_of_lt_of_le (by have := World.block_lt_of_cell? _ _ hw233_0; first | rwa [add_block] at this | exact this) GW221.out)) | (show (Addr.add _ _).block ≠ _; rw [add_block]; exact Nat.ne_of_lt (Nat.lt_of_lt_of_le (by have := World.block_lt_of_cell? _ _ hw233_0; first | rwa [add_block] at this | exact this) GW221.out)) | (dsimp only; exact Nat.ne_of_lt (Nat.lt_of_lt_of_le (by have := World.block_lt_of_cell? _ _ hw233_0; first | rwa [add_block] at this | exact this) GW221.out))) _).trans (hHeld.2.2.2.2.1)))), ((cF (p := ⟨gb221, _, none⟩) (by first | exact Nat.ne_of_lt (Nat.lt_of_lt_of_le (by have := World.block_lt_of_cell? _ _ hw233_1; first | rwa [add_block] at this | exact this) GW221.out) | (rw [add_block]; exact Nat.ne_of_lt (Nat.lt_of_lt_of_le (by have := World.block_lt_of_cell? _ _ hw233_1; first | rwa [add_block] at this | exact this) GW221.out)) | (show (Addr.add _ _).block ≠ _; rw [add_block]; exact Nat.ne_of_lt (Nat.lt_of_lt_of_le (by have := World.block_lt_of_cell? _ _ hw233_1; first | rwa [add_block] at this | exact this) GW221.out)) | (dsimp only; exact Nat.ne_of_lt (Nat.lt_of_lt_of_le (by have := World.block_lt_of_cell? _ _ hw233_1; first | rwa [add_block] at this | exact this) GW221.out))) _).trans (((cF (p := ⟨gb221, _, none⟩) (by first | exact Nat.ne_of_lt (Nat.lt_of_lt_of_le (by have := World.block_lt_of_cell? _ _ hw233_1; first | rwa [add_block] at this | exact this) GW221.out) | (rw [add_block]; exact Nat.ne_of_lt (Nat.lt_of_lt_of_le (by have := World.block_lt_of_cell? _ _ hw233_1; first | rwa [add_block] at this | exact this) GW221.out)) | (show (Addr.add _ _).block ≠ _; rw [add_block]; exact Nat.ne_of_lt (Nat.lt_of_lt_of_le (by have := World.block_lt_of_cell? _ _ hw233_1; first | rwa [add_block] at this | exact this) GW221.out)) | (dsimp only; exact Nat.ne_of_lt (Nat.lt_of_lt_of_le (by have := World.block_lt_of_cell? _ _ hw233_1; first | rwa [add_block] at this | exact this) GW221.out))) _).trans (hHeld.2.2.2.2.2))))⟩ (fun hHeld => ?_)
        clear hK K
        refine one_ (i := 7) (N := none) #[T, T, T, T, T, T, T, T, F] rfl rfl (one_of HT_.out (by kernel_rfl)) (by decide) (fun K hK => ?_)
        have hs56 : w53.cell? ⟨gb222, 0, none⟩ = some (.int .i64 0) := (bC BK222.out 0).trans rfl
        have hfs56 := bF BK222.out 0
        have hns56_0 := NB220_222.out
        have hns56_1 := NB221_222.out
        have hns56_3 := NB231_222.out
        have hms56_0 := NB222_220.out
        have hms56_1 := NB222_221.out
        have hms56_3 := NB222_231.out
        have hs57 : w53.cell? ⟨gb222, 1, none⟩ = some (.int .i64 0) := (bC BK222.out 1).trans rfl
        have hfs57 := bF BK222.out 1
        have hns57_0 := NB220_222.out
        have hns57_1 := NB221_222.out
        have hns57_3 := NB231_222.out
        have hms57_0 := NB222_220.out
        have hms57_1 := NB222_221.out
        have hms57_3 := NB222_231.out
        refine skip_ (w1 := ?_) (by rfl) rfl ?_ ?_
        rotate_left
        ·go_simp
         rfl
        refine hK.out _ _ ⟨((cF (p := ⟨gb222, _, none⟩) NB231_222.out _).trans (((cF (p := ⟨gb222, _, none⟩) NB231_222.out _).trans (hHeld.1)))), ((cF (p := ⟨gb222, _, none⟩) NB231_222.out _).trans (((cF (p := ⟨gb222, _, none⟩) NB231_222.out _).trans (hHeld.2.1)))), ((cF (p := ⟨gb222, _, none⟩) NB220_222.out _).trans (((cF (p := ⟨gb222, _, none⟩) NB220_222.out _).trans (hHeld.2.2.1)))), ((cF (p := ⟨gb222, _, none⟩) NB220_222.out _).trans (((cF (p := ⟨gb222, _, none⟩) NB220_222.out _).trans (hHeld.2.2.2.1)))), ((cF (p := ⟨gb222, _, none⟩) (by first | exact Nat.ne_of_lt (Nat.lt_of_lt_of_le (by have := World.block_lt_of_cell? _ _ hw233_0; first | rwa [add_block] at this | exact this) GW222.out) | (rw [add_block]; exact Nat.ne_of_lt (Nat.lt_of_lt_of_le (by have := World.block_lt_of_cell? _ _ hw233_0; first | rwa [add_block] at this | exact this) GW222.out)) | (show (Addr.add _ _).block ≠ _; rw [add_block]; exact Nat.ne_of_lt (Nat.lt_of_lt_of_le (by have := World.block_lt_of_cell? _ _ hw233_0; first | rwa [add_block] at this | exact this) GW222.out)) | (dsimp only; exact Nat.ne_of_lt (Nat.lt_of_lt_of_le (by have := World.block_lt_of_cell? _ _ hw233_0; first | rwa [add_block] at this | exact this) GW222.out))) _).trans (((cF (p := ⟨gb222, _, none⟩) (by first | exact Nat.ne_of_lt (Nat.lt_of_lt_of_le (by have := World.block_lt_of_cell? _ _ hw233_0; first | rwa [add_block] at this | exact this) GW222.out) | (rw [add_block]; exact Nat.ne_of_lt (Nat.lt_of_lt_of_le (by have := World.block_lt_of_cell? _ _ hw233_0; first | rwa [add_block] at this | exact this) GW222.out)) | (show (Addr.add _ _).block ≠ _; rw [add_block]; exact Nat.ne_of_lt (Nat.lt_of_lt_of_le (by have := World.block_lt_of_cell? _ _ hw233_0; first | rwa [add_block] at this | exact this) GW222.out)) | (dsimp only; exact Nat.ne_of_lt (Nat.lt_of_lt_of_le (by have := World.block_lt_of_cell? _ _ hw233_0; first | rwa [add_block] at this | exact this) GW222.out))) _).trans (hHeld.2.2.2.2.1)))), ((cF (p := ⟨gb222, _, none⟩) (by first | exact Nat.ne_of_lt (Nat.lt_of_lt_of_le (by have := World.block_lt_of_cell? _ _ hw233_1; first | rwa [add_block] at this | exact this) GW222.out) | (rw [add_block]; exact Nat.ne_of_lt (Nat.lt_of_lt_of_le (by have := World.block_lt_of_cell? _ _ hw233_1; first | rwa [add_block] at this | exact this) GW222.out)) | (show (Addr.add _ _).block ≠ _; rw [add_block]; exact Nat.ne_of_lt (Nat.lt_of_lt_of_le (by have := World.block_lt_of_cell? _ _ hw233_1; first | rwa [add_block] at this | exact this) GW222.out)) | (dsimp only; exact Nat.ne_of_lt (Nat.lt_of_lt_of_le (by have := World.block_lt_of_cell? _ _ hw233_1; first | rwa [add_block] at this | exact this) GW222.out))) _).trans (((cF (p := ⟨gb222, _, none⟩) (by first | exact Nat.ne_of_lt (Nat.lt_of_lt_of_le (by have := World.block_lt_of_cell? _ _ hw233_1; first | rwa [add_block] at this | exact this) GW222.out) | (rw [add_block]; exact Nat.ne_of_lt (Nat.lt_of_lt_of_le (by have := World.block_lt_of_cell? _ _ hw233_1; first | rwa [add_block] at this | exact this) GW222.out)) | (show (Addr.add _ _).block ≠ _; rw [add_block]; exact Nat.ne_of_lt (Nat.lt_of_lt_of_le (by have := World.block_lt_of_cell? _ _ hw233_1; first | rwa [add_block] at this | exact this) GW222.out)) | (dsimp only; exact Nat.ne_of_lt (Nat.lt_of_lt_of_le (by have := World.block_lt_of_cell? _ _ hw233_1; first | rwa [add_block] at this | exact this) GW222.out))) _).trans (hHeld.2.2.2.2.2))))⟩ (fun hHeld => ?_)
        clear hK K
        refine pure_ (i := 8) (N := some 8) (v := ?_) (a' := ?_) #[T, T, T, T, T, T, T, T, T] rfl rfl (any_of HT_.out (by kernel_rfl)) (fun _ _ _ h => h) (Or.inl ⟨by rfl, ?_⟩) ?_ ?_
        rotate_left
        ·intro w'
         go_simp
         with_reducible rfl
        rotate_left
        ·simp only [Act.put, lS, lZ, lC, i64_w, i32_w]
         rfl
        refine done_ (done_of HT_.out (by kernel_rfl)) ?_
        try go_wp2
        refine bodyPost_ret (results_list (rs := [.cell 6 29, .cell 7 39, .tmp 8]) rfl (by simp) (.cell gb221 29 #[.int .i64 (wrap64 (a0_0 + 1)), .slice (some ⟨go30, 0, none⟩) y228.length co43] (0, 0) _ rfl (by (with_reducible repeat first | apply bN | apply bD | apply bA); refine bR ?_ NB221_222.out _; (with_reducible repeat first | apply bN | apply bD | apply bA); refine bR ?_ NB221_222.out _; (with_reducible repeat first | apply bN | apply bD | apply bA); refine bP (cs := #[.int .i64 (wrap64 (a0_0 + 1)), .slice none 0 0]) ?_ 1 _ rfl; (with_reducible repeat first | apply bN | apply bD | apply bA); refine bP (cs := #[.int .i64 0, .slice none 0 0]) ?_ 0 _ rfl; (with_reducible repeat first | apply bN | apply bD | apply bA); exact BK221.out) Tryd.underlying29 rfl (by kernel_rfl) (.cell gb222 39 #[.int .i64 ((d0_ l0_1 a1).f0), .int .i64 ((d0_ l0_1 a1).f1)] (0, 0) _ rfl (by (with_reducible repeat first | apply bN | apply bD | apply bA); refine bP (cs := #[.int .i64 ((d0_ l0_1 a1).f0), .int .i64 0]) ?_ 1 _ rfl; (with_reducible repeat first | apply bN | apply bD | apply bA); refine bP (cs := #[.int .i64 0, .int .i64 0]) ?_ 0 _ rfl; (with_reducible repeat first | apply bN | apply bD | apply bA); refine bR ?_ NB222_221.out _; (with_reducible repeat first | apply bN | apply bD | apply bA); refine bR ?_ NB222_221.out _; (with_reducible repeat first | apply bN | apply bD | apply bA); exact BK222.out) Tryd.underlying39 rfl (by kernel_rfl) (.tmp .nil)))) rfl ?_
        exact ⟨_, by first | rfl | (simp [errW_none, errW_some] <;> rfl) | (simp [*, errW_none, errW_some] <;> rfl), by (with_reducible repeat first | apply rA | apply rN | apply rD); exact Kd.R_mono (Kd.R_far (p := ⟨gb222, 1, none⟩) (Kd.R_far (p := ⟨gb222, 0, none⟩) (Kd.R_far (p := ⟨gb221, 1, none⟩) (Kd.R_far (p := ⟨gb221, 0, none⟩) (Kd.R_mono (Kd.R_types HO230.out BK221.out (by decide)) (fun k_ hk => (⟨hk, hk.1⟩ : _ ∧ k_ ≠ gb222))) (fun _ hk => hk.1.2) (.int .i64 (wrap64 (a0_0 + 1)))) (fun _ hk => hk.1.2) (.slice (some ⟨go30, 0, none⟩) y228.length co43)) (fun _ hk => hk.2) (.int .i64 ((d0_ l0_1 a1).f0))) (fun _ hk => hk.2) (.int .i64 ((d0_ l0_1 a1).f1))) (fun _ hk => trivial), by repeat (first | (with_reducible first | exact HB.out | apply pA | apply pN | apply pD | refine bS ?_ GE220.out | refine bS ?_ GE221.out | refine bS ?_ GE222.out | refine bS ?_ GE231.out) | exact HB.out)⟩
       ·rw [if_neg c29] at H
        exact absurd H (by simp)
      ·rw [if_neg c28] at H
       exact absurd H (by simp)
     ·replace c27 := Bool.eq_false_iff.mpr c27
      subst c27
      have H1 : (some (0, ([] : List (S39)), 0, 0, 1)) = some (r1, r2, r3, r4, r5) := by rw [if_neg (show ¬ (false = true) by decide)] at H; exact H
      clear H
      have H := H1
      clear H1
      simp only [Option.some.injEq, Prod.mk.injEq] at H
      obtain ⟨rfl, rfl, rfl, rfl, rfl⟩ := H
      go_enter Tryd.func10, Tryd.ntmps10
      try go_wp2_with (first | ((with_reducible refine gD (N := 3) rfl ?_); (try (refine gG (by rfl) ?_; dsimp only)); refine bE ?hg (N := 3) ?hd (cs := #[.int .i64 a0_0, .slice A0_1 l0_1.length c0_1]) (t := 29) ?hr ?_; (case hd => rfl); (case hg => rfl); (case hr => first | (go_simp; done) | (go_simp; rfl)); intro gb220 hg w58 hbox hb; have n0_ := A0k (pS (by repeat (first | (with_reducible first | exact HB.out | apply pA | apply pN | apply pD) | exact HB.out)) hb); have n1_ := A0k (hbox); have n2_ := A0k ((by rw [hg]; exact (pZ (by repeat (first | (with_reducible first | exact HB.out | apply pA | apply pN | apply pD) | exact HB.out))) : w.heap.size ≤ gb220)); have n3_ := A0k ((by rw [hg]; exact (pZ (by repeat (first | (with_reducible first | exact HB.out | apply pA | apply pN | apply pD) | exact HB.out))) : w.heap.size ≤ gb220)); clear HB; have HB := n0_; have BK220 := n1_; have GW220 := n2_; have GE220 := n3_; clear n0_ n1_ n2_ n3_ hb hbox hg) | ((with_reducible refine gD (N := 6) rfl ?_); (try (refine gG (by rfl) ?_; dsimp only)); refine bE ?hg (N := 6) ?hd (cs := #[.int .i64 0, .slice none 0 0]) (t := 29) ?hr ?_; (case hd => rfl); (case hg => rfl); (case hr => first | (go_simp; done) | (go_simp; rfl)); intro gb221 hg w59 hbox hb; have n0_ := A0k (bB (g := gb220) (o := .cells #[.int .i64 a0_0, .slice A0_1 l0_1.length c0_1] 29 (0, 0)) (by (with_reducible repeat first | apply bN | apply bD | apply bA); exact BK220.out) hb); have n1_ := A0k (pS (by repeat (first | (with_reducible first | exact HB.out | apply pA | apply pN | apply pD | refine bS ?_ GE220.out) | exact HB.out)) hb); have n2_ := A0k (hbox); have n3_ := A0k ((by rw [hg]; exact (pZ (by repeat (first | (with_reducible first | exact HB.out | apply pA | apply pN | apply pD | refine bS ?_ GE220.out) | exact HB.out))) : w.heap.size ≤ gb221)); have n4_ := A0k ((by rw [hg]; exact (pZ (by repeat (first | (with_reducible first | exact HB.out | apply pA | apply pN | apply pD | refine bS ?_ GE220.out) | exact HB.out))) : w.heap.size ≤ gb221)); have n5_ := A0k ((by rw [hg]; exact Nat.ne_of_lt (bL (g := gb220) (o := .cells #[.int .i64 a0_0, .slice A0_1 l0_1.length c0_1] 29 (0, 0)) (by (with_reducible repeat first | apply bN | apply bD | apply bA); exact BK220.out)) : gb220 ≠ gb221)); have n6_ := A0k ((by rw [hg]; exact Nat.ne_of_gt (bL (g := gb220) (o := .cells #[.int .i64 a0_0, .slice A0_1 l0_1.length c0_1] 29 (0, 0)) (by (with_reducible repeat first | apply bN | apply bD | apply bA); exact BK220.out)) : gb221 ≠ gb220)); clear BK220 HB; have BK220 := n0_; have HB := n1_; have BK221 := n2_; have GW221 := n3_; have GE221 := n4_; have NB220_221 := n5_; have NB221_220 := n6_; clear n0_ n1_ n2_ n3_ n4_ n5_ n6_ hb hbox hg) | ((with_reducible refine gD (N := 7) rfl ?_); (try (refine gG (by rfl) ?_; dsimp only)); refine bE ?hg (N := 7) ?hd (cs := #[.int .i64 0, .int .i64 0]) (t := 39) ?hr ?_; (case hd => rfl); (case hg => rfl); (case hr => first | (go_simp; done) | (go_simp; rfl)); intro gb222 hg w60 hbox hb; have n0_ := A0k (bB (g := gb220) (o := .cells #[.int .i64 a0_0, .slice A0_1 l0_1.length c0_1] 29 (0, 0)) (by (with_reducible repeat first | apply bN | apply bD | apply bA); exact BK220.out) hb); have n1_ := A0k (bB (g := gb221) (o := .cells #[.int .i64 0, .slice none 0 0] 29 (0, 0)) (by (with_reducible repeat first | apply bN | apply bD | apply bA); exact BK221.out) hb); have n2_ := A0k (pS (by repeat (first | (with_reducible first | exact HB.out | apply pA | apply pN | apply pD | refine bS ?_ GE220.out | refine bS ?_ GE221.out) | exact HB.out)) hb); have n3_ := A0k (hbox); have n4_ := A0k ((by rw [hg]; exact (pZ (by repeat (first | (with_reducible first | exact HB.out | apply pA | apply pN | apply pD | refine bS ?_ GE220.out | refine bS ?_ GE221.out) | exact HB.out))) : w.heap.size ≤ gb222)); have n5_ := A0k ((by rw [hg]; exact (pZ (by repeat (first | (with_reducible first | exact HB.out | apply pA | apply pN | apply pD | refine bS ?_ GE220.out | refine bS ?_ GE221.out) | exact HB.out))) : w.heap.size ≤ gb222)); have n6_ := A0k ((by rw [hg]; exact Nat.ne_of_lt (bL (g := gb220) (o := .cells #[.int .i64 a0_0, .slice A0_1 l0_1.length c0_1] 29 (0, 0)) (by (with_reducible repeat first | apply bN | apply bD | apply bA); exact BK220.out)) : gb220 ≠ gb222)); have n7_ := A0k ((by rw [hg]; exact Nat.ne_of_gt (bL (g := gb220) (o := .cells #[.int .i64 a0_0, .slice A0_1 l0_1.length c0_1] 29 (0, 0)) (by (with_reducible repeat first | apply bN | apply bD | apply bA); exact BK220.out)) : gb222 ≠ gb220)); have n8_ := A0k ((by rw [hg]; exact Nat.ne_of_lt (bL (g := gb221) (o := .cells #[.int .i64 0, .slice none 0 0] 29 (0, 0)) (by (with_reducible repeat first | apply bN | apply bD | apply bA); exact BK221.out)) : gb221 ≠ gb222)); have n9_ := A0k ((by rw [hg]; exact Nat.ne_of_gt (bL (g := gb221) (o := .cells #[.int .i64 0, .slice none 0 0] 29 (0, 0)) (by (with_reducible repeat first | apply bN | apply bD | apply bA); exact BK221.out)) : gb222 ≠ gb221)); clear BK220 BK221 HB; have BK220 := n0_; have BK221 := n1_; have HB := n2_; have BK222 := n3_; have GW222 := n4_; have GE222 := n5_; have NB220_222 := n6_; have NB222_220 := n7_; have NB221_222 := n8_; have NB222_221 := n9_; clear n0_ n1_ n2_ n3_ n4_ n5_ n6_ n7_ n8_ n9_ hb hbox hg))
      have n0_ := A0k (bD BK220.out)
      have n1_ := A0k (bD BK221.out)
      have n2_ := A0k (bD BK222.out)
      have n3_ := A0k (pD HB.out)
      clear BK220
      clear BK221
      clear BK222
      clear HB
      have BK220 := n0_
      have BK221 := n1_
      have BK222 := n2_
      have HB := n3_
      clear n0_ n1_ n2_ n3_
      have p223 : 0 ≤ (a1 : Int) := of_decide_eq_true (by first | (with_reducible assumption) | assumption)
      have q223 : a1 < (l0_1.length : Int) := of_decide_eq_true (by first | (with_reducible assumption) | assumption)
      obtain ⟨ad223, e223, hx223_0, hx223_1⟩ := at_T39 HR0_1.out a1 p223 q223
      have hw223_1 := hx223_1
      have hw223_0 := hx223_0
      cases e223
      replace hx223_0 := (HB.out.cell (World.block_lt_of_cell? w _ hx223_0)).trans hx223_0
      replace hx223_1 := (HB.out.cell (World.block_lt_of_cell? w _ hx223_1)).trans hx223_1
      replace p223 := eq_true p223
      replace q223 := eq_true q223
      refine start_ (n := 21) (S := fun w' => w'.cell? ⟨gb220, 0, none⟩ = some (.int .i64 a0_0) ∧ w'.cell? ⟨gb220, 1, none⟩ = some (.slice (some ad223) l0_1.length c0_1) ∧ w'.cell? (ad223.add ((a1).toNat * 2)) = some (.int .i64 ((d0_ l0_1 a1).f0)) ∧ w'.cell? ⟨(ad223.add ((a1).toNat * 2)).block, (ad223.add ((a1).toNat * 2)).off + 1, none⟩ = some (.int .i64 ((d0_ l0_1 a1).f1))) (ds := []) #[F, F, F, F, F, F, F, F, F, F, F, F, F, F, F, F, F, F, F, F, F] (by kernel_rfl) rfl rfl ⟨(bC BK220.out 0).trans rfl, (bC BK220.out 1).trans rfl, ((HB.out.cell (World.block_lt_of_cell? w _ hw223_0)).trans hw223_0), ((HB.out.cell (World.block_lt_of_cell? w _ hw223_1)).trans hw223_1)⟩ (fun hHeld => ?_); refine with_tabW posthorseref08_Move.tab1 posthorseref08_Move.bits1 (fun HT_ HW_ => ?_)
      generalize w60.drew = w61 at BK220 BK221 BK222 HB hx223_0 hx223_1 hHeld ⊢
      refine pure_ (i := 0) (N := some 10) (v := ?_) (a' := ?_) #[T, F, F, F, F, F, F, F, F, F, F, F, F, F, F, F, F, F, F, F, F] rfl rfl (any_of HT_.out (by kernel_rfl)) (fun _ _ _ h => h) (Or.inl ⟨by rfl, ?_⟩) ?_ ?_
      rotate_left
      ·intro w'
       go_simp
       with_reducible rfl
      rotate_left
      ·simp only [Act.put, lS, lZ, lC, i64_w, i32_w]
       rfl
      refine pure_ (i := 1) (N := some 11) (v := ?_) (a' := ?_) #[T, T, F, F, F, F, F, F, F, F, F, F, F, F, F, F, F, F, F, F, F] rfl rfl (any_of HT_.out (by kernel_rfl)) (fun _ _ _ h => h) (Or.inl ⟨by rfl, ?_⟩) ?_ ?_
      rotate_left
      ·intro w'
       go_simp
       with_reducible rfl
      rotate_left
      ·simp only [Act.put, lS, lZ, lC, i64_w, i32_w]
       rfl
      refine pure_ (i := 2) (N := some 12) (v := ?_) (a' := ?_) #[T, T, T, F, F, F, F, F, F, F, F, F, F, F, F, F, F, F, F, F, F] rfl rfl (any_of HT_.out (by kernel_rfl)) (fun _ _ _ h => h) (Or.inl ⟨by rfl, ?_⟩) ?_ ?_
      rotate_left
      ·intro w'
       go_simp
       with_reducible rfl
      rotate_left
      ·simp only [Act.put, lS, lZ, lC, i64_w, i32_w]
       rfl
      refine pure_ (i := 3) (N := some 13) (v := ?_) (a' := ?_) #[T, T, T, T, F, F, F, F, F, F, F, F, F, F, F, F, F, F, F, F, F] rfl rfl (any_of HT_.out (by kernel_rfl)) (fun _ _ _ h => h) (Or.inl ⟨by rfl, ?_⟩) ?_ ?_
      rotate_left
      ·intro w'
       go_simp
       with_reducible rfl
      rotate_left
      ·simp only [Act.put, lS, lZ, lC, i64_w, i32_w]
       rfl
      refine pure_ (i := 4) (N := some 14) (v := ?_) (a' := ?_) #[T, T, T, T, T, F, F, F, F, F, F, F, F, F, F, F, F, F, F, F, F] rfl rfl (any_of HT_.out (by kernel_rfl)) (fun _ _ _ h => h) (Or.inl ⟨by rfl, ?_⟩) ?_ ?_
      rotate_left
      ·intro w'
       go_simp
       with_reducible rfl
      rotate_left
      ·simp only [Act.put, lS, lZ, lC, i64_w, i32_w]
       rfl
      refine take_ (i := 5) (N := some 15) (v := ?_) (a' := ?_) #[T, T, T, T, T, T, F, F, F, F, F, F, F, F, F, F, F, F, F, F, F] rfl rfl (take_ofW HT_.out HW_.out (by kernel_rfl)) (fun _ _ _ h => h) (Or.inl ⟨by rfl, ?_⟩) hHeld ?_ ?_
      rotate_left; (· rintro w' ⟨s0, s1, s2, s3⟩; go_simp; with_reducible rfl); rotate_left; (· simp only [Act.put, lS, lZ, lC, i64_w, i32_w]; rfl)
      refine pure_ (i := 6) (N := some 16) (v := ?_) (a' := ?_) #[T, T, T, T, T, T, T, F, F, F, F, F, F, F, F, F, F, F, F, F, F] rfl rfl (any_of HT_.out (by kernel_rfl)) (fun _ _ _ h => h) (Or.inl ⟨by rfl, ?_⟩) ?_ ?_
      rotate_left
      ·intro w'
       go_simp
       with_reducible rfl
      rotate_left
      ·simp only [Act.put, lS, lZ, lC, i64_w, i32_w]
       rfl
      refine pure_ (i := 7) (N := some 17) (v := ?_) (a' := ?_) #[T, T, T, T, T, T, T, T, F, F, F, F, F, F, F, F, F, F, F, F, F] rfl rfl (any_of HT_.out (by kernel_rfl)) (fun _ _ _ h => h) (Or.inl ⟨by rfl, ?_⟩) ?_ ?_
      rotate_left
      ·intro w'
       go_simp
       with_reducible rfl
      rotate_left
      ·simp only [Act.put, lS, lZ, lC, i64_w, i32_w]
       rfl
      refine pure_ (i := 8) (N := some 18) (v := ?_) (a' := ?_) #[T, T, T, T, T, T, T, T, T, F, F, F, F, F, F, F, F, F, F, F, F] rfl rfl (any_of HT_.out (by kernel_rfl)) (fun _ _ _ h => h) (Or.inl ⟨by rfl, ?_⟩) ?_ ?_
      rotate_left
      ·intro w'
       go_simp
       with_reducible rfl
      rotate_left
      ·simp only [Act.put, lS, lZ, lC, i64_w, i32_w]
       rfl
      refine pure_ (i := 9) (N := some 19) (v := ?_) (a' := ?_) #[T, T, T, T, T, T, T, T, T, T, F, F, F, F, F, F, F, F, F, F, F] rfl rfl (any_of HT_.out (by kernel_rfl)) (fun _ _ _ h => h) (Or.inl ⟨by rfl, ?_⟩) ?_ ?_
      rotate_left
      ·intro w'
       go_simp
       with_reducible rfl
      rotate_left
      ·simp only [Act.put, lS, lZ, lC, i64_w, i32_w]
       rfl
      refine pure_ (i := 11) (N := some 21) (v := ?_) (a' := ?_) #[T, T, T, T, T, T, T, T, T, T, F, T, F, F, F, F, F, F, F, F, F] rfl rfl (any_of HT_.out (by kernel_rfl)) (fun _ _ _ h => h) (Or.inl ⟨by rfl, ?_⟩) ?_ ?_
      rotate_left
      ·intro w'
       go_simp
       with_reducible rfl
      rotate_left
      ·simp only [Act.put, lS, lZ, lC, i64_w, i32_w]
       rfl
      refine pure_ (i := 12) (N := some 22) (v := ?_) (a' := ?_) #[T, T, T, T, T, T, T, T, T, T, F, T, T, F, F, F, F, F, F, F, F] rfl rfl (any_of HT_.out (by kernel_rfl)) (fun _ _ _ h => h) (Or.inl ⟨by rfl, ?_⟩) ?_ ?_
      rotate_left
      ·intro w'
       go_simp
       with_reducible rfl
      rotate_left
      ·simp only [Act.put, lS, lZ, lC, i64_w, i32_w]
       rfl
      refine pure_ (i := 14) (N := some 24) (v := ?_) (a' := ?_) #[T, T, T, T, T, T, T, T, T, T, F, T, T, F, T, F, F, F, F, F, F] rfl rfl (any_of HT_.out (by kernel_rfl)) (fun _ _ _ h => h) (Or.inl ⟨by rfl, ?_⟩) ?_ ?_
      rotate_left
      ·intro w'
       go_simp
       with_reducible rfl
      rotate_left
      ·simp only [Act.put, lS, lZ, lC, i64_w, i32_w]
       rfl
      refine take_ (i := 10) (N := some 20) (v := ?_) (a' := ?_) #[T, T, T, T, T, T, T, T, T, T, T, T, T, F, T, F, F, F, F, F, F] rfl rfl (take_ofW HT_.out HW_.out (by kernel_rfl)) (fun _ _ _ h => h) (Or.inl ⟨by rfl, ?_⟩) hHeld ?_ ?_
      rotate_left; (· rintro w' ⟨s0, s1, s2, s3⟩; go_simp; with_reducible rfl); rotate_left; (· simp only [Act.put, lS, lZ, lC, i64_w, i32_w]; rfl)
      refine take_ (i := 13) (N := some 23) (v := ?_) (a' := ?_) #[T, T, T, T, T, T, T, T, T, T, T, T, T, T, T, F, F, F, F, F, F] rfl rfl (take_ofW HT_.out HW_.out (by kernel_rfl)) (fun _ _ _ h => h) (Or.inl ⟨by rfl, ?_⟩) hHeld ?_ ?_
      rotate_left; (· rintro w' ⟨s0, s1, s2, s3⟩; go_simp; with_reducible rfl); rotate_left; (· simp only [Act.put, lS, lZ, lC, i64_w, i32_w]; rfl)
      refine pure_ (i := 15) (N := some 25) (v := ?_) (a' := ?_) #[T, T, T, T, T, T, T, T, T, T, T, T, T, T, T, T, F, F, F, F, F] rfl rfl (any_of HT_.out (by kernel_rfl)) (fun _ _ _ h => h) (Or.inl ⟨by rfl, ?_⟩) ?_ ?_
      rotate_left
      ·intro w'
       go_simp
       with_reducible rfl
      rotate_left
      ·simp only [Act.put, lS, lZ, lC, i64_w, i32_w]
       rfl
      refine pure_ (i := 16) (N := some 26) (v := ?_) (a' := ?_) #[T, T, T, T, T, T, T, T, T, T, T, T, T, T, T, T, T, F, F, F, F] rfl rfl (any_of HT_.out (by kernel_rfl)) (fun _ _ _ h => h) (Or.inl ⟨by rfl, ?_⟩) ?_ ?_
      rotate_left
      ·intro w'
       go_simp
       with_reducible rfl
      rotate_left
      ·simp only [Act.put, lS, lZ, lC, i64_w, i32_w]
       rfl
      refine take_ (i := 17) (N := some 27) (v := ?_) (a' := ?_) #[T, T, T, T, T, T, T, T, T, T, T, T, T, T, T, T, T, T, F, F, F] rfl rfl (take_ofW HT_.out HW_.out (by kernel_rfl)) (fun _ _ _ h => h) (Or.inl ⟨by rfl, ?_⟩) hHeld ?_ ?_
      rotate_left; (· rintro w' ⟨s0, s1, s2, s3⟩; go_simp; with_reducible rfl); rotate_left; (· simp only [Act.put, lS, lZ, lC, i64_w, i32_w]; rfl)
      refine one_ (i := 18) (N := some 28) #[T, T, T, T, T, T, T, T, T, T, T, T, T, T, T, T, T, T, T, F, F] rfl rfl (one_of HT_.out (by kernel_rfl)) (by decide) (fun K hK => ?_)
      refine goes_ Tryd.func34 (by kernel_rfl) rfl #[.agg #[.int .i64 a0_0, .slice (some ad223) l0_1.length c0_1], .int .i64 a2, .int .i64 ((d0_ l0_1 a1).f1)] (by rfl) rfl rfl (by (try simp only [List.map_toArray, List.map_cons, List.map_nil]); first | done | rfl | (simp only [List.length_drop, List.length_take]; rfl)) ?_
      with_reducible refine (posthorseref08_free.calls k a0_0 _ _ l0_1 a2 ((d0_ l0_1 a1).f1) false _ ?side1 ?side2 A26.out).mono ?_
      (case side1 => repeat (first | exact (Kd.C_below HR0_1.out HB.out) | (with_reducible refine Kd.C_alloc ?_ _) | (with_reducible refine Kd.C_drewN ?_ _) | (with_reducible refine Kd.C_drew ?_)))
      (case side2 => exact HC0_1.out)
      rintro e w62 ⟨rfl, hb⟩
      refine ⟨_, rfl, ?_⟩
      have n0_ := A0k (bB (g := gb220) (o := .cells #[.int .i64 a0_0, .slice (some ad223) l0_1.length c0_1] 29 (0, 0)) (by (with_reducible repeat first | apply bN | apply bD | apply bA); exact BK220.out) hb)
      have n1_ := A0k (bB (g := gb221) (o := .cells #[.int .i64 0, .slice none 0 0] 29 (0, 0)) (by (with_reducible repeat first | apply bN | apply bD | apply bA); exact BK221.out) hb)
      have n2_ := A0k (bB (g := gb222) (o := .cells #[.int .i64 0, .int .i64 0] 39 (0, 0)) (by (with_reducible repeat first | apply bN | apply bD | apply bA); exact BK222.out) hb)
      have n3_ := A0k (pS (by repeat (first | (with_reducible first | exact HB.out | apply pA | apply pN | apply pD | refine bS ?_ GE220.out | refine bS ?_ GE221.out | refine bS ?_ GE222.out) | exact HB.out)) hb)
      clear BK220
      clear BK221
      clear BK222
      clear HB
      have BK220 := n0_
      have BK221 := n1_
      have BK222 := n2_
      have HB := n3_
      clear n0_ n1_ n2_ n3_
      (try clear hb)
      (try clear hb2)
      (try clear hk)
      (try clear hi)
      refine hK.out _ _ ⟨(bC BK220.out 0).trans rfl, (bC BK220.out 1).trans rfl, ((HB.out.cell (World.block_lt_of_cell? w _ hw223_0)).trans hw223_0), ((HB.out.cell (World.block_lt_of_cell? w _ hw223_1)).trans hw223_1)⟩ (fun hHeld => ?_)
      clear hK K
      refine norm_ (a' := ?_) ?_ ?_
      rotate_left
      ·show Act.put _ (some 28) _ = _
       simp only [Act.put, lS, lZ, lC, i64_w, i32_w]
       rfl
      refine pure_ (i := 19) (N := some 29) (v := ?_) (a' := ?_) #[T, T, T, T, T, T, T, T, T, T, T, T, T, T, T, T, T, T, T, T, F] rfl rfl (any_of HT_.out (by kernel_rfl)) (fun _ _ _ h => h) (Or.inl ⟨by rfl, ?_⟩) ?_ ?_
      rotate_left
      ·intro w'
       go_simp
       with_reducible rfl
      rotate_left
      ·simp only [Act.put, lS, lZ, lC, i64_w, i32_w]
       rfl
      refine pure_ (i := 20) (N := some 30) (v := ?_) (a' := ?_) #[T, T, T, T, T, T, T, T, T, T, T, T, T, T, T, T, T, T, T, T, T] rfl rfl (any_of HT_.out (by kernel_rfl)) (fun _ _ _ h => h) (Or.inl ⟨by rfl, ?_⟩) ?_ ?_
      rotate_left
      ·intro w'
       go_simp
       with_reducible rfl
      rotate_left
      ·simp only [Act.put, lS, lZ, lC, i64_w, i32_w]
       rfl
      refine done_ (done_of HT_.out (by kernel_rfl)) ?_
      have hnb63 := NB221_220.out
      have hnc63 := NB220_221.out
      have hnb64 := NB221_222.out
      have hnc64 := NB222_221.out
      have hcz65_0 : w62.cell? ⟨gb221, 0, none⟩ = some (.int .i64 0) := (bC BK221.out 0).trans rfl
      have hcz65_1 : w62.cell? ⟨gb221, 1, none⟩ = some (.slice none 0 0) := (bC BK221.out 1).trans rfl
      have hfz65_0 := bF BK221.out 0
      have hfz65_1 := bF BK221.out 1
      have hnb66 := NB222_220.out
      have hnc66 := NB220_222.out
      have hcz67_0 : w62.cell? ⟨gb222, 0, none⟩ = some (.int .i64 0) := (bC BK222.out 0).trans rfl
      have hcz67_1 : w62.cell? ⟨gb222, 1, none⟩ = some (.int .i64 0) := (bC BK222.out 1).trans rfl
      have hfz67_0 := bF BK222.out 0
      have hfz67_1 := bF BK222.out 1
      try go_wp2
      refine bodyPost_ret (results_list (rs := [.cell 6 29, .cell 7 39, .tmp 8]) rfl (by simp) (.cell gb221 29 #[.int .i64 0, .slice none 0 0] (0, 0) _ rfl (by (with_reducible repeat first | apply bN | apply bD | apply bA); refine bR ?_ NB221_222.out _; (with_reducible repeat first | apply bN | apply bD | apply bA); refine bR ?_ NB221_222.out _; (with_reducible repeat first | apply bN | apply bD | apply bA); refine bP (cs := #[.int .i64 0, .slice none 0 0]) ?_ 1 _ rfl; (with_reducible repeat first | apply bN | apply bD | apply bA); refine bP (cs := #[.int .i64 0, .slice none 0 0]) ?_ 0 _ rfl; (with_reducible repeat first | apply bN | apply bD | apply bA); exact BK221.out) Tryd.underlying29 rfl (by kernel_rfl) (.cell gb222 39 #[.int .i64 0, .int .i64 0] (0, 0) _ rfl (by (with_reducible repeat first | apply bN | apply bD | apply bA); refine bP (cs := #[.int .i64 0, .int .i64 0]) ?_ 1 _ rfl; (with_reducible repeat first | apply bN | apply bD | apply bA); refine bP (cs := #[.int .i64 0, .int .i64 0]) ?_ 0 _ rfl; (with_reducible repeat first | apply bN | apply bD | apply bA); refine bR ?_ NB222_221.out _; (with_reducible repeat first | apply bN | apply bD | apply bA); refine bR ?_ NB222_221.out _; (with_reducible repeat first | apply bN | apply bD | apply bA); exact BK222.out) Tryd.underlying39 rfl (by kernel_rfl) (.tmp .nil)))) rfl ?_
      exact ⟨_, by first | rfl | (simp [errW_none, errW_some] <;> rfl) | (simp [*, errW_none, errW_some] <;> rfl), by first | exact Kd.R_nil _ _ _ _ _ | exact Kd.N_nil _ _ _ _ _ | exact Kd.V_nil _ _ _ _ _ | exact Kd.Q_nil _ _ _ _ _ | exact Kd.S_nil _ _ _ _ _, by repeat (first | (with_reducible first | exact HB.out | apply pA | apply pN | apply pD | refine bS ?_ GE220.out | refine bS ?_ GE221.out | refine bS ?_ GE222.out) | exact HB.out)⟩
    ·rw [if_neg c25] at H
     exact absurd H (by simp)
   ·rw [if_neg c24] at H
    exact absurd H (by simp)

end Go.Proofs.YtmncfcebjohloaaDoor.VInodePlays
