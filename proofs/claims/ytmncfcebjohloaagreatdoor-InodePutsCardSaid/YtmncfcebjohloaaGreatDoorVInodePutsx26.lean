/- Contracts of functions of this seat: each call comes to what its Lean function computes; no condition beyond what each theorem states. Printed by a program of this session's own laid over the kit's printer. -/
import Derived.Test.YtmncfcebjohloaaGreatDoorVInodePutsx0
import Derived.Test.YtmncfcebjohloaaGreatDoorVInodePutsx14
import Derived.Test.YtmncfcebjohloaaGreatDoorVInodePutsx16
import Derived.Test.YtmncfcebjohloaaGreatDoorVInodePutsx18
namespace Go.Proofs.YtmncfcebjohloaaGreatDoor.VInodePuts
open Go.RowKit Go.Proofs.YtmncfcebjohloaaGreatDoorW.PrintWords Go.Proofs.YtmncfcebjohloaaGreatDoorW.PrintLast Go.Proofs.YtmncfcebjohloaaGreatDoorW.PrintMore
attribute [local go_sem] max2_int min2_int max_two min_two max_three min_three max_four min_four   -- for this text's walks alone
open List renaming setIfInBounds_toArray → lS, set_cons_zero → lZ, set_cons_succ → lC
open Bool renaming true → T, false → F
open Go.Proofs.YtmncfcebjohloaaGreatDoorW.PrintWords renaming pw_below_drewN → pN, below_drew1 → pD, below_alloc → pA, below_step → pS
open Go.Proofs.YtmncfcebjohloaaGreatDoorW.PrintWords.Aside0 renaming mk → A0k
set_option linter.unusedVariables false
set_option linter.unusedSimpArgs false

/-! ### mark_Open: function 28 -/
def mark_Open.j0 : Nat → ByteArray → Bool → Option (ByteArray × Option Int)
 | 0, _, _ => none
 | k + 1, x1, x24 => if x24 = true then (some ((⟨#[]⟩ : ByteArray), some 4)) else (if 508 ≤ (x1.size : Int) then (if 0 ≤ 508 then ((mark_sumOf.f k (x1.extract 0 508)).bind fun t213 => (if (x1.extract 508 x1.size).toList = t213.toList then (if 4 ≤ 508 then (some (x1.extract 4 508, none)) else (none)) else (some ((⟨#[]⟩ : ByteArray), some 5)))) else (none)) else (none))
def mark_Open.f (k : Nat) (a0 : Int) (a1 : ByteArray) : Option (ByteArray × Option Int) := if (a1.size : Int) = 512 then (if a0 < 1 then (mark_Open.j0 k a1 true) else (if a0 > 255 then (mark_Open.j0 k a1 true) else (if 0 ≤ 4 then (if 4 ≤ (a1.size : Int) then ((mark_head.f k a0).bind fun t212 => (mark_Open.j0 k a1 ((a1.extract 0 4).toList != t212.toList))) else (none)) else (none)))) else (mark_Open.j0 k a1 true)
set_option maxRecDepth 100000 in
theorem mark_Open.mono_l : ∀ k, (∀ y0 y1, LeO (mark_Open.j0 k y0 y1) (mark_Open.j0 (k + 1) y0 y1))
 | 0 => fun _ _ r h => by first | (rw [mark_Open.j0] at h; cases h) | simp [mark_Open.j0] at h
 | k + 1 => by
  have ih0 := mark_Open.mono_l k
  ·intro y0 y1
   unfold mark_Open.j0
   repeat' first
   | (with_reducible exact ih0 _ _)
   | (with_reducible exact mark_head.mono _ _)
   | (with_reducible exact mark_sumOf.mono _ _)
   | (with_reducible exact LeO.refl _)
   | (with_reducible exact LeO.none _)
   | (with_reducible refine LeO.ite ?_ ?_)
   | (with_reducible refine LeO.bind ?_ (fun _ => ?_))
   | exact ih0 _ _
   | exact mark_head.mono _ _
   | exact mark_sumOf.mono _ _
   | exact LeO.none _
   | refine LeO.ite ?_ ?_
   | refine LeO.bind ?_ (fun _ => ?_)
theorem mark_Open.mono : ∀ a0 a1 k, LeO (mark_Open.f k a0 a1) (mark_Open.f (k + 1) a0 a1) := by
 intro a0 a1 k
 have ih0 := mark_Open.mono_l k
 unfold mark_Open.f
 repeat' first
   | (with_reducible exact ih0 _ _)
   | (with_reducible exact mark_head.mono _ _)
   | (with_reducible exact mark_sumOf.mono _ _)
   | (with_reducible exact LeO.refl _)
   | (with_reducible exact LeO.none _)
   | (with_reducible refine LeO.ite ?_ ?_)
   | (with_reducible refine LeO.bind ?_ (fun _ => ?_))
   | exact ih0 _ _
   | exact mark_head.mono _ _
   | exact mark_sumOf.mono _ _
   | exact LeO.none _
   | refine LeO.ite ?_ ?_
   | refine LeO.bind ?_ (fun _ => ?_)
def mark_Open.T1 : Bool × List (List Nat × List Nat) := (true, [([], []), ([0], [0]), ([1], [1]), ([2], [2]), ([3], [3]), ([4, 3], [3, 4]), ([3, 5], [3, 5]), ([6, 3], [6]), ([7], [7]), ([8, 7], [7, 8]), ([7, 9], [7, 9]), ([10, 7], [10]), ([11], [11]), ([12, 11], [11, 12]), ([11], [11]), ([14, 11, 11], [11, 14]), ([13, 15, 11], [11, 13, 15]), ([11, 16], [11, 16])])
def mark_Open.B1 : List Nat := [0, 1, 3, 7, 15, 31, 63, 127, 255, 511, 1023, 2047, 4095, 8191, 4095, 20479, 65535, 131071]
theorem mark_Open.tab1 : rtab .any (opsOf Tryz.f28 1) = mark_Open.T1 := by kernel_rfl
theorem mark_Open.bits1 : waitsOk mark_Open.T1.2 mark_Open.B1 = true := by kernel_rfl
def mark_Open.T4 : Bool × List (List Nat × List Nat) := (true, [([], []), ([], []), ([0, 1], [0, 1]), ([], []), ([], []), ([3, 4], [3, 4]), ([5], [5]), ([2, 6], [2, 6])])
def mark_Open.B4 : List Nat := [0, 0, 3, 0, 0, 24, 56, 127]
theorem mark_Open.tab4 : rtab .any (opsOf Tryz.f28 4) = mark_Open.T4 := by kernel_rfl
theorem mark_Open.bits4 : waitsOk mark_Open.T4.2 mark_Open.B4 = true := by kernel_rfl
open mark_Open renaming j0 → Wj0
set_option maxHeartbeats 8000000 in
set_option maxRecDepth 100000 in
theorem mark_Open.calls (k : Nat) (a0 : Int) (a1 : ByteArray) (r1 : ByteArray) (r2 : Option Int) (w : World) (hL_ : Laid w) (h : mark_Open.f k a0 a1 = some (r1, r2)) :
  Calls Tryz.prog 28 #[.int .i64 a0, .string a1] w fun e w' => e = .returned (.tuple #[.string r1, errW r2]) ∧ Below w.heap.size w w' := by
 have HL_ := A0k hL_
 clear hL_
 have hu33 := Tryz.underlying33
 have hu57 := Tryz.underlying57
 have HB := A0k (Below.refl w.heap.size w)
 have H : (if (a1.size : Int) = 512 then (if a0 < 1 then (Wj0 k a1 true) else (if a0 > 255 then (Wj0 k a1 true) else (if 0 ≤ 4 then (if 4 ≤ (a1.size : Int) then ((mark_head.f k a0).bind fun t212 => (Wj0 k a1 ((a1.extract 0 4).toList != t212.toList))) else (none)) else (none)))) else (Wj0 k a1 true)) = some (r1, r2) := h
 clear h
 have HC3 := A0k H
 clear H
 go_enter Tryz.func28, Tryz.ntmps28
 go_upto_region 1 with (fail)
 go_cut [24] (fun v24 wc => ∃ (kq : Nat) (x24_2 : Bool), v24 = .bool x24_2 ∧ Aside0 (Wj0 kq a1 x24_2 = some (r1, r2)) ∧ Aside0 (kq ≤ k) ∧ Aside0 (Below w.heap.size w wc))
 case first =>
  have H := HC3.out
  clear HC3
  by_cases c4 : (a1.size : Int) = 512
  ·rw [if_pos c4] at H
   have c4b0 : ((a1.size : Int) == 512) = true := beq_iff_eq.mpr c4
   have c4b1 : ((a1.size : Int) != 512) = false := bne_eq_false_iff_eq.mpr c4
   clear c4
   (first | rw [c4b0] | (simp only [i64_w, i32_w]; rw [c4b0]) | skip)
   by_cases c5 : a0 < 1
   ·rw [if_pos c5] at H
    have c5b0 : decide (a0 < 1) = true := decide_eq_true c5
    clear c5
    have H' := A0k H
    clear H
    try go_wp2
    have n0_ := A0k (pD HB.out)
    clear HB
    have HB := n0_
    clear n0_
    refine start_ (n := 18) (S := fun w' => True) (ds := []) #[F, F, F, F, F, F, F, F, F, F, F, F, F, F, F, F, F, F] (by kernel_rfl) rfl rfl trivial (fun hHeld => ?_); refine with_tabW mark_Open.tab1 mark_Open.bits1 (fun HT_ HW_ => ?_)
    generalize w.drew = w6 at HB hHeld ⊢
    refine pure_ (i := 0) (N := some 7) (v := ?_) (a' := ?_) #[T, F, F, F, F, F, F, F, F, F, F, F, F, F, F, F, F, F] rfl rfl (any_of HT_.out (by kernel_rfl)) (fun _ _ _ h => h) (Or.inl ⟨by rfl, ?_⟩) ?_ ?_
    rotate_left
    ·intro w'
     go_simp
     with_reducible rfl
    rotate_left
    ·simp only [Act.put, lS, lZ, lC, i64_w, i32_w]
     rfl
    refine pure_ (i := 1) (N := some 8) (v := ?_) (a' := ?_) #[T, T, F, F, F, F, F, F, F, F, F, F, F, F, F, F, F, F] rfl rfl (any_of HT_.out (by kernel_rfl)) (fun _ _ _ h => h) (Or.inl ⟨by rfl, ?_⟩) ?_ ?_
    rotate_left
    ·intro w'
     go_simp
     with_reducible rfl
    rotate_left
    ·simp only [Act.put, lS, lZ, lC, i64_w, i32_w]
     rfl
    refine pure_ (i := 2) (N := some 9) (v := ?_) (a' := ?_) #[T, T, T, F, F, F, F, F, F, F, F, F, F, F, F, F, F, F] rfl rfl (any_of HT_.out (by kernel_rfl)) (fun _ _ _ h => h) (Or.inl ⟨by rfl, ?_⟩) ?_ ?_
    rotate_left
    ·intro w'
     go_simp
     with_reducible rfl
    rotate_left
    ·simp only [Act.put, lS, lZ, lC, i64_w, i32_w]
     rfl
    refine pure_ (i := 3) (N := some 10) (v := ?_) (a' := ?_) #[T, T, T, T, F, F, F, F, F, F, F, F, F, F, F, F, F, F] rfl rfl (any_of HT_.out (by kernel_rfl)) (fun _ _ _ h => h) (Or.inl ⟨by rfl, ?_⟩) ?_ ?_
    rotate_left
    ·intro w'
     go_simp
     with_reducible rfl
    rotate_left
    ·simp only [Act.put, lS, lZ, lC, i64_w, i32_w]
     rfl
    refine pure_ (i := 4) (N := some 11) (v := ?_) (a' := ?_) #[T, T, T, T, T, F, F, F, F, F, F, F, F, F, F, F, F, F] rfl rfl (any_of HT_.out (by kernel_rfl)) (fun _ _ _ h => h) (Or.inl ⟨by rfl, ?_⟩) ?_ ?_
    rotate_left
    ·intro w'
     go_simp
     with_reducible rfl
    rotate_left
    ·simp only [Act.put, lS, lZ, lC, i64_w, i32_w]
     rfl
    refine pure_ (i := 5) (N := some 12) (v := ?_) (a' := ?_) #[T, T, T, T, T, T, F, F, F, F, F, F, F, F, F, F, F, F] rfl rfl (any_of HT_.out (by kernel_rfl)) (fun _ _ _ h => h) (Or.inl ⟨by rfl, ?_⟩) ?_ ?_
    rotate_left
    ·intro w'
     go_simp
     with_reducible rfl
    rotate_left
    ·simp only [Act.put, lS, lZ, lC, i64_w, i32_w]
     rfl
    refine pure_ (i := 6) (N := some 13) (v := ?_) (a' := ?_) #[T, T, T, T, T, T, T, F, F, F, F, F, F, F, F, F, F, F] rfl rfl (any_of HT_.out (by kernel_rfl)) (fun _ _ _ h => h) (Or.inl ⟨by rfl, ?_⟩) ?_ ?_
    rotate_left
    ·intro w'
     go_simp
     with_reducible rfl
    rotate_left
    ·simp only [Act.put, lS, lZ, lC, i64_w, i32_w]
     rfl
    refine pure_ (i := 7) (N := some 14) (v := ?_) (a' := ?_) #[T, T, T, T, T, T, T, T, F, F, F, F, F, F, F, F, F, F] rfl rfl (any_of HT_.out (by kernel_rfl)) (fun _ _ _ h => h) (Or.inl ⟨by rfl, ?_⟩) ?_ ?_
    rotate_left
    ·intro w'
     go_simp
     with_reducible rfl
    rotate_left
    ·simp only [Act.put, lS, lZ, lC, i64_w, i32_w]
     rfl
    refine pure_ (i := 8) (N := some 15) (v := undef) (a' := ?_) #[T, T, T, T, T, T, T, T, T, F, F, F, F, F, F, F, F, F] rfl rfl (any_of HT_.out (by kernel_rfl)) (fun _ _ _ h => h) (Or.inr ⟨by rfl, rfl⟩) ?_ ?_
    rotate_left
    ·simp only [Act.put, lS, lZ, lC, i64_w, i32_w]
     rfl
    refine pure_ (i := 9) (N := some 16) (v := undef) (a' := ?_) #[T, T, T, T, T, T, T, T, T, T, F, F, F, F, F, F, F, F] rfl rfl (any_of HT_.out (by kernel_rfl)) (fun _ _ _ h => h) (Or.inr ⟨by rfl, rfl⟩) ?_ ?_
    rotate_left
    ·simp only [Act.put, lS, lZ, lC, i64_w, i32_w]
     rfl
    refine pure_ (i := 10) (N := some 17) (v := ?_) (a' := ?_) #[T, T, T, T, T, T, T, T, T, T, T, F, F, F, F, F, F, F] rfl rfl (any_of HT_.out (by kernel_rfl)) (fun _ _ _ h => h) (Or.inl ⟨by rfl, ?_⟩) ?_ ?_
    rotate_left
    ·intro w'
     go_simp
     with_reducible rfl
    rotate_left
    ·simp only [Act.put, lS, lZ, lC, i64_w, i32_w]
     rfl
    refine pure_ (i := 11) (N := some 18) (v := ?_) (a' := ?_) #[T, T, T, T, T, T, T, T, T, T, T, T, F, F, F, F, F, F] rfl rfl (any_of HT_.out (by kernel_rfl)) (fun _ _ _ h => h) (Or.inl ⟨by rfl, ?_⟩) ?_ ?_
    rotate_left
    ·intro w'
     go_simp
     with_reducible rfl
    rotate_left
    ·simp only [Act.put, lS, lZ, lC, i64_w, i32_w]
     rfl
    refine pure_ (i := 12) (N := some 19) (v := undef) (a' := ?_) #[T, T, T, T, T, T, T, T, T, T, T, T, T, F, F, F, F, F] rfl rfl (any_of HT_.out (by kernel_rfl)) (fun _ _ _ h => h) (Or.inr ⟨by rfl, rfl⟩) ?_ ?_
    rotate_left
    ·simp only [Act.put, lS, lZ, lC, i64_w, i32_w]
     rfl
    refine pure_ (i := 13) (N := some 20) (v := undef) (a' := ?_) #[T, T, T, T, T, T, T, T, T, T, T, T, T, T, F, F, F, F] rfl rfl (any_of HT_.out (by kernel_rfl)) (fun _ _ _ h => h) (Or.inr ⟨by rfl, rfl⟩) ?_ ?_
    rotate_left
    ·simp only [Act.put, lS, lZ, lC, i64_w, i32_w]
     rfl
    refine pure_ (i := 14) (N := some 21) (v := undef) (a' := ?_) #[T, T, T, T, T, T, T, T, T, T, T, T, T, T, T, F, F, F] rfl rfl (any_of HT_.out (by kernel_rfl)) (fun _ _ _ h => h) (Or.inr ⟨by rfl, rfl⟩) ?_ ?_
    rotate_left
    ·simp only [Act.put, lS, lZ, lC, i64_w, i32_w]
     rfl
    refine pure_ (i := 15) (N := some 22) (v := undef) (a' := ?_) #[T, T, T, T, T, T, T, T, T, T, T, T, T, T, T, T, F, F] rfl rfl (any_of HT_.out (by kernel_rfl)) (fun _ _ _ h => h) (Or.inr ⟨by rfl, rfl⟩) ?_ ?_
    rotate_left
    ·simp only [Act.put, lS, lZ, lC, i64_w, i32_w]
     rfl
    refine pure_ (i := 16) (N := some 23) (v := undef) (a' := ?_) #[T, T, T, T, T, T, T, T, T, T, T, T, T, T, T, T, T, F] rfl rfl (any_of HT_.out (by kernel_rfl)) (fun _ _ _ h => h) (Or.inr ⟨by rfl, rfl⟩) ?_ ?_
    rotate_left
    ·simp only [Act.put, lS, lZ, lC, i64_w, i32_w]
     rfl
    refine pure_ (i := 17) (N := some 24) (v := ?_) (a' := ?_) #[T, T, T, T, T, T, T, T, T, T, T, T, T, T, T, T, T, T] rfl rfl (any_of HT_.out (by kernel_rfl)) (fun _ _ _ h => h) (Or.inl ⟨by rfl, ?_⟩) ?_ ?_
    rotate_left
    ·intro w'
     go_simp
     with_reducible rfl
    rotate_left
    ·simp only [Act.put, lS, lZ, lC, i64_w, i32_w]
     rfl
    refine done_ (done_of HT_.out (by kernel_rfl)) ?_
    try go_wp2
    go_meet
    case rel => exact ⟨_, (true), (by first | rfl | (simp; done) | (simp [*]; done)), H', ⟨by first | omega | exact Nat.le_refl _⟩, ⟨by repeat (first | (with_reducible first | exact HB.out | apply pA | apply pN | apply pD) | exact HB.out)⟩⟩
   ·rw [if_neg c5] at H
    have c5b0 : decide (a0 < 1) = false := decide_eq_false c5
    clear c5
    by_cases c7 : a0 > 255
    ·rw [if_pos c7] at H
     have c7b0 : decide (255 < a0) = true := decide_eq_true c7
     clear c7
     have H' := A0k H
     clear H
     try go_wp2
     have n0_ := A0k (pD HB.out)
     clear HB
     have HB := n0_
     clear n0_
     refine start_ (n := 18) (S := fun w' => True) (ds := []) #[F, F, F, F, F, F, F, F, F, F, F, F, F, F, F, F, F, F] (by kernel_rfl) rfl rfl trivial (fun hHeld => ?_); refine with_tabW mark_Open.tab1 mark_Open.bits1 (fun HT_ HW_ => ?_)
     generalize w.drew = w8 at HB hHeld ⊢
     refine pure_ (i := 0) (N := some 7) (v := ?_) (a' := ?_) #[T, F, F, F, F, F, F, F, F, F, F, F, F, F, F, F, F, F] rfl rfl (any_of HT_.out (by kernel_rfl)) (fun _ _ _ h => h) (Or.inl ⟨by rfl, ?_⟩) ?_ ?_
     rotate_left
     ·intro w'
      go_simp
      with_reducible rfl
     rotate_left
     ·simp only [Act.put, lS, lZ, lC, i64_w, i32_w]
      rfl
     refine pure_ (i := 1) (N := some 8) (v := ?_) (a' := ?_) #[T, T, F, F, F, F, F, F, F, F, F, F, F, F, F, F, F, F] rfl rfl (any_of HT_.out (by kernel_rfl)) (fun _ _ _ h => h) (Or.inl ⟨by rfl, ?_⟩) ?_ ?_
     rotate_left
     ·intro w'
      go_simp
      with_reducible rfl
     rotate_left
     ·simp only [Act.put, lS, lZ, lC, i64_w, i32_w]
      rfl
     refine pure_ (i := 2) (N := some 9) (v := ?_) (a' := ?_) #[T, T, T, F, F, F, F, F, F, F, F, F, F, F, F, F, F, F] rfl rfl (any_of HT_.out (by kernel_rfl)) (fun _ _ _ h => h) (Or.inl ⟨by rfl, ?_⟩) ?_ ?_
     rotate_left
     ·intro w'
      go_simp
      with_reducible rfl
     rotate_left
     ·simp only [Act.put, lS, lZ, lC, i64_w, i32_w]
      rfl
     refine pure_ (i := 3) (N := some 10) (v := ?_) (a' := ?_) #[T, T, T, T, F, F, F, F, F, F, F, F, F, F, F, F, F, F] rfl rfl (any_of HT_.out (by kernel_rfl)) (fun _ _ _ h => h) (Or.inl ⟨by rfl, ?_⟩) ?_ ?_
     rotate_left
     ·intro w'
      go_simp
      with_reducible rfl
     rotate_left
     ·simp only [Act.put, lS, lZ, lC, i64_w, i32_w]
      rfl
     refine pure_ (i := 4) (N := some 11) (v := ?_) (a' := ?_) #[T, T, T, T, T, F, F, F, F, F, F, F, F, F, F, F, F, F] rfl rfl (any_of HT_.out (by kernel_rfl)) (fun _ _ _ h => h) (Or.inl ⟨by rfl, ?_⟩) ?_ ?_
     rotate_left
     ·intro w'
      go_simp
      with_reducible rfl
     rotate_left
     ·simp only [Act.put, lS, lZ, lC, i64_w, i32_w]
      rfl
     refine pure_ (i := 5) (N := some 12) (v := ?_) (a' := ?_) #[T, T, T, T, T, T, F, F, F, F, F, F, F, F, F, F, F, F] rfl rfl (any_of HT_.out (by kernel_rfl)) (fun _ _ _ h => h) (Or.inl ⟨by rfl, ?_⟩) ?_ ?_
     rotate_left
     ·intro w'
      go_simp
      with_reducible rfl
     rotate_left
     ·simp only [Act.put, lS, lZ, lC, i64_w, i32_w]
      rfl
     refine pure_ (i := 6) (N := some 13) (v := ?_) (a' := ?_) #[T, T, T, T, T, T, T, F, F, F, F, F, F, F, F, F, F, F] rfl rfl (any_of HT_.out (by kernel_rfl)) (fun _ _ _ h => h) (Or.inl ⟨by rfl, ?_⟩) ?_ ?_
     rotate_left
     ·intro w'
      go_simp
      with_reducible rfl
     rotate_left
     ·simp only [Act.put, lS, lZ, lC, i64_w, i32_w]
      rfl
     refine pure_ (i := 7) (N := some 14) (v := ?_) (a' := ?_) #[T, T, T, T, T, T, T, T, F, F, F, F, F, F, F, F, F, F] rfl rfl (any_of HT_.out (by kernel_rfl)) (fun _ _ _ h => h) (Or.inl ⟨by rfl, ?_⟩) ?_ ?_
     rotate_left
     ·intro w'
      go_simp
      with_reducible rfl
     rotate_left
     ·simp only [Act.put, lS, lZ, lC, i64_w, i32_w]
      rfl
     refine pure_ (i := 8) (N := some 15) (v := ?_) (a' := ?_) #[T, T, T, T, T, T, T, T, T, F, F, F, F, F, F, F, F, F] rfl rfl (any_of HT_.out (by kernel_rfl)) (fun _ _ _ h => h) (Or.inl ⟨by rfl, ?_⟩) ?_ ?_
     rotate_left
     ·intro w'
      go_simp
      with_reducible rfl
     rotate_left
     ·simp only [Act.put, lS, lZ, lC, i64_w, i32_w]
      rfl
     refine pure_ (i := 9) (N := some 16) (v := ?_) (a' := ?_) #[T, T, T, T, T, T, T, T, T, T, F, F, F, F, F, F, F, F] rfl rfl (any_of HT_.out (by kernel_rfl)) (fun _ _ _ h => h) (Or.inl ⟨by rfl, ?_⟩) ?_ ?_
     rotate_left
     ·intro w'
      go_simp
      with_reducible rfl
     rotate_left
     ·simp only [Act.put, lS, lZ, lC, i64_w, i32_w]
      rfl
     refine pure_ (i := 10) (N := some 17) (v := ?_) (a' := ?_) #[T, T, T, T, T, T, T, T, T, T, T, F, F, F, F, F, F, F] rfl rfl (any_of HT_.out (by kernel_rfl)) (fun _ _ _ h => h) (Or.inl ⟨by rfl, ?_⟩) ?_ ?_
     rotate_left
     ·intro w'
      go_simp
      with_reducible rfl
     rotate_left
     ·simp only [Act.put, lS, lZ, lC, i64_w, i32_w]
      rfl
     refine pure_ (i := 11) (N := some 18) (v := ?_) (a' := ?_) #[T, T, T, T, T, T, T, T, T, T, T, T, F, F, F, F, F, F] rfl rfl (any_of HT_.out (by kernel_rfl)) (fun _ _ _ h => h) (Or.inl ⟨by rfl, ?_⟩) ?_ ?_
     rotate_left
     ·intro w'
      go_simp
      with_reducible rfl
     rotate_left
     ·simp only [Act.put, lS, lZ, lC, i64_w, i32_w]
      rfl
     refine pure_ (i := 12) (N := some 19) (v := undef) (a' := ?_) #[T, T, T, T, T, T, T, T, T, T, T, T, T, F, F, F, F, F] rfl rfl (any_of HT_.out (by kernel_rfl)) (fun _ _ _ h => h) (Or.inr ⟨by rfl, rfl⟩) ?_ ?_
     rotate_left
     ·simp only [Act.put, lS, lZ, lC, i64_w, i32_w]
      rfl
     refine pure_ (i := 13) (N := some 20) (v := undef) (a' := ?_) #[T, T, T, T, T, T, T, T, T, T, T, T, T, T, F, F, F, F] rfl rfl (any_of HT_.out (by kernel_rfl)) (fun _ _ _ h => h) (Or.inr ⟨by rfl, rfl⟩) ?_ ?_
     rotate_left
     ·simp only [Act.put, lS, lZ, lC, i64_w, i32_w]
      rfl
     refine pure_ (i := 14) (N := some 21) (v := undef) (a' := ?_) #[T, T, T, T, T, T, T, T, T, T, T, T, T, T, T, F, F, F] rfl rfl (any_of HT_.out (by kernel_rfl)) (fun _ _ _ h => h) (Or.inr ⟨by rfl, rfl⟩) ?_ ?_
     rotate_left
     ·simp only [Act.put, lS, lZ, lC, i64_w, i32_w]
      rfl
     refine pure_ (i := 15) (N := some 22) (v := undef) (a' := ?_) #[T, T, T, T, T, T, T, T, T, T, T, T, T, T, T, T, F, F] rfl rfl (any_of HT_.out (by kernel_rfl)) (fun _ _ _ h => h) (Or.inr ⟨by rfl, rfl⟩) ?_ ?_
     rotate_left
     ·simp only [Act.put, lS, lZ, lC, i64_w, i32_w]
      rfl
     refine pure_ (i := 16) (N := some 23) (v := undef) (a' := ?_) #[T, T, T, T, T, T, T, T, T, T, T, T, T, T, T, T, T, F] rfl rfl (any_of HT_.out (by kernel_rfl)) (fun _ _ _ h => h) (Or.inr ⟨by rfl, rfl⟩) ?_ ?_
     rotate_left
     ·simp only [Act.put, lS, lZ, lC, i64_w, i32_w]
      rfl
     refine pure_ (i := 17) (N := some 24) (v := ?_) (a' := ?_) #[T, T, T, T, T, T, T, T, T, T, T, T, T, T, T, T, T, T] rfl rfl (any_of HT_.out (by kernel_rfl)) (fun _ _ _ h => h) (Or.inl ⟨by rfl, ?_⟩) ?_ ?_
     rotate_left
     ·intro w'
      go_simp
      with_reducible rfl
     rotate_left
     ·simp only [Act.put, lS, lZ, lC, i64_w, i32_w]
      rfl
     refine done_ (done_of HT_.out (by kernel_rfl)) ?_
     try go_wp2
     go_meet
     case rel => exact ⟨_, (true), (by first | rfl | (simp; done) | (simp [*]; done)), H', ⟨by first | omega | exact Nat.le_refl _⟩, ⟨by repeat (first | (with_reducible first | exact HB.out | apply pA | apply pN | apply pD) | exact HB.out)⟩⟩
    ·rw [if_neg c7] at H
     have c7b0 : decide (255 < a0) = false := decide_eq_false c7
     clear c7
     by_cases c9 : 0 ≤ 4
     ·rw [if_pos c9] at H
      have c9b0 := eq_true c9
      try (have c9sa0 := c9b0; simp only [ByteArray.size_append, Int.natCast_add] at c9sa0)
      have c9b1 : decide (0 ≤ 4) = true := decide_eq_true c9
      clear c9
      by_cases c10 : 4 ≤ (a1.size : Int)
      ·rw [if_pos c10] at H
       have c10b0 := eq_true c10
       try (have c10sa0 := c10b0; simp only [ByteArray.size_append, Int.natCast_add] at c10sa0)
       have c10b1 : decide (4 ≤ (a1.size : Int)) = true := decide_eq_true c10
       clear c10
       replace H := Option.bind_eq_some_iff.mp H
       obtain ⟨t212, A110, H⟩ := H
       replace H : (Wj0 k a1 ((a1.extract 0 4).toList != t212.toList)) = some (r1, r2) := H
       have A11 := A0k A110
       clear A110
       have H' := A0k H
       clear H
       try go_wp2
       have n0_ := A0k (pD HB.out)
       clear HB
       have HB := n0_
       clear n0_
       refine start_ (n := 18) (S := fun w' => True) (ds := []) #[F, F, F, F, F, F, F, F, F, F, F, F, F, F, F, F, F, F] (by kernel_rfl) rfl rfl trivial (fun hHeld => ?_); refine with_tabW mark_Open.tab1 mark_Open.bits1 (fun HT_ HW_ => ?_)
       generalize w.drew = w12 at HB hHeld ⊢
       refine pure_ (i := 0) (N := some 7) (v := ?_) (a' := ?_) #[T, F, F, F, F, F, F, F, F, F, F, F, F, F, F, F, F, F] rfl rfl (any_of HT_.out (by kernel_rfl)) (fun _ _ _ h => h) (Or.inl ⟨by rfl, ?_⟩) ?_ ?_
       rotate_left
       ·intro w'
        go_simp
        with_reducible rfl
       rotate_left
       ·simp only [Act.put, lS, lZ, lC, i64_w, i32_w]
        rfl
       refine pure_ (i := 1) (N := some 8) (v := ?_) (a' := ?_) #[T, T, F, F, F, F, F, F, F, F, F, F, F, F, F, F, F, F] rfl rfl (any_of HT_.out (by kernel_rfl)) (fun _ _ _ h => h) (Or.inl ⟨by rfl, ?_⟩) ?_ ?_
       rotate_left
       ·intro w'
        go_simp
        with_reducible rfl
       rotate_left
       ·simp only [Act.put, lS, lZ, lC, i64_w, i32_w]
        rfl
       refine pure_ (i := 2) (N := some 9) (v := ?_) (a' := ?_) #[T, T, T, F, F, F, F, F, F, F, F, F, F, F, F, F, F, F] rfl rfl (any_of HT_.out (by kernel_rfl)) (fun _ _ _ h => h) (Or.inl ⟨by rfl, ?_⟩) ?_ ?_
       rotate_left
       ·intro w'
        go_simp
        with_reducible rfl
       rotate_left
       ·simp only [Act.put, lS, lZ, lC, i64_w, i32_w]
        rfl
       refine pure_ (i := 3) (N := some 10) (v := ?_) (a' := ?_) #[T, T, T, T, F, F, F, F, F, F, F, F, F, F, F, F, F, F] rfl rfl (any_of HT_.out (by kernel_rfl)) (fun _ _ _ h => h) (Or.inl ⟨by rfl, ?_⟩) ?_ ?_
       rotate_left
       ·intro w'
        go_simp
        with_reducible rfl
       rotate_left
       ·simp only [Act.put, lS, lZ, lC, i64_w, i32_w]
        rfl
       refine pure_ (i := 4) (N := some 11) (v := ?_) (a' := ?_) #[T, T, T, T, T, F, F, F, F, F, F, F, F, F, F, F, F, F] rfl rfl (any_of HT_.out (by kernel_rfl)) (fun _ _ _ h => h) (Or.inl ⟨by rfl, ?_⟩) ?_ ?_
       rotate_left
       ·intro w'
        go_simp
        with_reducible rfl
       rotate_left
       ·simp only [Act.put, lS, lZ, lC, i64_w, i32_w]
        rfl
       refine pure_ (i := 5) (N := some 12) (v := ?_) (a' := ?_) #[T, T, T, T, T, T, F, F, F, F, F, F, F, F, F, F, F, F] rfl rfl (any_of HT_.out (by kernel_rfl)) (fun _ _ _ h => h) (Or.inl ⟨by rfl, ?_⟩) ?_ ?_
       rotate_left
       ·intro w'
        go_simp
        with_reducible rfl
       rotate_left
       ·simp only [Act.put, lS, lZ, lC, i64_w, i32_w]
        rfl
       refine pure_ (i := 6) (N := some 13) (v := ?_) (a' := ?_) #[T, T, T, T, T, T, T, F, F, F, F, F, F, F, F, F, F, F] rfl rfl (any_of HT_.out (by kernel_rfl)) (fun _ _ _ h => h) (Or.inl ⟨by rfl, ?_⟩) ?_ ?_
       rotate_left
       ·intro w'
        go_simp
        with_reducible rfl
       rotate_left
       ·simp only [Act.put, lS, lZ, lC, i64_w, i32_w]
        rfl
       refine pure_ (i := 7) (N := some 14) (v := ?_) (a' := ?_) #[T, T, T, T, T, T, T, T, F, F, F, F, F, F, F, F, F, F] rfl rfl (any_of HT_.out (by kernel_rfl)) (fun _ _ _ h => h) (Or.inl ⟨by rfl, ?_⟩) ?_ ?_
       rotate_left
       ·intro w'
        go_simp
        with_reducible rfl
       rotate_left
       ·simp only [Act.put, lS, lZ, lC, i64_w, i32_w]
        rfl
       refine pure_ (i := 8) (N := some 15) (v := ?_) (a' := ?_) #[T, T, T, T, T, T, T, T, T, F, F, F, F, F, F, F, F, F] rfl rfl (any_of HT_.out (by kernel_rfl)) (fun _ _ _ h => h) (Or.inl ⟨by rfl, ?_⟩) ?_ ?_
       rotate_left
       ·intro w'
        go_simp
        with_reducible rfl
       rotate_left
       ·simp only [Act.put, lS, lZ, lC, i64_w, i32_w]
        rfl
       refine pure_ (i := 9) (N := some 16) (v := ?_) (a' := ?_) #[T, T, T, T, T, T, T, T, T, T, F, F, F, F, F, F, F, F] rfl rfl (any_of HT_.out (by kernel_rfl)) (fun _ _ _ h => h) (Or.inl ⟨by rfl, ?_⟩) ?_ ?_
       rotate_left
       ·intro w'
        go_simp
        with_reducible rfl
       rotate_left
       ·simp only [Act.put, lS, lZ, lC, i64_w, i32_w]
        rfl
       refine pure_ (i := 10) (N := some 17) (v := ?_) (a' := ?_) #[T, T, T, T, T, T, T, T, T, T, T, F, F, F, F, F, F, F] rfl rfl (any_of HT_.out (by kernel_rfl)) (fun _ _ _ h => h) (Or.inl ⟨by rfl, ?_⟩) ?_ ?_
       rotate_left
       ·intro w'
        go_simp
        with_reducible rfl
       rotate_left
       ·simp only [Act.put, lS, lZ, lC, i64_w, i32_w]
        rfl
       refine pure_ (i := 11) (N := some 18) (v := ?_) (a' := ?_) #[T, T, T, T, T, T, T, T, T, T, T, T, F, F, F, F, F, F] rfl rfl (any_of HT_.out (by kernel_rfl)) (fun _ _ _ h => h) (Or.inl ⟨by rfl, ?_⟩) ?_ ?_
       rotate_left
       ·intro w'
        go_simp
        with_reducible rfl
       rotate_left
       ·simp only [Act.put, lS, lZ, lC, i64_w, i32_w]
        rfl
       refine pure_ (i := 12) (N := some 19) (v := ?_) (a' := ?_) #[T, T, T, T, T, T, T, T, T, T, T, T, T, F, F, F, F, F] rfl rfl (any_of HT_.out (by kernel_rfl)) (fun _ _ _ h => h) (Or.inl ⟨by rfl, ?_⟩) ?_ ?_
       rotate_left
       ·intro w'
        go_simp
        with_reducible rfl
       rotate_left
       ·simp only [Act.put, lS, lZ, lC, i64_w, i32_w]
        rfl
       refine pure_ (i := 13) (N := some 20) (v := ?_) (a' := ?_) #[T, T, T, T, T, T, T, T, T, T, T, T, T, T, F, F, F, F] rfl rfl (any_of HT_.out (by kernel_rfl)) (fun _ _ _ h => h) (Or.inl ⟨by rfl, ?_⟩) ?_ ?_
       rotate_left
       ·intro w'
        go_simp
        with_reducible rfl
       rotate_left
       ·simp only [Act.put, lS, lZ, lC, i64_w, i32_w]
        rfl
       refine pure_ (i := 14) (N := some 21) (v := ?_) (a' := ?_) #[T, T, T, T, T, T, T, T, T, T, T, T, T, T, T, F, F, F] rfl rfl (any_of HT_.out (by kernel_rfl)) (fun _ _ _ h => h) (Or.inl ⟨by rfl, ?_⟩) ?_ ?_
       rotate_left
       ·intro w'
        go_simp
        with_reducible rfl
       rotate_left
       ·simp only [Act.put, lS, lZ, lC, i64_w, i32_w]
        rfl
       refine one_ (i := 15) (N := some 22) #[T, T, T, T, T, T, T, T, T, T, T, T, T, T, T, T, F, F] rfl rfl (one_of HT_.out (by kernel_rfl)) (by decide) (fun K hK => ?_)
       refine goes_ Tryz.func42 (by kernel_rfl) rfl #[.int .i64 a0] (by rfl) rfl rfl (by (try simp only [List.map_toArray, List.map_cons, List.map_nil]); first | done | rfl | (simp only [List.length_drop, List.length_take]; rfl)) ?_
       with_reducible refine (mark_head.calls k a0 t212 _ A11.out).mono ?_
       rintro e w13 ⟨rfl, hb⟩
       refine ⟨_, rfl, ?_⟩
       have n0_ := A0k (pS (by repeat (first | (with_reducible first | exact HB.out | apply pA | apply pN | apply pD) | exact HB.out)) hb)
       clear HB
       have HB := n0_
       clear n0_
       (try clear hb)
       (try clear hb2)
       (try clear hk)
       (try clear hi)
       refine hK.out _ _ trivial (fun hHeld => ?_)
       clear hK K
       refine norm_ (a' := ?_) ?_ ?_
       rotate_left
       ·show Act.put _ (some 22) _ = _
        simp only [Act.put, lS, lZ, lC, i64_w, i32_w]
        rfl
       refine pure_ (i := 16) (N := some 23) (v := ?_) (a' := ?_) #[T, T, T, T, T, T, T, T, T, T, T, T, T, T, T, T, T, F] rfl rfl (any_of HT_.out (by kernel_rfl)) (fun _ _ _ h => h) (Or.inl ⟨by rfl, ?_⟩) ?_ ?_
       rotate_left
       ·intro w'
        go_simp
        with_reducible rfl
       rotate_left
       ·simp only [Act.put, lS, lZ, lC, i64_w, i32_w]
        rfl
       refine pure_ (i := 17) (N := some 24) (v := ?_) (a' := ?_) #[T, T, T, T, T, T, T, T, T, T, T, T, T, T, T, T, T, T] rfl rfl (any_of HT_.out (by kernel_rfl)) (fun _ _ _ h => h) (Or.inl ⟨by rfl, ?_⟩) ?_ ?_
       rotate_left
       ·intro w'
        go_simp
        with_reducible rfl
       rotate_left
       ·simp only [Act.put, lS, lZ, lC, i64_w, i32_w]
        rfl
       refine done_ (done_of HT_.out (by kernel_rfl)) ?_
       try go_wp2
       go_meet
       case rel => exact ⟨_, (((a1.extract 0 4).toList != t212.toList)), (by first | rfl | (simp; done) | (simp [*]; done)), H', ⟨by first | omega | exact Nat.le_refl _⟩, ⟨by repeat (first | (with_reducible first | exact HB.out | apply pA | apply pN | apply pD) | exact HB.out)⟩⟩
      ·rw [if_neg c10] at H
       exact absurd H (by simp)
     ·rw [if_neg c9] at H
      exact absurd H (by simp)
  ·rw [if_neg c4] at H
   have c4b0 : ((a1.size : Int) == 512) = false := beq_eq_false_iff_ne.mpr c4
   have c4b1 : ((a1.size : Int) != 512) = true := bne_iff_ne.mpr c4
   (first | rw [c4b0] | (simp only [i64_w, i32_w]; rw [c4b0]) | skip)
   have H' := A0k H
   clear H
   try go_wp2
   have n0_ := A0k (pD HB.out)
   clear HB
   have HB := n0_
   clear n0_
   refine start_ (n := 18) (S := fun w' => True) (ds := []) #[F, F, F, F, F, F, F, F, F, F, F, F, F, F, F, F, F, F] (by kernel_rfl) rfl rfl trivial (fun hHeld => ?_); refine with_tabW mark_Open.tab1 mark_Open.bits1 (fun HT_ HW_ => ?_)
   generalize w.drew = w14 at HB hHeld ⊢
   refine pure_ (i := 0) (N := some 7) (v := ?_) (a' := ?_) #[T, F, F, F, F, F, F, F, F, F, F, F, F, F, F, F, F, F] rfl rfl (any_of HT_.out (by kernel_rfl)) (fun _ _ _ h => h) (Or.inl ⟨by rfl, ?_⟩) ?_ ?_
   rotate_left
   ·intro w'
    go_simp
    with_reducible rfl
   rotate_left
   ·simp only [Act.put, lS, lZ, lC, i64_w, i32_w]
    rfl
   refine pure_ (i := 1) (N := some 8) (v := ?_) (a' := ?_) #[T, T, F, F, F, F, F, F, F, F, F, F, F, F, F, F, F, F] rfl rfl (any_of HT_.out (by kernel_rfl)) (fun _ _ _ h => h) (Or.inl ⟨by rfl, ?_⟩) ?_ ?_
   rotate_left
   ·intro w'
    go_simp
    with_reducible rfl
   rotate_left
   ·simp only [Act.put, lS, lZ, lC, i64_w, i32_w]
    rfl
   refine pure_ (i := 2) (N := some 9) (v := ?_) (a' := ?_) #[T, T, T, F, F, F, F, F, F, F, F, F, F, F, F, F, F, F] rfl rfl (any_of HT_.out (by kernel_rfl)) (fun _ _ _ h => h) (Or.inl ⟨by rfl, ?_⟩) ?_ ?_
   rotate_left
   ·intro w'
    go_simp
    with_reducible rfl
   rotate_left
   ·simp only [Act.put, lS, lZ, lC, i64_w, i32_w]
    rfl
   refine pure_ (i := 3) (N := some 10) (v := ?_) (a' := ?_) #[T, T, T, T, F, F, F, F, F, F, F, F, F, F, F, F, F, F] rfl rfl (any_of HT_.out (by kernel_rfl)) (fun _ _ _ h => h) (Or.inl ⟨by rfl, ?_⟩) ?_ ?_
   rotate_left
   ·intro w'
    go_simp
    with_reducible rfl
   rotate_left
   ·simp only [Act.put, lS, lZ, lC, i64_w, i32_w]
    rfl
   refine pure_ (i := 4) (N := some 11) (v := undef) (a' := ?_) #[T, T, T, T, T, F, F, F, F, F, F, F, F, F, F, F, F, F] rfl rfl (any_of HT_.out (by kernel_rfl)) (fun _ _ _ h => h) (Or.inr ⟨by rfl, rfl⟩) ?_ ?_
   rotate_left
   ·simp only [Act.put, lS, lZ, lC, i64_w, i32_w]
    rfl
   refine pure_ (i := 5) (N := some 12) (v := undef) (a' := ?_) #[T, T, T, T, T, T, F, F, F, F, F, F, F, F, F, F, F, F] rfl rfl (any_of HT_.out (by kernel_rfl)) (fun _ _ _ h => h) (Or.inr ⟨by rfl, rfl⟩) ?_ ?_
   rotate_left
   ·simp only [Act.put, lS, lZ, lC, i64_w, i32_w]
    rfl
   refine pure_ (i := 6) (N := some 13) (v := ?_) (a' := ?_) #[T, T, T, T, T, T, T, F, F, F, F, F, F, F, F, F, F, F] rfl rfl (any_of HT_.out (by kernel_rfl)) (fun _ _ _ h => h) (Or.inl ⟨by rfl, ?_⟩) ?_ ?_
   rotate_left
   ·intro w'
    go_simp
    with_reducible rfl
   rotate_left
   ·simp only [Act.put, lS, lZ, lC, i64_w, i32_w]
    rfl
   refine pure_ (i := 7) (N := some 14) (v := ?_) (a' := ?_) #[T, T, T, T, T, T, T, T, F, F, F, F, F, F, F, F, F, F] rfl rfl (any_of HT_.out (by kernel_rfl)) (fun _ _ _ h => h) (Or.inl ⟨by rfl, ?_⟩) ?_ ?_
   rotate_left
   ·intro w'
    go_simp
    with_reducible rfl
   rotate_left
   ·simp only [Act.put, lS, lZ, lC, i64_w, i32_w]
    rfl
   refine pure_ (i := 8) (N := some 15) (v := undef) (a' := ?_) #[T, T, T, T, T, T, T, T, T, F, F, F, F, F, F, F, F, F] rfl rfl (any_of HT_.out (by kernel_rfl)) (fun _ _ _ h => h) (Or.inr ⟨by rfl, rfl⟩) ?_ ?_
   rotate_left
   ·simp only [Act.put, lS, lZ, lC, i64_w, i32_w]
    rfl
   refine pure_ (i := 9) (N := some 16) (v := undef) (a' := ?_) #[T, T, T, T, T, T, T, T, T, T, F, F, F, F, F, F, F, F] rfl rfl (any_of HT_.out (by kernel_rfl)) (fun _ _ _ h => h) (Or.inr ⟨by rfl, rfl⟩) ?_ ?_
   rotate_left
   ·simp only [Act.put, lS, lZ, lC, i64_w, i32_w]
    rfl
   refine pure_ (i := 10) (N := some 17) (v := ?_) (a' := ?_) #[T, T, T, T, T, T, T, T, T, T, T, F, F, F, F, F, F, F] rfl rfl (any_of HT_.out (by kernel_rfl)) (fun _ _ _ h => h) (Or.inl ⟨by rfl, ?_⟩) ?_ ?_
   rotate_left
   ·intro w'
    go_simp
    with_reducible rfl
   rotate_left
   ·simp only [Act.put, lS, lZ, lC, i64_w, i32_w]
    rfl
   refine pure_ (i := 11) (N := some 18) (v := ?_) (a' := ?_) #[T, T, T, T, T, T, T, T, T, T, T, T, F, F, F, F, F, F] rfl rfl (any_of HT_.out (by kernel_rfl)) (fun _ _ _ h => h) (Or.inl ⟨by rfl, ?_⟩) ?_ ?_
   rotate_left
   ·intro w'
    go_simp
    with_reducible rfl
   rotate_left
   ·simp only [Act.put, lS, lZ, lC, i64_w, i32_w]
    rfl
   refine pure_ (i := 12) (N := some 19) (v := undef) (a' := ?_) #[T, T, T, T, T, T, T, T, T, T, T, T, T, F, F, F, F, F] rfl rfl (any_of HT_.out (by kernel_rfl)) (fun _ _ _ h => h) (Or.inr ⟨by rfl, rfl⟩) ?_ ?_
   rotate_left
   ·simp only [Act.put, lS, lZ, lC, i64_w, i32_w]
    rfl
   refine pure_ (i := 13) (N := some 20) (v := undef) (a' := ?_) #[T, T, T, T, T, T, T, T, T, T, T, T, T, T, F, F, F, F] rfl rfl (any_of HT_.out (by kernel_rfl)) (fun _ _ _ h => h) (Or.inr ⟨by rfl, rfl⟩) ?_ ?_
   rotate_left
   ·simp only [Act.put, lS, lZ, lC, i64_w, i32_w]
    rfl
   refine pure_ (i := 14) (N := some 21) (v := undef) (a' := ?_) #[T, T, T, T, T, T, T, T, T, T, T, T, T, T, T, F, F, F] rfl rfl (any_of HT_.out (by kernel_rfl)) (fun _ _ _ h => h) (Or.inr ⟨by rfl, rfl⟩) ?_ ?_
   rotate_left
   ·simp only [Act.put, lS, lZ, lC, i64_w, i32_w]
    rfl
   refine pure_ (i := 15) (N := some 22) (v := undef) (a' := ?_) #[T, T, T, T, T, T, T, T, T, T, T, T, T, T, T, T, F, F] rfl rfl (any_of HT_.out (by kernel_rfl)) (fun _ _ _ h => h) (Or.inr ⟨by rfl, rfl⟩) ?_ ?_
   rotate_left
   ·simp only [Act.put, lS, lZ, lC, i64_w, i32_w]
    rfl
   refine pure_ (i := 16) (N := some 23) (v := undef) (a' := ?_) #[T, T, T, T, T, T, T, T, T, T, T, T, T, T, T, T, T, F] rfl rfl (any_of HT_.out (by kernel_rfl)) (fun _ _ _ h => h) (Or.inr ⟨by rfl, rfl⟩) ?_ ?_
   rotate_left
   ·simp only [Act.put, lS, lZ, lC, i64_w, i32_w]
    rfl
   refine pure_ (i := 17) (N := some 24) (v := ?_) (a' := ?_) #[T, T, T, T, T, T, T, T, T, T, T, T, T, T, T, T, T, T] rfl rfl (any_of HT_.out (by kernel_rfl)) (fun _ _ _ h => h) (Or.inl ⟨by rfl, ?_⟩) ?_ ?_
   rotate_left
   ·intro w'
    go_simp
    with_reducible rfl
   rotate_left
   ·simp only [Act.put, lS, lZ, lC, i64_w, i32_w]
    rfl
   refine done_ (done_of HT_.out (by kernel_rfl)) ?_
   try go_wp2
   go_meet
   case rel => exact ⟨_, (true), (by first | rfl | (simp; done) | (simp [*]; done)), H', ⟨by first | omega | exact Nat.le_refl _⟩, ⟨by repeat (first | (with_reducible first | exact HB.out | apply pA | apply pN | apply pD) | exact HB.out)⟩⟩
 case rest =>
  clear HC3
  (try clear c1); (try clear p2); (try clear c4); (try clear c4b0); (try clear c4b1); (try clear c5); (try clear c5b0); (try clear c7); (try clear c7b0); (try clear c9); (try clear c9b0); (try clear c9b1); (try clear c10); (try clear c10b0); (try clear c10b1)
  obtain ⟨kq, x24_2, rfl, HA, HJ2, HB⟩ := hcut
  cases kq with
  | zero => exact absurd HA.out (by simp [Wj0])
  | succ kj2 =>
   have H := HA.out
   clear HA
   simp only [Wj0] at H
   by_cases c15 : x24_2 = true
   ·subst c15
    have H1 : (some ((⟨#[]⟩ : ByteArray), some 4)) = some (r1, r2) := by rw [if_pos rfl] at H; exact H
    clear H
    have H := H1
    clear H1
    simp only [Option.some.injEq, Prod.mk.injEq] at H
    obtain ⟨rfl, rfl⟩ := H
    go_wp2
    go_ret2
    exact ⟨by first | rfl | (simp [errW_none, errW_some] <;> rfl) | (simp [*, errW_none, errW_some] <;> rfl), by repeat (first | (with_reducible first | exact HB.out | apply pA | apply pN | apply pD) | exact HB.out)⟩
   ·replace c15 := Bool.eq_false_iff.mpr c15
    subst c15
    have H1 : (if 508 ≤ (a1.size : Int) then (if 0 ≤ 508 then ((mark_sumOf.f kj2 (a1.extract 0 508)).bind fun t213 => (if (a1.extract 508 a1.size).toList = t213.toList then (if 4 ≤ 508 then (some (a1.extract 4 508, none)) else (none)) else (some ((⟨#[]⟩ : ByteArray), some 5)))) else (none)) else (none)) = some (r1, r2) := by rw [if_neg (show ¬ (false = true) by decide)] at H; exact H
    clear H
    have H := H1
    clear H1
    by_cases c16 : 508 ≤ (a1.size : Int)
    ·rw [if_pos c16] at H
     have c16b0 := eq_true c16
     try (have c16sa0 := c16b0; simp only [ByteArray.size_append, Int.natCast_add] at c16sa0)
     have c16b1 : decide (508 ≤ (a1.size : Int)) = true := decide_eq_true c16
     clear c16
     by_cases c17 : 0 ≤ 508
     ·rw [if_pos c17] at H
      have c17b0 := eq_true c17
      try (have c17sa0 := c17b0; simp only [ByteArray.size_append, Int.natCast_add] at c17sa0)
      have c17b1 : decide (0 ≤ 508) = true := decide_eq_true c17
      clear c17
      have c18b0 := eq_true (of_decide_eq_true (by first | (with_reducible assumption) | assumption) : 508 ≤ (a1.size : Int))
      replace H := Option.bind_eq_some_iff.mp H
      obtain ⟨t213, A190, H⟩ := H
      replace H : (if (a1.extract 508 a1.size).toList = t213.toList then (if 4 ≤ 508 then (some (a1.extract 4 508, none)) else (none)) else (some ((⟨#[]⟩ : ByteArray), some 5))) = some (r1, r2) := H
      have A19 := A0k A190
      clear A190
      by_cases c20 : (a1.extract 508 a1.size).toList = t213.toList
      ·rw [if_pos c20] at H
       have c20b0 : ((a1.extract 508 a1.size).toList == t213.toList) = true := beq_iff_eq.mpr c20
       have c20b1 : ((a1.extract 508 a1.size).toList != t213.toList) = false := bne_eq_false_iff_eq.mpr c20
       clear c20
       by_cases c21 : 4 ≤ 508
       ·rw [if_pos c21] at H
        have c21b0 := eq_true c21
        try (have c21sa0 := c21b0; simp only [ByteArray.size_append, Int.natCast_add] at c21sa0)
        have c21b1 : decide (4 ≤ 508) = true := decide_eq_true c21
        clear c21
        have c22b0 := eq_true (of_decide_eq_true (by first | (with_reducible assumption) | assumption) : 508 ≤ (a1.size : Int))
        simp only [Option.some.injEq, Prod.mk.injEq] at H
        obtain ⟨rfl, rfl⟩ := H
        try go_wp2
        have n0_ := A0k (pD HB.out)
        clear HB
        have HB := n0_
        clear n0_
        refine start_ (n := 8) (S := fun w' => True) (ds := []) #[F, F, F, F, F, F, F, F] (by kernel_rfl) rfl rfl trivial (fun hHeld => ?_); refine with_tabW mark_Open.tab4 mark_Open.bits4 (fun HT_ HW_ => ?_)
        generalize wc.drew = w23 at HB hHeld ⊢
        refine pure_ (i := 0) (N := some 26) (v := ?_) (a' := ?_) #[T, F, F, F, F, F, F, F] rfl rfl (any_of HT_.out (by kernel_rfl)) (fun _ _ _ h => h) (Or.inl ⟨by rfl, ?_⟩) ?_ ?_
        rotate_left
        ·intro w'
         go_simp
         with_reducible rfl
        rotate_left
        ·simp only [Act.put, lS, lZ, lC, i64_w, i32_w]
         rfl
        refine pure_ (i := 1) (N := some 27) (v := ?_) (a' := ?_) #[T, T, F, F, F, F, F, F] rfl rfl (any_of HT_.out (by kernel_rfl)) (fun _ _ _ h => h) (Or.inl ⟨by rfl, ?_⟩) ?_ ?_
        rotate_left
        ·intro w'
         go_simp
         with_reducible rfl
        rotate_left
        ·simp only [Act.put, lS, lZ, lC, i64_w, i32_w]
         rfl
        refine pure_ (i := 2) (N := some 28) (v := ?_) (a' := ?_) #[T, T, T, F, F, F, F, F] rfl rfl (any_of HT_.out (by kernel_rfl)) (fun _ _ _ h => h) (Or.inl ⟨by rfl, ?_⟩) ?_ ?_
        rotate_left
        ·intro w'
         go_simp
         with_reducible rfl
        rotate_left
        ·simp only [Act.put, lS, lZ, lC, i64_w, i32_w]
         rfl
        refine pure_ (i := 3) (N := some 29) (v := ?_) (a' := ?_) #[T, T, T, T, F, F, F, F] rfl rfl (any_of HT_.out (by kernel_rfl)) (fun _ _ _ h => h) (Or.inl ⟨by rfl, ?_⟩) ?_ ?_
        rotate_left
        ·intro w'
         go_simp
         with_reducible rfl
        rotate_left
        ·simp only [Act.put, lS, lZ, lC, i64_w, i32_w]
         rfl
        refine pure_ (i := 4) (N := some 30) (v := ?_) (a' := ?_) #[T, T, T, T, T, F, F, F] rfl rfl (any_of HT_.out (by kernel_rfl)) (fun _ _ _ h => h) (Or.inl ⟨by rfl, ?_⟩) ?_ ?_
        rotate_left
        ·intro w'
         go_simp
         with_reducible rfl
        rotate_left
        ·simp only [Act.put, lS, lZ, lC, i64_w, i32_w]
         rfl
        refine pure_ (i := 5) (N := some 31) (v := ?_) (a' := ?_) #[T, T, T, T, T, T, F, F] rfl rfl (any_of HT_.out (by kernel_rfl)) (fun _ _ _ h => h) (Or.inl ⟨by rfl, ?_⟩) ?_ ?_
        rotate_left
        ·intro w'
         go_simp
         with_reducible rfl
        rotate_left
        ·simp only [Act.put, lS, lZ, lC, i64_w, i32_w]
         rfl
        refine one_ (i := 6) (N := some 32) #[T, T, T, T, T, T, T, F] rfl rfl (one_of HT_.out (by kernel_rfl)) (by decide) (fun K hK => ?_)
        refine goes_ Tryz.func44 (by kernel_rfl) rfl #[.string (a1.extract 0 508)] (by rfl) rfl rfl (by (try simp only [List.map_toArray, List.map_cons, List.map_nil]); first | done | rfl | (simp only [List.length_drop, List.length_take]; rfl)) ?_
        with_reducible refine (mark_sumOf.calls kj2 (a1.extract 0 508) t213 _ (Laid.below HL_.out (by repeat (first | (with_reducible first | exact HB.out | apply pA | apply pN | apply pD) | exact HB.out))) A19.out).mono ?_
        rintro e w24 ⟨rfl, hb⟩
        refine ⟨_, rfl, ?_⟩
        have n0_ := A0k (pS (by repeat (first | (with_reducible first | exact HB.out | apply pA | apply pN | apply pD) | exact HB.out)) hb)
        clear HB
        have HB := n0_
        clear n0_
        (try clear hb)
        (try clear hb2)
        (try clear hk)
        (try clear hi)
        refine hK.out _ _ trivial (fun hHeld => ?_)
        clear hK K
        refine norm_ (a' := ?_) ?_ ?_
        rotate_left
        ·show Act.put _ (some 32) _ = _
         simp only [Act.put, lS, lZ, lC, i64_w, i32_w]
         rfl
        refine pure_ (i := 7) (N := some 33) (v := ?_) (a' := ?_) #[T, T, T, T, T, T, T, T] rfl rfl (any_of HT_.out (by kernel_rfl)) (fun _ _ _ h => h) (Or.inl ⟨by rfl, ?_⟩) ?_ ?_
        rotate_left
        ·intro w'
         go_simp
         with_reducible rfl
        rotate_left
        ·simp only [Act.put, lS, lZ, lC, i64_w, i32_w]
         rfl
        refine done_ (done_of HT_.out (by kernel_rfl)) ?_
        try go_wp2
        go_ret2
        exact ⟨by first | rfl | (simp [errW_none, errW_some] <;> rfl) | (simp [*, errW_none, errW_some] <;> rfl), by repeat (first | (with_reducible first | exact HB.out | apply pA | apply pN | apply pD) | exact HB.out)⟩
       ·rw [if_neg c21] at H
        exact absurd H (by simp)
      ·rw [if_neg c20] at H
       have c20b0 : ((a1.extract 508 a1.size).toList == t213.toList) = false := beq_eq_false_iff_ne.mpr c20
       have c20b1 : ((a1.extract 508 a1.size).toList != t213.toList) = true := bne_iff_ne.mpr c20
       simp only [Option.some.injEq, Prod.mk.injEq] at H
       obtain ⟨rfl, rfl⟩ := H
       try go_wp2
       have n0_ := A0k (pD HB.out)
       clear HB
       have HB := n0_
       clear n0_
       refine start_ (n := 8) (S := fun w' => True) (ds := []) #[F, F, F, F, F, F, F, F] (by kernel_rfl) rfl rfl trivial (fun hHeld => ?_); refine with_tabW mark_Open.tab4 mark_Open.bits4 (fun HT_ HW_ => ?_)
       generalize wc.drew = w25 at HB hHeld ⊢
       refine pure_ (i := 0) (N := some 26) (v := ?_) (a' := ?_) #[T, F, F, F, F, F, F, F] rfl rfl (any_of HT_.out (by kernel_rfl)) (fun _ _ _ h => h) (Or.inl ⟨by rfl, ?_⟩) ?_ ?_
       rotate_left
       ·intro w'
        go_simp
        with_reducible rfl
       rotate_left
       ·simp only [Act.put, lS, lZ, lC, i64_w, i32_w]
        rfl
       refine pure_ (i := 1) (N := some 27) (v := ?_) (a' := ?_) #[T, T, F, F, F, F, F, F] rfl rfl (any_of HT_.out (by kernel_rfl)) (fun _ _ _ h => h) (Or.inl ⟨by rfl, ?_⟩) ?_ ?_
       rotate_left
       ·intro w'
        go_simp
        with_reducible rfl
       rotate_left
       ·simp only [Act.put, lS, lZ, lC, i64_w, i32_w]
        rfl
       refine pure_ (i := 2) (N := some 28) (v := ?_) (a' := ?_) #[T, T, T, F, F, F, F, F] rfl rfl (any_of HT_.out (by kernel_rfl)) (fun _ _ _ h => h) (Or.inl ⟨by rfl, ?_⟩) ?_ ?_
       rotate_left
       ·intro w'
        go_simp
        with_reducible rfl
       rotate_left
       ·simp only [Act.put, lS, lZ, lC, i64_w, i32_w]
        rfl
       refine pure_ (i := 3) (N := some 29) (v := ?_) (a' := ?_) #[T, T, T, T, F, F, F, F] rfl rfl (any_of HT_.out (by kernel_rfl)) (fun _ _ _ h => h) (Or.inl ⟨by rfl, ?_⟩) ?_ ?_
       rotate_left
       ·intro w'
        go_simp
        with_reducible rfl
       rotate_left
       ·simp only [Act.put, lS, lZ, lC, i64_w, i32_w]
        rfl
       refine pure_ (i := 4) (N := some 30) (v := ?_) (a' := ?_) #[T, T, T, T, T, F, F, F] rfl rfl (any_of HT_.out (by kernel_rfl)) (fun _ _ _ h => h) (Or.inl ⟨by rfl, ?_⟩) ?_ ?_
       rotate_left
       ·intro w'
        go_simp
        with_reducible rfl
       rotate_left
       ·simp only [Act.put, lS, lZ, lC, i64_w, i32_w]
        rfl
       refine pure_ (i := 5) (N := some 31) (v := ?_) (a' := ?_) #[T, T, T, T, T, T, F, F] rfl rfl (any_of HT_.out (by kernel_rfl)) (fun _ _ _ h => h) (Or.inl ⟨by rfl, ?_⟩) ?_ ?_
       rotate_left
       ·intro w'
        go_simp
        with_reducible rfl
       rotate_left
       ·simp only [Act.put, lS, lZ, lC, i64_w, i32_w]
        rfl
       refine one_ (i := 6) (N := some 32) #[T, T, T, T, T, T, T, F] rfl rfl (one_of HT_.out (by kernel_rfl)) (by decide) (fun K hK => ?_)
       refine goes_ Tryz.func44 (by kernel_rfl) rfl #[.string (a1.extract 0 508)] (by rfl) rfl rfl (by (try simp only [List.map_toArray, List.map_cons, List.map_nil]); first | done | rfl | (simp only [List.length_drop, List.length_take]; rfl)) ?_
       with_reducible refine (mark_sumOf.calls kj2 (a1.extract 0 508) t213 _ (Laid.below HL_.out (by repeat (first | (with_reducible first | exact HB.out | apply pA | apply pN | apply pD) | exact HB.out))) A19.out).mono ?_
       rintro e w26 ⟨rfl, hb⟩
       refine ⟨_, rfl, ?_⟩
       have n0_ := A0k (pS (by repeat (first | (with_reducible first | exact HB.out | apply pA | apply pN | apply pD) | exact HB.out)) hb)
       clear HB
       have HB := n0_
       clear n0_
       (try clear hb)
       (try clear hb2)
       (try clear hk)
       (try clear hi)
       refine hK.out _ _ trivial (fun hHeld => ?_)
       clear hK K
       refine norm_ (a' := ?_) ?_ ?_
       rotate_left
       ·show Act.put _ (some 32) _ = _
        simp only [Act.put, lS, lZ, lC, i64_w, i32_w]
        rfl
       refine pure_ (i := 7) (N := some 33) (v := ?_) (a' := ?_) #[T, T, T, T, T, T, T, T] rfl rfl (any_of HT_.out (by kernel_rfl)) (fun _ _ _ h => h) (Or.inl ⟨by rfl, ?_⟩) ?_ ?_
       rotate_left
       ·intro w'
        go_simp
        with_reducible rfl
       rotate_left
       ·simp only [Act.put, lS, lZ, lC, i64_w, i32_w]
        rfl
       refine done_ (done_of HT_.out (by kernel_rfl)) ?_
       try go_wp2
       go_ret2
       exact ⟨by first | rfl | (simp [errW_none, errW_some] <;> rfl) | (simp [*, errW_none, errW_some] <;> rfl), by repeat (first | (with_reducible first | exact HB.out | apply pA | apply pN | apply pD) | exact HB.out)⟩
     ·rw [if_neg c17] at H
      exact absurd H (by simp)
    ·rw [if_neg c16] at H
     exact absurd H (by simp)

end Go.Proofs.YtmncfcebjohloaaGreatDoor.VInodePuts
