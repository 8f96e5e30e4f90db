/- Contracts of functions of this seat: each call comes to what its Lean function computes; no condition beyond what each theorem states. Printed by a program of this session's own laid over the kit's printer. -/
import Derived.Test.YtmncfcebjohloaaGreatDoorVInodeGetsx0
import Derived.Test.YtmncfcebjohloaaGreatDoorVInodeGetsx9
import Derived.Test.YtmncfcebjohloaaGreatDoorVInodeGetsx13
import Derived.Test.YtmncfcebjohloaaGreatDoorVInodeGetsx14
import Derived.Test.YtmncfcebjohloaaGreatDoorVInodeGetsx15
import Derived.Test.YtmncfcebjohloaaGreatDoorVInodeGetsx16
namespace Go.Proofs.YtmncfcebjohloaaGreatDoor.VInodeGets
open Go.RowKit Go.Proofs.YtmncfcebjohloaaGreatDoorW.PrintWords Go.Proofs.YtmncfcebjohloaaGreatDoorW.PrintLast Go.Proofs.YtmncfcebjohloaaGreatDoorW.PrintMore
attribute [local go_sem] max2_int min2_int max_two min_two max_three min_three max_four min_four   -- for this text's walks alone
set_option linter.unusedVariables false
set_option linter.unusedSimpArgs false

/-! ### mark_sumOf: function 44 -/
def mark_sumOf.f (k : Nat) (a0 : ByteArray) : Option (ByteArray) := (mark_Sum.f a0).bind fun t162 => ((le_Put.f k (wrap64 (t162)) 4).bind fun t163 => (some t163))
theorem mark_sumOf.mono : ∀ a0 k, LeO (mark_sumOf.f k a0) (mark_sumOf.f (k + 1) a0) := by
 intro a0 k
 unfold mark_sumOf.f
 repeat' first
   | (with_reducible exact le_Put.mono _ _ _)
   | (with_reducible exact LeO.refl _)
   | (with_reducible exact LeO.none _)
   | (with_reducible refine LeO.ite ?_ ?_)
   | (with_reducible refine LeO.bind ?_ (fun _ => ?_))
   | exact le_Put.mono _ _ _
   | exact LeO.none _
   | refine LeO.ite ?_ ?_
   | refine LeO.bind ?_ (fun _ => ?_)
set_option maxHeartbeats 8000000 in
set_option maxRecDepth 100000 in
theorem mark_sumOf.calls (k : Nat) (a0 : ByteArray) (r : ByteArray) (w : World) (hL_ : Laid w) (h : mark_sumOf.f k a0 = some r) :
  Calls Tryz.prog 44 #[.string a0] w fun e w' => e = .returned (.string r) ∧ Below w.heap.size w w' := by
 have HL_ := Aside0.mk hL_
 clear hL_
 have HB := Aside0.mk (Below.refl w.heap.size w)
 have H : ((mark_Sum.f a0).bind fun t162 => ((le_Put.f k (wrap64 (t162)) 4).bind fun t163 => (some t163))) = some r := h
 clear h
 replace H := Option.bind_eq_some_iff.mp H
 obtain ⟨t162, A20, H⟩ := H
 replace H : ((le_Put.f k (wrap64 (t162)) 4).bind fun t163 => (some t163)) = some r := H
 have A2 := Aside0.mk A20
 clear A20
 replace H := Option.bind_eq_some_iff.mp H
 obtain ⟨t163, A30, H⟩ := H
 replace H : (some t163) = some r := H
 have A3 := Aside0.mk A30
 clear A30
 obtain rfl := Option.some.inj H
 go_enter Tryz.func44, Tryz.ntmps44
 go_wp2_with (first | ((with_reducible refine gate_callee (f := 56) rfl ?_); refine goesL_ (some 4) rfl rfl Tryz.func56 (by kernel_rfl) rfl #[.string a0] rfl (by (try simp only [List.map_toArray, List.map_cons, List.map_nil]); first | done | rfl | (simp only [List.length_drop, List.length_take]; rfl) | (simp only [decide_eq_true_eq, decide_eq_false_iff_not, eq_iff_iff, iff_true, iff_false] at *; have w_id : ∀ {n : Int}, -9223372036854775808 ≤ n → n ≤ 9223372036854775807 → wrap64 n = n := fun h0 h1 => (by unfold wrap64; omega); rw [w_id (by omega) (by omega)]; rfl)) ?_; (with_reducible refine (mark_Sum.calls a0 t162 _ (Laid.below HL_.out (by repeat (first | (with_reducible first | exact HB.out | apply below_alloc | apply pw_below_drewN | apply below_drew1) | exact HB.out))) A2.out).mono ?_); rintro e w4 ⟨rfl, hb⟩; refine ⟨_, rfl, ?_⟩; have n0_ := Aside0.mk (below_step (by repeat (first | (with_reducible first | exact HB.out | apply below_alloc | apply pw_below_drewN | apply below_drew1) | exact HB.out)) hb); clear HB; have HB := n0_; clear n0_; (try clear hb); (try clear hb2); (try clear hk); (try clear hi)) | ((with_reducible refine gate_callee (f := 39) rfl ?_); refine goesL_ (some 6) rfl rfl Tryz.func39 (by kernel_rfl) rfl #[.int .i64 (wrap64 (t162)), .int .i64 4] rfl (by (try simp only [List.map_toArray, List.map_cons, List.map_nil]); first | done | rfl | (simp only [List.length_drop, List.length_take]; rfl) | (simp only [decide_eq_true_eq, decide_eq_false_iff_not, eq_iff_iff, iff_true, iff_false] at *; have w_id : ∀ {n : Int}, -9223372036854775808 ≤ n → n ≤ 9223372036854775807 → wrap64 n = n := fun h0 h1 => (by unfold wrap64; omega); rw [w_id (by omega) (by omega)]; rfl)) ?_; (with_reducible refine (le_Put.calls k (wrap64 (t162)) 4 t163 _ A3.out).mono ?_); rintro e w5 ⟨rfl, hb⟩; refine ⟨_, rfl, ?_⟩; have n0_ := Aside0.mk (below_step (by repeat (first | (with_reducible first | exact HB.out | apply below_alloc | apply pw_below_drewN | apply below_drew1) | exact HB.out)) hb); clear HB; have HB := n0_; clear n0_; (try clear hb); (try clear hb2); (try clear hk); (try clear hi)))
 go_ret
 exact ⟨by first | rfl | (simp [errW_none, errW_some] <;> rfl) | (simp [*, errW_none, errW_some] <;> rfl), by repeat (first | (with_reducible first | exact HB.out | apply below_alloc | apply pw_below_drewN | apply below_drew1) | exact HB.out)⟩

/-! ### mark_Seal: function 22 -/
def mark_Seal.j0 : Nat → Int → ByteArray → Bool → Option (ByteArray × Option Int)
 | 0, _, _, _ => none
 | k + 1, x0, x1, x7 => if x7 = true then (some ((⟨#[]⟩ : ByteArray), some 1)) else (if (x1.size : Int) > 504 then (some ((⟨#[]⟩ : ByteArray), some 10)) else ((mark_head.f k x0).bind fun t164 => (if t164.size + x1.size ≤ 9223372036854775807 then ((strings_Repeat.f (⟨#[0]⟩ : ByteArray) (wrap64 (504 - (x1.size : Int)))).bind fun t165 => (if (t164 ++ x1).size + t165.size ≤ 9223372036854775807 then ((mark_sumOf.f k ((t164 ++ x1) ++ t165)).bind fun t166 => (if ((t164 ++ x1) ++ t165).size + t166.size ≤ 9223372036854775807 then (some (((t164 ++ x1) ++ t165) ++ t166, none)) else (none))) else (none))) else (none))))
def mark_Seal.f (k : Nat) (a0 : Int) (a1 : ByteArray) : Option (ByteArray × Option Int) := if a0 < 1 then (mark_Seal.j0 k a0 a1 true) else (mark_Seal.j0 k a0 a1 (decide (a0 > 255)))
set_option maxRecDepth 100000 in
theorem mark_Seal.mono_l : ∀ k, (∀ y0 y1 y2, LeO (mark_Seal.j0 k y0 y1 y2) (mark_Seal.j0 (k + 1) y0 y1 y2))
 | 0 => fun _ _ _ r h => by first | (rw [mark_Seal.j0] at h; cases h) | simp [mark_Seal.j0] at h
 | k + 1 => by
  have ih0 := mark_Seal.mono_l k
  ·intro y0 y1 y2
   unfold mark_Seal.j0
   repeat' first
   | (with_reducible exact ih0 _ _ _)
   | (with_reducible exact mark_head.mono _ _)
   | (with_reducible exact mark_sumOf.mono _ _)
   | (with_reducible exact LeO.refl _)
   | (with_reducible exact LeO.none _)
   | (with_reducible refine LeO.ite ?_ ?_)
   | (with_reducible refine LeO.bind ?_ (fun _ => ?_))
   | exact ih0 _ _ _
   | exact mark_head.mono _ _
   | exact mark_sumOf.mono _ _
   | exact LeO.none _
   | refine LeO.ite ?_ ?_
   | refine LeO.bind ?_ (fun _ => ?_)
theorem mark_Seal.mono : ∀ a0 a1 k, LeO (mark_Seal.f k a0 a1) (mark_Seal.f (k + 1) a0 a1) := by
 intro a0 a1 k
 have ih0 := mark_Seal.mono_l k
 unfold mark_Seal.f
 repeat' first
   | (with_reducible exact ih0 _ _ _)
   | (with_reducible exact mark_head.mono _ _)
   | (with_reducible exact mark_sumOf.mono _ _)
   | (with_reducible exact LeO.refl _)
   | (with_reducible exact LeO.none _)
   | (with_reducible refine LeO.ite ?_ ?_)
   | (with_reducible refine LeO.bind ?_ (fun _ => ?_))
   | exact ih0 _ _ _
   | exact mark_head.mono _ _
   | exact mark_sumOf.mono _ _
   | exact LeO.none _
   | refine LeO.ite ?_ ?_
   | refine LeO.bind ?_ (fun _ => ?_)
set_option maxHeartbeats 8000000 in
set_option maxRecDepth 100000 in
theorem mark_Seal.calls (k : Nat) (a0 : Int) (a1 : ByteArray) (r1 : ByteArray) (r2 : Option Int) (w : World) (hL_ : Laid w) (h : mark_Seal.f k a0 a1 = some (r1, r2)) :
  Calls Tryz.prog 22 #[.int .i64 a0, .string a1] w fun e w' => e = .returned (.tuple #[.string r1, errW r2]) ∧ Below w.heap.size w w' := by
 have HL_ := Aside0.mk hL_
 clear hL_
 have hu33 := Tryz.underlying33
 have hu57 := Tryz.underlying57
 have HB := Aside0.mk (Below.refl w.heap.size w)
 have H : (if a0 < 1 then (mark_Seal.j0 k a0 a1 true) else (mark_Seal.j0 k a0 a1 (decide (a0 > 255)))) = some (r1, r2) := h
 clear h
 have HC3 := Aside0.mk H
 clear H
 go_enter Tryz.func22, Tryz.ntmps22
 go_upto_region 1 with (fail)
 go_cut [7] (fun v7 wc => ∃ (kq : Nat) (x7_2 : Bool), v7 = .bool x7_2 ∧ Aside0 (mark_Seal.j0 kq a0 a1 x7_2 = some (r1, r2)) ∧ Aside0 (kq ≤ k) ∧ Aside0 (Below w.heap.size w wc))
 case first =>
  have H := HC3.out
  clear HC3
  by_cases c4 : a0 < 1
  ·rw [if_pos c4] at H
   have c4b0 : decide (a0 < 1) = true := decide_eq_true c4
   clear c4
   (first | rw [c4b0] | (simp only [i64_w, i32_w]; rw [c4b0]) | skip)
   have H' := Aside0.mk H
   clear H
   go_wp2
   go_meet
   case rel => exact ⟨_, (true), (by first | rfl | (simp; done) | (simp [*]; done)), H', ⟨by first | omega | exact Nat.le_refl _⟩, ⟨by repeat (first | (with_reducible first | exact HB.out | apply below_alloc | apply pw_below_drewN | apply below_drew1) | exact HB.out)⟩⟩
  ·rw [if_neg c4] at H
   have c4b0 : decide (a0 < 1) = false := decide_eq_false c4
   clear c4
   (first | rw [c4b0] | (simp only [i64_w, i32_w]; rw [c4b0]) | skip)
   have H' := Aside0.mk H
   clear H
   go_wp2
   go_meet
   case rel => exact ⟨_, (decide (a0 > 255)), (by first | rfl | (simp; done) | (simp [*]; done)), H', ⟨by first | omega | exact Nat.le_refl _⟩, ⟨by repeat (first | (with_reducible first | exact HB.out | apply below_alloc | apply pw_below_drewN | apply below_drew1) | exact HB.out)⟩⟩
 case rest =>
  clear HC3
  try clear c2
  try clear p2
  try clear c4
  try clear c4b0
  obtain ⟨kq, x7_2, rfl, HA, HJ2, HB⟩ := hcut
  cases kq with
  | zero => exact absurd HA.out (by simp [mark_Seal.j0])
  | succ kj2 =>
   have H := HA.out
   clear HA
   simp only [mark_Seal.j0] at H
   by_cases c5 : x7_2 = true
   ·subst c5
    have H1 : (some ((⟨#[]⟩ : ByteArray), some 1)) = some (r1, r2) := by rw [if_pos rfl] at H; exact H
    clear H
    have H := H1
    clear H1
    simp only [Option.some.injEq, Prod.mk.injEq] at H
    obtain ⟨rfl, rfl⟩ := H
    go_wp2
    go_ret2
    exact ⟨by first | rfl | (simp [errW_none, errW_some] <;> rfl) | (simp [*, errW_none, errW_some] <;> rfl), by repeat (first | (with_reducible first | exact HB.out | apply below_alloc | apply pw_below_drewN | apply below_drew1) | exact HB.out)⟩
   ·replace c5 := Bool.eq_false_iff.mpr c5
    subst c5
    have H1 : (if (a1.size : Int) > 504 then (some ((⟨#[]⟩ : ByteArray), some 10)) else ((mark_head.f kj2 a0).bind fun t164 => (if t164.size + a1.size ≤ 9223372036854775807 then ((strings_Repeat.f (⟨#[0]⟩ : ByteArray) (wrap64 (504 - (a1.size : Int)))).bind fun t165 => (if (t164 ++ a1).size + t165.size ≤ 9223372036854775807 then ((mark_sumOf.f kj2 ((t164 ++ a1) ++ t165)).bind fun t166 => (if ((t164 ++ a1) ++ t165).size + t166.size ≤ 9223372036854775807 then (some (((t164 ++ a1) ++ t165) ++ t166, none)) else (none))) else (none))) else (none)))) = some (r1, r2) := by rw [if_neg (show ¬ (false = true) by decide)] at H; exact H
    clear H
    have H := H1
    clear H1
    by_cases c6 : (a1.size : Int) > 504
    ·rw [if_pos c6] at H
     have c6b0 : decide (504 < (a1.size : Int)) = true := decide_eq_true c6
     have c6b1 : decide (504 < a1.size) = true := decide_eq_true (by omega)
     clear c6
     simp only [Option.some.injEq, Prod.mk.injEq] at H
     obtain ⟨rfl, rfl⟩ := H
     go_wp2
     go_ret2
     exact ⟨by first | rfl | (simp [errW_none, errW_some] <;> rfl) | (simp [*, errW_none, errW_some] <;> rfl), by repeat (first | (with_reducible first | exact HB.out | apply below_alloc | apply pw_below_drewN | apply below_drew1) | exact HB.out)⟩
    ·rw [if_neg c6] at H
     have c6b0 : decide (504 < (a1.size : Int)) = false := decide_eq_false c6
     have c6b1 : decide (504 < a1.size) = false := decide_eq_false (by omega)
     clear c6
     replace H := Option.bind_eq_some_iff.mp H
     obtain ⟨t164, A70, H⟩ := H
     replace H : (if t164.size + a1.size ≤ 9223372036854775807 then ((strings_Repeat.f (⟨#[0]⟩ : ByteArray) (wrap64 (504 - (a1.size : Int)))).bind fun t165 => (if (t164 ++ a1).size + t165.size ≤ 9223372036854775807 then ((mark_sumOf.f kj2 ((t164 ++ a1) ++ t165)).bind fun t166 => (if ((t164 ++ a1) ++ t165).size + t166.size ≤ 9223372036854775807 then (some (((t164 ++ a1) ++ t165) ++ t166, none)) else (none))) else (none))) else (none)) = some (r1, r2) := H
     have A7 := Aside0.mk A70
     clear A70
     by_cases c8 : t164.size + a1.size ≤ 9223372036854775807
     ·rw [if_pos c8] at H
      have c8b0 := eq_true c8
      try (have c8sa0 := c8b0; simp only [ByteArray.size_append, Int.natCast_add] at c8sa0)
      have c8b1 : decide (t164.size + a1.size ≤ 9223372036854775807) = true := decide_eq_true c8
      try have c8b2 : (9223372036854775807 < t164.size + a1.size) = False := eq_false (Nat.not_lt.2 c8)
      replace H := Option.bind_eq_some_iff.mp H
      obtain ⟨t165, A90, H⟩ := H
      replace H : (if (t164 ++ a1).size + t165.size ≤ 9223372036854775807 then ((mark_sumOf.f kj2 ((t164 ++ a1) ++ t165)).bind fun t166 => (if ((t164 ++ a1) ++ t165).size + t166.size ≤ 9223372036854775807 then (some (((t164 ++ a1) ++ t165) ++ t166, none)) else (none))) else (none)) = some (r1, r2) := H
      have A9 := Aside0.mk A90
      clear A90
      by_cases c10 : (t164 ++ a1).size + t165.size ≤ 9223372036854775807
      ·rw [if_pos c10] at H
       have c10b0 := eq_true c10
       try (have c10sa0 := c10b0; simp only [ByteArray.size_append, Int.natCast_add] at c10sa0)
       have c10b1 : decide ((t164 ++ a1).size + t165.size ≤ 9223372036854775807) = true := decide_eq_true c10
       try (have c10sa1 := c10b1; simp only [ByteArray.size_append, Int.natCast_add] at c10sa1)
       try have c10b2 : (9223372036854775807 < (t164 ++ a1).size + t165.size) = False := eq_false (Nat.not_lt.2 c10)
       try have c10sd0 := eq_true (show t164.size + a1.size + t165.size ≤ 9223372036854775807 from by have h_ := c10; simp only [ByteArray.size_append] at h_; omega)
       try have c10sd1 : decide (t164.size + a1.size + t165.size ≤ 9223372036854775807) = true := decide_eq_true (by have h_ := c10; simp only [ByteArray.size_append] at h_; omega)
       try have c10sd2 : (9223372036854775807 < t164.size + a1.size + t165.size) = False := eq_false (by have h_ := c10; simp only [ByteArray.size_append] at h_; omega)
       replace H := Option.bind_eq_some_iff.mp H
       obtain ⟨t166, A110, H⟩ := H
       replace H : (if ((t164 ++ a1) ++ t165).size + t166.size ≤ 9223372036854775807 then (some (((t164 ++ a1) ++ t165) ++ t166, none)) else (none)) = some (r1, r2) := H
       have A11 := Aside0.mk A110
       clear A110
       by_cases c12 : ((t164 ++ a1) ++ t165).size + t166.size ≤ 9223372036854775807
       ·rw [if_pos c12] at H
        have c12b0 := eq_true c12
        try (have c12sa0 := c12b0; simp only [ByteArray.size_append, Int.natCast_add] at c12sa0)
        have c12b1 : decide (((t164 ++ a1) ++ t165).size + t166.size ≤ 9223372036854775807) = true := decide_eq_true c12
        try (have c12sa1 := c12b1; simp only [ByteArray.size_append, Int.natCast_add] at c12sa1)
        try have c12b2 : (9223372036854775807 < ((t164 ++ a1) ++ t165).size + t166.size) = False := eq_false (Nat.not_lt.2 c12)
        try have c12sd0 := eq_true (show t164.size + a1.size + t165.size + t166.size ≤ 9223372036854775807 from by have h_ := c12; simp only [ByteArray.size_append] at h_; omega)
        try have c12sd1 : decide (t164.size + a1.size + t165.size + t166.size ≤ 9223372036854775807) = true := decide_eq_true (by have h_ := c12; simp only [ByteArray.size_append] at h_; omega)
        try have c12sd2 : (9223372036854775807 < t164.size + a1.size + t165.size + t166.size) = False := eq_false (by have h_ := c12; simp only [ByteArray.size_append] at h_; omega)
        simp only [Option.some.injEq, Prod.mk.injEq] at H
        obtain ⟨rfl, rfl⟩ := H
        go_wp2_with (first | ((with_reducible refine gate_callee (f := 42) rfl ?_); refine goesL_ (some 21) rfl rfl Tryz.func42 (by kernel_rfl) rfl #[.int .i64 a0] rfl (by (try simp only [List.map_toArray, List.map_cons, List.map_nil]); first | done | rfl | (simp only [List.length_drop, List.length_take]; rfl) | (simp only [decide_eq_true_eq, decide_eq_false_iff_not, eq_iff_iff, iff_true, iff_false] at *; have w_id : ∀ {n : Int}, -9223372036854775808 ≤ n → n ≤ 9223372036854775807 → wrap64 n = n := fun h0 h1 => (by unfold wrap64; omega); rw [w_id (by omega) (by omega)]; rfl)) ?_; (with_reducible refine (mark_head.calls kj2 a0 t164 _ A7.out).mono ?_); rintro e w13 ⟨rfl, hb⟩; refine ⟨_, rfl, ?_⟩; have n0_ := Aside0.mk (below_step (by repeat (first | (with_reducible first | exact HB.out | apply below_alloc | apply pw_below_drewN | apply below_drew1) | exact HB.out)) hb); clear HB; have HB := n0_; clear n0_; (try clear hb); (try clear hb2); (try clear hk); (try clear hi)) | ((with_reducible refine gate_callee (f := 43) rfl ?_); refine goesL_ (some 27) rfl rfl Tryz.func43 (by kernel_rfl) rfl #[.string (⟨#[0]⟩ : ByteArray), .int .i64 (wrap64 (504 - (a1.size : Int)))] rfl (by (try simp only [List.map_toArray, List.map_cons, List.map_nil]); first | done | rfl | (simp only [List.length_drop, List.length_take]; rfl) | (simp only [decide_eq_true_eq, decide_eq_false_iff_not, eq_iff_iff, iff_true, iff_false] at *; have w_id : ∀ {n : Int}, -9223372036854775808 ≤ n → n ≤ 9223372036854775807 → wrap64 n = n := fun h0 h1 => (by unfold wrap64; omega); rw [w_id (by omega) (by omega)]; rfl)) ?_; (with_reducible refine (strings_Repeat.calls (⟨#[0]⟩ : ByteArray) (wrap64 (504 - (a1.size : Int))) t165 _ A9.out).mono ?_); rintro e w14 ⟨rfl, hb⟩; refine ⟨_, rfl, ?_⟩; have n0_ := Aside0.mk (below_step (by repeat (first | (with_reducible first | exact HB.out | apply below_alloc | apply pw_below_drewN | apply below_drew1) | exact HB.out)) hb); clear HB; have HB := n0_; clear n0_; (try clear hb); (try clear hb2); (try clear hk); (try clear hi)) | ((with_reducible refine gate_callee (f := 44) rfl ?_); refine goesL_ (some 31) rfl rfl Tryz.func44 (by kernel_rfl) rfl #[.string ((t164 ++ a1) ++ t165)] rfl (by (try simp only [List.map_toArray, List.map_cons, List.map_nil]); first | done | rfl | (simp only [List.length_drop, List.length_take]; rfl) | (simp only [decide_eq_true_eq, decide_eq_false_iff_not, eq_iff_iff, iff_true, iff_false] at *; have w_id : ∀ {n : Int}, -9223372036854775808 ≤ n → n ≤ 9223372036854775807 → wrap64 n = n := fun h0 h1 => (by unfold wrap64; omega); rw [w_id (by omega) (by omega)]; rfl)) ?_; (with_reducible refine (mark_sumOf.calls kj2 ((t164 ++ a1) ++ t165) t166 _ (Laid.below HL_.out (by repeat (first | (with_reducible first | exact HB.out | apply below_alloc | apply pw_below_drewN | apply below_drew1) | exact HB.out))) A11.out).mono ?_); rintro e w15 ⟨rfl, hb⟩; refine ⟨_, rfl, ?_⟩; have n0_ := Aside0.mk (below_step (by repeat (first | (with_reducible first | exact HB.out | apply below_alloc | apply pw_below_drewN | apply below_drew1) | exact HB.out)) hb); clear HB; have HB := n0_; clear n0_; (try clear hb); (try clear hb2); (try clear hk); (try clear hi)))
        go_ret2
        exact ⟨by first | rfl | (simp [errW_none, errW_some] <;> rfl) | (simp [*, errW_none, errW_some] <;> rfl), by repeat (first | (with_reducible first | exact HB.out | apply below_alloc | apply pw_below_drewN | apply below_drew1) | exact HB.out)⟩
       ·rw [if_neg c12] at H
        exact absurd H (by simp)
      ·rw [if_neg c10] at H
       exact absurd H (by simp)
     ·rw [if_neg c8] at H
      exact absurd H (by simp)

end Go.Proofs.YtmncfcebjohloaaGreatDoor.VInodeGets
