/- Contracts of functions of this seat: each call comes to what its Lean function computes; no condition beyond what each theorem states. Printed by a program of this session's own laid over the kit's printer. -/
import Derived.Test.YtmncfcebjohloaaGreatDoorVInodeGetsx0
import Derived.Test.YtmncfcebjohloaaGreatDoorVInodeGetsx9
namespace Go.Proofs.YtmncfcebjohloaaGreatDoor.VInodeGets
open Go.RowKit Go.Proofs.YtmncfcebjohloaaGreatDoorW.PrintWords Go.Proofs.YtmncfcebjohloaaGreatDoorW.PrintLast Go.Proofs.YtmncfcebjohloaaGreatDoorW.PrintMore
attribute [local go_sem] max2_int min2_int max_two min_two max_three min_three max_four min_four   -- for this text's walks alone
set_option linter.unusedVariables false
set_option linter.unusedSimpArgs false

/-! ### mark_head: function 42 -/
def mark_head.f (k : Nat) (a0 : Int) : Option (ByteArray) := (le_Put.f k a0 1).bind fun t161 => (if 2 + t161.size ≤ 9223372036854775807 then (if ((⟨#[80, 72]⟩ : ByteArray) ++ t161).size + 1 ≤ 9223372036854775807 then (some (((⟨#[80, 72]⟩ : ByteArray) ++ t161) ++ (⟨#[0]⟩ : ByteArray))) else (none)) else (none))
theorem mark_head.mono : ∀ a0 k, LeO (mark_head.f k a0) (mark_head.f (k + 1) a0) := by
  intro a0 k
  unfold mark_head.f
  repeat' first
      | (with_reducible exact le_Put.mono _ _ _)
      | (with_reducible exact LeO.refl _)
      | (with_reducible exact LeO.none _)
      | (with_reducible refine LeO.ite ?_ ?_)
      | (with_reducible refine LeO.bind ?_ (fun _ => ?_))
      | exact le_Put.mono _ _ _
      | exact LeO.none _
      | refine LeO.ite ?_ ?_
      | refine LeO.bind ?_ (fun _ => ?_)
set_option maxHeartbeats 8000000 in
set_option maxRecDepth 100000 in
theorem mark_head.calls (k : Nat) (a0 : Int) (r : ByteArray) (w : World) (h : mark_head.f k a0 = some r) :
    Calls Tryz.prog 42 #[.int .i64 a0] w fun e w' => e = .returned (.string r) ∧ Below w.heap.size w w' := by
  have HB := Aside0.mk (Below.refl w.heap.size w)
  have H : ((le_Put.f k a0 1).bind fun t161 => (if 2 + t161.size ≤ 9223372036854775807 then (if ((⟨#[80, 72]⟩ : ByteArray) ++ t161).size + 1 ≤ 9223372036854775807 then (some (((⟨#[80, 72]⟩ : ByteArray) ++ t161) ++ (⟨#[0]⟩ : ByteArray))) else (none)) else (none))) = some r := h
  clear h
  replace H := Option.bind_eq_some_iff.mp H
  obtain ⟨t161, A20, H⟩ := H
  replace H : (if 2 + t161.size ≤ 9223372036854775807 then (if ((⟨#[80, 72]⟩ : ByteArray) ++ t161).size + 1 ≤ 9223372036854775807 then (some (((⟨#[80, 72]⟩ : ByteArray) ++ t161) ++ (⟨#[0]⟩ : ByteArray))) else (none)) else (none)) = some r := H
  have A2 := Aside0.mk A20
  clear A20
  by_cases c3 : 2 + t161.size ≤ 9223372036854775807
  · rw [if_pos c3] at H
    have c3b0 := eq_true c3
    try (have c3sa0 := c3b0; simp only [ByteArray.size_append, Int.natCast_add] at c3sa0)
    have c3b1 : decide (2 + t161.size ≤ 9223372036854775807) = true := decide_eq_true c3
    try have c3b2 : (9223372036854775807 < 2 + t161.size) = False := eq_false (Nat.not_lt.2 c3)
    by_cases c4 : ((⟨#[80, 72]⟩ : ByteArray) ++ t161).size + 1 ≤ 9223372036854775807
    · rw [if_pos c4] at H
      have c4b0 := eq_true c4
      try (have c4sa0 := c4b0; simp only [ByteArray.size_append, Int.natCast_add] at c4sa0)
      have c4b1 : decide (((⟨#[80, 72]⟩ : ByteArray) ++ t161).size + 1 ≤ 9223372036854775807) = true := decide_eq_true c4
      try (have c4sa1 := c4b1; simp only [ByteArray.size_append, Int.natCast_add] at c4sa1)
      try have c4b2 : (9223372036854775807 < ((⟨#[80, 72]⟩ : ByteArray) ++ t161).size + 1) = False := eq_false (Nat.not_lt.2 c4)
      try have c4sd0 := eq_true (show 2 + t161.size + 1 ≤ 9223372036854775807 from by have h_ := c4; simp only [ByteArray.size_append] at h_; have e0_ : (⟨#[80, 72]⟩ : ByteArray).size = 2 := rfl; omega)
      try have c4sd1 : decide (2 + t161.size + 1 ≤ 9223372036854775807) = true := decide_eq_true (by have h_ := c4; simp only [ByteArray.size_append] at h_; have e0_ : (⟨#[80, 72]⟩ : ByteArray).size = 2 := rfl; omega)
      try have c4sd2 : (9223372036854775807 < 2 + t161.size + 1) = False := eq_false (by have h_ := c4; simp only [ByteArray.size_append] at h_; have e0_ : (⟨#[80, 72]⟩ : ByteArray).size = 2 := rfl; omega)
      obtain rfl := Option.some.inj H
      go_enter Tryz.func42, Tryz.ntmps42
      go_wp2_with (first | ((with_reducible refine gate_callee (f := 39) rfl ?_); refine goesL_ (some 4) rfl rfl Tryz.func39 (by kernel_rfl) rfl #[.int .i64 a0, .int .i64 1] rfl (by (try simp only [List.map_toArray, List.map_cons, List.map_nil]); first | done | rfl | (simp only [List.length_drop, List.length_take]; rfl) | (simp only [decide_eq_true_eq, decide_eq_false_iff_not, eq_iff_iff, iff_true, iff_false] at *; have w_id : ∀ {n : Int}, -9223372036854775808 ≤ n → n ≤ 9223372036854775807 → wrap64 n = n := fun h0 h1 => (by unfold wrap64; omega); rw [w_id (by omega) (by omega)]; rfl)) ?_; (with_reducible refine (le_Put.calls k a0 1 t161 _ A2.out).mono ?_); rintro e w5 ⟨rfl, hb⟩; refine ⟨_, rfl, ?_⟩; have n0_ := Aside0.mk (below_step (by repeat (first | (with_reducible first | exact HB.out | apply below_alloc | apply pw_below_drewN | apply below_drew1) | exact HB.out)) hb); clear HB; have HB := n0_; clear n0_; (try clear hb); (try clear hb2); (try clear hk); (try clear hi)))
      go_ret
      exact ⟨by first | rfl | (simp [errW_none, errW_some] <;> rfl) | (simp [*, errW_none, errW_some] <;> rfl), by repeat (first | (with_reducible first | exact HB.out | apply below_alloc | apply pw_below_drewN | apply below_drew1) | exact HB.out)⟩
    · rw [if_neg c4] at H
      exact absurd H (by simp)
  · rw [if_neg c3] at H
    exact absurd H (by simp)

end Go.Proofs.YtmncfcebjohloaaGreatDoor.VInodeGets
