/- Contracts of functions of this seat: each call comes to what its Lean function computes; no condition beyond what each theorem states. Printed by a program of this session's own laid over the kit's printer. -/
import Derived.Test.YtdlmgjpnlgdpkaaDoorVMarkSealsx0
import Derived.Test.YtdlmgjpnlgdpkaaDoorVMarkSealsx1
import Derived.Test.YtdlmgjpnlgdpkaaDoorVMarkSealsx6
import Derived.Test.YtdlmgjpnlgdpkaaDoorVMarkSealsx7
import Derived.Test.YtdlmgjpnlgdpkaaDoorVMarkSealsx8
import Derived.Test.YtdlmgjpnlgdpkaaDoorVMarkSealsx10
namespace Go.Proofs.YtdlmgjpnlgdpkaaDoor.VMarkSeals
open Go.RowKit Go.Proofs.YtdlmgjpnlgdpkaaDoorW.PrintWords Go.Proofs.YtdlmgjpnlgdpkaaDoorW.PrintLast Go.Proofs.YtdlmgjpnlgdpkaaDoorW.PrintMore
attribute [local go_sem] max2_int min2_int max_two min_two max_three min_three max_four min_four   -- for this text's walks alone
set_option linter.unusedVariables false
set_option linter.unusedSimpArgs false

/-! ### posthorselaw03_MarkSeals: function 6 -/
def posthorselaw03_MarkSeals.j0 : Nat → Int → ByteArray → ByteArray → Int → Bool → Option (Bool)
  | 0, _, _, _, _, _ => none
  | k + 1, x0, x1, x5, x8, x38 => if x38 = true then (some false) else (if x8 = 0 then ((mark_Open.f k x0 x5).bind fun bt139 => ((mark_Open.f k (wrap64 ((Int.tmod x0 255) + 1)) x5).bind fun bt141 => (if bt139.2.isNone = true then (if 0 ≤ (wrap64 (504 - (x1.size : Int))) then (if (wrap64 (504 - (x1.size : Int)) : Int).toNat ≤ 281474976710656 then ((some (List.replicate (wrap64 (504 - (x1.size : Int)) : Int).toNat 0 : List Int)).bind fun y144 => (if x1.size + (strOfNums y144).size ≤ 9223372036854775807 then (if bt139.1.toList = (x1 ++ (strOfNums y144)).toList then ((mark_Kind.f k x5).bind fun t147 => (if t147 = x0 then ((fault_Number.f bt141.2).bind fun t148 => (some (t148 == 4))) else (some false))) else (some false)) else (none))) else (none)) else (none)) else (some false)))) else ((mark_Kind.f k x5).bind fun t138 => (some (t138 == 0))))
def posthorselaw03_MarkSeals.f (k : Nat) (a0 : Int) (a1 : ByteArray) : Option (Bool) := (posthorselaw03_speaks.f k).bind fun t132 => (if t132 = true then (if (a1.size : Int) > 600 then (some true) else ((mark_Seal.f k a0 a1).bind fun bt133 => ((posthorseref03_Seal.f k a0 a1).bind fun bt135 => (if bt133.1.toList = bt135.1.toList then ((fault_Number.f bt133.2).bind fun t137 => (posthorselaw03_MarkSeals.j0 k a0 a1 bt133.1 bt135.2 (t137 != bt135.2))) else (posthorselaw03_MarkSeals.j0 k a0 a1 bt133.1 bt135.2 true))))) else (some false))
set_option maxRecDepth 100000 in
theorem posthorselaw03_MarkSeals.mono_l : ∀ k, (∀ y0 y1 y2 y3 y4, LeO (posthorselaw03_MarkSeals.j0 k y0 y1 y2 y3 y4) (posthorselaw03_MarkSeals.j0 (k + 1) y0 y1 y2 y3 y4))
  | 0 => fun _ _ _ _ _ r h => by first | (rw [posthorselaw03_MarkSeals.j0] at h; cases h) | simp [posthorselaw03_MarkSeals.j0] at h
  | k + 1 => by
    have ih0 := posthorselaw03_MarkSeals.mono_l k
    · intro y0 y1 y2 y3 y4
      unfold posthorselaw03_MarkSeals.j0
      repeat' first
      | (with_reducible exact ih0 _ _ _ _ _)
      | (with_reducible exact mark_Kind.mono _ _)
      | (with_reducible exact mark_Open.mono _ _ _)
      | (with_reducible exact mark_Seal.mono _ _ _)
      | (with_reducible exact posthorselaw03_speaks.mono _)
      | (with_reducible exact posthorseref03_Seal.mono _ _ _)
      | (with_reducible exact LeO.refl _)
      | (with_reducible exact LeO.none _)
      | (with_reducible refine LeO.ite ?_ ?_)
      | (with_reducible refine LeO.bind ?_ (fun _ => ?_))
      | exact ih0 _ _ _ _ _
      | exact mark_Kind.mono _ _
      | exact mark_Open.mono _ _ _
      | exact mark_Seal.mono _ _ _
      | exact posthorselaw03_speaks.mono _
      | exact posthorseref03_Seal.mono _ _ _
      | exact LeO.none _
      | refine LeO.ite ?_ ?_
      | refine LeO.bind ?_ (fun _ => ?_)
theorem posthorselaw03_MarkSeals.mono : ∀ a0 a1 k, LeO (posthorselaw03_MarkSeals.f k a0 a1) (posthorselaw03_MarkSeals.f (k + 1) a0 a1) := by
  intro a0 a1 k
  have ih0 := posthorselaw03_MarkSeals.mono_l k
  unfold posthorselaw03_MarkSeals.f
  repeat' first
      | (with_reducible exact ih0 _ _ _ _ _)
      | (with_reducible exact mark_Kind.mono _ _)
      | (with_reducible exact mark_Open.mono _ _ _)
      | (with_reducible exact mark_Seal.mono _ _ _)
      | (with_reducible exact posthorselaw03_speaks.mono _)
      | (with_reducible exact posthorseref03_Seal.mono _ _ _)
      | (with_reducible exact LeO.refl _)
      | (with_reducible exact LeO.none _)
      | (with_reducible refine LeO.ite ?_ ?_)
      | (with_reducible refine LeO.bind ?_ (fun _ => ?_))
      | exact ih0 _ _ _ _ _
      | exact mark_Kind.mono _ _
      | exact mark_Open.mono _ _ _
      | exact mark_Seal.mono _ _ _
      | exact posthorselaw03_speaks.mono _
      | exact posthorseref03_Seal.mono _ _ _
      | exact LeO.none _
      | refine LeO.ite ?_ ?_
      | refine LeO.bind ?_ (fun _ => ?_)
set_option maxHeartbeats 8000000 in
set_option maxRecDepth 100000 in
theorem posthorselaw03_MarkSeals.calls (k : Nat) (a0 : Int) (a1 : ByteArray) (r : Bool) (w : World) (hL_ : Laid w) (h : posthorselaw03_MarkSeals.f k a0 a1 = some r) :
    Calls Tryd.prog 6 #[.int .i64 a0, .string a1] w fun e w' => e = .returned (.bool r) ∧ Below w.heap.size w w' := by
  have HL_ := Aside0.mk hL_
  clear hL_
  have hu28 := Tryd.underlying28
  have hu37 := Tryd.underlying37
  have HB := Aside0.mk (Below.refl w.heap.size w)
  have H : ((posthorselaw03_speaks.f k).bind fun t132 => (if t132 = true then (if (a1.size : Int) > 600 then (some true) else ((mark_Seal.f k a0 a1).bind fun bt133 => ((posthorseref03_Seal.f k a0 a1).bind fun bt135 => (if bt133.1.toList = bt135.1.toList then ((fault_Number.f bt133.2).bind fun t137 => (posthorselaw03_MarkSeals.j0 k a0 a1 bt133.1 bt135.2 (t137 != bt135.2))) else (posthorselaw03_MarkSeals.j0 k a0 a1 bt133.1 bt135.2 true))))) else (some false))) = some r := h
  clear h
  replace H := Option.bind_eq_some_iff.mp H
  obtain ⟨t132, A30, H⟩ := H
  replace H : (if t132 = true then (if (a1.size : Int) > 600 then (some true) else ((mark_Seal.f k a0 a1).bind fun bt133 => ((posthorseref03_Seal.f k a0 a1).bind fun bt135 => (if bt133.1.toList = bt135.1.toList then ((fault_Number.f bt133.2).bind fun t137 => (posthorselaw03_MarkSeals.j0 k a0 a1 bt133.1 bt135.2 (t137 != bt135.2))) else (posthorselaw03_MarkSeals.j0 k a0 a1 bt133.1 bt135.2 true))))) else (some false)) = some r := H
  have A3 := Aside0.mk A30
  clear A30
  by_cases c4 : t132 = true
  · subst c4
    have H1 : (if (a1.size : Int) > 600 then (some true) else ((mark_Seal.f k a0 a1).bind fun bt133 => ((posthorseref03_Seal.f k a0 a1).bind fun bt135 => (if bt133.1.toList = bt135.1.toList then ((fault_Number.f bt133.2).bind fun t137 => (posthorselaw03_MarkSeals.j0 k a0 a1 bt133.1 bt135.2 (t137 != bt135.2))) else (posthorselaw03_MarkSeals.j0 k a0 a1 bt133.1 bt135.2 true))))) = some r := by rw [if_pos rfl] at H; exact H
    clear H
    have H := H1
    clear H1
    by_cases c5 : (a1.size : Int) > 600
    · rw [if_pos c5] at H
      have c5b0 : decide (600 < (a1.size : Int)) = true := decide_eq_true c5
      have c5b1 : decide (600 < a1.size) = true := decide_eq_true (by omega)
      clear c5
      obtain rfl := Option.some.inj H
      go_enter Tryd.func6, Tryd.ntmps6
      go_wp2_with (first | ((with_reducible refine gate_callee (f := 11) rfl ?_); refine goesL_ (some 13) rfl rfl Tryd.func11 (by kernel_rfl) rfl #[] rfl (by (try simp only [List.map_toArray, List.map_cons, List.map_nil]); first | done | rfl | (simp only [List.length_drop, List.length_take]; rfl) | (simp only [decide_eq_true_eq, decide_eq_false_iff_not, eq_iff_iff, iff_true, iff_false] at *; have w_id : ∀ {n : Int}, -9223372036854775808 ≤ n → n ≤ 9223372036854775807 → wrap64 n = n := fun h0 h1 => (by unfold wrap64; omega); rw [w_id (by omega) (by omega)]; rfl)) ?_; (with_reducible refine (posthorselaw03_speaks.calls k  true _ (Laid.below HL_.out (by repeat (first | (with_reducible first | exact HB.out | apply below_alloc | apply pw_below_drewN | apply below_drew1) | exact HB.out))) A3.out).mono ?_); rintro e w6 ⟨rfl, hb⟩; refine ⟨_, rfl, ?_⟩; have n0_ := Aside0.mk (below_step (by repeat (first | (with_reducible first | exact HB.out | apply below_alloc | apply pw_below_drewN | apply below_drew1) | exact HB.out)) hb); clear HB; have HB := n0_; clear n0_; (try clear hb); (try clear hb2); (try clear hk); (try clear hi)))
      go_ret
      exact ⟨by first | rfl | (simp [errW_none, errW_some] <;> rfl) | (simp [*, errW_none, errW_some] <;> rfl), by repeat (first | (with_reducible first | exact HB.out | apply below_alloc | apply pw_below_drewN | apply below_drew1) | exact HB.out)⟩
    · rw [if_neg c5] at H
      have c5b0 : decide (600 < (a1.size : Int)) = false := decide_eq_false c5
      have c5b1 : decide (600 < a1.size) = false := decide_eq_false (by omega)
      clear c5
      replace H := Option.bind_eq_some_iff.mp H
      obtain ⟨⟨t133, t134⟩, A70, H⟩ := H
      replace H : ((posthorseref03_Seal.f k a0 a1).bind fun bt135 => (if t133.toList = bt135.1.toList then ((fault_Number.f t134).bind fun t137 => (posthorselaw03_MarkSeals.j0 k a0 a1 t133 bt135.2 (t137 != bt135.2))) else (posthorselaw03_MarkSeals.j0 k a0 a1 t133 bt135.2 true))) = some r := H
      have A7 := Aside0.mk A70
      clear A70
      replace H := Option.bind_eq_some_iff.mp H
      obtain ⟨⟨t135, t136⟩, A80, H⟩ := H
      replace H : (if t133.toList = t135.toList then ((fault_Number.f t134).bind fun t137 => (posthorselaw03_MarkSeals.j0 k a0 a1 t133 t136 (t137 != t136))) else (posthorselaw03_MarkSeals.j0 k a0 a1 t133 t136 true)) = some r := H
      have A8 := Aside0.mk A80
      clear A80
      have HC9 := Aside0.mk H
      clear H
      go_enter Tryd.func6, Tryd.ntmps6
      go_upto_region 7 with (first | ((with_reducible refine gate_callee (f := 11) rfl ?_); refine goesL_ (some 13) rfl rfl Tryd.func11 (by kernel_rfl) rfl #[] rfl (by (try simp only [List.map_toArray, List.map_cons, List.map_nil]); first | done | rfl | (simp only [List.length_drop, List.length_take]; rfl) | (simp only [decide_eq_true_eq, decide_eq_false_iff_not, eq_iff_iff, iff_true, iff_false] at *; have w_id : ∀ {n : Int}, -9223372036854775808 ≤ n → n ≤ 9223372036854775807 → wrap64 n = n := fun h0 h1 => (by unfold wrap64; omega); rw [w_id (by omega) (by omega)]; rfl)) ?_; (with_reducible refine (posthorselaw03_speaks.calls k  true _ (Laid.below HL_.out (by repeat (first | (with_reducible first | exact HB.out | apply below_alloc | apply pw_below_drewN | apply below_drew1) | exact HB.out))) A3.out).mono ?_); rintro e w10 ⟨rfl, hb⟩; refine ⟨_, rfl, ?_⟩; have n0_ := Aside0.mk (below_step (by repeat (first | (with_reducible first | exact HB.out | apply below_alloc | apply pw_below_drewN | apply below_drew1) | exact HB.out)) hb); clear HB; have HB := n0_; clear n0_; (try clear hb); (try clear hb2); (try clear hk); (try clear hi)) | ((with_reducible refine gate_callee (f := 14) rfl ?_); refine goesL_ (some 21) rfl rfl Tryd.func14 (by kernel_rfl) rfl #[.int .i64 a0, .string a1] rfl (by (try simp only [List.map_toArray, List.map_cons, List.map_nil]); first | done | rfl | (simp only [List.length_drop, List.length_take]; rfl) | (simp only [decide_eq_true_eq, decide_eq_false_iff_not, eq_iff_iff, iff_true, iff_false] at *; have w_id : ∀ {n : Int}, -9223372036854775808 ≤ n → n ≤ 9223372036854775807 → wrap64 n = n := fun h0 h1 => (by unfold wrap64; omega); rw [w_id (by omega) (by omega)]; rfl)) ?_; (with_reducible refine (mark_Seal.calls k a0 a1 t133 t134 _ (Laid.below HL_.out (by repeat (first | (with_reducible first | exact HB.out | apply below_alloc | apply pw_below_drewN | apply below_drew1) | exact HB.out))) A7.out).mono ?_); rintro e w11 ⟨rfl, hb⟩; refine ⟨_, rfl, ?_⟩; have n0_ := Aside0.mk (below_step (by repeat (first | (with_reducible first | exact HB.out | apply below_alloc | apply pw_below_drewN | apply below_drew1) | exact HB.out)) hb); clear HB; have HB := n0_; clear n0_; (try clear hb); (try clear hb2); (try clear hk); (try clear hi); (try simp only [errW_none, errW_some])) | ((with_reducible refine gate_callee (f := 17) rfl ?_); refine goesL_ (some 27) rfl rfl Tryd.func17 (by kernel_rfl) rfl #[.int .i64 a0, .string a1] rfl (by (try simp only [List.map_toArray, List.map_cons, List.map_nil]); first | done | rfl | (simp only [List.length_drop, List.length_take]; rfl) | (simp only [decide_eq_true_eq, decide_eq_false_iff_not, eq_iff_iff, iff_true, iff_false] at *; have w_id : ∀ {n : Int}, -9223372036854775808 ≤ n → n ≤ 9223372036854775807 → wrap64 n = n := fun h0 h1 => (by unfold wrap64; omega); rw [w_id (by omega) (by omega)]; rfl)) ?_; (with_reducible refine (posthorseref03_Seal.calls k a0 a1 t135 t136 _ A8.out).mono ?_); rintro e w12 ⟨rfl, hb⟩; refine ⟨_, rfl, ?_⟩; have n0_ := Aside0.mk (below_step (by repeat (first | (with_reducible first | exact HB.out | apply below_alloc | apply pw_below_drewN | apply below_drew1) | exact HB.out)) hb); clear HB; have HB := n0_; clear n0_; (try clear hb); (try clear hb2); (try clear hk); (try clear hi)))
      (try simp only [Act.put, List.setIfInBounds_toArray, List.set_cons_zero, List.set_cons_succ])
      go_cut [38] (fun v38 wc => ∃ (kq : Nat) (x38_8 : Bool), v38 = .bool x38_8 ∧ Aside0 (posthorselaw03_MarkSeals.j0 kq a0 a1 t133 t136 x38_8 = some r) ∧ Aside0 (kq ≤ k) ∧ Aside0 (Below w.heap.size w wc))
      case first =>
        have H := HC9.out
        clear HC9
        by_cases c13 : t133.toList = t135.toList
        · rw [if_pos c13] at H
          have c13b0 : (t133.toList == t135.toList) = true := beq_iff_eq.mpr c13
          have c13b1 : (t133.toList != t135.toList) = false := bne_eq_false_iff_eq.mpr c13
          clear c13
          (first | rw [c13b0] | (simp only [i64_w, i32_w]; rw [c13b0]) | skip)
          replace H := Option.bind_eq_some_iff.mp H
          obtain ⟨t137, A140, H⟩ := H
          replace H : (posthorselaw03_MarkSeals.j0 k a0 a1 t133 t136 (t137 != t136)) = some r := H
          have A14 := Aside0.mk A140
          clear A140
          have H' := Aside0.mk H
          clear H
          have CA14 := fun W hL_ => fault_Number.calls t134 t137 W hL_ A14.out
          try simp only [errW_none, errW_some] at CA14
          go_wp2_with (first | (go_at_call 18; (with_reducible refine (CA14 _ (Laid.below HL_.out (by repeat (first | (with_reducible first | exact HB.out | apply below_alloc | apply pw_below_drewN | apply below_drew1) | exact HB.out)))).mono ?_); rintro e w15 ⟨rfl, hb⟩; have n0_ := Aside0.mk (below_step (by repeat (first | (with_reducible first | exact HB.out | apply below_alloc | apply pw_below_drewN | apply below_drew1) | exact HB.out)) hb); clear HB; have HB := n0_; clear n0_; (try clear hb); (try clear hb2); (try clear hk); (try clear hi)))
          go_meet
          case rel => exact ⟨_, ((t137 != t136)), (by first | rfl | (simp; done) | (simp [*]; done)), H', ⟨by first | omega | exact Nat.le_refl _⟩, ⟨by repeat (first | (with_reducible first | exact HB.out | apply below_alloc | apply pw_below_drewN | apply below_drew1) | exact HB.out)⟩⟩
        · rw [if_neg c13] at H
          have c13b0 : (t133.toList == t135.toList) = false := beq_eq_false_iff_ne.mpr c13
          have c13b1 : (t133.toList != t135.toList) = true := bne_iff_ne.mpr c13
          (first | rw [c13b0] | (simp only [i64_w, i32_w]; rw [c13b0]) | skip)
          have H' := Aside0.mk H
          clear H
          go_wp2
          go_meet
          case rel => exact ⟨_, (true), (by first | rfl | (simp; done) | (simp [*]; done)), H', ⟨by first | omega | exact Nat.le_refl _⟩, ⟨by repeat (first | (with_reducible first | exact HB.out | apply below_alloc | apply pw_below_drewN | apply below_drew1) | exact HB.out)⟩⟩
      case rest =>
        clear HC9
        try clear c1
        try clear p2
        try clear c4
        try clear c5
        try clear c5b0
        try clear c5b1
        try clear c6
        try clear c11
        try clear c13
        try clear c13b0
        try clear c13b1
        try clear c14
        obtain ⟨kq, x38_8, rfl, HA, HJ8, HB⟩ := hcut
        cases kq with
        | zero => exact absurd HA.out (by simp [posthorselaw03_MarkSeals.j0])
        | succ kj8 =>
          have H := HA.out
          clear HA
          simp only [posthorselaw03_MarkSeals.j0] at H
          by_cases c16 : x38_8 = true
          · subst c16
            have H1 : (some false) = some r := by rw [if_pos rfl] at H; exact H
            clear H
            have H := H1
            clear H1
            obtain rfl := Option.some.inj H
            go_wp2
            go_ret
            exact ⟨by first | rfl | (simp [errW_none, errW_some] <;> rfl) | (simp [*, errW_none, errW_some] <;> rfl), by repeat (first | (with_reducible first | exact HB.out | apply below_alloc | apply pw_below_drewN | apply below_drew1) | exact HB.out)⟩
          · replace c16 := Bool.eq_false_iff.mpr c16
            subst c16
            have H1 : (if t136 = 0 then ((mark_Open.f kj8 a0 t133).bind fun bt139 => ((mark_Open.f kj8 (wrap64 ((Int.tmod a0 255) + 1)) t133).bind fun bt141 => (if bt139.2.isNone = true then (if 0 ≤ (wrap64 (504 - (a1.size : Int))) then (if (wrap64 (504 - (a1.size : Int)) : Int).toNat ≤ 281474976710656 then ((some (List.replicate (wrap64 (504 - (a1.size : Int)) : Int).toNat 0 : List Int)).bind fun y144 => (if a1.size + (strOfNums y144).size ≤ 9223372036854775807 then (if bt139.1.toList = (a1 ++ (strOfNums y144)).toList then ((mark_Kind.f kj8 t133).bind fun t147 => (if t147 = a0 then ((fault_Number.f bt141.2).bind fun t148 => (some (t148 == 4))) else (some false))) else (some false)) else (none))) else (none)) else (none)) else (some false)))) else ((mark_Kind.f kj8 t133).bind fun t138 => (some (t138 == 0)))) = some r := by rw [if_neg (show ¬ (false = true) by decide)] at H; exact H
            clear H
            have H := H1
            clear H1
            by_cases c17 : t136 = 0
            · rw [if_pos c17] at H
              have c17b0 : (t136 == 0) = true := beq_iff_eq.mpr c17
              have c17b1 : (t136 != 0) = false := bne_eq_false_iff_eq.mpr c17
              clear c17
              replace H := Option.bind_eq_some_iff.mp H
              obtain ⟨⟨t139, t140⟩, A180, H⟩ := H
              replace H : ((mark_Open.f kj8 (wrap64 ((Int.tmod a0 255) + 1)) t133).bind fun bt141 => (if t140.isNone = true then (if 0 ≤ (wrap64 (504 - (a1.size : Int))) then (if (wrap64 (504 - (a1.size : Int)) : Int).toNat ≤ 281474976710656 then ((some (List.replicate (wrap64 (504 - (a1.size : Int)) : Int).toNat 0 : List Int)).bind fun y144 => (if a1.size + (strOfNums y144).size ≤ 9223372036854775807 then (if t139.toList = (a1 ++ (strOfNums y144)).toList then ((mark_Kind.f kj8 t133).bind fun t147 => (if t147 = a0 then ((fault_Number.f bt141.2).bind fun t148 => (some (t148 == 4))) else (some false))) else (some false)) else (none))) else (none)) else (none)) else (some false))) = some r := H
              have A18 := Aside0.mk A180
              clear A180
              replace H := Option.bind_eq_some_iff.mp H
              obtain ⟨⟨t141, t142⟩, A190, H⟩ := H
              replace H : (if t140.isNone = true then (if 0 ≤ (wrap64 (504 - (a1.size : Int))) then (if (wrap64 (504 - (a1.size : Int)) : Int).toNat ≤ 281474976710656 then ((some (List.replicate (wrap64 (504 - (a1.size : Int)) : Int).toNat 0 : List Int)).bind fun y144 => (if a1.size + (strOfNums y144).size ≤ 9223372036854775807 then (if t139.toList = (a1 ++ (strOfNums y144)).toList then ((mark_Kind.f kj8 t133).bind fun t147 => (if t147 = a0 then ((fault_Number.f t142).bind fun t148 => (some (t148 == 4))) else (some false))) else (some false)) else (none))) else (none)) else (none)) else (some false)) = some r := H
              have A19 := Aside0.mk A190
              clear A190
              rcases t140 with _ | q143
              · have H1 : (if 0 ≤ (wrap64 (504 - (a1.size : Int))) then (if (wrap64 (504 - (a1.size : Int)) : Int).toNat ≤ 281474976710656 then ((some (List.replicate (wrap64 (504 - (a1.size : Int)) : Int).toNat 0 : List Int)).bind fun y144 => (if a1.size + (strOfNums y144).size ≤ 9223372036854775807 then (if t139.toList = (a1 ++ (strOfNums y144)).toList then ((mark_Kind.f kj8 t133).bind fun t147 => (if t147 = a0 then ((fault_Number.f t142).bind fun t148 => (some (t148 == 4))) else (some false))) else (some false)) else (none))) else (none)) else (none)) = some r := by rw [if_pos (show (none : Option Int).isNone = true by rfl)] at H; exact H
                clear H
                have H := H1
                clear H1
                try simp only [errW_none, errW_some]
                obtain ⟨ji20, hji20⟩ : ∃ j_ : Int, (wrap64 (504 - (a1.size : Int))) = j_ := ⟨_, rfl⟩
                replace H : (if 0 ≤ (ji20) then (if (ji20 : Int).toNat ≤ 281474976710656 then ((some (List.replicate (ji20 : Int).toNat 0 : List Int)).bind fun y144 => (if a1.size + (strOfNums y144).size ≤ 9223372036854775807 then (if t139.toList = (a1 ++ (strOfNums y144)).toList then ((mark_Kind.f kj8 t133).bind fun t147 => (if t147 = a0 then ((fault_Number.f t142).bind fun t148 => (some (t148 == 4))) else (some false))) else (some false)) else (none))) else (none)) else (none)) = some r := by first | (rw [hji20] at H; exact H) | (simp only [hji20] at H ⊢; exact H)
                (try rw [hji20] at A18)
                (try rw [hji20] at A19)
                have hji20w : (IntKind.i64.wrap (504 - (a1.size : Int))) = ji20 := (i64_w _).trans hji20
                by_cases c21 : 0 ≤ (ji20)
                · rw [if_pos c21] at H
                  have c21b0 := eq_true c21
                  try (have c21sa0 := c21b0; simp only [ByteArray.size_append, Int.natCast_add] at c21sa0)
                  have c21b1 : decide (0 ≤ (ji20)) = true := decide_eq_true c21
                  clear c21
                  by_cases c22 : (ji20 : Int).toNat ≤ 281474976710656
                  · rw [if_pos c22] at H
                    have c22b0 := eq_true c22
                    try (have c22sa0 := c22b0; simp only [ByteArray.size_append, Int.natCast_add] at c22sa0)
                    have c22b1 : decide ((ji20 : Int).toNat ≤ 281474976710656) = true := decide_eq_true c22
                    clear c22
                    obtain ⟨y144, hy144⟩ : ∃ y_ : List Int, y_ = (List.replicate (ji20 : Int).toNat 0) := ⟨_, rfl⟩
                    replace H : (if a1.size + (strOfNums y144).size ≤ 9223372036854775807 then (if t139.toList = (a1 ++ (strOfNums y144)).toList then ((mark_Kind.f kj8 t133).bind fun t147 => (if t147 = a0 then ((fault_Number.f t142).bind fun t148 => (some (t148 == 4))) else (some false))) else (some false)) else (none)) = some r := by first | (rw [hy144]; with_reducible exact H) | (have H2_ := (Option.bind_some _ _).symm.trans H; rw [hy144]; with_reducible exact H2_) | (have H2_ := (Option.bind_some _ _).symm.trans H; with_reducible exact H2_) | with_reducible exact H | (rw [hy144]; exact H) | exact H
                    have Ny144 := Aside0.mk hy144
                    clear hy144
                    by_cases c23 : a1.size + (strOfNums y144).size ≤ 9223372036854775807
                    · rw [if_pos c23] at H
                      have c23b0 := eq_true c23
                      try (have c23sa0 := c23b0; simp only [ByteArray.size_append, Int.natCast_add] at c23sa0)
                      have c23b1 : decide (a1.size + (strOfNums y144).size ≤ 9223372036854775807) = true := decide_eq_true c23
                      try have c23b2 : (9223372036854775807 < a1.size + (strOfNums y144).size) = False := eq_false (Nat.not_lt.2 c23)
                      by_cases c24 : t139.toList = (a1 ++ (strOfNums y144)).toList
                      · rw [if_pos c24] at H
                        have c24b0 : (t139.toList == (a1 ++ (strOfNums y144)).toList) = true := beq_iff_eq.mpr c24
                        have c24b1 : (t139.toList != (a1 ++ (strOfNums y144)).toList) = false := bne_eq_false_iff_eq.mpr c24
                        clear c24
                        replace H := Option.bind_eq_some_iff.mp H
                        obtain ⟨t147, A250, H⟩ := H
                        replace H : (if t147 = a0 then ((fault_Number.f t142).bind fun t148 => (some (t148 == 4))) else (some false)) = some r := H
                        have A25 := Aside0.mk A250
                        clear A250
                        by_cases c26 : t147 = a0
                        · rw [if_pos c26] at H
                          have c26b0 : (t147 == a0) = true := beq_iff_eq.mpr c26
                          have c26b1 : (t147 != a0) = false := bne_eq_false_iff_eq.mpr c26
                          clear c26
                          replace H := Option.bind_eq_some_iff.mp H
                          obtain ⟨t148, A270, H⟩ := H
                          replace H : (some (t148 == 4)) = some r := H
                          have A27 := Aside0.mk A270
                          clear A270
                          obtain rfl := Option.some.inj H
                          go_wp2_with (first | ((with_reducible refine gate_callee (f := 15) rfl ?_); refine goesL_ (some 47) rfl rfl Tryd.func15 (by kernel_rfl) rfl #[.int .i64 a0, .string t133] rfl (by (try simp only [List.map_toArray, List.map_cons, List.map_nil]); first | done | rfl | (simp only [List.length_drop, List.length_take]; rfl) | (simp only [decide_eq_true_eq, decide_eq_false_iff_not, eq_iff_iff, iff_true, iff_false] at *; have w_id : ∀ {n : Int}, -9223372036854775808 ≤ n → n ≤ 9223372036854775807 → wrap64 n = n := fun h0 h1 => (by unfold wrap64; omega); rw [w_id (by omega) (by omega)]; rfl)) ?_; (with_reducible refine (mark_Open.calls kj8 a0 t133 t139 none _ (Laid.below HL_.out (by repeat (first | (with_reducible first | exact HB.out | apply below_alloc | apply pw_below_drewN | apply below_drew1) | exact HB.out))) A18.out).mono ?_); rintro e w28 ⟨rfl, hb⟩; refine ⟨_, rfl, ?_⟩; have n0_ := Aside0.mk (below_step (by repeat (first | (with_reducible first | exact HB.out | apply below_alloc | apply pw_below_drewN | apply below_drew1) | exact HB.out)) hb); clear HB; have HB := n0_; clear n0_; (try clear hb); (try clear hb2); (try clear hk); (try clear hi); (try simp only [errW_none, errW_some])) | ((with_reducible refine gate_callee (f := 15) rfl ?_); refine goesL_ (some 55) rfl rfl Tryd.func15 (by kernel_rfl) rfl #[.int .i64 (wrap64 ((Int.tmod a0 255) + 1)), .string t133] rfl (by (try simp only [List.map_toArray, List.map_cons, List.map_nil]); first | done | rfl | (simp only [List.length_drop, List.length_take]; rfl) | (simp only [decide_eq_true_eq, decide_eq_false_iff_not, eq_iff_iff, iff_true, iff_false] at *; have w_id : ∀ {n : Int}, -9223372036854775808 ≤ n → n ≤ 9223372036854775807 → wrap64 n = n := fun h0 h1 => (by unfold wrap64; omega); rw [w_id (by omega) (by omega)]; rfl)) ?_; (with_reducible refine (mark_Open.calls kj8 (wrap64 ((Int.tmod a0 255) + 1)) t133 t141 t142 _ (Laid.below HL_.out (by repeat (first | (with_reducible first | exact HB.out | apply below_alloc | apply pw_below_drewN | apply below_drew1) | exact HB.out))) A19.out).mono ?_); rintro e w29 ⟨rfl, hb⟩; refine ⟨_, rfl, ?_⟩; have n0_ := Aside0.mk (below_step (by repeat (first | (with_reducible first | exact HB.out | apply below_alloc | apply pw_below_drewN | apply below_drew1) | exact HB.out)) hb); clear HB; have HB := n0_; clear n0_; (try clear hb); (try clear hb2); (try clear hk); (try clear hi); (try simp only [errW_none, errW_some])) | ((with_reducible refine gate_dst (N := 66) rfl ?_); (try (refine gate_guard (by rfl) ?_; dsimp only)); refine Kd.R_make (Kd.int .u8) _ 5 rfl (N := 66) rfl 31 _ _ rfl ji20 rfl rfl Tryd.underlying31 (.int .u8 0) 1 info5 rfl (by decide) (by omega) 0 (ok := fun _ => True) (okp := fun _ => True) rfl (fun _ hk => hk) trivial (of_decide_eq_true (by first | (with_reducible assumption) | assumption)) (Nat.le_trans (Nat.mul_le_mul_right _ (of_decide_eq_true (by first | (with_reducible assumption) | assumption) : ji20.toNat ≤ 281474976710656)) (by omega)) (Below.refl _ _) (Nat.le_refl _) ?_; intro v145 w30 ho31 hb hg_ hnew_; clear hg_ hnew_; (first | rw [← Ny144.out] at ho31 | (simp only [Int.reduceToNat] at ho31; rw [← Ny144.out] at ho31)); have n0_ := Aside0.mk (Kd.R_lower ho31 (below_size (by repeat (first | (with_reducible first | exact HB.out | apply below_alloc | apply pw_below_drewN | apply below_drew1) | exact HB.out)))); have n1_ := Aside0.mk (below_step (by repeat (first | (with_reducible first | exact HB.out | apply below_alloc | apply pw_below_drewN | apply below_drew1) | exact HB.out)) hb); clear HB; have HO146 := n0_; have HB := n1_; clear n0_ n1_; clear hb ho31; have hcv32 := own_string (P := Tryd.prog) Tryd.underlying31 Tryd.underlying5 Tryd.underlying9 (Kd.own_of_R HO146.out)) | (go_at_call 16; (with_reducible refine (mark_Kind.calls kj8 t133 t147 _ (Laid.below HL_.out (by repeat (first | (with_reducible first | exact HB.out | apply below_alloc | apply pw_below_drewN | apply below_drew1) | exact HB.out))) A25.out).mono ?_); rintro e w33 ⟨rfl, hb⟩; have n0_ := Aside0.mk (Kd.R_below (by (with_reducible repeat (first | apply Kd.R_alloc | apply Kd.R_drewN | apply Kd.R_drew)); exact HO146.out) hb); have n1_ := Aside0.mk (below_step (by repeat (first | (with_reducible first | exact HB.out | apply below_alloc | apply pw_below_drewN | apply below_drew1) | exact HB.out)) hb); clear HO146; clear HB; have HO146 := n0_; have HB := n1_; clear n0_ n1_; (try clear hb); (try clear hb2); (try clear hk); (try clear hi); have CA27 := fun W hL_ => fault_Number.calls t142 t148 W hL_ A27.out; try simp only [errW_none, errW_some] at CA27) | (go_at_call 18; (with_reducible refine (CA27 _ (Laid.below HL_.out (by repeat (first | (with_reducible first | exact HB.out | apply below_alloc | apply pw_below_drewN | apply below_drew1) | exact HB.out)))).mono ?_); rintro e w34 ⟨rfl, hb⟩; have n0_ := Aside0.mk (Kd.R_below (by (with_reducible repeat (first | apply Kd.R_alloc | apply Kd.R_drewN | apply Kd.R_drew)); exact HO146.out) hb); have n1_ := Aside0.mk (below_step (by repeat (first | (with_reducible first | exact HB.out | apply below_alloc | apply pw_below_drewN | apply below_drew1) | exact HB.out)) hb); clear HO146; clear HB; have HO146 := n0_; have HB := n1_; clear n0_ n1_; (try clear hb); (try clear hb2); (try clear hk); (try clear hi)))
                          go_ret
                          exact ⟨by first | rfl | (simp [errW_none, errW_some] <;> rfl) | (simp only [← hji20]; first | rfl | (simp [errW_none, errW_some] <;> rfl)) | (simp [*, errW_none, errW_some] <;> rfl), by repeat (first | (with_reducible first | exact HB.out | apply below_alloc | apply pw_below_drewN | apply below_drew1) | exact HB.out)⟩
                        · rw [if_neg c26] at H
                          have c26b0 : (t147 == a0) = false := beq_eq_false_iff_ne.mpr c26
                          have c26b1 : (t147 != a0) = true := bne_iff_ne.mpr c26
                          obtain rfl := Option.some.inj H
                          go_wp2_with (first | ((with_reducible refine gate_callee (f := 15) rfl ?_); refine goesL_ (some 47) rfl rfl Tryd.func15 (by kernel_rfl) rfl #[.int .i64 a0, .string t133] rfl (by (try simp only [List.map_toArray, List.map_cons, List.map_nil]); first | done | rfl | (simp only [List.length_drop, List.length_take]; rfl) | (simp only [decide_eq_true_eq, decide_eq_false_iff_not, eq_iff_iff, iff_true, iff_false] at *; have w_id : ∀ {n : Int}, -9223372036854775808 ≤ n → n ≤ 9223372036854775807 → wrap64 n = n := fun h0 h1 => (by unfold wrap64; omega); rw [w_id (by omega) (by omega)]; rfl)) ?_; (with_reducible refine (mark_Open.calls kj8 a0 t133 t139 none _ (Laid.below HL_.out (by repeat (first | (with_reducible first | exact HB.out | apply below_alloc | apply pw_below_drewN | apply below_drew1) | exact HB.out))) A18.out).mono ?_); rintro e w35 ⟨rfl, hb⟩; refine ⟨_, rfl, ?_⟩; have n0_ := Aside0.mk (below_step (by repeat (first | (with_reducible first | exact HB.out | apply below_alloc | apply pw_below_drewN | apply below_drew1) | exact HB.out)) hb); clear HB; have HB := n0_; clear n0_; (try clear hb); (try clear hb2); (try clear hk); (try clear hi); (try simp only [errW_none, errW_some])) | ((with_reducible refine gate_callee (f := 15) rfl ?_); refine goesL_ (some 55) rfl rfl Tryd.func15 (by kernel_rfl) rfl #[.int .i64 (wrap64 ((Int.tmod a0 255) + 1)), .string t133] rfl (by (try simp only [List.map_toArray, List.map_cons, List.map_nil]); first | done | rfl | (simp only [List.length_drop, List.length_take]; rfl) | (simp only [decide_eq_true_eq, decide_eq_false_iff_not, eq_iff_iff, iff_true, iff_false] at *; have w_id : ∀ {n : Int}, -9223372036854775808 ≤ n → n ≤ 9223372036854775807 → wrap64 n = n := fun h0 h1 => (by unfold wrap64; omega); rw [w_id (by omega) (by omega)]; rfl)) ?_; (with_reducible refine (mark_Open.calls kj8 (wrap64 ((Int.tmod a0 255) + 1)) t133 t141 t142 _ (Laid.below HL_.out (by repeat (first | (with_reducible first | exact HB.out | apply below_alloc | apply pw_below_drewN | apply below_drew1) | exact HB.out))) A19.out).mono ?_); rintro e w36 ⟨rfl, hb⟩; refine ⟨_, rfl, ?_⟩; have n0_ := Aside0.mk (below_step (by repeat (first | (with_reducible first | exact HB.out | apply below_alloc | apply pw_below_drewN | apply below_drew1) | exact HB.out)) hb); clear HB; have HB := n0_; clear n0_; (try clear hb); (try clear hb2); (try clear hk); (try clear hi); (try simp only [errW_none, errW_some])) | ((with_reducible refine gate_dst (N := 66) rfl ?_); (try (refine gate_guard (by rfl) ?_; dsimp only)); refine Kd.R_make (Kd.int .u8) _ 5 rfl (N := 66) rfl 31 _ _ rfl ji20 rfl rfl Tryd.underlying31 (.int .u8 0) 1 info5 rfl (by decide) (by omega) 0 (ok := fun _ => True) (okp := fun _ => True) rfl (fun _ hk => hk) trivial (of_decide_eq_true (by first | (with_reducible assumption) | assumption)) (Nat.le_trans (Nat.mul_le_mul_right _ (of_decide_eq_true (by first | (with_reducible assumption) | assumption) : ji20.toNat ≤ 281474976710656)) (by omega)) (Below.refl _ _) (Nat.le_refl _) ?_; intro v145 w37 ho38 hb hg_ hnew_; clear hg_ hnew_; (first | rw [← Ny144.out] at ho38 | (simp only [Int.reduceToNat] at ho38; rw [← Ny144.out] at ho38)); have n0_ := Aside0.mk (Kd.R_lower ho38 (below_size (by repeat (first | (with_reducible first | exact HB.out | apply below_alloc | apply pw_below_drewN | apply below_drew1) | exact HB.out)))); have n1_ := Aside0.mk (below_step (by repeat (first | (with_reducible first | exact HB.out | apply below_alloc | apply pw_below_drewN | apply below_drew1) | exact HB.out)) hb); clear HB; have HO146 := n0_; have HB := n1_; clear n0_ n1_; clear hb ho38; have hcv39 := own_string (P := Tryd.prog) Tryd.underlying31 Tryd.underlying5 Tryd.underlying9 (Kd.own_of_R HO146.out)) | (go_at_call 16; (with_reducible refine (mark_Kind.calls kj8 t133 t147 _ (Laid.below HL_.out (by repeat (first | (with_reducible first | exact HB.out | apply below_alloc | apply pw_below_drewN | apply below_drew1) | exact HB.out))) A25.out).mono ?_); rintro e w40 ⟨rfl, hb⟩; have n0_ := Aside0.mk (Kd.R_below (by (with_reducible repeat (first | apply Kd.R_alloc | apply Kd.R_drewN | apply Kd.R_drew)); exact HO146.out) hb); have n1_ := Aside0.mk (below_step (by repeat (first | (with_reducible first | exact HB.out | apply below_alloc | apply pw_below_drewN | apply below_drew1) | exact HB.out)) hb); clear HO146; clear HB; have HO146 := n0_; have HB := n1_; clear n0_ n1_; (try clear hb); (try clear hb2); (try clear hk); (try clear hi)))
                          go_ret
                          exact ⟨by first | rfl | (simp [errW_none, errW_some] <;> rfl) | (simp only [← hji20]; first | rfl | (simp [errW_none, errW_some] <;> rfl)) | (simp [*, errW_none, errW_some] <;> rfl), by repeat (first | (with_reducible first | exact HB.out | apply below_alloc | apply pw_below_drewN | apply below_drew1) | exact HB.out)⟩
                      · rw [if_neg c24] at H
                        have c24b0 : (t139.toList == (a1 ++ (strOfNums y144)).toList) = false := beq_eq_false_iff_ne.mpr c24
                        have c24b1 : (t139.toList != (a1 ++ (strOfNums y144)).toList) = true := bne_iff_ne.mpr c24
                        obtain rfl := Option.some.inj H
                        go_wp2_with (first | ((with_reducible refine gate_callee (f := 15) rfl ?_); refine goesL_ (some 47) rfl rfl Tryd.func15 (by kernel_rfl) rfl #[.int .i64 a0, .string t133] rfl (by (try simp only [List.map_toArray, List.map_cons, List.map_nil]); first | done | rfl | (simp only [List.length_drop, List.length_take]; rfl) | (simp only [decide_eq_true_eq, decide_eq_false_iff_not, eq_iff_iff, iff_true, iff_false] at *; have w_id : ∀ {n : Int}, -9223372036854775808 ≤ n → n ≤ 9223372036854775807 → wrap64 n = n := fun h0 h1 => (by unfold wrap64; omega); rw [w_id (by omega) (by omega)]; rfl)) ?_; (with_reducible refine (mark_Open.calls kj8 a0 t133 t139 none _ (Laid.below HL_.out (by repeat (first | (with_reducible first | exact HB.out | apply below_alloc | apply pw_below_drewN | apply below_drew1) | exact HB.out))) A18.out).mono ?_); rintro e w41 ⟨rfl, hb⟩; refine ⟨_, rfl, ?_⟩; have n0_ := Aside0.mk (below_step (by repeat (first | (with_reducible first | exact HB.out | apply below_alloc | apply pw_below_drewN | apply below_drew1) | exact HB.out)) hb); clear HB; have HB := n0_; clear n0_; (try clear hb); (try clear hb2); (try clear hk); (try clear hi); (try simp only [errW_none, errW_some])) | ((with_reducible refine gate_callee (f := 15) rfl ?_); refine goesL_ (some 55) rfl rfl Tryd.func15 (by kernel_rfl) rfl #[.int .i64 (wrap64 ((Int.tmod a0 255) + 1)), .string t133] rfl (by (try simp only [List.map_toArray, List.map_cons, List.map_nil]); first | done | rfl | (simp only [List.length_drop, List.length_take]; rfl) | (simp only [decide_eq_true_eq, decide_eq_false_iff_not, eq_iff_iff, iff_true, iff_false] at *; have w_id : ∀ {n : Int}, -9223372036854775808 ≤ n → n ≤ 9223372036854775807 → wrap64 n = n := fun h0 h1 => (by unfold wrap64; omega); rw [w_id (by omega) (by omega)]; rfl)) ?_; (with_reducible refine (mark_Open.calls kj8 (wrap64 ((Int.tmod a0 255) + 1)) t133 t141 t142 _ (Laid.below HL_.out (by repeat (first | (with_reducible first | exact HB.out | apply below_alloc | apply pw_below_drewN | apply below_drew1) | exact HB.out))) A19.out).mono ?_); rintro e w42 ⟨rfl, hb⟩; refine ⟨_, rfl, ?_⟩; have n0_ := Aside0.mk (below_step (by repeat (first | (with_reducible first | exact HB.out | apply below_alloc | apply pw_below_drewN | apply below_drew1) | exact HB.out)) hb); clear HB; have HB := n0_; clear n0_; (try clear hb); (try clear hb2); (try clear hk); (try clear hi); (try simp only [errW_none, errW_some])) | ((with_reducible refine gate_dst (N := 66) rfl ?_); (try (refine gate_guard (by rfl) ?_; dsimp only)); refine Kd.R_make (Kd.int .u8) _ 5 rfl (N := 66) rfl 31 _ _ rfl ji20 rfl rfl Tryd.underlying31 (.int .u8 0) 1 info5 rfl (by decide) (by omega) 0 (ok := fun _ => True) (okp := fun _ => True) rfl (fun _ hk => hk) trivial (of_decide_eq_true (by first | (with_reducible assumption) | assumption)) (Nat.le_trans (Nat.mul_le_mul_right _ (of_decide_eq_true (by first | (with_reducible assumption) | assumption) : ji20.toNat ≤ 281474976710656)) (by omega)) (Below.refl _ _) (Nat.le_refl _) ?_; intro v145 w43 ho44 hb hg_ hnew_; clear hg_ hnew_; (first | rw [← Ny144.out] at ho44 | (simp only [Int.reduceToNat] at ho44; rw [← Ny144.out] at ho44)); have n0_ := Aside0.mk (Kd.R_lower ho44 (below_size (by repeat (first | (with_reducible first | exact HB.out | apply below_alloc | apply pw_below_drewN | apply below_drew1) | exact HB.out)))); have n1_ := Aside0.mk (below_step (by repeat (first | (with_reducible first | exact HB.out | apply below_alloc | apply pw_below_drewN | apply below_drew1) | exact HB.out)) hb); clear HB; have HO146 := n0_; have HB := n1_; clear n0_ n1_; clear hb ho44; have hcv45 := own_string (P := Tryd.prog) Tryd.underlying31 Tryd.underlying5 Tryd.underlying9 (Kd.own_of_R HO146.out)))
                        go_ret
                        exact ⟨by first | rfl | (simp [errW_none, errW_some] <;> rfl) | (simp only [← hji20]; first | rfl | (simp [errW_none, errW_some] <;> rfl)) | (simp [*, errW_none, errW_some] <;> rfl), by repeat (first | (with_reducible first | exact HB.out | apply below_alloc | apply pw_below_drewN | apply below_drew1) | exact HB.out)⟩
                    · rw [if_neg c23] at H
                      exact absurd H (by simp)
                  · rw [if_neg c22] at H
                    exact absurd H (by simp)
                · rw [if_neg c21] at H
                  exact absurd H (by simp)
              · have H1 : (some false) = some r := by rw [if_neg (show ¬ (some q143).isNone = true by simp)] at H; exact H
                clear H
                have H := H1
                clear H1
                try simp only [errW_none, errW_some]
                obtain rfl := Option.some.inj H
                go_wp2_with (first | ((with_reducible refine gate_callee (f := 15) rfl ?_); refine goesL_ (some 47) rfl rfl Tryd.func15 (by kernel_rfl) rfl #[.int .i64 a0, .string t133] rfl (by (try simp only [List.map_toArray, List.map_cons, List.map_nil]); first | done | rfl | (simp only [List.length_drop, List.length_take]; rfl) | (simp only [decide_eq_true_eq, decide_eq_false_iff_not, eq_iff_iff, iff_true, iff_false] at *; have w_id : ∀ {n : Int}, -9223372036854775808 ≤ n → n ≤ 9223372036854775807 → wrap64 n = n := fun h0 h1 => (by unfold wrap64; omega); rw [w_id (by omega) (by omega)]; rfl)) ?_; (with_reducible refine (mark_Open.calls kj8 a0 t133 t139 (some q143) _ (Laid.below HL_.out (by repeat (first | (with_reducible first | exact HB.out | apply below_alloc | apply pw_below_drewN | apply below_drew1) | exact HB.out))) A18.out).mono ?_); rintro e w46 ⟨rfl, hb⟩; refine ⟨_, rfl, ?_⟩; have n0_ := Aside0.mk (below_step (by repeat (first | (with_reducible first | exact HB.out | apply below_alloc | apply pw_below_drewN | apply below_drew1) | exact HB.out)) hb); clear HB; have HB := n0_; clear n0_; (try clear hb); (try clear hb2); (try clear hk); (try clear hi); (try simp only [errW_none, errW_some])) | ((with_reducible refine gate_callee (f := 15) rfl ?_); refine goesL_ (some 55) rfl rfl Tryd.func15 (by kernel_rfl) rfl #[.int .i64 (wrap64 ((Int.tmod a0 255) + 1)), .string t133] rfl (by (try simp only [List.map_toArray, List.map_cons, List.map_nil]); first | done | rfl | (simp only [List.length_drop, List.length_take]; rfl) | (simp only [decide_eq_true_eq, decide_eq_false_iff_not, eq_iff_iff, iff_true, iff_false] at *; have w_id : ∀ {n : Int}, -9223372036854775808 ≤ n → n ≤ 9223372036854775807 → wrap64 n = n := fun h0 h1 => (by unfold wrap64; omega); rw [w_id (by omega) (by omega)]; rfl)) ?_; (with_reducible refine (mark_Open.calls kj8 (wrap64 ((Int.tmod a0 255) + 1)) t133 t141 t142 _ (Laid.below HL_.out (by repeat (first | (with_reducible first | exact HB.out | apply below_alloc | apply pw_below_drewN | apply below_drew1) | exact HB.out))) A19.out).mono ?_); rintro e w47 ⟨rfl, hb⟩; refine ⟨_, rfl, ?_⟩; have n0_ := Aside0.mk (below_step (by repeat (first | (with_reducible first | exact HB.out | apply below_alloc | apply pw_below_drewN | apply below_drew1) | exact HB.out)) hb); clear HB; have HB := n0_; clear n0_; (try clear hb); (try clear hb2); (try clear hk); (try clear hi); (try simp only [errW_none, errW_some])))
                go_ret
                exact ⟨by first | rfl | (simp [errW_none, errW_some] <;> rfl) | (simp [*, errW_none, errW_some] <;> rfl), by repeat (first | (with_reducible first | exact HB.out | apply below_alloc | apply pw_below_drewN | apply below_drew1) | exact HB.out)⟩
            · rw [if_neg c17] at H
              have c17b0 : (t136 == 0) = false := beq_eq_false_iff_ne.mpr c17
              have c17b1 : (t136 != 0) = true := bne_iff_ne.mpr c17
              replace H := Option.bind_eq_some_iff.mp H
              obtain ⟨t138, A480, H⟩ := H
              replace H : (some (t138 == 0)) = some r := H
              have A48 := Aside0.mk A480
              clear A480
              obtain rfl := Option.some.inj H
              go_wp2_with (first | ((with_reducible refine gate_callee (f := 16) rfl ?_); refine goesL_ (some 42) rfl rfl Tryd.func16 (by kernel_rfl) rfl #[.string t133] rfl (by (try simp only [List.map_toArray, List.map_cons, List.map_nil]); first | done | rfl | (simp only [List.length_drop, List.length_take]; rfl) | (simp only [decide_eq_true_eq, decide_eq_false_iff_not, eq_iff_iff, iff_true, iff_false] at *; have w_id : ∀ {n : Int}, -9223372036854775808 ≤ n → n ≤ 9223372036854775807 → wrap64 n = n := fun h0 h1 => (by unfold wrap64; omega); rw [w_id (by omega) (by omega)]; rfl)) ?_; (with_reducible refine (mark_Kind.calls kj8 t133 t138 _ (Laid.below HL_.out (by repeat (first | (with_reducible first | exact HB.out | apply below_alloc | apply pw_below_drewN | apply below_drew1) | exact HB.out))) A48.out).mono ?_); rintro e w49 ⟨rfl, hb⟩; refine ⟨_, rfl, ?_⟩; have n0_ := Aside0.mk (below_step (by repeat (first | (with_reducible first | exact HB.out | apply below_alloc | apply pw_below_drewN | apply below_drew1) | exact HB.out)) hb); clear HB; have HB := n0_; clear n0_; (try clear hb); (try clear hb2); (try clear hk); (try clear hi)))
              go_ret
              exact ⟨by first | rfl | (simp [errW_none, errW_some] <;> rfl) | (simp [*, errW_none, errW_some] <;> rfl), by repeat (first | (with_reducible first | exact HB.out | apply below_alloc | apply pw_below_drewN | apply below_drew1) | exact HB.out)⟩
  · replace c4 := Bool.eq_false_iff.mpr c4
    subst c4
    have H1 : (some false) = some r := by rw [if_neg (show ¬ (false = true) by decide)] at H; exact H
    clear H
    have H := H1
    clear H1
    obtain rfl := Option.some.inj H
    go_enter Tryd.func6, Tryd.ntmps6
    go_wp2_with (first | ((with_reducible refine gate_callee (f := 11) rfl ?_); refine goesL_ (some 13) rfl rfl Tryd.func11 (by kernel_rfl) rfl #[] rfl (by (try simp only [List.map_toArray, List.map_cons, List.map_nil]); first | done | rfl | (simp only [List.length_drop, List.length_take]; rfl) | (simp only [decide_eq_true_eq, decide_eq_false_iff_not, eq_iff_iff, iff_true, iff_false] at *; have w_id : ∀ {n : Int}, -9223372036854775808 ≤ n → n ≤ 9223372036854775807 → wrap64 n = n := fun h0 h1 => (by unfold wrap64; omega); rw [w_id (by omega) (by omega)]; rfl)) ?_; (with_reducible refine (posthorselaw03_speaks.calls k  false _ (Laid.below HL_.out (by repeat (first | (with_reducible first | exact HB.out | apply below_alloc | apply pw_below_drewN | apply below_drew1) | exact HB.out))) A3.out).mono ?_); rintro e w50 ⟨rfl, hb⟩; refine ⟨_, rfl, ?_⟩; have n0_ := Aside0.mk (below_step (by repeat (first | (with_reducible first | exact HB.out | apply below_alloc | apply pw_below_drewN | apply below_drew1) | exact HB.out)) hb); clear HB; have HB := n0_; clear n0_; (try clear hb); (try clear hb2); (try clear hk); (try clear hi)))
    go_ret
    exact ⟨by first | rfl | (simp [errW_none, errW_some] <;> rfl) | (simp [*, errW_none, errW_some] <;> rfl), by repeat (first | (with_reducible first | exact HB.out | apply below_alloc | apply pw_below_drewN | apply below_drew1) | exact HB.out)⟩

end Go.Proofs.YtdlmgjpnlgdpkaaDoor.VMarkSeals
