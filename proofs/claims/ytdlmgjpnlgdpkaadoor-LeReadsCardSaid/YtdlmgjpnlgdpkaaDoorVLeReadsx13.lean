/- Contracts of functions of this seat: each call comes to what its Lean function computes; no condition beyond what each theorem states. Printed by a program of this session's own laid over the kit's printer. -/
import Derived.Test.YtdlmgjpnlgdpkaaDoorVLeReadsx0
import Derived.Test.YtdlmgjpnlgdpkaaDoorVLeReadsx5
import Derived.Test.YtdlmgjpnlgdpkaaDoorVLeReadsx10
import Derived.Test.YtdlmgjpnlgdpkaaDoorVLeReadsx12
namespace Go.Proofs.YtdlmgjpnlgdpkaaDoor.VLeReads
open Go.RowKit Go.Proofs.YtdlmgjpnlgdpkaaDoorW.PrintWords Go.Proofs.YtdlmgjpnlgdpkaaDoorW.PrintLast Go.Proofs.YtdlmgjpnlgdpkaaDoorW.PrintMore
attribute [local go_sem] max2_int min2_int max_two min_two max_three min_three max_four min_four   -- for this text's walks alone
set_option linter.unusedVariables false
set_option linter.unusedSimpArgs false

/-! ### le_In_Noughts: function 32 -/
def le_In_Noughts.f (s0_0 : ByteArray) (s0_1 : Option Int) (a1 : Int) : Option (ByteArray × Option Int) := (le_In_Text.f s0_0 s0_1 a1).bind fun bt133 => ((strings_Trim.f bt133.1 (⟨#[0]⟩ : ByteArray)).bind fun t136 => (if t136.toList = ([] : List UInt8) then (some (bt133.2.1, bt133.2.2)) else ((le_In_fail.f bt133.2.1 bt133.2.2 4).bind fun bt137 => (some (bt137.1, bt137.2)))))
set_option maxHeartbeats 8000000 in
set_option maxRecDepth 100000 in
theorem le_In_Noughts.calls (g : Nat) (s0_0 : ByteArray) (s0_1 : Option Int) (a1 : Int) (r1 : ByteArray) (r2 : Option Int) (w0 w : World) (hI : IsS80 w0 w g s0_0 s0_1) (hB : Below w0.heap.size w0 w) (h : le_In_Noughts.f s0_0 s0_1 a1 = some (r1, r2)) :
    Calls Tryd.prog 32 #[.pointer (some ⟨g, 0, none⟩), .int .i64 a1] w fun e w' => e = .returned (.tuple #[]) ∧ IsS80 w0 w' g r1 r2 ∧ Below w0.heap.size w0 w' ∧ KeepBut w w' g none := by
  have HI0 := Aside0.mk hI
  have HK := Aside0.mk (KeepBut.refl w g none)
  have HL := Aside0.mk hB.size
  clear hI
  have HW0 := Aside0.mk hB.size
  have HB := Aside0.mk hB
  clear hB
  have H : ((le_In_Text.f s0_0 s0_1 a1).bind fun bt133 => ((strings_Trim.f bt133.1 (⟨#[0]⟩ : ByteArray)).bind fun t136 => (if t136.toList = ([] : List UInt8) then (some (bt133.2.1, bt133.2.2)) else ((le_In_fail.f bt133.2.1 bt133.2.2 4).bind fun bt137 => (some (bt137.1, bt137.2)))))) = some (r1, r2) := h
  clear h
  replace H := Option.bind_eq_some_iff.mp H
  obtain ⟨⟨t133, t134, t135⟩, A30, H⟩ := H
  replace H : ((strings_Trim.f t133 (⟨#[0]⟩ : ByteArray)).bind fun t136 => (if t136.toList = ([] : List UInt8) then (some (t134, t135)) else ((le_In_fail.f t134 t135 4).bind fun bt137 => (some (bt137.1, bt137.2))))) = some (r1, r2) := H
  have A3 := Aside0.mk A30
  clear A30
  replace H := Option.bind_eq_some_iff.mp H
  obtain ⟨t136, A40, H⟩ := H
  replace H : (if t136.toList = ([] : List UInt8) then (some (t134, t135)) else ((le_In_fail.f t134 t135 4).bind fun bt137 => (some (bt137.1, bt137.2)))) = some (r1, r2) := H
  have A4 := Aside0.mk A40
  clear A40
  by_cases c5 : t136.toList = ([] : List UInt8)
  · rw [if_pos c5] at H
    have c5b0 : (t136.toList == ([] : List UInt8)) = true := beq_iff_eq.mpr c5
    have c5b1 : (t136.toList != ([] : List UInt8)) = false := bne_eq_false_iff_eq.mpr c5
    clear c5
    simp only [Option.some.injEq, Prod.mk.injEq] at H
    obtain ⟨rfl, rfl⟩ := H
    go_enter Tryd.func32, Tryd.ntmps32
    go_wp2_with (first | ((with_reducible refine gate_callee (f := 27) rfl ?_); refine goesL_ (some 6) rfl rfl Tryd.func27 (by kernel_rfl) rfl #[.pointer (some ⟨g, 0, none⟩), .int .i64 a1] rfl (by (try simp only [List.map_toArray, List.map_cons, List.map_nil]); first | done | rfl | (simp only [List.length_drop, List.length_take]; rfl) | (simp only [decide_eq_true_eq, decide_eq_false_iff_not, eq_iff_iff, iff_true, iff_false] at *; have w_id : ∀ {n : Int}, -9223372036854775808 ≤ n → n ≤ 9223372036854775807 → wrap64 n = n := fun h0 h1 => (by unfold wrap64; omega); rw [w_id (by omega) (by omega)]; rfl)) ?_; (with_reducible refine (le_In_Text.calls g s0_0 s0_1 a1 t133 t134 t135 w0 _ ?side1 ?side2 A3.out).mono ?_); (case side1 => repeat (first | (with_reducible first | exact HI0.out | apply IsS80.alloc | apply IsS80.drewN | apply IsS80.drew | apply IsS80.set_0 | apply IsS80.set_1_none | apply IsS80.set_1_some | apply IsS80.set_1) | exact HI0.out)); (case side2 => repeat (first | (with_reducible first | exact HB.out | apply below_alloc | apply pw_below_drewN | apply below_drew1 | refine below_set ?_ (IsS80.ge HI0.out)) | exact HB.out)); rintro e w6 ⟨rfl, hi, hb, hk⟩; refine ⟨_, rfl, ?_⟩; have n0_ := Aside0.mk (KeepBut.trans (by repeat (first | (with_reducible first | exact HK.out | apply KeepBut.set_ | apply keep_drewN | apply keep_drew | apply keep_alloc) | exact HK.out)) hk (.inl rfl)); have n1_ := Aside0.mk (hb); have n2_ := Aside0.mk (hi); clear HK; clear HB; clear HI0; have HK := n0_; have HB := n1_; have HI0 := n2_; clear n0_ n1_ n2_; (try clear hb); (try clear hb2); (try clear hk); (try clear hi); (try simp only [errW_none, errW_some])) | ((with_reducible refine gate_callee (f := 45) rfl ?_); refine goesL_ (some 7) rfl rfl Tryd.func45 (by kernel_rfl) rfl #[.string t133, .string (⟨#[0]⟩ : ByteArray)] rfl (by (try simp only [List.map_toArray, List.map_cons, List.map_nil]); first | done | rfl | (simp only [List.length_drop, List.length_take]; rfl) | (simp only [decide_eq_true_eq, decide_eq_false_iff_not, eq_iff_iff, iff_true, iff_false] at *; have w_id : ∀ {n : Int}, -9223372036854775808 ≤ n → n ≤ 9223372036854775807 → wrap64 n = n := fun h0 h1 => (by unfold wrap64; omega); rw [w_id (by omega) (by omega)]; rfl)) ?_; (with_reducible refine (strings_Trim.calls t133 (⟨#[0]⟩ : ByteArray) t136 _ A4.out).mono ?_); rintro e w7 ⟨rfl, hb⟩; refine ⟨_, rfl, ?_⟩; have n0_ := Aside0.mk (IsS80.below (by repeat (first | (with_reducible first | exact HI0.out | apply IsS80.alloc | apply IsS80.drewN | apply IsS80.drew | apply IsS80.set_0 | apply IsS80.set_1_none | apply IsS80.set_1_some | apply IsS80.set_1) | exact HI0.out)) hb); have n1_ := Aside0.mk (KeepBut.trans (by repeat (first | (with_reducible first | exact HK.out | apply KeepBut.set_ | apply keep_drewN | apply keep_drew | apply keep_alloc) | exact HK.out)) (KeepBut.of_below hb g none) (.inl rfl)); have n2_ := Aside0.mk (below_step (by repeat (first | (with_reducible first | exact HB.out | apply below_alloc | apply pw_below_drewN | apply below_drew1 | refine below_set ?_ (IsS80.ge HI0.out)) | exact HB.out)) hb); clear HI0; clear HK; clear HB; have HI0 := n0_; have HK := n1_; have HB := n2_; clear n0_ n1_ n2_; (try clear hb); (try clear hb2); (try clear hk); (try clear hi)))
    first | go_end0 | ((try simp only [Exit.inBlock, Exit.then]); refine bodyPost_ret (results_none rfl _ _ _) rfl ?_)
    exact ⟨by first | rfl | (simp [errW_none, errW_some] <;> rfl) | (simp [*, errW_none, errW_some] <;> rfl), by repeat (first | (with_reducible first | exact HI0.out | apply IsS80.alloc | apply IsS80.drewN | apply IsS80.drew | apply IsS80.set_0 | apply IsS80.set_1_none | apply IsS80.set_1_some | apply IsS80.set_1) | exact HI0.out), by repeat (first | (with_reducible first | exact HB.out | apply below_alloc | apply pw_below_drewN | apply below_drew1 | refine below_set ?_ (IsS80.ge HI0.out)) | exact HB.out), by repeat (first | (with_reducible first | exact HK.out | apply KeepBut.set_ | apply keep_drewN | apply keep_drew | apply keep_alloc) | exact HK.out)⟩
  · rw [if_neg c5] at H
    have c5b0 : (t136.toList == ([] : List UInt8)) = false := beq_eq_false_iff_ne.mpr c5
    have c5b1 : (t136.toList != ([] : List UInt8)) = true := bne_iff_ne.mpr c5
    replace H := Option.bind_eq_some_iff.mp H
    obtain ⟨⟨t137, t138⟩, A80, H⟩ := H
    replace H : (some (t137, t138)) = some (r1, r2) := H
    have A8 := Aside0.mk A80
    clear A80
    simp only [Option.some.injEq, Prod.mk.injEq] at H
    obtain ⟨rfl, rfl⟩ := H
    go_enter Tryd.func32, Tryd.ntmps32
    go_wp2_with (first | ((with_reducible refine gate_callee (f := 27) rfl ?_); refine goesL_ (some 6) rfl rfl Tryd.func27 (by kernel_rfl) rfl #[.pointer (some ⟨g, 0, none⟩), .int .i64 a1] rfl (by (try simp only [List.map_toArray, List.map_cons, List.map_nil]); first | done | rfl | (simp only [List.length_drop, List.length_take]; rfl) | (simp only [decide_eq_true_eq, decide_eq_false_iff_not, eq_iff_iff, iff_true, iff_false] at *; have w_id : ∀ {n : Int}, -9223372036854775808 ≤ n → n ≤ 9223372036854775807 → wrap64 n = n := fun h0 h1 => (by unfold wrap64; omega); rw [w_id (by omega) (by omega)]; rfl)) ?_; (with_reducible refine (le_In_Text.calls g s0_0 s0_1 a1 t133 t134 t135 w0 _ ?side1 ?side2 A3.out).mono ?_); (case side1 => repeat (first | (with_reducible first | exact HI0.out | apply IsS80.alloc | apply IsS80.drewN | apply IsS80.drew | apply IsS80.set_0 | apply IsS80.set_1_none | apply IsS80.set_1_some | apply IsS80.set_1) | exact HI0.out)); (case side2 => repeat (first | (with_reducible first | exact HB.out | apply below_alloc | apply pw_below_drewN | apply below_drew1 | refine below_set ?_ (IsS80.ge HI0.out)) | exact HB.out)); rintro e w9 ⟨rfl, hi, hb, hk⟩; refine ⟨_, rfl, ?_⟩; have n0_ := Aside0.mk (KeepBut.trans (by repeat (first | (with_reducible first | exact HK.out | apply KeepBut.set_ | apply keep_drewN | apply keep_drew | apply keep_alloc) | exact HK.out)) hk (.inl rfl)); have n1_ := Aside0.mk (hb); have n2_ := Aside0.mk (hi); clear HK; clear HB; clear HI0; have HK := n0_; have HB := n1_; have HI0 := n2_; clear n0_ n1_ n2_; (try clear hb); (try clear hb2); (try clear hk); (try clear hi); (try simp only [errW_none, errW_some])) | ((with_reducible refine gate_callee (f := 45) rfl ?_); refine goesL_ (some 7) rfl rfl Tryd.func45 (by kernel_rfl) rfl #[.string t133, .string (⟨#[0]⟩ : ByteArray)] rfl (by (try simp only [List.map_toArray, List.map_cons, List.map_nil]); first | done | rfl | (simp only [List.length_drop, List.length_take]; rfl) | (simp only [decide_eq_true_eq, decide_eq_false_iff_not, eq_iff_iff, iff_true, iff_false] at *; have w_id : ∀ {n : Int}, -9223372036854775808 ≤ n → n ≤ 9223372036854775807 → wrap64 n = n := fun h0 h1 => (by unfold wrap64; omega); rw [w_id (by omega) (by omega)]; rfl)) ?_; (with_reducible refine (strings_Trim.calls t133 (⟨#[0]⟩ : ByteArray) t136 _ A4.out).mono ?_); rintro e w10 ⟨rfl, hb⟩; refine ⟨_, rfl, ?_⟩; have n0_ := Aside0.mk (IsS80.below (by repeat (first | (with_reducible first | exact HI0.out | apply IsS80.alloc | apply IsS80.drewN | apply IsS80.drew | apply IsS80.set_0 | apply IsS80.set_1_none | apply IsS80.set_1_some | apply IsS80.set_1) | exact HI0.out)) hb); have n1_ := Aside0.mk (KeepBut.trans (by repeat (first | (with_reducible first | exact HK.out | apply KeepBut.set_ | apply keep_drewN | apply keep_drew | apply keep_alloc) | exact HK.out)) (KeepBut.of_below hb g none) (.inl rfl)); have n2_ := Aside0.mk (below_step (by repeat (first | (with_reducible first | exact HB.out | apply below_alloc | apply pw_below_drewN | apply below_drew1 | refine below_set ?_ (IsS80.ge HI0.out)) | exact HB.out)) hb); clear HI0; clear HK; clear HB; have HI0 := n0_; have HK := n1_; have HB := n2_; clear n0_ n1_ n2_; (try clear hb); (try clear hb2); (try clear hk); (try clear hi)) | ((with_reducible refine gate_callee (f := 42) rfl ?_); refine goesL_ (some 10) rfl rfl Tryd.func42 (by kernel_rfl) rfl #[.pointer (some ⟨g, 0, none⟩), .int .i64 4] rfl (by (try simp only [List.map_toArray, List.map_cons, List.map_nil]); first | done | rfl | (simp only [List.length_drop, List.length_take]; rfl) | (simp only [decide_eq_true_eq, decide_eq_false_iff_not, eq_iff_iff, iff_true, iff_false] at *; have w_id : ∀ {n : Int}, -9223372036854775808 ≤ n → n ≤ 9223372036854775807 → wrap64 n = n := fun h0 h1 => (by unfold wrap64; omega); rw [w_id (by omega) (by omega)]; rfl)) ?_; (with_reducible refine (le_In_fail.calls g t134 t135 4 t137 t138 w0 _ ?side1 ?side2 A8.out).mono ?_); (case side1 => repeat (first | (with_reducible first | exact HI0.out | apply IsS80.alloc | apply IsS80.drewN | apply IsS80.drew | apply IsS80.set_0 | apply IsS80.set_1_none | apply IsS80.set_1_some | apply IsS80.set_1) | exact HI0.out)); (case side2 => repeat (first | (with_reducible first | exact HB.out | apply below_alloc | apply pw_below_drewN | apply below_drew1 | refine below_set ?_ (IsS80.ge HI0.out)) | exact HB.out)); rintro e w11 ⟨rfl, hi, hb, hk⟩; refine ⟨_, rfl, ?_⟩; have n0_ := Aside0.mk (KeepBut.trans (by repeat (first | (with_reducible first | exact HK.out | apply KeepBut.set_ | apply keep_drewN | apply keep_drew | apply keep_alloc) | exact HK.out)) hk (.inl rfl)); have n1_ := Aside0.mk (hb); have n2_ := Aside0.mk (hi); clear HK; clear HB; clear HI0; have HK := n0_; have HB := n1_; have HI0 := n2_; clear n0_ n1_ n2_; (try clear hb); (try clear hb2); (try clear hk); (try clear hi); (try simp only [errW_none, errW_some])))
    first | go_end0 | ((try simp only [Exit.inBlock, Exit.then]); refine bodyPost_ret (results_none rfl _ _ _) rfl ?_)
    exact ⟨by first | rfl | (simp [errW_none, errW_some] <;> rfl) | (simp [*, errW_none, errW_some] <;> rfl), by repeat (first | (with_reducible first | exact HI0.out | apply IsS80.alloc | apply IsS80.drewN | apply IsS80.drew | apply IsS80.set_0 | apply IsS80.set_1_none | apply IsS80.set_1_some | apply IsS80.set_1) | exact HI0.out), by repeat (first | (with_reducible first | exact HB.out | apply below_alloc | apply pw_below_drewN | apply below_drew1 | refine below_set ?_ (IsS80.ge HI0.out)) | exact HB.out), by repeat (first | (with_reducible first | exact HK.out | apply KeepBut.set_ | apply keep_drewN | apply keep_drew | apply keep_alloc) | exact HK.out)⟩

/-! ### posthorseref01_Noughts: function 33 -/
def posthorseref01_Noughts.l0 : Nat → ByteArray → Int → ByteArray → Int → Option (ByteArray × Int)
  | 0, _, _, _, _ => none
  | k + 1, x4, x5, x1000, x1001 => if x5 < (x4.size : Int) then (if 0 ≤ x5 then (if (bt x4 x5) = 0 then (posthorseref01_Noughts.l0 k x4 (wrap64 (x5 + 1)) x1000 x1001) else (if x1001 = 0 then (posthorseref01_Noughts.l0 k x4 (wrap64 (x5 + 1)) x1000 4) else (posthorseref01_Noughts.l0 k x4 (wrap64 (x5 + 1)) x1000 x1001))) else (none)) else (some (x1000, x1001))
def posthorseref01_Noughts.f (k : Nat) (s0_0 : ByteArray) (s0_1 : Int) (a1 : Int) : Option (ByteArray × Int) := (posthorseref01_Take.f k s0_0 s0_1 a1).bind fun bt139 => (posthorseref01_Noughts.l0 k bt139.1 0 bt139.2.1 bt139.2.2)
set_option maxRecDepth 100000 in
theorem posthorseref01_Noughts.mono_l : ∀ k, (∀ y0 y1 y2 y3, LeO (posthorseref01_Noughts.l0 k y0 y1 y2 y3) (posthorseref01_Noughts.l0 (k + 1) y0 y1 y2 y3))
  | 0 => fun _ _ _ _ r h => by first | (rw [posthorseref01_Noughts.l0] at h; cases h) | simp [posthorseref01_Noughts.l0] at h
  | k + 1 => by
    have ih0 := posthorseref01_Noughts.mono_l k
    · intro y0 y1 y2 y3
      unfold posthorseref01_Noughts.l0
      repeat' first
      | (with_reducible exact ih0 _ _ _ _)
      | (with_reducible exact posthorseref01_Take.mono _ _ _ _)
      | (with_reducible exact LeO.refl _)
      | (with_reducible exact LeO.none _)
      | (with_reducible refine LeO.ite ?_ ?_)
      | (with_reducible refine LeO.bind ?_ (fun _ => ?_))
      | exact ih0 _ _ _ _
      | exact posthorseref01_Take.mono _ _ _ _
      | exact LeO.none _
      | refine LeO.ite ?_ ?_
      | refine LeO.bind ?_ (fun _ => ?_)
theorem posthorseref01_Noughts.mono : ∀ a0 a1 a2 k, LeO (posthorseref01_Noughts.f k a0 a1 a2) (posthorseref01_Noughts.f (k + 1) a0 a1 a2) := by
  intro a0 a1 a2 k
  have ih0 := posthorseref01_Noughts.mono_l k
  unfold posthorseref01_Noughts.f
  repeat' first
      | (with_reducible exact ih0 _ _ _ _)
      | (with_reducible exact posthorseref01_Take.mono _ _ _ _)
      | (with_reducible exact LeO.refl _)
      | (with_reducible exact LeO.none _)
      | (with_reducible refine LeO.ite ?_ ?_)
      | (with_reducible refine LeO.bind ?_ (fun _ => ?_))
      | exact ih0 _ _ _ _
      | exact posthorseref01_Take.mono _ _ _ _
      | exact LeO.none _
      | refine LeO.ite ?_ ?_
      | refine LeO.bind ?_ (fun _ => ?_)
set_option maxHeartbeats 8000000 in
set_option maxRecDepth 100000 in
theorem posthorseref01_Noughts.calls (k : Nat) (g : Nat) (s0_0 : ByteArray) (s0_1 : Int) (a1 : Int) (r1 : ByteArray) (r2 : Int) (w0 w : World) (hI : IsS61 w0 w g s0_0 s0_1) (hB : Below w0.heap.size w0 w) (h : posthorseref01_Noughts.f k s0_0 s0_1 a1 = some (r1, r2)) :
    Calls Tryd.prog 33 #[.pointer (some ⟨g, 0, none⟩), .int .i64 a1] w fun e w' => e = .returned (.tuple #[]) ∧ IsS61 w0 w' g r1 r2 ∧ Below w0.heap.size w0 w' ∧ KeepBut w w' g none := by
  have HI0 := Aside0.mk hI
  have HK := Aside0.mk (KeepBut.refl w g none)
  have HL := Aside0.mk hB.size
  clear hI
  have HW0 := Aside0.mk hB.size
  have HB := Aside0.mk hB
  clear hB
  have H : ((posthorseref01_Take.f k s0_0 s0_1 a1).bind fun bt139 => (posthorseref01_Noughts.l0 k bt139.1 0 bt139.2.1 bt139.2.2)) = some (r1, r2) := h
  clear h
  replace H := Option.bind_eq_some_iff.mp H
  obtain ⟨⟨t139, t140, t141⟩, A30, H⟩ := H
  replace H : (posthorseref01_Noughts.l0 k t139 0 t140 t141) = some (r1, r2) := H
  have A3 := Aside0.mk A30
  clear A30
  have H' := Aside0.mk H
  clear H
  go_enter Tryd.func33, Tryd.ntmps33
  go_wp2_with (first | ((with_reducible refine gate_callee (f := 31) rfl ?_); refine goesL_ (some 8) rfl rfl Tryd.func31 (by kernel_rfl) rfl #[.pointer (some ⟨g, 0, none⟩), .int .i64 a1] rfl (by (try simp only [List.map_toArray, List.map_cons, List.map_nil]); first | done | rfl | (simp only [List.length_drop, List.length_take]; rfl) | (simp only [decide_eq_true_eq, decide_eq_false_iff_not, eq_iff_iff, iff_true, iff_false] at *; have w_id : ∀ {n : Int}, -9223372036854775808 ≤ n → n ≤ 9223372036854775807 → wrap64 n = n := fun h0 h1 => (by unfold wrap64; omega); rw [w_id (by omega) (by omega)]; rfl)) ?_; (with_reducible refine (posthorseref01_Take.calls k g s0_0 s0_1 a1 t139 t140 t141 w0 _ ?side1 ?side2 A3.out).mono ?_); (case side1 => repeat (first | (with_reducible first | exact HI0.out | apply IsS61.alloc | apply IsS61.drewN | apply IsS61.drew | apply IsS61.set_0 | apply IsS61.set_1) | exact HI0.out)); (case side2 => repeat (first | (with_reducible first | exact HB.out | apply below_alloc | apply pw_below_drewN | apply below_drew1 | refine below_set ?_ (IsS61.ge HI0.out)) | exact HB.out)); rintro e w4 ⟨rfl, hi, hb, hk⟩; refine ⟨_, rfl, ?_⟩; have n0_ := Aside0.mk (KeepBut.trans (by repeat (first | (with_reducible first | exact HK.out | apply KeepBut.set_ | apply keep_drewN | apply keep_drew | apply keep_alloc) | exact HK.out)) hk (.inl rfl)); have n1_ := Aside0.mk (hb); have n2_ := Aside0.mk (hi); clear HK; clear HB; clear HI0; have HK := n0_; have HB := n1_; have HI0 := n2_; clear n0_ n1_ n2_; (try clear hb); (try clear hb2); (try clear hk); (try clear hi)))
  go_loopg [5] k (fun kq v5 w' => ∃ (x5_1 : Int) (x1001_1 : Int), v5 = .int .i64 x5_1 ∧ Aside0 (posthorseref01_Noughts.l0 kq t139 x5_1 t140 x1001_1 = some (r1, r2)) ∧ Aside0 (kq ≤ k) ∧ Aside0 (IsS61 w0 w' g t140 x1001_1) ∧ Aside0 (KeepBut w w' g none) ∧ Aside0 (Below w0.heap.size w0 w'))
  case atStart => exact ⟨(0), (t141), (by first | rfl | (simp; done) | (simp [*]; done)), H', ⟨Nat.le_refl _⟩, ⟨by repeat (first | (with_reducible first | exact HI0.out | apply IsS61.alloc | apply IsS61.drewN | apply IsS61.drew | apply IsS61.set_0 | apply IsS61.set_1) | exact HI0.out)⟩, ⟨by repeat (first | (with_reducible first | exact HK.out | apply KeepBut.set_ | apply keep_drewN | apply keep_drew | apply keep_alloc) | exact HK.out)⟩, ⟨by repeat (first | (with_reducible first | exact HB.out | apply below_alloc | apply pw_below_drewN | apply below_drew1 | refine below_set ?_ (IsS61.ge HI0.out)) | exact HB.out)⟩⟩
  case round =>
    clear H'
    try clear p2
    try clear c3
    obtain ⟨x5_1, x1001_1, rfl, HA, HK1, HI0, HK, HB⟩ := hrel
    cases gk with
    | zero => exact absurd HA.out (by simp [posthorseref01_Noughts.l0])
    | succ k1 =>
      have H := HA.out
      clear HA
      simp only [posthorseref01_Noughts.l0] at H
      by_cases c5 : x5_1 < (t139.size : Int)
      · rw [if_pos c5] at H
        have c5b0 : decide (x5_1 < (t139.size : Int)) = true := decide_eq_true c5
        clear c5
        by_cases c6 : 0 ≤ x5_1
        · rw [if_pos c6] at H
          have c6b0 : decide (0 ≤ x5_1) = true := decide_eq_true c6
          clear c6
          by_cases c8 : (bt t139 x5_1) = 0
          · rw [if_pos c8] at H
            have c8b0 : ((bt t139 x5_1) == 0) = true := beq_iff_eq.mpr c8
            have c8b1 : ((bt t139 x5_1) != 0) = false := bne_eq_false_iff_eq.mpr c8
            clear c8
            have H' := Aside0.mk H
            clear H
            have p7 : 0 ≤ (x5_1 : Int) := of_decide_eq_true (by first | (with_reducible assumption) | assumption)
            have q7 : x5_1 < (t139.size : Int) := of_decide_eq_true (by first | (with_reducible assumption) | assumption)
            have hx7 := bt_at t139 x5_1
            replace p7 := eq_true p7
            replace q7 := eq_true q7
            go_wp2
            go_roundg k1
            case measure => have := HK1.out; omega
            case rel => exact ⟨(wrap64 (x5_1 + 1)), (x1001_1), (by first | rfl | (simp; done) | (simp [*]; done)), H', ⟨by have := HK1.out; omega⟩, ⟨by repeat (first | (with_reducible first | exact HI0.out | apply IsS61.alloc | apply IsS61.drewN | apply IsS61.drew | apply IsS61.set_0 | apply IsS61.set_1) | exact HI0.out)⟩, ⟨by repeat (first | (with_reducible first | exact HK.out | apply KeepBut.set_ | apply keep_drewN | apply keep_drew | apply keep_alloc) | exact HK.out)⟩, ⟨by repeat (first | (with_reducible first | exact HB.out | apply below_alloc | apply pw_below_drewN | apply below_drew1 | refine below_set ?_ (IsS61.ge HI0.out)) | exact HB.out)⟩⟩
          · rw [if_neg c8] at H
            have c8b0 : ((bt t139 x5_1) == 0) = false := beq_eq_false_iff_ne.mpr c8
            have c8b1 : ((bt t139 x5_1) != 0) = true := bne_iff_ne.mpr c8
            by_cases c9 : x1001_1 = 0
            · rw [if_pos c9] at H
              have c9b0 : (x1001_1 == 0) = true := beq_iff_eq.mpr c9
              have c9b1 : (x1001_1 != 0) = false := bne_eq_false_iff_eq.mpr c9
              clear c9
              have H' := Aside0.mk H
              clear H
              have p7 : 0 ≤ (x5_1 : Int) := of_decide_eq_true (by first | (with_reducible assumption) | assumption)
              have q7 : x5_1 < (t139.size : Int) := of_decide_eq_true (by first | (with_reducible assumption) | assumption)
              have hx7 := bt_at t139 x5_1
              replace p7 := eq_true p7
              replace q7 := eq_true q7
              obtain ⟨HGz10, hgz10⟩ := HI0.out
              have hcz10_0 := cellS61_0 HGz10
              try simp only [errW_none, errW_some] at hcz10_0
              have hcz10_1 := cellS61_1 HGz10
              try simp only [errW_none, errW_some] at hcz10_1
              have hfz10_0 := blk_frozen HGz10 0
              have hfz10_1 := blk_frozen HGz10 1
              clear HGz10 hgz10
              go_wp2
              go_roundg k1
              case measure => have := HK1.out; omega
              case rel => exact ⟨(wrap64 (x5_1 + 1)), (4), (by first | rfl | (simp; done) | (simp [*]; done)), H', ⟨by have := HK1.out; omega⟩, ⟨by repeat (first | (with_reducible first | exact HI0.out | apply IsS61.alloc | apply IsS61.drewN | apply IsS61.drew | apply IsS61.set_0 | apply IsS61.set_1) | exact HI0.out)⟩, ⟨by repeat (first | (with_reducible first | exact HK.out | apply KeepBut.set_ | apply keep_drewN | apply keep_drew | apply keep_alloc) | exact HK.out)⟩, ⟨by repeat (first | (with_reducible first | exact HB.out | apply below_alloc | apply pw_below_drewN | apply below_drew1 | refine below_set ?_ (IsS61.ge HI0.out)) | exact HB.out)⟩⟩
            · rw [if_neg c9] at H
              have c9b0 : (x1001_1 == 0) = false := beq_eq_false_iff_ne.mpr c9
              have c9b1 : (x1001_1 != 0) = true := bne_iff_ne.mpr c9
              have H' := Aside0.mk H
              clear H
              have p7 : 0 ≤ (x5_1 : Int) := of_decide_eq_true (by first | (with_reducible assumption) | assumption)
              have q7 : x5_1 < (t139.size : Int) := of_decide_eq_true (by first | (with_reducible assumption) | assumption)
              have hx7 := bt_at t139 x5_1
              replace p7 := eq_true p7
              replace q7 := eq_true q7
              obtain ⟨HGz11, hgz11⟩ := HI0.out
              have hcz11_0 := cellS61_0 HGz11
              try simp only [errW_none, errW_some] at hcz11_0
              have hcz11_1 := cellS61_1 HGz11
              try simp only [errW_none, errW_some] at hcz11_1
              have hfz11_0 := blk_frozen HGz11 0
              have hfz11_1 := blk_frozen HGz11 1
              clear HGz11 hgz11
              go_wp2
              go_roundg k1
              case measure => have := HK1.out; omega
              case rel => exact ⟨(wrap64 (x5_1 + 1)), (x1001_1), (by first | rfl | (simp; done) | (simp [*]; done)), H', ⟨by have := HK1.out; omega⟩, ⟨by repeat (first | (with_reducible first | exact HI0.out | apply IsS61.alloc | apply IsS61.drewN | apply IsS61.drew | apply IsS61.set_0 | apply IsS61.set_1) | exact HI0.out)⟩, ⟨by repeat (first | (with_reducible first | exact HK.out | apply KeepBut.set_ | apply keep_drewN | apply keep_drew | apply keep_alloc) | exact HK.out)⟩, ⟨by repeat (first | (with_reducible first | exact HB.out | apply below_alloc | apply pw_below_drewN | apply below_drew1 | refine below_set ?_ (IsS61.ge HI0.out)) | exact HB.out)⟩⟩
        · rw [if_neg c6] at H
          exact absurd H (by simp)
      · rw [if_neg c5] at H
        have c5b0 : decide (x5_1 < (t139.size : Int)) = false := decide_eq_false c5
        clear c5
        simp only [Option.some.injEq, Prod.mk.injEq] at H
        obtain ⟨rfl, rfl⟩ := H
        go_wp2
        first | go_end0 | ((try simp only [Exit.inBlock, Exit.then]); refine bodyPost_ret (results_none rfl _ _ _) rfl ?_)
        exact ⟨by first | rfl | (simp [errW_none, errW_some] <;> rfl) | (simp [*, errW_none, errW_some] <;> rfl), by repeat (first | (with_reducible first | exact HI0.out | apply IsS61.alloc | apply IsS61.drewN | apply IsS61.drew | apply IsS61.set_0 | apply IsS61.set_1) | exact HI0.out), by repeat (first | (with_reducible first | exact HB.out | apply below_alloc | apply pw_below_drewN | apply below_drew1 | refine below_set ?_ (IsS61.ge HI0.out)) | exact HB.out), by repeat (first | (with_reducible first | exact HK.out | apply KeepBut.set_ | apply keep_drewN | apply keep_drew | apply keep_alloc) | exact HK.out)⟩

/-! ### posthorseref01_End: function 34 -/
def posthorseref01_End.f (s0_0 : ByteArray) (s0_1 : Int) : Option (Int × ByteArray × Int) := if s0_1 = 0 then (if s0_0.toList = ([] : List UInt8) then (some (s0_1, s0_0, s0_1)) else (some (10, s0_0, s0_1))) else (some (s0_1, s0_0, s0_1))
set_option maxHeartbeats 8000000 in
set_option maxRecDepth 100000 in
theorem posthorseref01_End.calls (g : Nat) (s0_0 : ByteArray) (s0_1 : Int) (r1 : Int) (r2 : ByteArray) (r3 : Int) (w0 w : World) (hI : IsS61 w0 w g s0_0 s0_1) (hB : Below w0.heap.size w0 w) (h : posthorseref01_End.f s0_0 s0_1 = some (r1, r2, r3)) :
    Calls Tryd.prog 34 #[.pointer (some ⟨g, 0, none⟩)] w fun e w' => e = .returned (.int .i64 r1) ∧ IsS61 w0 w' g r2 r3 ∧ Below w0.heap.size w0 w' ∧ KeepBut w w' g none := by
  have HI0 := Aside0.mk hI
  have HK := Aside0.mk (KeepBut.refl w g none)
  have HL := Aside0.mk hB.size
  clear hI
  have HW0 := Aside0.mk hB.size
  have HB := Aside0.mk hB
  clear hB
  have H : (if s0_1 = 0 then (if s0_0.toList = ([] : List UInt8) then (some (s0_1, s0_0, s0_1)) else (some (10, s0_0, s0_1))) else (some (s0_1, s0_0, s0_1))) = some (r1, r2, r3) := h
  clear h
  by_cases c2 : s0_1 = 0
  · rw [if_pos c2] at H
    have c2b0 : (s0_1 == 0) = true := beq_iff_eq.mpr c2
    have c2b1 : (s0_1 != 0) = false := bne_eq_false_iff_eq.mpr c2
    clear c2
    by_cases c3 : s0_0.toList = ([] : List UInt8)
    · rw [if_pos c3] at H
      have c3b0 : (s0_0.toList == ([] : List UInt8)) = true := beq_iff_eq.mpr c3
      have c3b1 : (s0_0.toList != ([] : List UInt8)) = false := bne_eq_false_iff_eq.mpr c3
      clear c3
      simp only [Option.some.injEq, Prod.mk.injEq] at H
      obtain ⟨rfl, rfl, rfl⟩ := H
      obtain ⟨HGz4, hgz4⟩ := HI0.out
      have hcz4_0 := cellS61_0 HGz4
      try simp only [errW_none, errW_some] at hcz4_0
      have hcz4_1 := cellS61_1 HGz4
      try simp only [errW_none, errW_some] at hcz4_1
      have hfz4_0 := blk_frozen HGz4 0
      have hfz4_1 := blk_frozen HGz4 1
      clear HGz4 hgz4
      go_enter Tryd.func34, Tryd.ntmps34
      go_wp2
      go_ret
      exact ⟨by first | rfl | (simp [errW_none, errW_some] <;> rfl) | (simp [*, errW_none, errW_some] <;> rfl), by repeat (first | (with_reducible first | exact HI0.out | apply IsS61.alloc | apply IsS61.drewN | apply IsS61.drew | apply IsS61.set_0 | apply IsS61.set_1) | exact HI0.out), by repeat (first | (with_reducible first | exact HB.out | apply below_alloc | apply pw_below_drewN | apply below_drew1 | refine below_set ?_ (IsS61.ge HI0.out)) | exact HB.out), by repeat (first | (with_reducible first | exact HK.out | apply KeepBut.set_ | apply keep_drewN | apply keep_drew | apply keep_alloc) | exact HK.out)⟩
    · rw [if_neg c3] at H
      have c3b0 : (s0_0.toList == ([] : List UInt8)) = false := beq_eq_false_iff_ne.mpr c3
      have c3b1 : (s0_0.toList != ([] : List UInt8)) = true := bne_iff_ne.mpr c3
      simp only [Option.some.injEq, Prod.mk.injEq] at H
      obtain ⟨rfl, rfl, rfl⟩ := H
      obtain ⟨HGz5, hgz5⟩ := HI0.out
      have hcz5_0 := cellS61_0 HGz5
      try simp only [errW_none, errW_some] at hcz5_0
      have hcz5_1 := cellS61_1 HGz5
      try simp only [errW_none, errW_some] at hcz5_1
      have hfz5_0 := blk_frozen HGz5 0
      have hfz5_1 := blk_frozen HGz5 1
      clear HGz5 hgz5
      go_enter Tryd.func34, Tryd.ntmps34
      go_wp2
      go_ret
      exact ⟨by first | rfl | (simp [errW_none, errW_some] <;> rfl) | (simp [*, errW_none, errW_some] <;> rfl), by repeat (first | (with_reducible first | exact HI0.out | apply IsS61.alloc | apply IsS61.drewN | apply IsS61.drew | apply IsS61.set_0 | apply IsS61.set_1) | exact HI0.out), by repeat (first | (with_reducible first | exact HB.out | apply below_alloc | apply pw_below_drewN | apply below_drew1 | refine below_set ?_ (IsS61.ge HI0.out)) | exact HB.out), by repeat (first | (with_reducible first | exact HK.out | apply KeepBut.set_ | apply keep_drewN | apply keep_drew | apply keep_alloc) | exact HK.out)⟩
  · rw [if_neg c2] at H
    have c2b0 : (s0_1 == 0) = false := beq_eq_false_iff_ne.mpr c2
    have c2b1 : (s0_1 != 0) = true := bne_iff_ne.mpr c2
    simp only [Option.some.injEq, Prod.mk.injEq] at H
    obtain ⟨rfl, rfl, rfl⟩ := H
    obtain ⟨HGz6, hgz6⟩ := HI0.out
    have hcz6_0 := cellS61_0 HGz6
    try simp only [errW_none, errW_some] at hcz6_0
    have hcz6_1 := cellS61_1 HGz6
    try simp only [errW_none, errW_some] at hcz6_1
    have hfz6_0 := blk_frozen HGz6 0
    have hfz6_1 := blk_frozen HGz6 1
    clear HGz6 hgz6
    go_enter Tryd.func34, Tryd.ntmps34
    go_wp2
    go_ret
    exact ⟨by first | rfl | (simp [errW_none, errW_some] <;> rfl) | (simp [*, errW_none, errW_some] <;> rfl), by repeat (first | (with_reducible first | exact HI0.out | apply IsS61.alloc | apply IsS61.drewN | apply IsS61.drew | apply IsS61.set_0 | apply IsS61.set_1) | exact HI0.out), by repeat (first | (with_reducible first | exact HB.out | apply below_alloc | apply pw_below_drewN | apply below_drew1 | refine below_set ?_ (IsS61.ge HI0.out)) | exact HB.out), by repeat (first | (with_reducible first | exact HK.out | apply KeepBut.set_ | apply keep_drewN | apply keep_drew | apply keep_alloc) | exact HK.out)⟩

end Go.Proofs.YtdlmgjpnlgdpkaaDoor.VLeReads
