/- Contracts of functions of this seat: each call comes to what its Lean function computes; no condition beyond what each theorem states. Printed by a program of this session's own laid over the kit's printer. -/
import Derived.Test.YtegcaniikdibdaaDoorVFaultTextsx0
namespace Go.Proofs.YtegcaniikdibdaaDoor.VFaultTexts
open Go.RowKit Go.Proofs.YtegcaniikdibdaaDoorW.PrintWords Go.Proofs.YtegcaniikdibdaaDoorW.PrintLast Go.Proofs.YtegcaniikdibdaaDoorW.PrintMore
attribute [local go_sem] max2_int min2_int max_two min_two max_three min_three max_four min_four   -- for this text's walks alone
set_option linter.unusedVariables false
set_option linter.unusedSimpArgs false

-- @GIVEN fault_Error
/-! ### fault_Error: by hand -/
def fault_Error.T3 : Bool × List (List Nat × List Nat) := (true, [([], []), ([0], [0]), ([1], [1]), ([2], [2]), ([3], [3]), ([], []), ([5], [5]), ([6], [6]), ([7], [7]), ([8], [8]), ([4, 9], [4, 9]), ([10], [10]), ([], []), ([12], [12]), ([13], [13]), ([14], [14]), ([15, 9], [15]), ([11, 16], [11, 16]), ([17, 16, 0, 1, 2, 3, 4, 5, 6, 7, 8, 9, 10, 11, 12, 13, 14, 15, 16, 17], [17])])
def fault_Error.B3 : List Nat := [0, 1, 3, 7, 15, 0, 32, 96, 224, 480, 1023, 2047, 0, 4096, 12288, 28672, 62432, 131071, 262143]
theorem fault_Error.tab3 : rtab .any (opsOf Tryd.f25 3) = fault_Error.T3 := by kernel_rfl
theorem fault_Error.bits3 : waitsOk fault_Error.T3.2 fault_Error.B3 = true := by kernel_rfl
set_option maxHeartbeats 8000000 in
set_option maxRecDepth 100000 in
/-- A fault's text, out of those of its number and of what it came of. -/
theorem fError (g : Nat) (o it tx : ByteArray) (p : Int) (v1 : Value) (w : World) (hg : w.heap[g]? = some (.cells #[.string o, .int .i64 p, v1] 39 (0, 0)))
    (hz : o.size + it.size + tx.size ≤ 1000000)
    (hI : ∀ W : World, Below w.heap.size w W → Calls Tryd.prog 50 #[.int .i64 p] W (fun r w' => r = .returned (.string it) ∧ Below W.heap.size W w'))
    (hT : ∀ W : World, Below w.heap.size w W → Calls Tryd.prog 44 #[v1] W (fun r w' => r = .returned (.string tx) ∧ Below W.heap.size W w')) :
    Calls Tryd.prog 25 #[.pointer (some ⟨g, 0, none⟩)] w fun r w' => r = .returned (.string ((((o ++ (⟨#[32]⟩ : ByteArray)) ++ it) ++ (⟨#[58, 32]⟩ : ByteArray)) ++ tx)) ∧ Below w.heap.size w w' := by
  have HX := Aside0.mk hg
  have HI := Aside0.mk hI
  have HT := Aside0.mk hT
  have HZ := Aside0.mk hz
  clear hz
  have HB := Aside0.mk (Below.refl w.heap.size w)
  clear hg hI hT
  go_enter Tryd.func25, Tryd.ntmps25
  go_upto_region 3 with (fail)
  refine start_ (n := 19) (S := fun w' => True) (ds := []) #[false, false, false, false, false, false, false, false, false, false, false, false, false, false, false, false, false, false, false] (by kernel_rfl) rfl rfl trivial (fun hHeld => ?_)
  refine with_tabW fault_Error.tab3 fault_Error.bits3 (fun HT_ HW_ => ?_)
  have n0_ := Aside0.mk HB.out.drew; have n1_ := Aside0.mk (blk_drew HX.out); clear HB HX; have HB := n0_; have HX := n1_; clear n0_ n1_; generalize w.drew = wd at HB HX ⊢
  refine pure_ (i := 0) (N := some 5) (v := ?_) (a' := ?_) #[true, false, false, false, false, false, false, false, false, false, false, false, false, false, false, false, false, false, false] rfl rfl (any_of HT_.out (by kernel_rfl)) (fun _ _ _ h => h) (Or.inl ⟨by rfl, ?_⟩) ?_ ?_
  rotate_left
  · intro w'
    go_simp
    with_reducible rfl
  rotate_left
  · simp only [Act.put, List.setIfInBounds_toArray, List.set_cons_zero, List.set_cons_succ, i64_w, i32_w]
    rfl
  refine pure_ (i := 1) (N := some 6) (v := ?_) (a' := ?_) #[true, true, false, false, false, false, false, false, false, false, false, false, false, false, false, false, false, false, false] rfl rfl (any_of HT_.out (by kernel_rfl)) (fun _ _ _ h => h) (Or.inl ⟨by rfl, ?_⟩) ?_ ?_
  rotate_left
  · intro w'
    go_simp
    with_reducible rfl
  rotate_left
  · simp only [Act.put, List.setIfInBounds_toArray, List.set_cons_zero, List.set_cons_succ, i64_w, i32_w]
    rfl
  refine pure_ (i := 2) (N := some 7) (v := ?_) (a' := ?_) #[true, true, true, false, false, false, false, false, false, false, false, false, false, false, false, false, false, false, false] rfl rfl (any_of HT_.out (by kernel_rfl)) (fun _ _ _ h => h) (Or.inl ⟨by rfl, ?_⟩) ?_ ?_
  rotate_left
  · intro w'
    go_simp
    with_reducible rfl
  rotate_left
  · simp only [Act.put, List.setIfInBounds_toArray, List.set_cons_zero, List.set_cons_succ, i64_w, i32_w]
    rfl
  refine pure_ (i := 5) (N := some 10) (v := ?_) (a' := ?_) #[true, true, true, false, false, true, false, false, false, false, false, false, false, false, false, false, false, false, false] rfl rfl (any_of HT_.out (by kernel_rfl)) (fun _ _ _ h => h) (Or.inl ⟨by rfl, ?_⟩) ?_ ?_
  rotate_left
  · intro w'
    go_simp
    with_reducible rfl
  rotate_left
  · simp only [Act.put, List.setIfInBounds_toArray, List.set_cons_zero, List.set_cons_succ, i64_w, i32_w]
    rfl
  refine pure_ (i := 6) (N := some 11) (v := ?_) (a' := ?_) #[true, true, true, false, false, true, true, false, false, false, false, false, false, false, false, false, false, false, false] rfl rfl (any_of HT_.out (by kernel_rfl)) (fun _ _ _ h => h) (Or.inl ⟨by rfl, ?_⟩) ?_ ?_
  rotate_left
  · intro w'
    go_simp
    with_reducible rfl
  rotate_left
  · simp only [Act.put, List.setIfInBounds_toArray, List.set_cons_zero, List.set_cons_succ, i64_w, i32_w]
    rfl
  refine pure_ (i := 7) (N := some 12) (v := ?_) (a' := ?_) #[true, true, true, false, false, true, true, true, false, false, false, false, false, false, false, false, false, false, false] rfl rfl (any_of HT_.out (by kernel_rfl)) (fun _ _ _ h => h) (Or.inl ⟨by rfl, ?_⟩) ?_ ?_
  rotate_left
  · intro w'
    go_simp
    with_reducible rfl
  rotate_left
  · simp only [Act.put, List.setIfInBounds_toArray, List.set_cons_zero, List.set_cons_succ, i64_w, i32_w]
    rfl
  refine pure_ (i := 12) (N := some 17) (v := ?_) (a' := ?_) #[true, true, true, false, false, true, true, true, false, false, false, false, true, false, false, false, false, false, false] rfl rfl (any_of HT_.out (by kernel_rfl)) (fun _ _ _ h => h) (Or.inl ⟨by rfl, ?_⟩) ?_ ?_
  rotate_left
  · intro w'
    go_simp
    with_reducible rfl
  rotate_left
  · simp only [Act.put, List.setIfInBounds_toArray, List.set_cons_zero, List.set_cons_succ, i64_w, i32_w]
    rfl
  refine pure_ (i := 13) (N := some 18) (v := ?_) (a' := ?_) #[true, true, true, false, false, true, true, true, false, false, false, false, true, true, false, false, false, false, false] rfl rfl (any_of HT_.out (by kernel_rfl)) (fun _ _ _ h => h) (Or.inl ⟨by rfl, ?_⟩) ?_ ?_
  rotate_left
  · intro w'
    go_simp
    with_reducible rfl
  rotate_left
  · simp only [Act.put, List.setIfInBounds_toArray, List.set_cons_zero, List.set_cons_succ, i64_w, i32_w]
    rfl
  refine pure_ (i := 14) (N := some 19) (v := ?_) (a' := ?_) #[true, true, true, false, false, true, true, true, false, false, false, false, true, true, true, false, false, false, false] rfl rfl (any_of HT_.out (by kernel_rfl)) (fun _ _ _ h => h) (Or.inl ⟨by rfl, ?_⟩) ?_ ?_
  rotate_left
  · intro w'
    go_simp
    with_reducible rfl
  rotate_left
  · simp only [Act.put, List.setIfInBounds_toArray, List.set_cons_zero, List.set_cons_succ, i64_w, i32_w]
    rfl
  refine inv_at [3, 4, 8, 9, 10, 11, 15, 16, 17, 18] (fun a0_ b a w' => a = putSel a0_ b [(3, 8, .string o), (4, 9, .string (o ++ (⟨#[32]⟩ : ByteArray))), (8, 13, .int .i64 p), (9, 14, .string it), (10, 15, .string ((o ++ (⟨#[32]⟩ : ByteArray)) ++ it)), (11, 16, .string (((o ++ (⟨#[32]⟩ : ByteArray)) ++ it) ++ (⟨#[58, 32]⟩ : ByteArray))), (15, 20, v1), (16, 21, .string tx), (17, 22, .string ((((o ++ (⟨#[32]⟩ : ByteArray)) ++ it) ++ (⟨#[58, 32]⟩ : ByteArray)) ++ tx)), (18, 2, .string ((((o ++ (⟨#[32]⟩ : ByteArray)) ++ it) ++ (⟨#[58, 32]⟩ : ByteArray)) ++ tx))] ∧ (Below w.heap.size w w') ∧ (w'.heap[g]? = some (.cells #[.string o, .int .i64 p, v1] 39 (0, 0)))) HT_.out HW_.out (by kernel_rfl) (by kernel_rfl) ?_ ?_ ?_
  · exact ⟨by simp only [putSel, Bool.false_eq_true, if_false], HB.out, HX.out⟩
  · skip
    clear HB HX
    refine steps_cons ?_ ?_
    · rintro b a w' ⟨ha, Q_HB, Q_HX⟩ hb_ hon hoff
      refine ⟨_, rfl, fun K hK => ?_⟩
      have e7 : a.tmps[7]? = some (.pointer (some ⟨g, 0, none⟩)) := by rw [ha]; exact (putSel_off rfl).trans rfl
      replace ha := Aside0.mk ha
      have HB := Aside0.mk Q_HB
      have HX := Aside0.mk Q_HX
      have hx_ := (blk_cell HX.out 0).trans rfl
      refine value_ (w1 := w') (v := .string o) (by rfl) rfl ?_ ?_
      · go_simp
        (try simp only [i64_w])
        try rfl
      refine hK.out _ _ ⟨(by rw [ha.out]; exact putSel_upk 0 hb_ rfl rfl rfl), Q_HB, Q_HX⟩
    refine steps_cons ?_ ?_
    · rintro b a w' ⟨ha, Q_HB, Q_HX⟩ hb_ hon hoff
      refine ⟨_, rfl, fun K hK => ?_⟩
      have e8 : a.tmps[8]? = some (.string o) := by rw [ha]; exact putSel_on (e := (3, 8, .string o)) 0 rfl rfl (hon 3 (by kernel_rfl)) rfl
      replace ha := Aside0.mk ha
      have HB := Aside0.mk Q_HB
      have HX := Aside0.mk Q_HX
      have hz_ := HZ.out
      refine value_ (w1 := w') (v := .string (o ++ (⟨#[32]⟩ : ByteArray))) (by rfl) rfl ?_ ?_
      · go_simp
        try omega
        try rfl
      refine hK.out _ _ ⟨(by rw [ha.out]; exact putSel_upk 1 hb_ rfl rfl rfl), HB.out, HX.out⟩
    refine steps_cons ?_ ?_
    · rintro b a w' ⟨ha, Q_HB, Q_HX⟩ hb_ hon hoff
      refine ⟨_, rfl, fun K hK => ?_⟩
      have e12 : a.tmps[12]? = some (.pointer (some ⟨g, 1, none⟩)) := by rw [ha]; exact (putSel_off rfl).trans rfl
      replace ha := Aside0.mk ha
      have HB := Aside0.mk Q_HB
      have HX := Aside0.mk Q_HX
      have hx_ := (blk_cell HX.out 1).trans rfl
      refine value_ (w1 := w') (v := .int .i64 p) (by rfl) rfl ?_ ?_
      · go_simp
        (try simp only [i64_w])
        try rfl
      refine hK.out _ _ ⟨(by rw [ha.out]; exact putSel_upk 2 hb_ rfl rfl rfl), Q_HB, Q_HX⟩
    refine steps_cons ?_ ?_
    · rintro b a w' ⟨ha, Q_HB, Q_HX⟩ hb_ hon hoff
      refine ⟨_, rfl, fun K hK => ?_⟩
      have e13 : a.tmps[13]? = some (.int .i64 p) := by rw [ha]; exact putSel_on (e := (8, 13, .int .i64 p)) 2 rfl rfl (hon 8 (by kernel_rfl)) rfl
      replace ha := Aside0.mk ha
      have HB := Aside0.mk Q_HB
      have HX := Aside0.mk Q_HX
      refine goes_ Tryd.func50 (by kernel_rfl) rfl #[.int .i64 p] (by rfl) rfl rfl (by first | (simp only [List.map_toArray, List.map_cons, List.map_nil, Act.eval, Array.getD_eq_getD_getElem?, Option.getD_some, e13]; done) | (simp only [List.map_toArray, List.map_cons, List.map_nil, Act.eval, Array.getD_eq_getD_getElem?, Option.getD_some, e13]; rfl)) ?_
      with_reducible refine (HI.out _ HB.out).mono ?_
      rintro e_ wN ⟨rfl, hbw_⟩
      refine ⟨_, rfl, ?_⟩
      refine hK.out _ _ ⟨(by rw [ha.out]; exact putSel_upk 3 hb_ rfl rfl rfl), below_step HB.out hbw_, blk_below HX.out hbw_⟩
    refine steps_cons ?_ ?_
    · rintro b a w' ⟨ha, Q_HB, Q_HX⟩ hb_ hon hoff
      refine ⟨_, rfl, fun K hK => ?_⟩
      have e9 : a.tmps[9]? = some (.string (o ++ (⟨#[32]⟩ : ByteArray))) := by rw [ha]; exact putSel_on (e := (4, 9, .string (o ++ (⟨#[32]⟩ : ByteArray)))) 1 rfl rfl (hon 4 (by kernel_rfl)) rfl
      have e14 : a.tmps[14]? = some (.string it) := by rw [ha]; exact putSel_on (e := (9, 14, .string it)) 3 rfl rfl (hon 9 (by kernel_rfl)) rfl
      replace ha := Aside0.mk ha
      have HB := Aside0.mk Q_HB
      have HX := Aside0.mk Q_HX
      have hz_ := HZ.out
      refine value_ (w1 := w') (v := .string ((o ++ (⟨#[32]⟩ : ByteArray)) ++ it)) (by rfl) rfl ?_ ?_
      · go_simp
        try omega
        try rfl
      refine hK.out _ _ ⟨(by rw [ha.out]; exact putSel_upk 4 hb_ rfl rfl rfl), HB.out, HX.out⟩
    refine steps_cons ?_ ?_
    · rintro b a w' ⟨ha, Q_HB, Q_HX⟩ hb_ hon hoff
      refine ⟨_, rfl, fun K hK => ?_⟩
      have e15 : a.tmps[15]? = some (.string ((o ++ (⟨#[32]⟩ : ByteArray)) ++ it)) := by rw [ha]; exact putSel_on (e := (10, 15, .string ((o ++ (⟨#[32]⟩ : ByteArray)) ++ it))) 4 rfl rfl (hon 10 (by kernel_rfl)) rfl
      replace ha := Aside0.mk ha
      have HB := Aside0.mk Q_HB
      have HX := Aside0.mk Q_HX
      have hz_ := HZ.out
      refine value_ (w1 := w') (v := .string (((o ++ (⟨#[32]⟩ : ByteArray)) ++ it) ++ (⟨#[58, 32]⟩ : ByteArray))) (by rfl) rfl ?_ ?_
      · go_simp
        try omega
        try rfl
      refine hK.out _ _ ⟨(by rw [ha.out]; exact putSel_upk 5 hb_ rfl rfl rfl), HB.out, HX.out⟩
    refine steps_cons ?_ ?_
    · rintro b a w' ⟨ha, Q_HB, Q_HX⟩ hb_ hon hoff
      refine ⟨_, rfl, fun K hK => ?_⟩
      have e19 : a.tmps[19]? = some (.pointer (some ⟨g, 2, none⟩)) := by rw [ha]; exact (putSel_off rfl).trans rfl
      replace ha := Aside0.mk ha
      have HB := Aside0.mk Q_HB
      have HX := Aside0.mk Q_HX
      have hx_ := (blk_cell HX.out 2).trans rfl
      refine value_ (w1 := w') (v := v1) (by rfl) rfl ?_ ?_
      · go_simp
        (try simp only [i64_w])
        try rfl
      refine hK.out _ _ ⟨(by rw [ha.out]; exact putSel_upk 6 hb_ rfl rfl rfl), Q_HB, Q_HX⟩
    refine steps_cons ?_ ?_
    · rintro b a w' ⟨ha, Q_HB, Q_HX⟩ hb_ hon hoff
      refine ⟨_, rfl, fun K hK => ?_⟩
      have e20 : a.tmps[20]? = some (v1) := by rw [ha]; exact putSel_on (e := (15, 20, v1)) 6 rfl rfl (hon 15 (by kernel_rfl)) rfl
      replace ha := Aside0.mk ha
      have HB := Aside0.mk Q_HB
      have HX := Aside0.mk Q_HX
      refine goes_ Tryd.func44 (by kernel_rfl) rfl #[v1] (by rfl) rfl rfl (by first | (simp only [List.map_toArray, List.map_cons, List.map_nil, Act.eval, Array.getD_eq_getD_getElem?, Option.getD_some, e20]; done) | (simp only [List.map_toArray, List.map_cons, List.map_nil, Act.eval, Array.getD_eq_getD_getElem?, Option.getD_some, e20]; rfl)) ?_
      with_reducible refine (HT.out _ HB.out).mono ?_
      rintro e_ wN ⟨rfl, hbw_⟩
      refine ⟨_, rfl, ?_⟩
      refine hK.out _ _ ⟨(by rw [ha.out]; exact putSel_upk 7 hb_ rfl rfl rfl), below_step HB.out hbw_, blk_below HX.out hbw_⟩
    refine steps_cons ?_ ?_
    · rintro b a w' ⟨ha, Q_HB, Q_HX⟩ hb_ hon hoff
      refine ⟨_, rfl, fun K hK => ?_⟩
      have e16 : a.tmps[16]? = some (.string (((o ++ (⟨#[32]⟩ : ByteArray)) ++ it) ++ (⟨#[58, 32]⟩ : ByteArray))) := by rw [ha]; exact putSel_on (e := (11, 16, .string (((o ++ (⟨#[32]⟩ : ByteArray)) ++ it) ++ (⟨#[58, 32]⟩ : ByteArray)))) 5 rfl rfl (hon 11 (by kernel_rfl)) rfl
      have e21 : a.tmps[21]? = some (.string tx) := by rw [ha]; exact putSel_on (e := (16, 21, .string tx)) 7 rfl rfl (hon 16 (by kernel_rfl)) rfl
      replace ha := Aside0.mk ha
      have HB := Aside0.mk Q_HB
      have HX := Aside0.mk Q_HX
      have hz_ := HZ.out
      refine value_ (w1 := w') (v := .string ((((o ++ (⟨#[32]⟩ : ByteArray)) ++ it) ++ (⟨#[58, 32]⟩ : ByteArray)) ++ tx)) (by rfl) rfl ?_ ?_
      · go_simp
        try omega
        try rfl
      refine hK.out _ _ ⟨(by rw [ha.out]; exact putSel_upk 8 hb_ rfl rfl rfl), HB.out, HX.out⟩
    refine steps_cons ?_ ?_
    · rintro b a w' ⟨ha, Q_HB, Q_HX⟩ hb_ hon hoff
      refine ⟨_, rfl, fun K hK => ?_⟩
      have e22 : a.tmps[22]? = some (.string ((((o ++ (⟨#[32]⟩ : ByteArray)) ++ it) ++ (⟨#[58, 32]⟩ : ByteArray)) ++ tx)) := by rw [ha]; exact putSel_on (e := (17, 22, .string ((((o ++ (⟨#[32]⟩ : ByteArray)) ++ it) ++ (⟨#[58, 32]⟩ : ByteArray)) ++ tx))) 8 rfl rfl (hon 17 (by kernel_rfl)) rfl
      replace ha := Aside0.mk ha
      have HB := Aside0.mk Q_HB
      have HX := Aside0.mk Q_HX
      refine value_ (w1 := w') (v := .string ((((o ++ (⟨#[32]⟩ : ByteArray)) ++ it) ++ (⟨#[58, 32]⟩ : ByteArray)) ++ tx)) (by rfl) rfl ?_ ?_
      · go_simp
        (try simp only [i64_w])
        try rfl
      refine hK.out _ _ ⟨(by rw [ha.out]; exact putSel_upk 9 hb_ rfl rfl rfl), Q_HB, Q_HX⟩
    exact steps_nil
  rintro b a w1 hall ⟨ha, Q_HB, Q_HX⟩
  clear HB HX
  have hb3_ := hall 3 (by kernel_rfl)
  have hb4_ := hall 4 (by kernel_rfl)
  have hb8_ := hall 8 (by kernel_rfl)
  have hb9_ := hall 9 (by kernel_rfl)
  have hb10_ := hall 10 (by kernel_rfl)
  have hb11_ := hall 11 (by kernel_rfl)
  have hb15_ := hall 15 (by kernel_rfl)
  have hb16_ := hall 16 (by kernel_rfl)
  have hb17_ := hall 17 (by kernel_rfl)
  have hb18_ := hall 18 (by kernel_rfl)
  subst ha
  simp only [putSel, hb3_, hb4_, hb8_, hb9_, hb10_, hb11_, hb15_, hb16_, hb17_, hb18_, if_true, Act.put, List.setIfInBounds_toArray, List.set_cons_zero, List.set_cons_succ]
  have HB := Aside0.mk Q_HB
  clear Q_HB
  have HX := Aside0.mk Q_HX
  clear Q_HX
  clear hall hb3_ hb4_ hb8_ hb9_ hb10_ hb11_ hb15_ hb16_ hb17_ hb18_
  go_wp2
  go_ret
  exact ⟨rfl, HB.out⟩


end Go.Proofs.YtegcaniikdibdaaDoor.VFaultTexts
