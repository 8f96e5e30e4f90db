/- Contracts of functions of this seat: each call comes to what its Lean function computes; no condition beyond what each theorem states. Printed by a program of this session's own laid over the kit's printer. -/
import Derived.Test.YtofiedgnnpednaaDoorVNvmeRefusesx0
import Derived.Test.YtofiedgnnpednaaDoorVNvmeRefusesx1
import Derived.Test.YtofiedgnnpednaaDoorVNvmeRefusesx8
import Derived.Test.YtofiedgnnpednaaDoorVNvmeRefusesx11
namespace Go.Proofs.YtofiedgnnpednaaDoor.VNvmeRefuses
open Go.RowKit Go.Proofs.YtofiedgnnpednaaDoorW.PrintWords Go.Proofs.YtofiedgnnpednaaDoorW.PrintLast Go.Proofs.YtofiedgnnpednaaDoorW.PrintMore
attribute [local go_sem] max2_int min2_int max_two min_two max_three min_three max_four min_four   -- for this text's walks alone
set_option linter.unusedVariables false
set_option linter.unusedSimpArgs false

-- @GIVEN slices_Delete_nvme
/-! ### slices_Delete_nvme: by hand -/
def slices_Delete_nvme.T5 : Bool × List (List Nat × List Nat) := (true, [([], []), ([], []), ([0, 1], [0, 1]), ([], []), ([], []), ([3, 4], [3, 4]), ([2, 5], [2, 5]), ([6, 6, 0, 1, 2, 3, 4, 5, 6], [0, 3, 6])])
def slices_Delete_nvme.B5 : List Nat := [0, 0, 3, 0, 0, 24, 63, 127]
theorem slices_Delete_nvme.tab5 : rtab .any (opsOf Tryd.f39 5) = slices_Delete_nvme.T5 := by kernel_rfl
theorem slices_Delete_nvme.bits5 : waitsOk slices_Delete_nvme.T5.2 slices_Delete_nvme.B5 = true := by kernel_rfl
set_option maxHeartbeats 16000000 in
set_option maxRecDepth 100000 in
theorem nDelete (g c : Nat) (l : List NC) (i : Nat) (B : Nat) (w : World) (h : w.ownsRow B 38 4 (.slice (some ⟨g, 0, none⟩) l.length c) l.length (flatN l)) (hi : i < l.length) (hl : l.length < 1000000000) :
    Calls Tryd.prog 39 #[.slice (some ⟨g, 0, none⟩) l.length c, .int .i64 i, .int .i64 ((i + 1 : Nat) : Int)] w fun r w' => r = .returned (.slice (some ⟨g, 0, none⟩) (l.length - 1) c) ∧ w'.ownsRow B 38 4 (.slice (some ⟨g, 0, none⟩) (l.length - 1) c) (l.length - 1) (flatN (l.eraseIdx i)) ∧ w.grownBy w' (some g) := by
  obtain ⟨g', c2, cur, e, hB, hg, hnc, hcm, hcs⟩ := row4_open h (by omega)
  cases e
  obtain ⟨A, hA⟩ : ∃ A : Addr, (if c = i + 1 then some (⟨g, 0, none⟩ : Addr) else some ⟨g, (i + 1) * 4, none⟩) = some A := by
    split
    · exact ⟨_, rfl⟩
    · exact ⟨_, rfl⟩
  have HR := Aside0.mk h
  have HI := Aside0.mk hi
  have HA := Aside0.mk hA
  have p0 : (i : Int) ≤ (l.length : Int) := by omega
  have p1 : i ≤ c := by omega
  have p2 : i + 1 ≤ c := by omega
  have p3 : i + 1 ≤ l.length := by omega
  have p4 : i ≤ i + 1 := by omega
  have p5 : (((i : Int)) == ((i + 1 : Nat) : Int)) = false := by rw [beq_eq_false_iff_ne]; omega
  clear hg hcs h
  go_enter Tryd.func39, Tryd.ntmps39
  go_upto_region 5 with (fail)
  refine start_ (n := 8) (S := fun w' => True) (ds := []) #[false, false, false, false, false, false, false, false] (by kernel_rfl) rfl rfl trivial (fun hHeld => ?_)
  refine with_tabW slices_Delete_nvme.tab5 slices_Delete_nvme.bits5 (fun HT_ HW_ => ?_)
  have n0_ := Aside0.mk (show w.drew.ownsRow _ _ _ _ _ _ from HR.out); have n1_ := Aside0.mk (gr_drewc (World.grownBy.refl w (some g))); clear HR; have HR := n0_; have HG := n1_; clear n0_ n1_; generalize w.drew = wd at HR HG ⊢
  refine pure_ (i := 0) (N := some 20) (v := ?_) (a' := ?_) #[true, false, false, false, false, false, false, false] rfl rfl (any_of HT_.out (by kernel_rfl)) (fun _ _ _ h => h) (Or.inl ⟨by rfl, ?_⟩) ?_ ?_
  rotate_left
  · intro w'
    go_simp
    with_reducible rfl
  rotate_left
  · simp only [Act.put, List.setIfInBounds_toArray, List.set_cons_zero, List.set_cons_succ, i64_w, i32_w]
    rfl
  refine pure_ (i := 1) (N := some 21) (v := ?_) (a' := ?_) #[true, true, false, false, false, false, false, false] rfl rfl (any_of HT_.out (by kernel_rfl)) (fun _ _ _ h => h) (Or.inl ⟨by rfl, ?_⟩) ?_ ?_
  rotate_left
  · intro w'
    go_simp
    with_reducible rfl
  rotate_left
  · simp only [Act.put, List.setIfInBounds_toArray, List.set_cons_zero, List.set_cons_succ, i64_w, i32_w]
    rfl
  refine pure_ (i := 3) (N := some 23) (v := ?_) (a' := ?_) #[true, true, false, true, false, false, false, false] rfl rfl (any_of HT_.out (by kernel_rfl)) (fun _ _ _ h => h) (Or.inl ⟨by rfl, ?_⟩) ?_ ?_
  rotate_left
  · intro w'
    go_simp
    with_reducible rfl
  rotate_left
  · simp only [Act.put, List.setIfInBounds_toArray, List.set_cons_zero, List.set_cons_succ, i64_w, i32_w]
    rfl
  refine pure_ (i := 4) (N := some 24) (v := ?_) (a' := ?_) #[true, true, false, true, true, false, false, false] rfl rfl (any_of HT_.out (by kernel_rfl)) (fun _ _ _ h => h) (Or.inl ⟨by rfl, ?_⟩) ?_ ?_
  rotate_left
  · intro w'
    go_simp
    with_reducible rfl
  rotate_left
  · simp only [Act.put, List.setIfInBounds_toArray, List.set_cons_zero, List.set_cons_succ, i64_w, i32_w]
    rfl
  refine inv_at [2, 5, 6, 7] (fun a0_ b a w' => a = putSel a0_ b [(2, 22, .slice (some ⟨g, 0, none⟩) i c), (5, 25, .slice (some A) (l.length - (i + 1)) (c - (i + 1))), (6, 26, .slice (some ⟨g, 0, none⟩) (l.length - 1) c), (7, 0, .slice (some ⟨g, 0, none⟩) (l.length - 1) c)] ∧ (b 6 = false → w'.ownsRow B 38 4 (.slice (some ⟨g, 0, none⟩) l.length c) l.length (flatN l)) ∧ (b 6 = false → w.grownBy w' (some g)) ∧ (b 6 = true → w'.ownsRow B 38 4 (.slice (some ⟨g, 0, none⟩) (l.length - 1) c) (l.length - 1) (flatN (l.eraseIdx i)) ∧ w.grownBy w' (some g))) HT_.out HW_.out (by kernel_rfl) (by kernel_rfl) ?_ ?_ ?_
  · exact ⟨by simp only [putSel, Bool.false_eq_true, if_false], fun _ => HR.out, fun _ => HG.out, fun h_ => absurd h_ (by decide)⟩
  · skip
    clear HG HR
    refine steps_cons ?_ ?_
    · rintro b a w' ⟨ha, Q_HR, Q_HG, Q_HF⟩ hb_ hon hoff
      refine ⟨_, rfl, fun K hK => ?_⟩
      have e20 : a.tmps[20]? = some (.slice (some ⟨g, 0, none⟩) l.length c) := by rw [ha]; exact (putSel_off rfl).trans rfl
      have e21 : a.tmps[21]? = some (.int .i64 i) := by rw [ha]; exact (putSel_off rfl).trans rfl
      replace ha := Aside0.mk ha
      have HR := Aside0.mk (Q_HR (hoff 6 (by kernel_rfl)))
      have HG := Aside0.mk (Q_HG (hoff 6 (by kernel_rfl)))
      refine value_ (w1 := w') (v := .slice (some ⟨g, 0, none⟩) i c) (by rfl) rfl ?_ ?_
      · go_simp
        (try simp only [i64_w])
        try rfl
      refine hK.out _ _ ⟨(by rw [ha.out]; exact putSel_upk 0 hb_ rfl rfl rfl), Q_HR, Q_HG, fun h0_ => absurd ((hoff 6 (by kernel_rfl)).symm.trans h0_) (by decide)⟩
    refine steps_cons ?_ ?_
    · rintro b a w' ⟨ha, Q_HR, Q_HG, Q_HF⟩ hb_ hon hoff
      refine ⟨_, rfl, fun K hK => ?_⟩
      have e23 : a.tmps[23]? = some (.slice (some ⟨g, 0, none⟩) l.length c) := by rw [ha]; exact (putSel_off rfl).trans rfl
      have e24 : a.tmps[24]? = some (.int .i64 ((i + 1 : Nat) : Int)) := by rw [ha]; exact (putSel_off rfl).trans rfl
      replace ha := Aside0.mk ha
      have HR := Aside0.mk (Q_HR (hoff 6 (by kernel_rfl)))
      have HG := Aside0.mk (Q_HG (hoff 6 (by kernel_rfl)))
      refine value_ (w1 := w') (v := .slice (some A) (l.length - (i + 1)) (c - (i + 1))) (by rfl) rfl ?_ ?_
      · go_simp
        intro h_
        exact absurd (h_ (by omega)) (by omega)
      refine hK.out _ _ ⟨(by rw [ha.out]; exact putSel_upk 1 hb_ rfl rfl rfl), fun _ => HR.out, fun _ => HG.out, fun h0_ => absurd ((hoff 6 (by kernel_rfl)).symm.trans h0_) (by decide)⟩
    refine steps_cons ?_ ?_
    · rintro b a w' ⟨ha, Q_HR, Q_HG, Q_HF⟩ hb_ hon hoff
      refine ⟨_, rfl, fun K hK => ?_⟩
      have e22 : a.tmps[22]? = some (.slice (some ⟨g, 0, none⟩) i c) := by rw [ha]; exact putSel_on (e := (2, 22, .slice (some ⟨g, 0, none⟩) i c)) 0 rfl rfl (hon 2 (by kernel_rfl)) rfl
      have e25 : a.tmps[25]? = some (.slice (some A) (l.length - (i + 1)) (c - (i + 1))) := by rw [ha]; exact putSel_on (e := (5, 25, .slice (some A) (l.length - (i + 1)) (c - (i + 1)))) 1 rfl rfl (hon 5 (by kernel_rfl)) rfl
      replace ha := Aside0.mk ha
      have HR := Aside0.mk (Q_HR hb_)
      have HG := Aside0.mk (Q_HG hb_)
      obtain ⟨wA, hr_, ha1_, ha2_⟩ := run_del4 HR.out HI.out A HA.out (c - (i + 1)) 64
      refine value_ (w1 := wA) (v := .slice (some ⟨g, 0, none⟩) (l.length - 1) c) (by rfl) rfl ?_ ?_
      · have hr2_ := hr_
        try dsimp only at hr2_
        simp [execOp, resolve, invoke, builtin, Act.eval, hr2_, *]
      refine hK.out _ _ ⟨(by rw [ha.out]; exact putSel_upk 2 hb_ rfl rfl rfl), fun h0_ => absurd ((up_self b 6).symm.trans h0_) (by decide), fun h0_ => absurd ((up_self b 6).symm.trans h0_) (by decide), fun h0_ => ⟨ha1_, gr_transc HG.out ha2_⟩⟩
    refine steps_cons ?_ ?_
    · rintro b a w' ⟨ha, Q_HR, Q_HG, Q_HF⟩ hb_ hon hoff
      refine ⟨_, rfl, fun K hK => ?_⟩
      have e26 : a.tmps[26]? = some (.slice (some ⟨g, 0, none⟩) (l.length - 1) c) := by rw [ha]; exact putSel_on (e := (6, 26, .slice (some ⟨g, 0, none⟩) (l.length - 1) c)) 2 rfl rfl (hon 6 (by kernel_rfl)) rfl
      replace ha := Aside0.mk ha
      have HF := Aside0.mk (Q_HF (hon 6 (by kernel_rfl)))
      refine value_ (w1 := w') (v := .slice (some ⟨g, 0, none⟩) (l.length - 1) c) (by rfl) rfl ?_ ?_
      · go_simp
        (try simp only [i64_w])
        try rfl
      refine hK.out _ _ ⟨(by rw [ha.out]; exact putSel_upk 3 hb_ rfl rfl rfl), fun h0_ => absurd ((hon 6 (by kernel_rfl)).symm.trans h0_) (by decide), fun h0_ => absurd ((hon 6 (by kernel_rfl)).symm.trans h0_) (by decide), Q_HF⟩
    exact steps_nil
  rintro b a w1 hall ⟨ha, Q_HR, Q_HG, Q_HF⟩
  clear HG HR
  have hb2_ := hall 2 (by kernel_rfl)
  have hb5_ := hall 5 (by kernel_rfl)
  have hb6_ := hall 6 (by kernel_rfl)
  have hb7_ := hall 7 (by kernel_rfl)
  subst ha
  simp only [putSel, hb2_, hb5_, hb6_, hb7_, if_true, Act.put, List.setIfInBounds_toArray, List.set_cons_zero, List.set_cons_succ]
  clear Q_HR
  clear Q_HG
  have HF := Aside0.mk (Q_HF hb6_)
  clear Q_HF
  clear hall hb2_ hb5_ hb6_ hb7_
  obtain ⟨m, hm⟩ : ∃ m, l.length = m + 1 := ⟨l.length - 1, by omega⟩
  simp only [hm, Nat.add_sub_cancel] at HF ⊢
  have hmc : m + 1 ≤ c := by omega
  have hmc2 : m ≤ c := by omega
  obtain ⟨wc, hcl, ho, hgc⟩ := run_clear4 (k := 1) (c' := c - m) HF.out.1 (by decide) hmc 0
  clear p0 p1 p2 p3 p4 p5 hA HA
  go_wp2
  go_ret
  have hm1 : l.length - 1 = m := by omega
  rw [hm1]
  exact ⟨rfl, ho, gr_transc HF.out.2 hgc⟩


end Go.Proofs.YtofiedgnnpednaaDoor.VNvmeRefuses
