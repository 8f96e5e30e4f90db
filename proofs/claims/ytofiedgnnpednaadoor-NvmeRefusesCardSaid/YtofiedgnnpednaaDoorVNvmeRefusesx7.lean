/- Contracts of functions of this seat: each call comes to what its Lean function computes; no condition beyond what each theorem states. Printed by a program of this session's own laid over the kit's printer. -/
import Derived.Test.YtofiedgnnpednaaDoorVNvmeRefusesx0
import Derived.Test.YtofiedgnnpednaaDoorVNvmeRefusesx1
import Derived.Test.YtofiedgnnpednaaDoorVNvmeRefusesx2
import Derived.Test.YtofiedgnnpednaaDoorVNvmeRefusesx3
import Derived.Test.YtofiedgnnpednaaDoorVNvmeRefusesx4
import Derived.Test.YtofiedgnnpednaaDoorVNvmeRefusesx6
namespace Go.Proofs.YtofiedgnnpednaaDoor.VNvmeRefuses
open Go.RowKit Go.Proofs.YtofiedgnnpednaaDoorW.PrintWords Go.Proofs.YtofiedgnnpednaaDoorW.PrintLast Go.Proofs.YtofiedgnnpednaaDoorW.PrintMore
attribute [local go_sem] max2_int min2_int max_two min_two max_three min_three max_four min_four   -- for this text's walks alone
set_option linter.unusedVariables false
set_option linter.unusedSimpArgs false

-- @GIVEN nvme_Submit
/-! ### nvme_Submit: by hand -/
def nvme_Submit.T17 : Bool × List (List Nat × List Nat) := (true, [([], []), ([], []), ([1], [1]), ([2], [2]), ([3], [3]), ([], []), ([5], [5]), ([4, 6], [4, 6]), ([0, 0, 1, 2, 3, 4, 5, 6, 7], [0]), ([8, 0, 1, 2, 3, 4, 5, 6, 7], [8]), ([9, 7, 7, 0, 1, 2, 3, 4, 5, 6, 7], [7, 9])])
def nvme_Submit.B17 : List Nat := [0, 0, 2, 6, 14, 0, 32, 126, 255, 511, 1023]
theorem nvme_Submit.tab17 : rtab .any (opsOf Tryd.f12 17) = nvme_Submit.T17 := by kernel_rfl
theorem nvme_Submit.bits17 : waitsOk nvme_Submit.T17.2 nvme_Submit.B17 = true := by kernel_rfl
set_option maxHeartbeats 16000000 in
set_option maxRecDepth 100000 in
theorem nSubmit1 (P : DevP) (D : Dev) (s t : Int) (dt : ByteArray) (w : World) (B : Nat) (hB : B ≤ w.heap.size) (h : DevAt B w P D) (hl : D.queue.length < 1000000000) :
    Calls Tryd.prog 12 #[.pointer (some ⟨P.d, 0, none⟩), .agg #[.int .i64 1, .int .i64 s, .string dt, .int .i64 t]] w fun r w' => ∃ P', r = .returned (errW (D.submit ⟨1, s, dt, t⟩).2) ∧ DevAt B w' P' (D.submit ⟨1, s, dt, t⟩).1 ∧ DKeep P P' w w' := by
  have e : D.submit ⟨1, s, dt, t⟩ = match D.ready s with | some e => (D, some e) | none => D.enq ⟨1, s, (⟨#[]⟩ : ByteArray), t⟩ := by
    unfold Dev.submit NC.trim
    dsimp only
    simp only [Int.reduceEq, if_true, if_false, true_or, or_true, or_self, or_false]
    rfl
  rw [e]
  clear e
  have HL := Aside0.mk hl
  have HR := Aside0.mk (fun W hW => nReadyF B P D s W hW)
  have HD := Aside0.mk h
  have HS := Aside0.mk hB
  clear hl h hB
  rcases hr : D.ready s with _ | e
  case some =>
    rw [hr] at HR
    dsimp only
    clear hr
    go_enter Tryd.func12, Tryd.ntmps12
    go_wp2_with (first | (go_at_call 37; (with_reducible refine (HR.out _ (HD.out.below (by repeat (first | exact Below.refl _ _ | (refine Below.setCell ?_ (by simp) _) | apply below_alloc | apply pw_below_drewN | exact below_drew1 ?_)))).mono ?_); rintro e w5 ⟨rfl, rfl⟩; simp only [errW_none, errW_some]) | fail)
    go_ret
    exact ⟨P, rfl, dev_same HD.out (by repeat (first | exact Below.refl _ _ | (refine Below.setCell ?_ (by simp) _) | apply below_alloc | apply pw_below_drewN | exact below_drew1 ?_))⟩
  rw [hr] at HR
  dsimp only
  clear hr
  have p3 : ∃ q, decide (D.depth ≤ (D.queue.length : Int)) = q := ⟨_, rfl⟩
  obtain ⟨q, p3⟩ := p3
  obtain ⟨d, mb, cv, qv, kv⟩ := P
  obtain ⟨cA, cc, rfl⟩ : ∃ A c, cv = _ := own_form HD.out.2.2.2.2.2.1
  obtain ⟨qA, qc, rfl⟩ : ∃ A c, qv = _ := own_form HD.out.2.2.2.2.2.2.1
  obtain ⟨kA, kc, rfl⟩ : ∃ A c, kv = _ := own_form HD.out.2.2.2.2.2.2.2.1
  dsimp only at HR ⊢
  have HK := Aside0.mk (show Below w.heap.size w (w.alloc (.cells #[.int .i64 1, .int .i64 s, .string (⟨#[]⟩ : ByteArray), .int .i64 t] 38)) from (by repeat (first | exact Below.refl _ _ | (refine Below.setCell ?_ (by simp) _) | apply below_alloc | apply pw_below_drewN | exact below_drew1 ?_)))
  obtain ⟨c, hc⟩ : ∃ c, c = NC.mk 1 s (⟨#[]⟩ : ByteArray) t := ⟨_, rfl⟩
  have HC := Aside0.mk (show (w.alloc (.cells #[.int .i64 1, .int .i64 s, .string (⟨#[]⟩ : ByteArray), .int .i64 t] 38)).heap[w.heap.size]? = some (.cells #[.int .i64 c.kind, .int .i64 c.sector, .string c.data, .int .i64 c.tag] 38 (0, 0)) from (by rw [hc]; exact (heap_alloc_new w _)))
  rw [← hc]
  clear hc
  go_enter Tryd.func12, Tryd.ntmps12
  go_upto_region 15 with (first | (go_at_call 37; (with_reducible refine (HR.out _ (HD.out.below (by repeat (first | exact Below.refl _ _ | (refine Below.setCell ?_ (by simp) _) | apply below_alloc | apply pw_below_drewN | exact below_drew1 ?_)))).mono ?_); rintro e w5 ⟨rfl, rfl⟩; simp only [errW_none, errW_some]) | fail)
  have HD1 := Aside0.mk (HD.out.below HK.out)
  have HS1 := Aside0.mk (Nat.le_trans HS.out (Below.size HK.out))
  have HK1 := Aside0.mk (dkeep_of HK.out ⟨d, mb, .slice cA D.cache.length cc, .slice qA D.queue.length qc, .slice kA D.keep.length kc⟩)
  clear HS HR HD HK
  generalize w.alloc (.cells #[.int .i64 1, .int .i64 s, .string (⟨#[]⟩ : ByteArray), .int .i64 t] 38) = w1 at HC HD1 HS1 HK1 ⊢
  generalize w.heap.size = bx at HC ⊢
  have HD := HD1; have HS := HS1; have HK := HK1
  clear HD1 HS1 HK1
  have c4 := (blk_cell HD.out.2.2.2.1 4).trans rfl
  have c1 := (blk_cell HD.out.2.2.2.1 1).trans rfl
  cases q with
  | true =>
    have eq : D.enq c = (D, some 2) := if_pos (of_decide_eq_true p3)
    go_quiet (fail)
    go_wp2
    go_ret

    first | exact ⟨_, rfl, HD.out, HK.out.drewN _⟩ | exact ⟨rfl, _, HD.out, HK.out.drewN _⟩
  | false =>
    have eq : D.enq c = ({ D with queue := D.queue ++ [c] }, none) := if_neg (of_decide_eq_false p3)
    go_quiet (fail)
    go_upto_region 17 with (fail)
    clear c1 c4
    have HD2 := Aside0.mk (show DevAt B (w1.drewN nq) _ _ from HD.out)
    have HC2 := Aside0.mk (show (w1.drewN nq).heap[bx]? = _ from HC.out)
    have HS2 := Aside0.mk (show B ≤ (w1.drewN nq).heap.size from HS.out)
    have HK2 := Aside0.mk (HK.out.drewN nq)
    clear HD HC HS HK
    generalize w1.drewN nq = w2 at HC2 HD2 HS2 HK2 ⊢
    have HD := HD2; have HC := HC2; have HS := HS2; have HK := HK2
    clear HD2 HC2 HS2 HK2
    refine start_ (n := 11) (S := fun w' => True) (ds := []) #[false, false, false, false, false, false, false, false, false, false, false] (by kernel_rfl) rfl rfl trivial (fun hHeld => ?_)
    refine with_tabW nvme_Submit.tab17 nvme_Submit.bits17 (fun HT_ HW_ => ?_)
    have n0_ := Aside0.mk HD.out.drew; have n1_ := Aside0.mk HK.out.drew; have n2_ := Aside0.mk (blk_drew HC.out); have n3_ := Aside0.mk (show B ≤ w2.drew.heap.size from HS.out); clear HD HK HC HS; have HD := n0_; have HK := n1_; have HC := n2_; have HS := n3_; clear n0_ n1_ n2_ n3_; generalize w2.drew = wd at HD HK HC HS ⊢
    refine pure_ (i := 0) (N := some 44) (v := ?_) (a' := ?_) #[true, false, false, false, false, false, false, false, false, false, false] rfl rfl (any_of HT_.out (by kernel_rfl)) (fun _ _ _ h => h) (Or.inl ⟨by rfl, ?_⟩) ?_ ?_
    rotate_left
    · intro w'
      go_simp
      with_reducible rfl
    rotate_left
    · simp only [Act.put, List.setIfInBounds_toArray, List.set_cons_zero, List.set_cons_succ, i64_w, i32_w]
      rfl
    refine pure_ (i := 1) (N := some 45) (v := ?_) (a' := ?_) #[true, true, false, false, false, false, false, false, false, false, false] rfl rfl (any_of HT_.out (by kernel_rfl)) (fun _ _ _ h => h) (Or.inl ⟨by rfl, ?_⟩) ?_ ?_
    rotate_left
    · intro w'
      go_simp
      with_reducible rfl
    rotate_left
    · simp only [Act.put, List.setIfInBounds_toArray, List.set_cons_zero, List.set_cons_succ, i64_w, i32_w]
      rfl
    refine pure_ (i := 2) (N := some 46) (v := ?_) (a' := ?_) #[true, true, true, false, false, false, false, false, false, false, false] rfl rfl (any_of HT_.out (by kernel_rfl)) (fun _ _ _ h => h) (Or.inl ⟨by rfl, ?_⟩) ?_ ?_
    rotate_left
    · intro w'
      go_simp
      with_reducible rfl
    rotate_left
    · simp only [Act.put, List.setIfInBounds_toArray, List.set_cons_zero, List.set_cons_succ, i64_w, i32_w]
      rfl
    refine pure_ (i := 3) (N := some 47) (v := ?_) (a' := ?_) #[true, true, true, true, false, false, false, false, false, false, false] rfl rfl (any_of HT_.out (by kernel_rfl)) (fun _ _ _ h => h) (Or.inl ⟨by rfl, ?_⟩) ?_ ?_
    rotate_left
    · intro w'
      go_simp
      with_reducible rfl
    rotate_left
    · simp only [Act.put, List.setIfInBounds_toArray, List.set_cons_zero, List.set_cons_succ, i64_w, i32_w]
      rfl
    refine inv_at [4, 5, 6, 7, 8, 9, 10] (fun a0_ b a w' => ∃ (b6 : Nat) (g7 : Nat) (n7 : Nat) (m6_ : Value) (m7_ : Value), a = putSel a0_ b [(4, 48, .slice qA D.queue.length qc), (5, 49, .agg #[.int .i64 c.kind, .int .i64 c.sector, .string c.data, .int .i64 c.tag]), (6, 50, m6_), (7, 51, m7_), (8, 52, .pointer (some ⟨d, 0, none⟩)), (9, 53, .pointer (some ⟨d, 4, none⟩))] ∧ (b 7 = false → DevAt B w' ⟨d, mb, .slice cA D.cache.length cc, .slice qA D.queue.length qc, .slice kA D.keep.length kc⟩ D) ∧ (b 7 = false → DKeep ⟨d, mb, .slice cA D.cache.length cc, .slice qA D.queue.length qc, .slice kA D.keep.length kc⟩ ⟨d, mb, .slice cA D.cache.length cc, .slice qA D.queue.length qc, .slice kA D.keep.length kc⟩ w w') ∧ (b 7 = false → w'.heap[bx]? = some (.cells #[.int .i64 c.kind, .int .i64 c.sector, .string c.data, .int .i64 c.tag] 38 (0, 0))) ∧ (b 7 = false → B ≤ w'.heap.size) ∧ (b 6 = true → b 7 = false → w'.heap[b6]? = some (.cells #[.int .i64 c.kind, .int .i64 c.sector, .string c.data, .int .i64 c.tag] 38 (0, 0))) ∧ (b 7 = true → b 10 = false → w'.heap[d]? = some (.cells (D.cells ⟨d, mb, .slice cA D.cache.length cc, .slice qA D.queue.length qc, .slice kA D.keep.length kc⟩) 78 (0, 0)) ∧ DevAt B (w'.setCell ⟨d, 4, none⟩ (.slice (some ⟨g7, 0, none⟩) (D.queue ++ [c]).length n7)) ⟨d, mb, .slice cA D.cache.length cc, .slice (some ⟨g7, 0, none⟩) (D.queue ++ [c]).length n7, .slice kA D.keep.length kc⟩ { D with queue := D.queue ++ [c] } ∧ DKeep ⟨d, mb, .slice cA D.cache.length cc, .slice qA D.queue.length qc, .slice kA D.keep.length kc⟩ ⟨d, mb, .slice cA D.cache.length cc, .slice (some ⟨g7, 0, none⟩) (D.queue ++ [c]).length n7, .slice kA D.keep.length kc⟩ w (w'.setCell ⟨d, 4, none⟩ (.slice (some ⟨g7, 0, none⟩) (D.queue ++ [c]).length n7))) ∧ (b 7 = true → b 10 = true → DevAt B w' ⟨d, mb, .slice cA D.cache.length cc, .slice (some ⟨g7, 0, none⟩) (D.queue ++ [c]).length n7, .slice kA D.keep.length kc⟩ { D with queue := D.queue ++ [c] } ∧ DKeep ⟨d, mb, .slice cA D.cache.length cc, .slice qA D.queue.length qc, .slice kA D.keep.length kc⟩ ⟨d, mb, .slice cA D.cache.length cc, .slice (some ⟨g7, 0, none⟩) (D.queue ++ [c]).length n7, .slice kA D.keep.length kc⟩ w w') ∧ (b 6 = true → (m6_ : Value) = .slice (some ⟨b6, 0, none⟩) 1 1) ∧ (b 7 = true → (m7_ : Value) = .slice (some ⟨g7, 0, none⟩) (D.queue ++ [c]).length n7)) HT_.out HW_.out (by kernel_rfl) (by kernel_rfl) ?_ ?_ ?_
    · exact ⟨0, 0, 0, .bool false, .bool false, by simp only [putSel, Bool.false_eq_true, if_false], fun _ => HD.out, fun _ => HK.out, fun _ => HC.out, fun _ => HS.out, fun h_ => absurd h_ (by decide), fun h_ => absurd h_ (by decide), fun h_ => absurd h_ (by decide), fun h_ => absurd h_ (by decide), fun h_ => absurd h_ (by decide)⟩
    · skip
      clear HC HD HK HS
      refine steps_cons ?_ ?_
      · rintro b a w' ⟨b6, g7, n7, m6_, m7_, ha, Q_HD, Q_HK, Q_HC, Q_HS, Q_HP, Q_HA, Q_HF, Q_X6_, Q_X7_⟩ hb_ hon hoff
        refine ⟨_, rfl, fun K hK => ?_⟩
        have e47 : a.tmps[47]? = some (.pointer (some ⟨d, 4, none⟩)) := by rw [ha]; exact (putSel_off rfl).trans rfl
        replace ha := Aside0.mk ha
        have HD := Aside0.mk (Q_HD (hoff 7 (by kernel_rfl)))
        have HK := Aside0.mk (Q_HK (hoff 7 (by kernel_rfl)))
        have HC := Aside0.mk (Q_HC (hoff 7 (by kernel_rfl)))
        have HS := Aside0.mk (Q_HS (hoff 7 (by kernel_rfl)))
        have hx_ := (blk_cell HD.out.2.2.2.1 4).trans rfl
        refine value_ (w1 := w') (v := .slice qA D.queue.length qc) (by rfl) rfl ?_ ?_
        · go_simp
          (try simp only [i64_w])
          try rfl
        refine hK.out _ _ ⟨b6, g7, n7, m6_, m7_, (by rw [ha.out]; exact putSel_upk 0 hb_ rfl rfl rfl), Q_HD, Q_HK, Q_HC, Q_HS, Q_HP, fun h0_ _ => absurd ((hoff 7 (by kernel_rfl)).symm.trans h0_) (by decide), fun h0_ _ => absurd ((hoff 7 (by kernel_rfl)).symm.trans h0_) (by decide), Q_X6_, fun h0_ => absurd ((hoff 7 (by kernel_rfl)).symm.trans h0_) (by decide)⟩
      refine steps_cons ?_ ?_
      · rintro b a w' ⟨b6, g7, n7, m6_, m7_, ha, Q_HD, Q_HK, Q_HC, Q_HS, Q_HP, Q_HA, Q_HF, Q_X6_, Q_X7_⟩ hb_ hon hoff
        refine ⟨_, rfl, fun K hK => ?_⟩
        have e3 : a.tmps[3]? = some (.pointer (some ⟨bx, 0, none⟩)) := by rw [ha]; exact (putSel_off rfl).trans rfl
        replace ha := Aside0.mk ha
        have HD := Aside0.mk (Q_HD (hoff 7 (by kernel_rfl)))
        have HK := Aside0.mk (Q_HK (hoff 7 (by kernel_rfl)))
        have HC := Aside0.mk (Q_HC (hoff 7 (by kernel_rfl)))
        have HS := Aside0.mk (Q_HS (hoff 7 (by kernel_rfl)))
        have hx0 := (blk_cell HC.out 0).trans rfl
        have hx1 := (blk_cell HC.out 1).trans rfl
        have hx2 := (blk_cell HC.out 2).trans rfl
        have hx3 := (blk_cell HC.out 3).trans rfl
        refine value_ (w1 := w') (v := .agg #[.int .i64 c.kind, .int .i64 c.sector, .string c.data, .int .i64 c.tag]) (by rfl) rfl ?_ ?_
        · go_simp
          (try simp only [i64_w])
          try rfl
        refine hK.out _ _ ⟨b6, g7, n7, m6_, m7_, (by rw [ha.out]; exact putSel_upk 1 hb_ rfl rfl rfl), Q_HD, Q_HK, Q_HC, Q_HS, fun h0_ _ => absurd ((hoff 6 (by kernel_rfl)).symm.trans h0_) (by decide), fun h0_ _ => absurd ((hoff 7 (by kernel_rfl)).symm.trans h0_) (by decide), fun h0_ _ => absurd ((hoff 7 (by kernel_rfl)).symm.trans h0_) (by decide), fun h0_ => absurd ((hoff 6 (by kernel_rfl)).symm.trans h0_) (by decide), fun h0_ => absurd ((hoff 7 (by kernel_rfl)).symm.trans h0_) (by decide)⟩
      refine steps_cons ?_ ?_
      · rintro b a w' ⟨b6, g7, n7, m6_, m7_, ha, Q_HD, Q_HK, Q_HC, Q_HS, Q_HP, Q_HA, Q_HF, Q_X6_, Q_X7_⟩ hb_ hon hoff
        refine ⟨_, rfl, fun K hK => ?_⟩
        have e49 : a.tmps[49]? = some (.agg #[.int .i64 c.kind, .int .i64 c.sector, .string c.data, .int .i64 c.tag]) := by rw [ha]; exact putSel_on (e := (5, 49, .agg #[.int .i64 c.kind, .int .i64 c.sector, .string c.data, .int .i64 c.tag])) 1 rfl rfl (hon 5 (by kernel_rfl)) rfl
        replace ha := Aside0.mk ha
        have HD := Aside0.mk (Q_HD (hoff 7 (by kernel_rfl)))
        have HK := Aside0.mk (Q_HK (hoff 7 (by kernel_rfl)))
        have HC := Aside0.mk (Q_HC (hoff 7 (by kernel_rfl)))
        have HS := Aside0.mk (Q_HS (hoff 7 (by kernel_rfl)))
        refine value_ (w1 := w'.alloc (.cells #[.int .i64 c.kind, .int .i64 c.sector, .string c.data, .int .i64 c.tag] 38)) (v := .slice (some ⟨w'.heap.size, 0, none⟩) 1 1) (by rfl) rfl ?_ ?_
        · go_simp
        refine hK.out _ _ ⟨w'.heap.size, g7, n7, (.slice (some ⟨w'.heap.size, 0, none⟩) 1 1), m7_, (by rw [ha.out]; exact putSel_upk 2 hb_ rfl rfl rfl), fun _ => (fun hd_ hb_ => DevAt.below hd_ hb_) (HD.out) ((below_alloc (Below.refl _ _) (.cells #[.int .i64 c.kind, .int .i64 c.sector, .string c.data, .int .i64 c.tag] 38))), fun _ => (fun hd_ hb_ => DKeep.trans hd_ (dkeep_of hb_ _)) (HK.out) ((below_alloc (Below.refl _ _) (.cells #[.int .i64 c.kind, .int .i64 c.sector, .string c.data, .int .i64 c.tag] 38))), fun _ => blk_below HC.out (below_alloc (Below.refl _ _) (.cells #[.int .i64 c.kind, .int .i64 c.sector, .string c.data, .int .i64 c.tag] 38)), fun _ => Nat.le_trans HS.out (Below.size (below_alloc (Below.refl _ _) (.cells #[.int .i64 c.kind, .int .i64 c.sector, .string c.data, .int .i64 c.tag] 38))), fun h0_ h1_ => heap_alloc_new w' (.cells #[.int .i64 c.kind, .int .i64 c.sector, .string c.data, .int .i64 c.tag] 38), fun h0_ _ => absurd ((hoff 7 (by kernel_rfl)).symm.trans h0_) (by decide), fun h0_ _ => absurd ((hoff 7 (by kernel_rfl)).symm.trans h0_) (by decide), fun _ => rfl, fun h0_ => absurd ((hoff 7 (by kernel_rfl)).symm.trans h0_) (by decide)⟩
      refine steps_cons ?_ ?_
      · rintro b a w' ⟨b6, g7, n7, m6_, m7_, ha, Q_HD, Q_HK, Q_HC, Q_HS, Q_HP, Q_HA, Q_HF, Q_X6_, Q_X7_⟩ hb_ hon hoff
        refine ⟨_, rfl, fun K hK => ?_⟩
        have e48 : a.tmps[48]? = some (.slice qA D.queue.length qc) := by rw [ha]; exact putSel_on (e := (4, 48, .slice qA D.queue.length qc)) 0 rfl rfl (hon 4 (by kernel_rfl)) rfl
        have e50 : a.tmps[50]? = some (m6_) := by rw [ha]; exact putSel_on (e := (6, 50, m6_)) 2 rfl rfl (hon 6 (by kernel_rfl)) rfl
        rw [Q_X6_ (hon 6 (by kernel_rfl))] at e50
        replace ha := Aside0.mk ha
        have HD := Aside0.mk (Q_HD hb_)
        have HK := Aside0.mk (Q_HK hb_)
        have HC := Aside0.mk (Q_HC hb_)
        have HS := Aside0.mk (Q_HS hb_)
        have HP := Aside0.mk (Q_HP (hon 6 (by kernel_rfl)) hb_)
        obtain ⟨g_, n_, wA, hr_, ha1_, ha2_, ha3_⟩ := dev_appq HD.out HS.out HL.out HP.out 1
        refine value_ (w1 := wA) (v := .slice (some ⟨g_, 0, none⟩) (D.queue ++ [c]).length n_) (by rfl) rfl ?_ ?_
        · have hr2_ := hr_
          dsimp only at hr2_
          simp [execOp, resolve, invoke, builtin, Act.eval, hr2_, *]
        refine hK.out _ _ ⟨b6, g_, n_, m6_, (.slice (some ⟨g_, 0, none⟩) (D.queue ++ [c]).length n_), (by rw [ha.out]; exact putSel_upk 3 hb_ rfl rfl rfl), fun h0_ => absurd ((up_self b 7).symm.trans h0_) (by decide), fun h0_ => absurd ((up_self b 7).symm.trans h0_) (by decide), fun h0_ => absurd ((up_self b 7).symm.trans h0_) (by decide), fun h0_ => absurd ((up_self b 7).symm.trans h0_) (by decide), fun _ h1_ => absurd ((up_self b 7).symm.trans h1_) (by decide), fun h0_ h1_ => ⟨ha1_, ha2_, HK.out.trans ha3_⟩, fun _ h1_ => absurd ((hoff 10 (by kernel_rfl)).symm.trans h1_) (by decide), Q_X6_, fun _ => rfl⟩
      refine steps_cons ?_ ?_
      · rintro b a w' ⟨b6, g7, n7, m6_, m7_, ha, Q_HD, Q_HK, Q_HC, Q_HS, Q_HP, Q_HA, Q_HF, Q_X6_, Q_X7_⟩ hb_ hon hoff
        refine ⟨_, rfl, fun K hK => ?_⟩
        have e44 : a.tmps[44]? = some (.pointer (some ⟨d, 0, none⟩)) := by rw [ha]; exact (putSel_off rfl).trans rfl
        replace ha := Aside0.mk ha
        have HA := Aside0.mk (Q_HA (hon 7 (by kernel_rfl)) (hoff 10 (by kernel_rfl)))
        refine value_ (w1 := w') (v := .pointer (some ⟨d, 0, none⟩)) (by rfl) rfl ?_ ?_
        · go_simp
          (try simp only [i64_w])
          try rfl
        refine hK.out _ _ ⟨b6, g7, n7, m6_, m7_, (by rw [ha.out]; exact putSel_upk 4 hb_ rfl rfl rfl), fun h0_ => absurd ((hon 7 (by kernel_rfl)).symm.trans h0_) (by decide), fun h0_ => absurd ((hon 7 (by kernel_rfl)).symm.trans h0_) (by decide), fun h0_ => absurd ((hon 7 (by kernel_rfl)).symm.trans h0_) (by decide), fun h0_ => absurd ((hon 7 (by kernel_rfl)).symm.trans h0_) (by decide), fun _ h1_ => absurd ((hon 7 (by kernel_rfl)).symm.trans h1_) (by decide), Q_HA, fun _ h1_ => absurd ((hoff 10 (by kernel_rfl)).symm.trans h1_) (by decide), Q_X6_, Q_X7_⟩
      refine steps_cons ?_ ?_
      · rintro b a w' ⟨b6, g7, n7, m6_, m7_, ha, Q_HD, Q_HK, Q_HC, Q_HS, Q_HP, Q_HA, Q_HF, Q_X6_, Q_X7_⟩ hb_ hon hoff
        refine ⟨_, rfl, fun K hK => ?_⟩
        have e52 : a.tmps[52]? = some (.pointer (some ⟨d, 0, none⟩)) := by rw [ha]; exact putSel_on (e := (8, 52, .pointer (some ⟨d, 0, none⟩))) 4 rfl rfl (hon 8 (by kernel_rfl)) rfl
        replace ha := Aside0.mk ha
        have HA := Aside0.mk (Q_HA (hon 7 (by kernel_rfl)) (hoff 10 (by kernel_rfl)))
        refine value_ (w1 := w') (v := .pointer (some ⟨d, 4, none⟩)) (by rfl) rfl ?_ ?_
        · go_simp
          (try simp only [i64_w])
          try rfl
        refine hK.out _ _ ⟨b6, g7, n7, m6_, m7_, (by rw [ha.out]; exact putSel_upk 5 hb_ rfl rfl rfl), fun h0_ => absurd ((hon 7 (by kernel_rfl)).symm.trans h0_) (by decide), fun h0_ => absurd ((hon 7 (by kernel_rfl)).symm.trans h0_) (by decide), fun h0_ => absurd ((hon 7 (by kernel_rfl)).symm.trans h0_) (by decide), fun h0_ => absurd ((hon 7 (by kernel_rfl)).symm.trans h0_) (by decide), fun _ h1_ => absurd ((hon 7 (by kernel_rfl)).symm.trans h1_) (by decide), Q_HA, fun _ h1_ => absurd ((hoff 10 (by kernel_rfl)).symm.trans h1_) (by decide), Q_X6_, Q_X7_⟩
      refine steps_cons ?_ ?_
      · rintro b a w' ⟨b6, g7, n7, m6_, m7_, ha, Q_HD, Q_HK, Q_HC, Q_HS, Q_HP, Q_HA, Q_HF, Q_X6_, Q_X7_⟩ hb_ hon hoff
        refine ⟨_, rfl, fun K hK => ?_⟩
        have e53 : a.tmps[53]? = some (.pointer (some ⟨d, 4, none⟩)) := by rw [ha]; exact putSel_on (e := (9, 53, .pointer (some ⟨d, 4, none⟩))) 5 rfl rfl (hon 9 (by kernel_rfl)) rfl
        have e51 : a.tmps[51]? = some (m7_) := by rw [ha]; exact putSel_on (e := (7, 51, m7_)) 3 rfl rfl (hon 7 (by kernel_rfl)) rfl
        rw [Q_X7_ (hon 7 (by kernel_rfl))] at e51
        replace ha := Aside0.mk ha
        have HA := Aside0.mk (Q_HA (hon 7 (by kernel_rfl)) hb_)
        have hx_ := (blk_cell HA.out.1 4).trans rfl
        have hf_ := blk_frozen HA.out.1 4
        refine skip_ (w1 := w'.setCell ⟨d, 4, none⟩ (.slice (some ⟨g7, 0, none⟩) (D.queue ++ [c]).length n7)) (by rfl) rfl ?_ ?_
        · go_simp
          try rfl
        refine hK.out _ _ ⟨b6, g7, n7, m6_, m7_, (by rw [ha.out]; exact putSel_none (v := undef) rfl), fun h0_ => absurd ((hon 7 (by kernel_rfl)).symm.trans h0_) (by decide), fun h0_ => absurd ((hon 7 (by kernel_rfl)).symm.trans h0_) (by decide), fun h0_ => absurd ((hon 7 (by kernel_rfl)).symm.trans h0_) (by decide), fun h0_ => absurd ((hon 7 (by kernel_rfl)).symm.trans h0_) (by decide), fun _ h1_ => absurd ((hon 7 (by kernel_rfl)).symm.trans h1_) (by decide), fun _ h1_ => absurd ((up_self b 10).symm.trans h1_) (by decide), fun h0_ h1_ => HA.out.2, Q_X6_, Q_X7_⟩
      exact steps_nil
    rintro b a w1 hall ⟨b6, g7, n7, m6_, m7_, ha, Q_HD, Q_HK, Q_HC, Q_HS, Q_HP, Q_HA, Q_HF, Q_X6_, Q_X7_⟩
    clear HC HD HK HS
    have hb4_ := hall 4 (by kernel_rfl)
    have hb5_ := hall 5 (by kernel_rfl)
    have hb6_ := hall 6 (by kernel_rfl)
    have hb7_ := hall 7 (by kernel_rfl)
    have hb8_ := hall 8 (by kernel_rfl)
    have hb9_ := hall 9 (by kernel_rfl)
    have hb10_ := hall 10 (by kernel_rfl)
    subst ha
    obtain rfl := Q_X6_ hb6_
    obtain rfl := Q_X7_ hb7_
    simp only [putSel, hb4_, hb5_, hb6_, hb7_, hb8_, hb9_, hb10_, if_true, Act.put, List.setIfInBounds_toArray, List.set_cons_zero, List.set_cons_succ]
    clear Q_HD
    clear Q_HK
    clear Q_HC
    clear Q_HS
    clear Q_HP
    clear Q_HA
    have HF := Aside0.mk (Q_HF hb7_ hb10_)
    clear Q_HF
    clear hall hb4_ hb5_ hb6_ hb7_ hb8_ hb9_ hb10_
    go_wp2
    go_ret
    first | exact ⟨_, rfl, HF.out⟩ | exact ⟨rfl, _, HF.out⟩
set_option maxHeartbeats 16000000 in
set_option maxRecDepth 100000 in
theorem nSubmit2 (P : DevP) (D : Dev) (s t : Int) (dt : ByteArray) (w : World) (B : Nat) (hB : B ≤ w.heap.size) (h : DevAt B w P D) (hl : D.queue.length < 1000000000) :
    Calls Tryd.prog 12 #[.pointer (some ⟨P.d, 0, none⟩), .agg #[.int .i64 2, .int .i64 s, .string dt, .int .i64 t]] w fun r w' => ∃ P', r = .returned (errW (D.submit ⟨2, s, dt, t⟩).2) ∧ DevAt B w' P' (D.submit ⟨2, s, dt, t⟩).1 ∧ DKeep P P' w w' := by
  have e : D.submit ⟨2, s, dt, t⟩ = match D.ready s with | some e => (D, some e) | none => if dt.size ≠ 512 then (D, some 10) else D.enq ⟨2, s, dt, t⟩ := by
    unfold Dev.submit NC.trim
    dsimp only
    simp only [Int.reduceEq, if_true, if_false, true_or, or_true, or_self, or_false]
    rfl
  rw [e]
  clear e
  have HL := Aside0.mk hl
  have HR := Aside0.mk (fun W hW => nReadyF B P D s W hW)
  have HD := Aside0.mk h
  have HS := Aside0.mk hB
  clear hl h hB
  rcases hr : D.ready s with _ | e
  case some =>
    rw [hr] at HR
    dsimp only
    clear hr
    go_enter Tryd.func12, Tryd.ntmps12
    go_wp2_with (first | (go_at_call 37; (with_reducible refine (HR.out _ (HD.out.below (by repeat (first | exact Below.refl _ _ | (refine Below.setCell ?_ (by simp) _) | apply below_alloc | apply pw_below_drewN | exact below_drew1 ?_)))).mono ?_); rintro e w5 ⟨rfl, rfl⟩; simp only [errW_none, errW_some]) | fail)
    go_ret
    exact ⟨P, rfl, dev_same HD.out (by repeat (first | exact Below.refl _ _ | (refine Below.setCell ?_ (by simp) _) | apply below_alloc | apply pw_below_drewN | exact below_drew1 ?_))⟩
  rw [hr] at HR
  dsimp only
  clear hr
  by_cases hz : dt.size = 512
  case neg =>
    have p2 : ((dt.size : Int) != 512) = true := by rw [bne_iff_ne]; omega
    rw [if_pos hz]
    clear hz
    go_enter Tryd.func12, Tryd.ntmps12
    go_wp2_with (first | (go_at_call 37; (with_reducible refine (HR.out _ (HD.out.below (by repeat (first | exact Below.refl _ _ | (refine Below.setCell ?_ (by simp) _) | apply below_alloc | apply pw_below_drewN | exact below_drew1 ?_)))).mono ?_); rintro e w5 ⟨rfl, rfl⟩; simp only [errW_none, errW_some]) | fail)
    go_ret
    exact ⟨P, rfl, dev_same HD.out (by repeat (first | exact Below.refl _ _ | (refine Below.setCell ?_ (by simp) _) | apply below_alloc | apply pw_below_drewN | exact below_drew1 ?_))⟩
  have p2 : ((dt.size : Int) != 512) = false := by rw [bne_eq_false_iff_eq]; omega
  rw [if_neg (fun hn => hn hz)]
  clear hz
  have p3 : ∃ q, decide (D.depth ≤ (D.queue.length : Int)) = q := ⟨_, rfl⟩
  obtain ⟨q, p3⟩ := p3
  obtain ⟨d, mb, cv, qv, kv⟩ := P
  obtain ⟨cA, cc, rfl⟩ : ∃ A c, cv = _ := own_form HD.out.2.2.2.2.2.1
  obtain ⟨qA, qc, rfl⟩ : ∃ A c, qv = _ := own_form HD.out.2.2.2.2.2.2.1
  obtain ⟨kA, kc, rfl⟩ : ∃ A c, kv = _ := own_form HD.out.2.2.2.2.2.2.2.1
  dsimp only at HR ⊢
  have HK := Aside0.mk (show Below w.heap.size w (w.alloc (.cells #[.int .i64 2, .int .i64 s, .string dt, .int .i64 t] 38)) from (by repeat (first | exact Below.refl _ _ | (refine Below.setCell ?_ (by simp) _) | apply below_alloc | apply pw_below_drewN | exact below_drew1 ?_)))
  obtain ⟨c, hc⟩ : ∃ c, c = NC.mk 2 s dt t := ⟨_, rfl⟩
  have HC := Aside0.mk (show (w.alloc (.cells #[.int .i64 2, .int .i64 s, .string dt, .int .i64 t] 38)).heap[w.heap.size]? = some (.cells #[.int .i64 c.kind, .int .i64 c.sector, .string c.data, .int .i64 c.tag] 38 (0, 0)) from (by rw [hc]; exact (heap_alloc_new w _)))
  rw [← hc]
  clear hc
  go_enter Tryd.func12, Tryd.ntmps12
  go_upto_region 15 with (first | (go_at_call 37; (with_reducible refine (HR.out _ (HD.out.below (by repeat (first | exact Below.refl _ _ | (refine Below.setCell ?_ (by simp) _) | apply below_alloc | apply pw_below_drewN | exact below_drew1 ?_)))).mono ?_); rintro e w5 ⟨rfl, rfl⟩; simp only [errW_none, errW_some]) | fail)
  have HD1 := Aside0.mk (HD.out.below HK.out)
  have HS1 := Aside0.mk (Nat.le_trans HS.out (Below.size HK.out))
  have HK1 := Aside0.mk (dkeep_of HK.out ⟨d, mb, .slice cA D.cache.length cc, .slice qA D.queue.length qc, .slice kA D.keep.length kc⟩)
  clear HS HR HD HK
  generalize w.alloc (.cells #[.int .i64 2, .int .i64 s, .string dt, .int .i64 t] 38) = w1 at HC HD1 HS1 HK1 ⊢
  generalize w.heap.size = bx at HC ⊢
  have HD := HD1; have HS := HS1; have HK := HK1
  clear HD1 HS1 HK1
  have c4 := (blk_cell HD.out.2.2.2.1 4).trans rfl
  have c1 := (blk_cell HD.out.2.2.2.1 1).trans rfl
  cases q with
  | true =>
    have eq : D.enq c = (D, some 2) := if_pos (of_decide_eq_true p3)
    go_quiet (fail)
    go_wp2
    go_ret

    first | exact ⟨_, rfl, HD.out, HK.out.drewN _⟩ | exact ⟨rfl, _, HD.out, HK.out.drewN _⟩
  | false =>
    have eq : D.enq c = ({ D with queue := D.queue ++ [c] }, none) := if_neg (of_decide_eq_false p3)
    go_quiet (fail)
    go_upto_region 17 with (fail)
    clear c1 c4
    have HD2 := Aside0.mk (show DevAt B (w1.drewN nq) _ _ from HD.out)
    have HC2 := Aside0.mk (show (w1.drewN nq).heap[bx]? = _ from HC.out)
    have HS2 := Aside0.mk (show B ≤ (w1.drewN nq).heap.size from HS.out)
    have HK2 := Aside0.mk (HK.out.drewN nq)
    clear HD HC HS HK
    generalize w1.drewN nq = w2 at HC2 HD2 HS2 HK2 ⊢
    have HD := HD2; have HC := HC2; have HS := HS2; have HK := HK2
    clear HD2 HC2 HS2 HK2
    refine start_ (n := 11) (S := fun w' => True) (ds := []) #[false, false, false, false, false, false, false, false, false, false, false] (by kernel_rfl) rfl rfl trivial (fun hHeld => ?_)
    refine with_tabW nvme_Submit.tab17 nvme_Submit.bits17 (fun HT_ HW_ => ?_)
    have n0_ := Aside0.mk HD.out.drew; have n1_ := Aside0.mk HK.out.drew; have n2_ := Aside0.mk (blk_drew HC.out); have n3_ := Aside0.mk (show B ≤ w2.drew.heap.size from HS.out); clear HD HK HC HS; have HD := n0_; have HK := n1_; have HC := n2_; have HS := n3_; clear n0_ n1_ n2_ n3_; generalize w2.drew = wd at HD HK HC HS ⊢
    refine pure_ (i := 0) (N := some 44) (v := ?_) (a' := ?_) #[true, false, false, false, false, false, false, false, false, false, false] rfl rfl (any_of HT_.out (by kernel_rfl)) (fun _ _ _ h => h) (Or.inl ⟨by rfl, ?_⟩) ?_ ?_
    rotate_left
    · intro w'
      go_simp
      with_reducible rfl
    rotate_left
    · simp only [Act.put, List.setIfInBounds_toArray, List.set_cons_zero, List.set_cons_succ, i64_w, i32_w]
      rfl
    refine pure_ (i := 1) (N := some 45) (v := ?_) (a' := ?_) #[true, true, false, false, false, false, false, false, false, false, false] rfl rfl (any_of HT_.out (by kernel_rfl)) (fun _ _ _ h => h) (Or.inl ⟨by rfl, ?_⟩) ?_ ?_
    rotate_left
    · intro w'
      go_simp
      with_reducible rfl
    rotate_left
    · simp only [Act.put, List.setIfInBounds_toArray, List.set_cons_zero, List.set_cons_succ, i64_w, i32_w]
      rfl
    refine pure_ (i := 2) (N := some 46) (v := ?_) (a' := ?_) #[true, true, true, false, false, false, false, false, false, false, false] rfl rfl (any_of HT_.out (by kernel_rfl)) (fun _ _ _ h => h) (Or.inl ⟨by rfl, ?_⟩) ?_ ?_
    rotate_left
    · intro w'
      go_simp
      with_reducible rfl
    rotate_left
    · simp only [Act.put, List.setIfInBounds_toArray, List.set_cons_zero, List.set_cons_succ, i64_w, i32_w]
      rfl
    refine pure_ (i := 3) (N := some 47) (v := ?_) (a' := ?_) #[true, true, true, true, false, false, false, false, false, false, false] rfl rfl (any_of HT_.out (by kernel_rfl)) (fun _ _ _ h => h) (Or.inl ⟨by rfl, ?_⟩) ?_ ?_
    rotate_left
    · intro w'
      go_simp
      with_reducible rfl
    rotate_left
    · simp only [Act.put, List.setIfInBounds_toArray, List.set_cons_zero, List.set_cons_succ, i64_w, i32_w]
      rfl
    refine inv_at [4, 5, 6, 7, 8, 9, 10] (fun a0_ b a w' => ∃ (b6 : Nat) (g7 : Nat) (n7 : Nat) (m6_ : Value) (m7_ : Value), a = putSel a0_ b [(4, 48, .slice qA D.queue.length qc), (5, 49, .agg #[.int .i64 c.kind, .int .i64 c.sector, .string c.data, .int .i64 c.tag]), (6, 50, m6_), (7, 51, m7_), (8, 52, .pointer (some ⟨d, 0, none⟩)), (9, 53, .pointer (some ⟨d, 4, none⟩))] ∧ (b 7 = false → DevAt B w' ⟨d, mb, .slice cA D.cache.length cc, .slice qA D.queue.length qc, .slice kA D.keep.length kc⟩ D) ∧ (b 7 = false → DKeep ⟨d, mb, .slice cA D.cache.length cc, .slice qA D.queue.length qc, .slice kA D.keep.length kc⟩ ⟨d, mb, .slice cA D.cache.length cc, .slice qA D.queue.length qc, .slice kA D.keep.length kc⟩ w w') ∧ (b 7 = false → w'.heap[bx]? = some (.cells #[.int .i64 c.kind, .int .i64 c.sector, .string c.data, .int .i64 c.tag] 38 (0, 0))) ∧ (b 7 = false → B ≤ w'.heap.size) ∧ (b 6 = true → b 7 = false → w'.heap[b6]? = some (.cells #[.int .i64 c.kind, .int .i64 c.sector, .string c.data, .int .i64 c.tag] 38 (0, 0))) ∧ (b 7 = true → b 10 = false → w'.heap[d]? = some (.cells (D.cells ⟨d, mb, .slice cA D.cache.length cc, .slice qA D.queue.length qc, .slice kA D.keep.length kc⟩) 78 (0, 0)) ∧ DevAt B (w'.setCell ⟨d, 4, none⟩ (.slice (some ⟨g7, 0, none⟩) (D.queue ++ [c]).length n7)) ⟨d, mb, .slice cA D.cache.length cc, .slice (some ⟨g7, 0, none⟩) (D.queue ++ [c]).length n7, .slice kA D.keep.length kc⟩ { D with queue := D.queue ++ [c] } ∧ DKeep ⟨d, mb, .slice cA D.cache.length cc, .slice qA D.queue.length qc, .slice kA D.keep.length kc⟩ ⟨d, mb, .slice cA D.cache.length cc, .slice (some ⟨g7, 0, none⟩) (D.queue ++ [c]).length n7, .slice kA D.keep.length kc⟩ w (w'.setCell ⟨d, 4, none⟩ (.slice (some ⟨g7, 0, none⟩) (D.queue ++ [c]).length n7))) ∧ (b 7 = true → b 10 = true → DevAt B w' ⟨d, mb, .slice cA D.cache.length cc, .slice (some ⟨g7, 0, none⟩) (D.queue ++ [c]).length n7, .slice kA D.keep.length kc⟩ { D with queue := D.queue ++ [c] } ∧ DKeep ⟨d, mb, .slice cA D.cache.length cc, .slice qA D.queue.length qc, .slice kA D.keep.length kc⟩ ⟨d, mb, .slice cA D.cache.length cc, .slice (some ⟨g7, 0, none⟩) (D.queue ++ [c]).length n7, .slice kA D.keep.length kc⟩ w w') ∧ (b 6 = true → (m6_ : Value) = .slice (some ⟨b6, 0, none⟩) 1 1) ∧ (b 7 = true → (m7_ : Value) = .slice (some ⟨g7, 0, none⟩) (D.queue ++ [c]).length n7)) HT_.out HW_.out (by kernel_rfl) (by kernel_rfl) ?_ ?_ ?_
    · exact ⟨0, 0, 0, .bool false, .bool false, by simp only [putSel, Bool.false_eq_true, if_false], fun _ => HD.out, fun _ => HK.out, fun _ => HC.out, fun _ => HS.out, fun h_ => absurd h_ (by decide), fun h_ => absurd h_ (by decide), fun h_ => absurd h_ (by decide), fun h_ => absurd h_ (by decide), fun h_ => absurd h_ (by decide)⟩
    · skip
      clear HC HD HK HS
      refine steps_cons ?_ ?_
      · rintro b a w' ⟨b6, g7, n7, m6_, m7_, ha, Q_HD, Q_HK, Q_HC, Q_HS, Q_HP, Q_HA, Q_HF, Q_X6_, Q_X7_⟩ hb_ hon hoff
        refine ⟨_, rfl, fun K hK => ?_⟩
        have e47 : a.tmps[47]? = some (.pointer (some ⟨d, 4, none⟩)) := by rw [ha]; exact (putSel_off rfl).trans rfl
        replace ha := Aside0.mk ha
        have HD := Aside0.mk (Q_HD (hoff 7 (by kernel_rfl)))
        have HK := Aside0.mk (Q_HK (hoff 7 (by kernel_rfl)))
        have HC := Aside0.mk (Q_HC (hoff 7 (by kernel_rfl)))
        have HS := Aside0.mk (Q_HS (hoff 7 (by kernel_rfl)))
        have hx_ := (blk_cell HD.out.2.2.2.1 4).trans rfl
        refine value_ (w1 := w') (v := .slice qA D.queue.length qc) (by rfl) rfl ?_ ?_
        · go_simp
          (try simp only [i64_w])
          try rfl
        refine hK.out _ _ ⟨b6, g7, n7, m6_, m7_, (by rw [ha.out]; exact putSel_upk 0 hb_ rfl rfl rfl), Q_HD, Q_HK, Q_HC, Q_HS, Q_HP, fun h0_ _ => absurd ((hoff 7 (by kernel_rfl)).symm.trans h0_) (by decide), fun h0_ _ => absurd ((hoff 7 (by kernel_rfl)).symm.trans h0_) (by decide), Q_X6_, fun h0_ => absurd ((hoff 7 (by kernel_rfl)).symm.trans h0_) (by decide)⟩
      refine steps_cons ?_ ?_
      · rintro b a w' ⟨b6, g7, n7, m6_, m7_, ha, Q_HD, Q_HK, Q_HC, Q_HS, Q_HP, Q_HA, Q_HF, Q_X6_, Q_X7_⟩ hb_ hon hoff
        refine ⟨_, rfl, fun K hK => ?_⟩
        have e3 : a.tmps[3]? = some (.pointer (some ⟨bx, 0, none⟩)) := by rw [ha]; exact (putSel_off rfl).trans rfl
        replace ha := Aside0.mk ha
        have HD := Aside0.mk (Q_HD (hoff 7 (by kernel_rfl)))
        have HK := Aside0.mk (Q_HK (hoff 7 (by kernel_rfl)))
        have HC := Aside0.mk (Q_HC (hoff 7 (by kernel_rfl)))
        have HS := Aside0.mk (Q_HS (hoff 7 (by kernel_rfl)))
        have hx0 := (blk_cell HC.out 0).trans rfl
        have hx1 := (blk_cell HC.out 1).trans rfl
        have hx2 := (blk_cell HC.out 2).trans rfl
        have hx3 := (blk_cell HC.out 3).trans rfl
        refine value_ (w1 := w') (v := .agg #[.int .i64 c.kind, .int .i64 c.sector, .string c.data, .int .i64 c.tag]) (by rfl) rfl ?_ ?_
        · go_simp
          (try simp only [i64_w])
          try rfl
        refine hK.out _ _ ⟨b6, g7, n7, m6_, m7_, (by rw [ha.out]; exact putSel_upk 1 hb_ rfl rfl rfl), Q_HD, Q_HK, Q_HC, Q_HS, fun h0_ _ => absurd ((hoff 6 (by kernel_rfl)).symm.trans h0_) (by decide), fun h0_ _ => absurd ((hoff 7 (by kernel_rfl)).symm.trans h0_) (by decide), fun h0_ _ => absurd ((hoff 7 (by kernel_rfl)).symm.trans h0_) (by decide), fun h0_ => absurd ((hoff 6 (by kernel_rfl)).symm.trans h0_) (by decide), fun h0_ => absurd ((hoff 7 (by kernel_rfl)).symm.trans h0_) (by decide)⟩
      refine steps_cons ?_ ?_
      · rintro b a w' ⟨b6, g7, n7, m6_, m7_, ha, Q_HD, Q_HK, Q_HC, Q_HS, Q_HP, Q_HA, Q_HF, Q_X6_, Q_X7_⟩ hb_ hon hoff
        refine ⟨_, rfl, fun K hK => ?_⟩
        have e49 : a.tmps[49]? = some (.agg #[.int .i64 c.kind, .int .i64 c.sector, .string c.data, .int .i64 c.tag]) := by rw [ha]; exact putSel_on (e := (5, 49, .agg #[.int .i64 c.kind, .int .i64 c.sector, .string c.data, .int .i64 c.tag])) 1 rfl rfl (hon 5 (by kernel_rfl)) rfl
        replace ha := Aside0.mk ha
        have HD := Aside0.mk (Q_HD (hoff 7 (by kernel_rfl)))
        have HK := Aside0.mk (Q_HK (hoff 7 (by kernel_rfl)))
        have HC := Aside0.mk (Q_HC (hoff 7 (by kernel_rfl)))
        have HS := Aside0.mk (Q_HS (hoff 7 (by kernel_rfl)))
        refine value_ (w1 := w'.alloc (.cells #[.int .i64 c.kind, .int .i64 c.sector, .string c.data, .int .i64 c.tag] 38)) (v := .slice (some ⟨w'.heap.size, 0, none⟩) 1 1) (by rfl) rfl ?_ ?_
        · go_simp
        refine hK.out _ _ ⟨w'.heap.size, g7, n7, (.slice (some ⟨w'.heap.size, 0, none⟩) 1 1), m7_, (by rw [ha.out]; exact putSel_upk 2 hb_ rfl rfl rfl), fun _ => (fun hd_ hb_ => DevAt.below hd_ hb_) (HD.out) ((below_alloc (Below.refl _ _) (.cells #[.int .i64 c.kind, .int .i64 c.sector, .string c.data, .int .i64 c.tag] 38))), fun _ => (fun hd_ hb_ => DKeep.trans hd_ (dkeep_of hb_ _)) (HK.out) ((below_alloc (Below.refl _ _) (.cells #[.int .i64 c.kind, .int .i64 c.sector, .string c.data, .int .i64 c.tag] 38))), fun _ => blk_below HC.out (below_alloc (Below.refl _ _) (.cells #[.int .i64 c.kind, .int .i64 c.sector, .string c.data, .int .i64 c.tag] 38)), fun _ => Nat.le_trans HS.out (Below.size (below_alloc (Below.refl _ _) (.cells #[.int .i64 c.kind, .int .i64 c.sector, .string c.data, .int .i64 c.tag] 38))), fun h0_ h1_ => heap_alloc_new w' (.cells #[.int .i64 c.kind, .int .i64 c.sector, .string c.data, .int .i64 c.tag] 38), fun h0_ _ => absurd ((hoff 7 (by kernel_rfl)).symm.trans h0_) (by decide), fun h0_ _ => absurd ((hoff 7 (by kernel_rfl)).symm.trans h0_) (by decide), fun _ => rfl, fun h0_ => absurd ((hoff 7 (by kernel_rfl)).symm.trans h0_) (by decide)⟩
      refine steps_cons ?_ ?_
      · rintro b a w' ⟨b6, g7, n7, m6_, m7_, ha, Q_HD, Q_HK, Q_HC, Q_HS, Q_HP, Q_HA, Q_HF, Q_X6_, Q_X7_⟩ hb_ hon hoff
        refine ⟨_, rfl, fun K hK => ?_⟩
        have e48 : a.tmps[48]? = some (.slice qA D.queue.length qc) := by rw [ha]; exact putSel_on (e := (4, 48, .slice qA D.queue.length qc)) 0 rfl rfl (hon 4 (by kernel_rfl)) rfl
        have e50 : a.tmps[50]? = some (m6_) := by rw [ha]; exact putSel_on (e := (6, 50, m6_)) 2 rfl rfl (hon 6 (by kernel_rfl)) rfl
        rw [Q_X6_ (hon 6 (by kernel_rfl))] at e50
        replace ha := Aside0.mk ha
        have HD := Aside0.mk (Q_HD hb_)
        have HK := Aside0.mk (Q_HK hb_)
        have HC := Aside0.mk (Q_HC hb_)
        have HS := Aside0.mk (Q_HS hb_)
        have HP := Aside0.mk (Q_HP (hon 6 (by kernel_rfl)) hb_)
        obtain ⟨g_, n_, wA, hr_, ha1_, ha2_, ha3_⟩ := dev_appq HD.out HS.out HL.out HP.out 1
        refine value_ (w1 := wA) (v := .slice (some ⟨g_, 0, none⟩) (D.queue ++ [c]).length n_) (by rfl) rfl ?_ ?_
        · have hr2_ := hr_
          dsimp only at hr2_
          simp [execOp, resolve, invoke, builtin, Act.eval, hr2_, *]
        refine hK.out _ _ ⟨b6, g_, n_, m6_, (.slice (some ⟨g_, 0, none⟩) (D.queue ++ [c]).length n_), (by rw [ha.out]; exact putSel_upk 3 hb_ rfl rfl rfl), fun h0_ => absurd ((up_self b 7).symm.trans h0_) (by decide), fun h0_ => absurd ((up_self b 7).symm.trans h0_) (by decide), fun h0_ => absurd ((up_self b 7).symm.trans h0_) (by decide), fun h0_ => absurd ((up_self b 7).symm.trans h0_) (by decide), fun _ h1_ => absurd ((up_self b 7).symm.trans h1_) (by decide), fun h0_ h1_ => ⟨ha1_, ha2_, HK.out.trans ha3_⟩, fun _ h1_ => absurd ((hoff 10 (by kernel_rfl)).symm.trans h1_) (by decide), Q_X6_, fun _ => rfl⟩
      refine steps_cons ?_ ?_
      · rintro b a w' ⟨b6, g7, n7, m6_, m7_, ha, Q_HD, Q_HK, Q_HC, Q_HS, Q_HP, Q_HA, Q_HF, Q_X6_, Q_X7_⟩ hb_ hon hoff
        refine ⟨_, rfl, fun K hK => ?_⟩
        have e44 : a.tmps[44]? = some (.pointer (some ⟨d, 0, none⟩)) := by rw [ha]; exact (putSel_off rfl).trans rfl
        replace ha := Aside0.mk ha
        have HA := Aside0.mk (Q_HA (hon 7 (by kernel_rfl)) (hoff 10 (by kernel_rfl)))
        refine value_ (w1 := w') (v := .pointer (some ⟨d, 0, none⟩)) (by rfl) rfl ?_ ?_
        · go_simp
          (try simp only [i64_w])
          try rfl
        refine hK.out _ _ ⟨b6, g7, n7, m6_, m7_, (by rw [ha.out]; exact putSel_upk 4 hb_ rfl rfl rfl), fun h0_ => absurd ((hon 7 (by kernel_rfl)).symm.trans h0_) (by decide), fun h0_ => absurd ((hon 7 (by kernel_rfl)).symm.trans h0_) (by decide), fun h0_ => absurd ((hon 7 (by kernel_rfl)).symm.trans h0_) (by decide), fun h0_ => absurd ((hon 7 (by kernel_rfl)).symm.trans h0_) (by decide), fun _ h1_ => absurd ((hon 7 (by kernel_rfl)).symm.trans h1_) (by decide), Q_HA, fun _ h1_ => absurd ((hoff 10 (by kernel_rfl)).symm.trans h1_) (by decide), Q_X6_, Q_X7_⟩
      refine steps_cons ?_ ?_
      · rintro b a w' ⟨b6, g7, n7, m6_, m7_, ha, Q_HD, Q_HK, Q_HC, Q_HS, Q_HP, Q_HA, Q_HF, Q_X6_, Q_X7_⟩ hb_ hon hoff
        refine ⟨_, rfl, fun K hK => ?_⟩
        have e52 : a.tmps[52]? = some (.pointer (some ⟨d, 0, none⟩)) := by rw [ha]; exact putSel_on (e := (8, 52, .pointer (some ⟨d, 0, none⟩))) 4 rfl rfl (hon 8 (by kernel_rfl)) rfl
        replace ha := Aside0.mk ha
        have HA := Aside0.mk (Q_HA (hon 7 (by kernel_rfl)) (hoff 10 (by kernel_rfl)))
        refine value_ (w1 := w') (v := .pointer (some ⟨d, 4, none⟩)) (by rfl) rfl ?_ ?_
        · go_simp
          (try simp only [i64_w])
          try rfl
        refine hK.out _ _ ⟨b6, g7, n7, m6_, m7_, (by rw [ha.out]; exact putSel_upk 5 hb_ rfl rfl rfl), fun h0_ => absurd ((hon 7 (by kernel_rfl)).symm.trans h0_) (by decide), fun h0_ => absurd ((hon 7 (by kernel_rfl)).symm.trans h0_) (by decide), fun h0_ => absurd ((hon 7 (by kernel_rfl)).symm.trans h0_) (by decide), fun h0_ => absurd ((hon 7 (by kernel_rfl)).symm.trans h0_) (by decide), fun _ h1_ => absurd ((hon 7 (by kernel_rfl)).symm.trans h1_) (by decide), Q_HA, fun _ h1_ => absurd ((hoff 10 (by kernel_rfl)).symm.trans h1_) (by decide), Q_X6_, Q_X7_⟩
      refine steps_cons ?_ ?_
      · rintro b a w' ⟨b6, g7, n7, m6_, m7_, ha, Q_HD, Q_HK, Q_HC, Q_HS, Q_HP, Q_HA, Q_HF, Q_X6_, Q_X7_⟩ hb_ hon hoff
        refine ⟨_, rfl, fun K hK => ?_⟩
        have e53 : a.tmps[53]? = some (.pointer (some ⟨d, 4, none⟩)) := by rw [ha]; exact putSel_on (e := (9, 53, .pointer (some ⟨d, 4, none⟩))) 5 rfl rfl (hon 9 (by kernel_rfl)) rfl
        have e51 : a.tmps[51]? = some (m7_) := by rw [ha]; exact putSel_on (e := (7, 51, m7_)) 3 rfl rfl (hon 7 (by kernel_rfl)) rfl
        rw [Q_X7_ (hon 7 (by kernel_rfl))] at e51
        replace ha := Aside0.mk ha
        have HA := Aside0.mk (Q_HA (hon 7 (by kernel_rfl)) hb_)
        have hx_ := (blk_cell HA.out.1 4).trans rfl
        have hf_ := blk_frozen HA.out.1 4
        refine skip_ (w1 := w'.setCell ⟨d, 4, none⟩ (.slice (some ⟨g7, 0, none⟩) (D.queue ++ [c]).length n7)) (by rfl) rfl ?_ ?_
        · go_simp
          try rfl
        refine hK.out _ _ ⟨b6, g7, n7, m6_, m7_, (by rw [ha.out]; exact putSel_none (v := undef) rfl), fun h0_ => absurd ((hon 7 (by kernel_rfl)).symm.trans h0_) (by decide), fun h0_ => absurd ((hon 7 (by kernel_rfl)).symm.trans h0_) (by decide), fun h0_ => absurd ((hon 7 (by kernel_rfl)).symm.trans h0_) (by decide), fun h0_ => absurd ((hon 7 (by kernel_rfl)).symm.trans h0_) (by decide), fun _ h1_ => absurd ((hon 7 (by kernel_rfl)).symm.trans h1_) (by decide), fun _ h1_ => absurd ((up_self b 10).symm.trans h1_) (by decide), fun h0_ h1_ => HA.out.2, Q_X6_, Q_X7_⟩
      exact steps_nil
    rintro b a w1 hall ⟨b6, g7, n7, m6_, m7_, ha, Q_HD, Q_HK, Q_HC, Q_HS, Q_HP, Q_HA, Q_HF, Q_X6_, Q_X7_⟩
    clear HC HD HK HS
    have hb4_ := hall 4 (by kernel_rfl)
    have hb5_ := hall 5 (by kernel_rfl)
    have hb6_ := hall 6 (by kernel_rfl)
    have hb7_ := hall 7 (by kernel_rfl)
    have hb8_ := hall 8 (by kernel_rfl)
    have hb9_ := hall 9 (by kernel_rfl)
    have hb10_ := hall 10 (by kernel_rfl)
    subst ha
    obtain rfl := Q_X6_ hb6_
    obtain rfl := Q_X7_ hb7_
    simp only [putSel, hb4_, hb5_, hb6_, hb7_, hb8_, hb9_, hb10_, if_true, Act.put, List.setIfInBounds_toArray, List.set_cons_zero, List.set_cons_succ]
    clear Q_HD
    clear Q_HK
    clear Q_HC
    clear Q_HS
    clear Q_HP
    clear Q_HA
    have HF := Aside0.mk (Q_HF hb7_ hb10_)
    clear Q_HF
    clear hall hb4_ hb5_ hb6_ hb7_ hb8_ hb9_ hb10_
    go_wp2
    go_ret
    first | exact ⟨_, rfl, HF.out⟩ | exact ⟨rfl, _, HF.out⟩
set_option maxHeartbeats 16000000 in
set_option maxRecDepth 100000 in
theorem nSubmit3 (P : DevP) (D : Dev) (s t : Int) (dt : ByteArray) (w : World) (B : Nat) (hB : B ≤ w.heap.size) (h : DevAt B w P D) (hl : D.queue.length < 1000000000) :
    Calls Tryd.prog 12 #[.pointer (some ⟨P.d, 0, none⟩), .agg #[.int .i64 3, .int .i64 s, .string dt, .int .i64 t]] w fun r w' => ∃ P', r = .returned (errW (D.submit ⟨3, s, dt, t⟩).2) ∧ DevAt B w' P' (D.submit ⟨3, s, dt, t⟩).1 ∧ DKeep P P' w w' := by
  have e : D.submit ⟨3, s, dt, t⟩ = match D.ready s with | some e => (D, some e) | none => if dt.size ≠ 512 then (D, some 10) else D.enq ⟨3, s, dt, t⟩ := by
    unfold Dev.submit NC.trim
    dsimp only
    simp only [Int.reduceEq, if_true, if_false, true_or, or_true, or_self, or_false]
    rfl
  rw [e]
  clear e
  have HL := Aside0.mk hl
  have HR := Aside0.mk (fun W hW => nReadyF B P D s W hW)
  have HD := Aside0.mk h
  have HS := Aside0.mk hB
  clear hl h hB
  rcases hr : D.ready s with _ | e
  case some =>
    rw [hr] at HR
    dsimp only
    clear hr
    go_enter Tryd.func12, Tryd.ntmps12
    go_wp2_with (first | (go_at_call 37; (with_reducible refine (HR.out _ (HD.out.below (by repeat (first | exact Below.refl _ _ | (refine Below.setCell ?_ (by simp) _) | apply below_alloc | apply pw_below_drewN | exact below_drew1 ?_)))).mono ?_); rintro e w5 ⟨rfl, rfl⟩; simp only [errW_none, errW_some]) | fail)
    go_ret
    exact ⟨P, rfl, dev_same HD.out (by repeat (first | exact Below.refl _ _ | (refine Below.setCell ?_ (by simp) _) | apply below_alloc | apply pw_below_drewN | exact below_drew1 ?_))⟩
  rw [hr] at HR
  dsimp only
  clear hr
  by_cases hz : dt.size = 512
  case neg =>
    have p2 : ((dt.size : Int) != 512) = true := by rw [bne_iff_ne]; omega
    rw [if_pos hz]
    clear hz
    go_enter Tryd.func12, Tryd.ntmps12
    go_wp2_with (first | (go_at_call 37; (with_reducible refine (HR.out _ (HD.out.below (by repeat (first | exact Below.refl _ _ | (refine Below.setCell ?_ (by simp) _) | apply below_alloc | apply pw_below_drewN | exact below_drew1 ?_)))).mono ?_); rintro e w5 ⟨rfl, rfl⟩; simp only [errW_none, errW_some]) | fail)
    go_ret
    exact ⟨P, rfl, dev_same HD.out (by repeat (first | exact Below.refl _ _ | (refine Below.setCell ?_ (by simp) _) | apply below_alloc | apply pw_below_drewN | exact below_drew1 ?_))⟩
  have p2 : ((dt.size : Int) != 512) = false := by rw [bne_eq_false_iff_eq]; omega
  rw [if_neg (fun hn => hn hz)]
  clear hz
  have p3 : ∃ q, decide (D.depth ≤ (D.queue.length : Int)) = q := ⟨_, rfl⟩
  obtain ⟨q, p3⟩ := p3
  obtain ⟨d, mb, cv, qv, kv⟩ := P
  obtain ⟨cA, cc, rfl⟩ : ∃ A c, cv = _ := own_form HD.out.2.2.2.2.2.1
  obtain ⟨qA, qc, rfl⟩ : ∃ A c, qv = _ := own_form HD.out.2.2.2.2.2.2.1
  obtain ⟨kA, kc, rfl⟩ : ∃ A c, kv = _ := own_form HD.out.2.2.2.2.2.2.2.1
  dsimp only at HR ⊢
  have HK := Aside0.mk (show Below w.heap.size w (w.alloc (.cells #[.int .i64 3, .int .i64 s, .string dt, .int .i64 t] 38)) from (by repeat (first | exact Below.refl _ _ | (refine Below.setCell ?_ (by simp) _) | apply below_alloc | apply pw_below_drewN | exact below_drew1 ?_)))
  obtain ⟨c, hc⟩ : ∃ c, c = NC.mk 3 s dt t := ⟨_, rfl⟩
  have HC := Aside0.mk (show (w.alloc (.cells #[.int .i64 3, .int .i64 s, .string dt, .int .i64 t] 38)).heap[w.heap.size]? = some (.cells #[.int .i64 c.kind, .int .i64 c.sector, .string c.data, .int .i64 c.tag] 38 (0, 0)) from (by rw [hc]; exact (heap_alloc_new w _)))
  rw [← hc]
  clear hc
  go_enter Tryd.func12, Tryd.ntmps12
  go_upto_region 15 with (first | (go_at_call 37; (with_reducible refine (HR.out _ (HD.out.below (by repeat (first | exact Below.refl _ _ | (refine Below.setCell ?_ (by simp) _) | apply below_alloc | apply pw_below_drewN | exact below_drew1 ?_)))).mono ?_); rintro e w5 ⟨rfl, rfl⟩; simp only [errW_none, errW_some]) | fail)
  have HD1 := Aside0.mk (HD.out.below HK.out)
  have HS1 := Aside0.mk (Nat.le_trans HS.out (Below.size HK.out))
  have HK1 := Aside0.mk (dkeep_of HK.out ⟨d, mb, .slice cA D.cache.length cc, .slice qA D.queue.length qc, .slice kA D.keep.length kc⟩)
  clear HS HR HD HK
  generalize w.alloc (.cells #[.int .i64 3, .int .i64 s, .string dt, .int .i64 t] 38) = w1 at HC HD1 HS1 HK1 ⊢
  generalize w.heap.size = bx at HC ⊢
  have HD := HD1; have HS := HS1; have HK := HK1
  clear HD1 HS1 HK1
  have c4 := (blk_cell HD.out.2.2.2.1 4).trans rfl
  have c1 := (blk_cell HD.out.2.2.2.1 1).trans rfl
  cases q with
  | true =>
    have eq : D.enq c = (D, some 2) := if_pos (of_decide_eq_true p3)
    go_quiet (fail)
    go_wp2
    go_ret

    first | exact ⟨_, rfl, HD.out, HK.out.drewN _⟩ | exact ⟨rfl, _, HD.out, HK.out.drewN _⟩
  | false =>
    have eq : D.enq c = ({ D with queue := D.queue ++ [c] }, none) := if_neg (of_decide_eq_false p3)
    go_quiet (fail)
    go_upto_region 17 with (fail)
    clear c1 c4
    have HD2 := Aside0.mk (show DevAt B (w1.drewN nq) _ _ from HD.out)
    have HC2 := Aside0.mk (show (w1.drewN nq).heap[bx]? = _ from HC.out)
    have HS2 := Aside0.mk (show B ≤ (w1.drewN nq).heap.size from HS.out)
    have HK2 := Aside0.mk (HK.out.drewN nq)
    clear HD HC HS HK
    generalize w1.drewN nq = w2 at HC2 HD2 HS2 HK2 ⊢
    have HD := HD2; have HC := HC2; have HS := HS2; have HK := HK2
    clear HD2 HC2 HS2 HK2
    refine start_ (n := 11) (S := fun w' => True) (ds := []) #[false, false, false, false, false, false, false, false, false, false, false] (by kernel_rfl) rfl rfl trivial (fun hHeld => ?_)
    refine with_tabW nvme_Submit.tab17 nvme_Submit.bits17 (fun HT_ HW_ => ?_)
    have n0_ := Aside0.mk HD.out.drew; have n1_ := Aside0.mk HK.out.drew; have n2_ := Aside0.mk (blk_drew HC.out); have n3_ := Aside0.mk (show B ≤ w2.drew.heap.size from HS.out); clear HD HK HC HS; have HD := n0_; have HK := n1_; have HC := n2_; have HS := n3_; clear n0_ n1_ n2_ n3_; generalize w2.drew = wd at HD HK HC HS ⊢
    refine pure_ (i := 0) (N := some 44) (v := ?_) (a' := ?_) #[true, false, false, false, false, false, false, false, false, false, false] rfl rfl (any_of HT_.out (by kernel_rfl)) (fun _ _ _ h => h) (Or.inl ⟨by rfl, ?_⟩) ?_ ?_
    rotate_left
    · intro w'
      go_simp
      with_reducible rfl
    rotate_left
    · simp only [Act.put, List.setIfInBounds_toArray, List.set_cons_zero, List.set_cons_succ, i64_w, i32_w]
      rfl
    refine pure_ (i := 1) (N := some 45) (v := ?_) (a' := ?_) #[true, true, false, false, false, false, false, false, false, false, false] rfl rfl (any_of HT_.out (by kernel_rfl)) (fun _ _ _ h => h) (Or.inl ⟨by rfl, ?_⟩) ?_ ?_
    rotate_left
    · intro w'
      go_simp
      with_reducible rfl
    rotate_left
    · simp only [Act.put, List.setIfInBounds_toArray, List.set_cons_zero, List.set_cons_succ, i64_w, i32_w]
      rfl
    refine pure_ (i := 2) (N := some 46) (v := ?_) (a' := ?_) #[true, true, true, false, false, false, false, false, false, false, false] rfl rfl (any_of HT_.out (by kernel_rfl)) (fun _ _ _ h => h) (Or.inl ⟨by rfl, ?_⟩) ?_ ?_
    rotate_left
    · intro w'
      go_simp
      with_reducible rfl
    rotate_left
    · simp only [Act.put, List.setIfInBounds_toArray, List.set_cons_zero, List.set_cons_succ, i64_w, i32_w]
      rfl
    refine pure_ (i := 3) (N := some 47) (v := ?_) (a' := ?_) #[true, true, true, true, false, false, false, false, false, false, false] rfl rfl (any_of HT_.out (by kernel_rfl)) (fun _ _ _ h => h) (Or.inl ⟨by rfl, ?_⟩) ?_ ?_
    rotate_left
    · intro w'
      go_simp
      with_reducible rfl
    rotate_left
    · simp only [Act.put, List.setIfInBounds_toArray, List.set_cons_zero, List.set_cons_succ, i64_w, i32_w]
      rfl
    refine inv_at [4, 5, 6, 7, 8, 9, 10] (fun a0_ b a w' => ∃ (b6 : Nat) (g7 : Nat) (n7 : Nat) (m6_ : Value) (m7_ : Value), a = putSel a0_ b [(4, 48, .slice qA D.queue.length qc), (5, 49, .agg #[.int .i64 c.kind, .int .i64 c.sector, .string c.data, .int .i64 c.tag]), (6, 50, m6_), (7, 51, m7_), (8, 52, .pointer (some ⟨d, 0, none⟩)), (9, 53, .pointer (some ⟨d, 4, none⟩))] ∧ (b 7 = false → DevAt B w' ⟨d, mb, .slice cA D.cache.length cc, .slice qA D.queue.length qc, .slice kA D.keep.length kc⟩ D) ∧ (b 7 = false → DKeep ⟨d, mb, .slice cA D.cache.length cc, .slice qA D.queue.length qc, .slice kA D.keep.length kc⟩ ⟨d, mb, .slice cA D.cache.length cc, .slice qA D.queue.length qc, .slice kA D.keep.length kc⟩ w w') ∧ (b 7 = false → w'.heap[bx]? = some (.cells #[.int .i64 c.kind, .int .i64 c.sector, .string c.data, .int .i64 c.tag] 38 (0, 0))) ∧ (b 7 = false → B ≤ w'.heap.size) ∧ (b 6 = true → b 7 = false → w'.heap[b6]? = some (.cells #[.int .i64 c.kind, .int .i64 c.sector, .string c.data, .int .i64 c.tag] 38 (0, 0))) ∧ (b 7 = true → b 10 = false → w'.heap[d]? = some (.cells (D.cells ⟨d, mb, .slice cA D.cache.length cc, .slice qA D.queue.length qc, .slice kA D.keep.length kc⟩) 78 (0, 0)) ∧ DevAt B (w'.setCell ⟨d, 4, none⟩ (.slice (some ⟨g7, 0, none⟩) (D.queue ++ [c]).length n7)) ⟨d, mb, .slice cA D.cache.length cc, .slice (some ⟨g7, 0, none⟩) (D.queue ++ [c]).length n7, .slice kA D.keep.length kc⟩ { D with queue := D.queue ++ [c] } ∧ DKeep ⟨d, mb, .slice cA D.cache.length cc, .slice qA D.queue.length qc, .slice kA D.keep.length kc⟩ ⟨d, mb, .slice cA D.cache.length cc, .slice (some ⟨g7, 0, none⟩) (D.queue ++ [c]).length n7, .slice kA D.keep.length kc⟩ w (w'.setCell ⟨d, 4, none⟩ (.slice (some ⟨g7, 0, none⟩) (D.queue ++ [c]).length n7))) ∧ (b 7 = true → b 10 = true → DevAt B w' ⟨d, mb, .slice cA D.cache.length cc, .slice (some ⟨g7, 0, none⟩) (D.queue ++ [c]).length n7, .slice kA D.keep.length kc⟩ { D with queue := D.queue ++ [c] } ∧ DKeep ⟨d, mb, .slice cA D.cache.length cc, .slice qA D.queue.length qc, .slice kA D.keep.length kc⟩ ⟨d, mb, .slice cA D.cache.length cc, .slice (some ⟨g7, 0, none⟩) (D.queue ++ [c]).length n7, .slice kA D.keep.length kc⟩ w w') ∧ (b 6 = true → (m6_ : Value) = .slice (some ⟨b6, 0, none⟩) 1 1) ∧ (b 7 = true → (m7_ : Value) = .slice (some ⟨g7, 0, none⟩) (D.queue ++ [c]).length n7)) HT_.out HW_.out (by kernel_rfl) (by kernel_rfl) ?_ ?_ ?_
    · exact ⟨0, 0, 0, .bool false, .bool false, by simp only [putSel, Bool.false_eq_true, if_false], fun _ => HD.out, fun _ => HK.out, fun _ => HC.out, fun _ => HS.out, fun h_ => absurd h_ (by decide), fun h_ => absurd h_ (by decide), fun h_ => absurd h_ (by decide), fun h_ => absurd h_ (by decide), fun h_ => absurd h_ (by decide)⟩
    · skip
      clear HC HD HK HS
      refine steps_cons ?_ ?_
      · rintro b a w' ⟨b6, g7, n7, m6_, m7_, ha, Q_HD, Q_HK, Q_HC, Q_HS, Q_HP, Q_HA, Q_HF, Q_X6_, Q_X7_⟩ hb_ hon hoff
        refine ⟨_, rfl, fun K hK => ?_⟩
        have e47 : a.tmps[47]? = some (.pointer (some ⟨d, 4, none⟩)) := by rw [ha]; exact (putSel_off rfl).trans rfl
        replace ha := Aside0.mk ha
        have HD := Aside0.mk (Q_HD (hoff 7 (by kernel_rfl)))
        have HK := Aside0.mk (Q_HK (hoff 7 (by kernel_rfl)))
        have HC := Aside0.mk (Q_HC (hoff 7 (by kernel_rfl)))
        have HS := Aside0.mk (Q_HS (hoff 7 (by kernel_rfl)))
        have hx_ := (blk_cell HD.out.2.2.2.1 4).trans rfl
        refine value_ (w1 := w') (v := .slice qA D.queue.length qc) (by rfl) rfl ?_ ?_
        · go_simp
          (try simp only [i64_w])
          try rfl
        refine hK.out _ _ ⟨b6, g7, n7, m6_, m7_, (by rw [ha.out]; exact putSel_upk 0 hb_ rfl rfl rfl), Q_HD, Q_HK, Q_HC, Q_HS, Q_HP, fun h0_ _ => absurd ((hoff 7 (by kernel_rfl)).symm.trans h0_) (by decide), fun h0_ _ => absurd ((hoff 7 (by kernel_rfl)).symm.trans h0_) (by decide), Q_X6_, fun h0_ => absurd ((hoff 7 (by kernel_rfl)).symm.trans h0_) (by decide)⟩
      refine steps_cons ?_ ?_
      · rintro b a w' ⟨b6, g7, n7, m6_, m7_, ha, Q_HD, Q_HK, Q_HC, Q_HS, Q_HP, Q_HA, Q_HF, Q_X6_, Q_X7_⟩ hb_ hon hoff
        refine ⟨_, rfl, fun K hK => ?_⟩
        have e3 : a.tmps[3]? = some (.pointer (some ⟨bx, 0, none⟩)) := by rw [ha]; exact (putSel_off rfl).trans rfl
        replace ha := Aside0.mk ha
        have HD := Aside0.mk (Q_HD (hoff 7 (by kernel_rfl)))
        have HK := Aside0.mk (Q_HK (hoff 7 (by kernel_rfl)))
        have HC := Aside0.mk (Q_HC (hoff 7 (by kernel_rfl)))
        have HS := Aside0.mk (Q_HS (hoff 7 (by kernel_rfl)))
        have hx0 := (blk_cell HC.out 0).trans rfl
        have hx1 := (blk_cell HC.out 1).trans rfl
        have hx2 := (blk_cell HC.out 2).trans rfl
        have hx3 := (blk_cell HC.out 3).trans rfl
        refine value_ (w1 := w') (v := .agg #[.int .i64 c.kind, .int .i64 c.sector, .string c.data, .int .i64 c.tag]) (by rfl) rfl ?_ ?_
        · go_simp
          (try simp only [i64_w])
          try rfl
        refine hK.out _ _ ⟨b6, g7, n7, m6_, m7_, (by rw [ha.out]; exact putSel_upk 1 hb_ rfl rfl rfl), Q_HD, Q_HK, Q_HC, Q_HS, fun h0_ _ => absurd ((hoff 6 (by kernel_rfl)).symm.trans h0_) (by decide), fun h0_ _ => absurd ((hoff 7 (by kernel_rfl)).symm.trans h0_) (by decide), fun h0_ _ => absurd ((hoff 7 (by kernel_rfl)).symm.trans h0_) (by decide), fun h0_ => absurd ((hoff 6 (by kernel_rfl)).symm.trans h0_) (by decide), fun h0_ => absurd ((hoff 7 (by kernel_rfl)).symm.trans h0_) (by decide)⟩
      refine steps_cons ?_ ?_
      · rintro b a w' ⟨b6, g7, n7, m6_, m7_, ha, Q_HD, Q_HK, Q_HC, Q_HS, Q_HP, Q_HA, Q_HF, Q_X6_, Q_X7_⟩ hb_ hon hoff
        refine ⟨_, rfl, fun K hK => ?_⟩
        have e49 : a.tmps[49]? = some (.agg #[.int .i64 c.kind, .int .i64 c.sector, .string c.data, .int .i64 c.tag]) := by rw [ha]; exact putSel_on (e := (5, 49, .agg #[.int .i64 c.kind, .int .i64 c.sector, .string c.data, .int .i64 c.tag])) 1 rfl rfl (hon 5 (by kernel_rfl)) rfl
        replace ha := Aside0.mk ha
        have HD := Aside0.mk (Q_HD (hoff 7 (by kernel_rfl)))
        have HK := Aside0.mk (Q_HK (hoff 7 (by kernel_rfl)))
        have HC := Aside0.mk (Q_HC (hoff 7 (by kernel_rfl)))
        have HS := Aside0.mk (Q_HS (hoff 7 (by kernel_rfl)))
        refine value_ (w1 := w'.alloc (.cells #[.int .i64 c.kind, .int .i64 c.sector, .string c.data, .int .i64 c.tag] 38)) (v := .slice (some ⟨w'.heap.size, 0, none⟩) 1 1) (by rfl) rfl ?_ ?_
        · go_simp
        refine hK.out _ _ ⟨w'.heap.size, g7, n7, (.slice (some ⟨w'.heap.size, 0, none⟩) 1 1), m7_, (by rw [ha.out]; exact putSel_upk 2 hb_ rfl rfl rfl), fun _ => (fun hd_ hb_ => DevAt.below hd_ hb_) (HD.out) ((below_alloc (Below.refl _ _) (.cells #[.int .i64 c.kind, .int .i64 c.sector, .string c.data, .int .i64 c.tag] 38))), fun _ => (fun hd_ hb_ => DKeep.trans hd_ (dkeep_of hb_ _)) (HK.out) ((below_alloc (Below.refl _ _) (.cells #[.int .i64 c.kind, .int .i64 c.sector, .string c.data, .int .i64 c.tag] 38))), fun _ => blk_below HC.out (below_alloc (Below.refl _ _) (.cells #[.int .i64 c.kind, .int .i64 c.sector, .string c.data, .int .i64 c.tag] 38)), fun _ => Nat.le_trans HS.out (Below.size (below_alloc (Below.refl _ _) (.cells #[.int .i64 c.kind, .int .i64 c.sector, .string c.data, .int .i64 c.tag] 38))), fun h0_ h1_ => heap_alloc_new w' (.cells #[.int .i64 c.kind, .int .i64 c.sector, .string c.data, .int .i64 c.tag] 38), fun h0_ _ => absurd ((hoff 7 (by kernel_rfl)).symm.trans h0_) (by decide), fun h0_ _ => absurd ((hoff 7 (by kernel_rfl)).symm.trans h0_) (by decide), fun _ => rfl, fun h0_ => absurd ((hoff 7 (by kernel_rfl)).symm.trans h0_) (by decide)⟩
      refine steps_cons ?_ ?_
      · rintro b a w' ⟨b6, g7, n7, m6_, m7_, ha, Q_HD, Q_HK, Q_HC, Q_HS, Q_HP, Q_HA, Q_HF, Q_X6_, Q_X7_⟩ hb_ hon hoff
        refine ⟨_, rfl, fun K hK => ?_⟩
        have e48 : a.tmps[48]? = some (.slice qA D.queue.length qc) := by rw [ha]; exact putSel_on (e := (4, 48, .slice qA D.queue.length qc)) 0 rfl rfl (hon 4 (by kernel_rfl)) rfl
        have e50 : a.tmps[50]? = some (m6_) := by rw [ha]; exact putSel_on (e := (6, 50, m6_)) 2 rfl rfl (hon 6 (by kernel_rfl)) rfl
        rw [Q_X6_ (hon 6 (by kernel_rfl))] at e50
        replace ha := Aside0.mk ha
        have HD := Aside0.mk (Q_HD hb_)
        have HK := Aside0.mk (Q_HK hb_)
        have HC := Aside0.mk (Q_HC hb_)
        have HS := Aside0.mk (Q_HS hb_)
        have HP := Aside0.mk (Q_HP (hon 6 (by kernel_rfl)) hb_)
        obtain ⟨g_, n_, wA, hr_, ha1_, ha2_, ha3_⟩ := dev_appq HD.out HS.out HL.out HP.out 1
        refine value_ (w1 := wA) (v := .slice (some ⟨g_, 0, none⟩) (D.queue ++ [c]).length n_) (by rfl) rfl ?_ ?_
        · have hr2_ := hr_
          dsimp only at hr2_
          simp [execOp, resolve, invoke, builtin, Act.eval, hr2_, *]
        refine hK.out _ _ ⟨b6, g_, n_, m6_, (.slice (some ⟨g_, 0, none⟩) (D.queue ++ [c]).length n_), (by rw [ha.out]; exact putSel_upk 3 hb_ rfl rfl rfl), fun h0_ => absurd ((up_self b 7).symm.trans h0_) (by decide), fun h0_ => absurd ((up_self b 7).symm.trans h0_) (by decide), fun h0_ => absurd ((up_self b 7).symm.trans h0_) (by decide), fun h0_ => absurd ((up_self b 7).symm.trans h0_) (by decide), fun _ h1_ => absurd ((up_self b 7).symm.trans h1_) (by decide), fun h0_ h1_ => ⟨ha1_, ha2_, HK.out.trans ha3_⟩, fun _ h1_ => absurd ((hoff 10 (by kernel_rfl)).symm.trans h1_) (by decide), Q_X6_, fun _ => rfl⟩
      refine steps_cons ?_ ?_
      · rintro b a w' ⟨b6, g7, n7, m6_, m7_, ha, Q_HD, Q_HK, Q_HC, Q_HS, Q_HP, Q_HA, Q_HF, Q_X6_, Q_X7_⟩ hb_ hon hoff
        refine ⟨_, rfl, fun K hK => ?_⟩
        have e44 : a.tmps[44]? = some (.pointer (some ⟨d, 0, none⟩)) := by rw [ha]; exact (putSel_off rfl).trans rfl
        replace ha := Aside0.mk ha
        have HA := Aside0.mk (Q_HA (hon 7 (by kernel_rfl)) (hoff 10 (by kernel_rfl)))
        refine value_ (w1 := w') (v := .pointer (some ⟨d, 0, none⟩)) (by rfl) rfl ?_ ?_
        · go_simp
          (try simp only [i64_w])
          try rfl
        refine hK.out _ _ ⟨b6, g7, n7, m6_, m7_, (by rw [ha.out]; exact putSel_upk 4 hb_ rfl rfl rfl), fun h0_ => absurd ((hon 7 (by kernel_rfl)).symm.trans h0_) (by decide), fun h0_ => absurd ((hon 7 (by kernel_rfl)).symm.trans h0_) (by decide), fun h0_ => absurd ((hon 7 (by kernel_rfl)).symm.trans h0_) (by decide), fun h0_ => absurd ((hon 7 (by kernel_rfl)).symm.trans h0_) (by decide), fun _ h1_ => absurd ((hon 7 (by kernel_rfl)).symm.trans h1_) (by decide), Q_HA, fun _ h1_ => absurd ((hoff 10 (by kernel_rfl)).symm.trans h1_) (by decide), Q_X6_, Q_X7_⟩
      refine steps_cons ?_ ?_
      · rintro b a w' ⟨b6, g7, n7, m6_, m7_, ha, Q_HD, Q_HK, Q_HC, Q_HS, Q_HP, Q_HA, Q_HF, Q_X6_, Q_X7_⟩ hb_ hon hoff
        refine ⟨_, rfl, fun K hK => ?_⟩
        have e52 : a.tmps[52]? = some (.pointer (some ⟨d, 0, none⟩)) := by rw [ha]; exact putSel_on (e := (8, 52, .pointer (some ⟨d, 0, none⟩))) 4 rfl rfl (hon 8 (by kernel_rfl)) rfl
        replace ha := Aside0.mk ha
        have HA := Aside0.mk (Q_HA (hon 7 (by kernel_rfl)) (hoff 10 (by kernel_rfl)))
        refine value_ (w1 := w') (v := .pointer (some ⟨d, 4, none⟩)) (by rfl) rfl ?_ ?_
        · go_simp
          (try simp only [i64_w])
          try rfl
        refine hK.out _ _ ⟨b6, g7, n7, m6_, m7_, (by rw [ha.out]; exact putSel_upk 5 hb_ rfl rfl rfl), fun h0_ => absurd ((hon 7 (by kernel_rfl)).symm.trans h0_) (by decide), fun h0_ => absurd ((hon 7 (by kernel_rfl)).symm.trans h0_) (by decide), fun h0_ => absurd ((hon 7 (by kernel_rfl)).symm.trans h0_) (by decide), fun h0_ => absurd ((hon 7 (by kernel_rfl)).symm.trans h0_) (by decide), fun _ h1_ => absurd ((hon 7 (by kernel_rfl)).symm.trans h1_) (by decide), Q_HA, fun _ h1_ => absurd ((hoff 10 (by kernel_rfl)).symm.trans h1_) (by decide), Q_X6_, Q_X7_⟩
      refine steps_cons ?_ ?_
      · rintro b a w' ⟨b6, g7, n7, m6_, m7_, ha, Q_HD, Q_HK, Q_HC, Q_HS, Q_HP, Q_HA, Q_HF, Q_X6_, Q_X7_⟩ hb_ hon hoff
        refine ⟨_, rfl, fun K hK => ?_⟩
        have e53 : a.tmps[53]? = some (.pointer (some ⟨d, 4, none⟩)) := by rw [ha]; exact putSel_on (e := (9, 53, .pointer (some ⟨d, 4, none⟩))) 5 rfl rfl (hon 9 (by kernel_rfl)) rfl
        have e51 : a.tmps[51]? = some (m7_) := by rw [ha]; exact putSel_on (e := (7, 51, m7_)) 3 rfl rfl (hon 7 (by kernel_rfl)) rfl
        rw [Q_X7_ (hon 7 (by kernel_rfl))] at e51
        replace ha := Aside0.mk ha
        have HA := Aside0.mk (Q_HA (hon 7 (by kernel_rfl)) hb_)
        have hx_ := (blk_cell HA.out.1 4).trans rfl
        have hf_ := blk_frozen HA.out.1 4
        refine skip_ (w1 := w'.setCell ⟨d, 4, none⟩ (.slice (some ⟨g7, 0, none⟩) (D.queue ++ [c]).length n7)) (by rfl) rfl ?_ ?_
        · go_simp
          try rfl
        refine hK.out _ _ ⟨b6, g7, n7, m6_, m7_, (by rw [ha.out]; exact putSel_none (v := undef) rfl), fun h0_ => absurd ((hon 7 (by kernel_rfl)).symm.trans h0_) (by decide), fun h0_ => absurd ((hon 7 (by kernel_rfl)).symm.trans h0_) (by decide), fun h0_ => absurd ((hon 7 (by kernel_rfl)).symm.trans h0_) (by decide), fun h0_ => absurd ((hon 7 (by kernel_rfl)).symm.trans h0_) (by decide), fun _ h1_ => absurd ((hon 7 (by kernel_rfl)).symm.trans h1_) (by decide), fun _ h1_ => absurd ((up_self b 10).symm.trans h1_) (by decide), fun h0_ h1_ => HA.out.2, Q_X6_, Q_X7_⟩
      exact steps_nil
    rintro b a w1 hall ⟨b6, g7, n7, m6_, m7_, ha, Q_HD, Q_HK, Q_HC, Q_HS, Q_HP, Q_HA, Q_HF, Q_X6_, Q_X7_⟩
    clear HC HD HK HS
    have hb4_ := hall 4 (by kernel_rfl)
    have hb5_ := hall 5 (by kernel_rfl)
    have hb6_ := hall 6 (by kernel_rfl)
    have hb7_ := hall 7 (by kernel_rfl)
    have hb8_ := hall 8 (by kernel_rfl)
    have hb9_ := hall 9 (by kernel_rfl)
    have hb10_ := hall 10 (by kernel_rfl)
    subst ha
    obtain rfl := Q_X6_ hb6_
    obtain rfl := Q_X7_ hb7_
    simp only [putSel, hb4_, hb5_, hb6_, hb7_, hb8_, hb9_, hb10_, if_true, Act.put, List.setIfInBounds_toArray, List.set_cons_zero, List.set_cons_succ]
    clear Q_HD
    clear Q_HK
    clear Q_HC
    clear Q_HS
    clear Q_HP
    clear Q_HA
    have HF := Aside0.mk (Q_HF hb7_ hb10_)
    clear Q_HF
    clear hall hb4_ hb5_ hb6_ hb7_ hb8_ hb9_ hb10_
    go_wp2
    go_ret
    first | exact ⟨_, rfl, HF.out⟩ | exact ⟨rfl, _, HF.out⟩
set_option maxHeartbeats 16000000 in
set_option maxRecDepth 100000 in
theorem nSubmit4 (P : DevP) (D : Dev) (s t : Int) (dt : ByteArray) (w : World) (B : Nat) (hB : B ≤ w.heap.size) (h : DevAt B w P D) (hl : D.queue.length < 1000000000) :
    Calls Tryd.prog 12 #[.pointer (some ⟨P.d, 0, none⟩), .agg #[.int .i64 4, .int .i64 s, .string dt, .int .i64 t]] w fun r w' => ∃ P', r = .returned (errW (D.submit ⟨4, s, dt, t⟩).2) ∧ DevAt B w' P' (D.submit ⟨4, s, dt, t⟩).1 ∧ DKeep P P' w w' := by
  have e : D.submit ⟨4, s, dt, t⟩ = match D.ready 0 with | some e => (D, some e) | none => D.enq ⟨4, 0, (⟨#[]⟩ : ByteArray), t⟩ := by
    unfold Dev.submit NC.trim
    dsimp only
    simp only [Int.reduceEq, if_true, if_false, true_or, or_true, or_self, or_false]
    rfl
  rw [e]
  clear e
  have HL := Aside0.mk hl
  have HR := Aside0.mk (fun W hW => nReadyF B P D 0 W hW)
  have HD := Aside0.mk h
  have HS := Aside0.mk hB
  clear hl h hB
  rcases hr : D.ready 0 with _ | e
  case some =>
    rw [hr] at HR
    dsimp only
    clear hr
    go_enter Tryd.func12, Tryd.ntmps12
    go_wp2_with (first | (go_at_call 37; (with_reducible refine (HR.out _ (HD.out.below (by repeat (first | exact Below.refl _ _ | (refine Below.setCell ?_ (by simp) _) | apply below_alloc | apply pw_below_drewN | exact below_drew1 ?_)))).mono ?_); rintro e w5 ⟨rfl, rfl⟩; simp only [errW_none, errW_some]) | fail)
    go_ret
    exact ⟨P, rfl, dev_same HD.out (by repeat (first | exact Below.refl _ _ | (refine Below.setCell ?_ (by simp) _) | apply below_alloc | apply pw_below_drewN | exact below_drew1 ?_))⟩
  rw [hr] at HR
  dsimp only
  clear hr
  have p3 : ∃ q, decide (D.depth ≤ (D.queue.length : Int)) = q := ⟨_, rfl⟩
  obtain ⟨q, p3⟩ := p3
  obtain ⟨d, mb, cv, qv, kv⟩ := P
  obtain ⟨cA, cc, rfl⟩ : ∃ A c, cv = _ := own_form HD.out.2.2.2.2.2.1
  obtain ⟨qA, qc, rfl⟩ : ∃ A c, qv = _ := own_form HD.out.2.2.2.2.2.2.1
  obtain ⟨kA, kc, rfl⟩ : ∃ A c, kv = _ := own_form HD.out.2.2.2.2.2.2.2.1
  dsimp only at HR ⊢
  have HK := Aside0.mk (show Below w.heap.size w (w.alloc (.cells #[.int .i64 4, .int .i64 0, .string (⟨#[]⟩ : ByteArray), .int .i64 t] 38)) from (by repeat (first | exact Below.refl _ _ | (refine Below.setCell ?_ (by simp) _) | apply below_alloc | apply pw_below_drewN | exact below_drew1 ?_)))
  obtain ⟨c, hc⟩ : ∃ c, c = NC.mk 4 0 (⟨#[]⟩ : ByteArray) t := ⟨_, rfl⟩
  have HC := Aside0.mk (show (w.alloc (.cells #[.int .i64 4, .int .i64 0, .string (⟨#[]⟩ : ByteArray), .int .i64 t] 38)).heap[w.heap.size]? = some (.cells #[.int .i64 c.kind, .int .i64 c.sector, .string c.data, .int .i64 c.tag] 38 (0, 0)) from (by rw [hc]; exact (heap_alloc_new w _)))
  rw [← hc]
  clear hc
  go_enter Tryd.func12, Tryd.ntmps12
  go_upto_region 15 with (first | (go_at_call 37; (with_reducible refine (HR.out _ (HD.out.below (by repeat (first | exact Below.refl _ _ | (refine Below.setCell ?_ (by simp) _) | apply below_alloc | apply pw_below_drewN | exact below_drew1 ?_)))).mono ?_); rintro e w5 ⟨rfl, rfl⟩; simp only [errW_none, errW_some]) | fail)
  have HD1 := Aside0.mk (HD.out.below HK.out)
  have HS1 := Aside0.mk (Nat.le_trans HS.out (Below.size HK.out))
  have HK1 := Aside0.mk (dkeep_of HK.out ⟨d, mb, .slice cA D.cache.length cc, .slice qA D.queue.length qc, .slice kA D.keep.length kc⟩)
  clear HS HR HD HK
  generalize w.alloc (.cells #[.int .i64 4, .int .i64 0, .string (⟨#[]⟩ : ByteArray), .int .i64 t] 38) = w1 at HC HD1 HS1 HK1 ⊢
  generalize w.heap.size = bx at HC ⊢
  have HD := HD1; have HS := HS1; have HK := HK1
  clear HD1 HS1 HK1
  have c4 := (blk_cell HD.out.2.2.2.1 4).trans rfl
  have c1 := (blk_cell HD.out.2.2.2.1 1).trans rfl
  cases q with
  | true =>
    have eq : D.enq c = (D, some 2) := if_pos (of_decide_eq_true p3)
    go_quiet (fail)
    go_wp2
    go_ret

    first | exact ⟨_, rfl, HD.out, HK.out.drewN _⟩ | exact ⟨rfl, _, HD.out, HK.out.drewN _⟩
  | false =>
    have eq : D.enq c = ({ D with queue := D.queue ++ [c] }, none) := if_neg (of_decide_eq_false p3)
    go_quiet (fail)
    go_upto_region 17 with (fail)
    clear c1 c4
    have HD2 := Aside0.mk (show DevAt B (w1.drewN nq) _ _ from HD.out)
    have HC2 := Aside0.mk (show (w1.drewN nq).heap[bx]? = _ from HC.out)
    have HS2 := Aside0.mk (show B ≤ (w1.drewN nq).heap.size from HS.out)
    have HK2 := Aside0.mk (HK.out.drewN nq)
    clear HD HC HS HK
    generalize w1.drewN nq = w2 at HC2 HD2 HS2 HK2 ⊢
    have HD := HD2; have HC := HC2; have HS := HS2; have HK := HK2
    clear HD2 HC2 HS2 HK2
    refine start_ (n := 11) (S := fun w' => True) (ds := []) #[false, false, false, false, false, false, false, false, false, false, false] (by kernel_rfl) rfl rfl trivial (fun hHeld => ?_)
    refine with_tabW nvme_Submit.tab17 nvme_Submit.bits17 (fun HT_ HW_ => ?_)
    have n0_ := Aside0.mk HD.out.drew; have n1_ := Aside0.mk HK.out.drew; have n2_ := Aside0.mk (blk_drew HC.out); have n3_ := Aside0.mk (show B ≤ w2.drew.heap.size from HS.out); clear HD HK HC HS; have HD := n0_; have HK := n1_; have HC := n2_; have HS := n3_; clear n0_ n1_ n2_ n3_; generalize w2.drew = wd at HD HK HC HS ⊢
    refine pure_ (i := 0) (N := some 44) (v := ?_) (a' := ?_) #[true, false, false, false, false, false, false, false, false, false, false] rfl rfl (any_of HT_.out (by kernel_rfl)) (fun _ _ _ h => h) (Or.inl ⟨by rfl, ?_⟩) ?_ ?_
    rotate_left
    · intro w'
      go_simp
      with_reducible rfl
    rotate_left
    · simp only [Act.put, List.setIfInBounds_toArray, List.set_cons_zero, List.set_cons_succ, i64_w, i32_w]
      rfl
    refine pure_ (i := 1) (N := some 45) (v := ?_) (a' := ?_) #[true, true, false, false, false, false, false, false, false, false, false] rfl rfl (any_of HT_.out (by kernel_rfl)) (fun _ _ _ h => h) (Or.inl ⟨by rfl, ?_⟩) ?_ ?_
    rotate_left
    · intro w'
      go_simp
      with_reducible rfl
    rotate_left
    · simp only [Act.put, List.setIfInBounds_toArray, List.set_cons_zero, List.set_cons_succ, i64_w, i32_w]
      rfl
    refine pure_ (i := 2) (N := some 46) (v := ?_) (a' := ?_) #[true, true, true, false, false, false, false, false, false, false, false] rfl rfl (any_of HT_.out (by kernel_rfl)) (fun _ _ _ h => h) (Or.inl ⟨by rfl, ?_⟩) ?_ ?_
    rotate_left
    · intro w'
      go_simp
      with_reducible rfl
    rotate_left
    · simp only [Act.put, List.setIfInBounds_toArray, List.set_cons_zero, List.set_cons_succ, i64_w, i32_w]
      rfl
    refine pure_ (i := 3) (N := some 47) (v := ?_) (a' := ?_) #[true, true, true, true, false, false, false, false, false, false, false] rfl rfl (any_of HT_.out (by kernel_rfl)) (fun _ _ _ h => h) (Or.inl ⟨by rfl, ?_⟩) ?_ ?_
    rotate_left
    · intro w'
      go_simp
      with_reducible rfl
    rotate_left
    · simp only [Act.put, List.setIfInBounds_toArray, List.set_cons_zero, List.set_cons_succ, i64_w, i32_w]
      rfl
    refine inv_at [4, 5, 6, 7, 8, 9, 10] (fun a0_ b a w' => ∃ (b6 : Nat) (g7 : Nat) (n7 : Nat) (m6_ : Value) (m7_ : Value), a = putSel a0_ b [(4, 48, .slice qA D.queue.length qc), (5, 49, .agg #[.int .i64 c.kind, .int .i64 c.sector, .string c.data, .int .i64 c.tag]), (6, 50, m6_), (7, 51, m7_), (8, 52, .pointer (some ⟨d, 0, none⟩)), (9, 53, .pointer (some ⟨d, 4, none⟩))] ∧ (b 7 = false → DevAt B w' ⟨d, mb, .slice cA D.cache.length cc, .slice qA D.queue.length qc, .slice kA D.keep.length kc⟩ D) ∧ (b 7 = false → DKeep ⟨d, mb, .slice cA D.cache.length cc, .slice qA D.queue.length qc, .slice kA D.keep.length kc⟩ ⟨d, mb, .slice cA D.cache.length cc, .slice qA D.queue.length qc, .slice kA D.keep.length kc⟩ w w') ∧ (b 7 = false → w'.heap[bx]? = some (.cells #[.int .i64 c.kind, .int .i64 c.sector, .string c.data, .int .i64 c.tag] 38 (0, 0))) ∧ (b 7 = false → B ≤ w'.heap.size) ∧ (b 6 = true → b 7 = false → w'.heap[b6]? = some (.cells #[.int .i64 c.kind, .int .i64 c.sector, .string c.data, .int .i64 c.tag] 38 (0, 0))) ∧ (b 7 = true → b 10 = false → w'.heap[d]? = some (.cells (D.cells ⟨d, mb, .slice cA D.cache.length cc, .slice qA D.queue.length qc, .slice kA D.keep.length kc⟩) 78 (0, 0)) ∧ DevAt B (w'.setCell ⟨d, 4, none⟩ (.slice (some ⟨g7, 0, none⟩) (D.queue ++ [c]).length n7)) ⟨d, mb, .slice cA D.cache.length cc, .slice (some ⟨g7, 0, none⟩) (D.queue ++ [c]).length n7, .slice kA D.keep.length kc⟩ { D with queue := D.queue ++ [c] } ∧ DKeep ⟨d, mb, .slice cA D.cache.length cc, .slice qA D.queue.length qc, .slice kA D.keep.length kc⟩ ⟨d, mb, .slice cA D.cache.length cc, .slice (some ⟨g7, 0, none⟩) (D.queue ++ [c]).length n7, .slice kA D.keep.length kc⟩ w (w'.setCell ⟨d, 4, none⟩ (.slice (some ⟨g7, 0, none⟩) (D.queue ++ [c]).length n7))) ∧ (b 7 = true → b 10 = true → DevAt B w' ⟨d, mb, .slice cA D.cache.length cc, .slice (some ⟨g7, 0, none⟩) (D.queue ++ [c]).length n7, .slice kA D.keep.length kc⟩ { D with queue := D.queue ++ [c] } ∧ DKeep ⟨d, mb, .slice cA D.cache.length cc, .slice qA D.queue.length qc, .slice kA D.keep.length kc⟩ ⟨d, mb, .slice cA D.cache.length cc, .slice (some ⟨g7, 0, none⟩) (D.queue ++ [c]).length n7, .slice kA D.keep.length kc⟩ w w') ∧ (b 6 = true → (m6_ : Value) = .slice (some ⟨b6, 0, none⟩) 1 1) ∧ (b 7 = true → (m7_ : Value) = .slice (some ⟨g7, 0, none⟩) (D.queue ++ [c]).length n7)) HT_.out HW_.out (by kernel_rfl) (by kernel_rfl) ?_ ?_ ?_
    · exact ⟨0, 0, 0, .bool false, .bool false, by simp only [putSel, Bool.false_eq_true, if_false], fun _ => HD.out, fun _ => HK.out, fun _ => HC.out, fun _ => HS.out, fun h_ => absurd h_ (by decide), fun h_ => absurd h_ (by decide), fun h_ => absurd h_ (by decide), fun h_ => absurd h_ (by decide), fun h_ => absurd h_ (by decide)⟩
    · skip
      clear HC HD HK HS
      refine steps_cons ?_ ?_
      · rintro b a w' ⟨b6, g7, n7, m6_, m7_, ha, Q_HD, Q_HK, Q_HC, Q_HS, Q_HP, Q_HA, Q_HF, Q_X6_, Q_X7_⟩ hb_ hon hoff
        refine ⟨_, rfl, fun K hK => ?_⟩
        have e47 : a.tmps[47]? = some (.pointer (some ⟨d, 4, none⟩)) := by rw [ha]; exact (putSel_off rfl).trans rfl
        replace ha := Aside0.mk ha
        have HD := Aside0.mk (Q_HD (hoff 7 (by kernel_rfl)))
        have HK := Aside0.mk (Q_HK (hoff 7 (by kernel_rfl)))
        have HC := Aside0.mk (Q_HC (hoff 7 (by kernel_rfl)))
        have HS := Aside0.mk (Q_HS (hoff 7 (by kernel_rfl)))
        have hx_ := (blk_cell HD.out.2.2.2.1 4).trans rfl
        refine value_ (w1 := w') (v := .slice qA D.queue.length qc) (by rfl) rfl ?_ ?_
        · go_simp
          (try simp only [i64_w])
          try rfl
        refine hK.out _ _ ⟨b6, g7, n7, m6_, m7_, (by rw [ha.out]; exact putSel_upk 0 hb_ rfl rfl rfl), Q_HD, Q_HK, Q_HC, Q_HS, Q_HP, fun h0_ _ => absurd ((hoff 7 (by kernel_rfl)).symm.trans h0_) (by decide), fun h0_ _ => absurd ((hoff 7 (by kernel_rfl)).symm.trans h0_) (by decide), Q_X6_, fun h0_ => absurd ((hoff 7 (by kernel_rfl)).symm.trans h0_) (by decide)⟩
      refine steps_cons ?_ ?_
      · rintro b a w' ⟨b6, g7, n7, m6_, m7_, ha, Q_HD, Q_HK, Q_HC, Q_HS, Q_HP, Q_HA, Q_HF, Q_X6_, Q_X7_⟩ hb_ hon hoff
        refine ⟨_, rfl, fun K hK => ?_⟩
        have e3 : a.tmps[3]? = some (.pointer (some ⟨bx, 0, none⟩)) := by rw [ha]; exact (putSel_off rfl).trans rfl
        replace ha := Aside0.mk ha
        have HD := Aside0.mk (Q_HD (hoff 7 (by kernel_rfl)))
        have HK := Aside0.mk (Q_HK (hoff 7 (by kernel_rfl)))
        have HC := Aside0.mk (Q_HC (hoff 7 (by kernel_rfl)))
        have HS := Aside0.mk (Q_HS (hoff 7 (by kernel_rfl)))
        have hx0 := (blk_cell HC.out 0).trans rfl
        have hx1 := (blk_cell HC.out 1).trans rfl
        have hx2 := (blk_cell HC.out 2).trans rfl
        have hx3 := (blk_cell HC.out 3).trans rfl
        refine value_ (w1 := w') (v := .agg #[.int .i64 c.kind, .int .i64 c.sector, .string c.data, .int .i64 c.tag]) (by rfl) rfl ?_ ?_
        · go_simp
          (try simp only [i64_w])
          try rfl
        refine hK.out _ _ ⟨b6, g7, n7, m6_, m7_, (by rw [ha.out]; exact putSel_upk 1 hb_ rfl rfl rfl), Q_HD, Q_HK, Q_HC, Q_HS, fun h0_ _ => absurd ((hoff 6 (by kernel_rfl)).symm.trans h0_) (by decide), fun h0_ _ => absurd ((hoff 7 (by kernel_rfl)).symm.trans h0_) (by decide), fun h0_ _ => absurd ((hoff 7 (by kernel_rfl)).symm.trans h0_) (by decide), fun h0_ => absurd ((hoff 6 (by kernel_rfl)).symm.trans h0_) (by decide), fun h0_ => absurd ((hoff 7 (by kernel_rfl)).symm.trans h0_) (by decide)⟩
      refine steps_cons ?_ ?_
      · rintro b a w' ⟨b6, g7, n7, m6_, m7_, ha, Q_HD, Q_HK, Q_HC, Q_HS, Q_HP, Q_HA, Q_HF, Q_X6_, Q_X7_⟩ hb_ hon hoff
        refine ⟨_, rfl, fun K hK => ?_⟩
        have e49 : a.tmps[49]? = some (.agg #[.int .i64 c.kind, .int .i64 c.sector, .string c.data, .int .i64 c.tag]) := by rw [ha]; exact putSel_on (e := (5, 49, .agg #[.int .i64 c.kind, .int .i64 c.sector, .string c.data, .int .i64 c.tag])) 1 rfl rfl (hon 5 (by kernel_rfl)) rfl
        replace ha := Aside0.mk ha
        have HD := Aside0.mk (Q_HD (hoff 7 (by kernel_rfl)))
        have HK := Aside0.mk (Q_HK (hoff 7 (by kernel_rfl)))
        have HC := Aside0.mk (Q_HC (hoff 7 (by kernel_rfl)))
        have HS := Aside0.mk (Q_HS (hoff 7 (by kernel_rfl)))
        refine value_ (w1 := w'.alloc (.cells #[.int .i64 c.kind, .int .i64 c.sector, .string c.data, .int .i64 c.tag] 38)) (v := .slice (some ⟨w'.heap.size, 0, none⟩) 1 1) (by rfl) rfl ?_ ?_
        · go_simp
        refine hK.out _ _ ⟨w'.heap.size, g7, n7, (.slice (some ⟨w'.heap.size, 0, none⟩) 1 1), m7_, (by rw [ha.out]; exact putSel_upk 2 hb_ rfl rfl rfl), fun _ => (fun hd_ hb_ => DevAt.below hd_ hb_) (HD.out) ((below_alloc (Below.refl _ _) (.cells #[.int .i64 c.kind, .int .i64 c.sector, .string c.data, .int .i64 c.tag] 38))), fun _ => (fun hd_ hb_ => DKeep.trans hd_ (dkeep_of hb_ _)) (HK.out) ((below_alloc (Below.refl _ _) (.cells #[.int .i64 c.kind, .int .i64 c.sector, .string c.data, .int .i64 c.tag] 38))), fun _ => blk_below HC.out (below_alloc (Below.refl _ _) (.cells #[.int .i64 c.kind, .int .i64 c.sector, .string c.data, .int .i64 c.tag] 38)), fun _ => Nat.le_trans HS.out (Below.size (below_alloc (Below.refl _ _) (.cells #[.int .i64 c.kind, .int .i64 c.sector, .string c.data, .int .i64 c.tag] 38))), fun h0_ h1_ => heap_alloc_new w' (.cells #[.int .i64 c.kind, .int .i64 c.sector, .string c.data, .int .i64 c.tag] 38), fun h0_ _ => absurd ((hoff 7 (by kernel_rfl)).symm.trans h0_) (by decide), fun h0_ _ => absurd ((hoff 7 (by kernel_rfl)).symm.trans h0_) (by decide), fun _ => rfl, fun h0_ => absurd ((hoff 7 (by kernel_rfl)).symm.trans h0_) (by decide)⟩
      refine steps_cons ?_ ?_
      · rintro b a w' ⟨b6, g7, n7, m6_, m7_, ha, Q_HD, Q_HK, Q_HC, Q_HS, Q_HP, Q_HA, Q_HF, Q_X6_, Q_X7_⟩ hb_ hon hoff
        refine ⟨_, rfl, fun K hK => ?_⟩
        have e48 : a.tmps[48]? = some (.slice qA D.queue.length qc) := by rw [ha]; exact putSel_on (e := (4, 48, .slice qA D.queue.length qc)) 0 rfl rfl (hon 4 (by kernel_rfl)) rfl
        have e50 : a.tmps[50]? = some (m6_) := by rw [ha]; exact putSel_on (e := (6, 50, m6_)) 2 rfl rfl (hon 6 (by kernel_rfl)) rfl
        rw [Q_X6_ (hon 6 (by kernel_rfl))] at e50
        replace ha := Aside0.mk ha
        have HD := Aside0.mk (Q_HD hb_)
        have HK := Aside0.mk (Q_HK hb_)
        have HC := Aside0.mk (Q_HC hb_)
        have HS := Aside0.mk (Q_HS hb_)
        have HP := Aside0.mk (Q_HP (hon 6 (by kernel_rfl)) hb_)
        obtain ⟨g_, n_, wA, hr_, ha1_, ha2_, ha3_⟩ := dev_appq HD.out HS.out HL.out HP.out 1
        refine value_ (w1 := wA) (v := .slice (some ⟨g_, 0, none⟩) (D.queue ++ [c]).length n_) (by rfl) rfl ?_ ?_
        · have hr2_ := hr_
          dsimp only at hr2_
          simp [execOp, resolve, invoke, builtin, Act.eval, hr2_, *]
        refine hK.out _ _ ⟨b6, g_, n_, m6_, (.slice (some ⟨g_, 0, none⟩) (D.queue ++ [c]).length n_), (by rw [ha.out]; exact putSel_upk 3 hb_ rfl rfl rfl), fun h0_ => absurd ((up_self b 7).symm.trans h0_) (by decide), fun h0_ => absurd ((up_self b 7).symm.trans h0_) (by decide), fun h0_ => absurd ((up_self b 7).symm.trans h0_) (by decide), fun h0_ => absurd ((up_self b 7).symm.trans h0_) (by decide), fun _ h1_ => absurd ((up_self b 7).symm.trans h1_) (by decide), fun h0_ h1_ => ⟨ha1_, ha2_, HK.out.trans ha3_⟩, fun _ h1_ => absurd ((hoff 10 (by kernel_rfl)).symm.trans h1_) (by decide), Q_X6_, fun _ => rfl⟩
      refine steps_cons ?_ ?_
      · rintro b a w' ⟨b6, g7, n7, m6_, m7_, ha, Q_HD, Q_HK, Q_HC, Q_HS, Q_HP, Q_HA, Q_HF, Q_X6_, Q_X7_⟩ hb_ hon hoff
        refine ⟨_, rfl, fun K hK => ?_⟩
        have e44 : a.tmps[44]? = some (.pointer (some ⟨d, 0, none⟩)) := by rw [ha]; exact (putSel_off rfl).trans rfl
        replace ha := Aside0.mk ha
        have HA := Aside0.mk (Q_HA (hon 7 (by kernel_rfl)) (hoff 10 (by kernel_rfl)))
        refine value_ (w1 := w') (v := .pointer (some ⟨d, 0, none⟩)) (by rfl) rfl ?_ ?_
        · go_simp
          (try simp only [i64_w])
          try rfl
        refine hK.out _ _ ⟨b6, g7, n7, m6_, m7_, (by rw [ha.out]; exact putSel_upk 4 hb_ rfl rfl rfl), fun h0_ => absurd ((hon 7 (by kernel_rfl)).symm.trans h0_) (by decide), fun h0_ => absurd ((hon 7 (by kernel_rfl)).symm.trans h0_) (by decide), fun h0_ => absurd ((hon 7 (by kernel_rfl)).symm.trans h0_) (by decide), fun h0_ => absurd ((hon 7 (by kernel_rfl)).symm.trans h0_) (by decide), fun _ h1_ => absurd ((hon 7 (by kernel_rfl)).symm.trans h1_) (by decide), Q_HA, fun _ h1_ => absurd ((hoff 10 (by kernel_rfl)).symm.trans h1_) (by decide), Q_X6_, Q_X7_⟩
      refine steps_cons ?_ ?_
      · rintro b a w' ⟨b6, g7, n7, m6_, m7_, ha, Q_HD, Q_HK, Q_HC, Q_HS, Q_HP, Q_HA, Q_HF, Q_X6_, Q_X7_⟩ hb_ hon hoff
        refine ⟨_, rfl, fun K hK => ?_⟩
        have e52 : a.tmps[52]? = some (.pointer (some ⟨d, 0, none⟩)) := by rw [ha]; exact putSel_on (e := (8, 52, .pointer (some ⟨d, 0, none⟩))) 4 rfl rfl (hon 8 (by kernel_rfl)) rfl
        replace ha := Aside0.mk ha
        have HA := Aside0.mk (Q_HA (hon 7 (by kernel_rfl)) (hoff 10 (by kernel_rfl)))
        refine value_ (w1 := w') (v := .pointer (some ⟨d, 4, none⟩)) (by rfl) rfl ?_ ?_
        · go_simp
          (try simp only [i64_w])
          try rfl
        refine hK.out _ _ ⟨b6, g7, n7, m6_, m7_, (by rw [ha.out]; exact putSel_upk 5 hb_ rfl rfl rfl), fun h0_ => absurd ((hon 7 (by kernel_rfl)).symm.trans h0_) (by decide), fun h0_ => absurd ((hon 7 (by kernel_rfl)).symm.trans h0_) (by decide), fun h0_ => absurd ((hon 7 (by kernel_rfl)).symm.trans h0_) (by decide), fun h0_ => absurd ((hon 7 (by kernel_rfl)).symm.trans h0_) (by decide), fun _ h1_ => absurd ((hon 7 (by kernel_rfl)).symm.trans h1_) (by decide), Q_HA, fun _ h1_ => absurd ((hoff 10 (by kernel_rfl)).symm.trans h1_) (by decide), Q_X6_, Q_X7_⟩
      refine steps_cons ?_ ?_
      · rintro b a w' ⟨b6, g7, n7, m6_, m7_, ha, Q_HD, Q_HK, Q_HC, Q_HS, Q_HP, Q_HA, Q_HF, Q_X6_, Q_X7_⟩ hb_ hon hoff
        refine ⟨_, rfl, fun K hK => ?_⟩
        have e53 : a.tmps[53]? = some (.pointer (some ⟨d, 4, none⟩)) := by rw [ha]; exact putSel_on (e := (9, 53, .pointer (some ⟨d, 4, none⟩))) 5 rfl rfl (hon 9 (by kernel_rfl)) rfl
        have e51 : a.tmps[51]? = some (m7_) := by rw [ha]; exact putSel_on (e := (7, 51, m7_)) 3 rfl rfl (hon 7 (by kernel_rfl)) rfl
        rw [Q_X7_ (hon 7 (by kernel_rfl))] at e51
        replace ha := Aside0.mk ha
        have HA := Aside0.mk (Q_HA (hon 7 (by kernel_rfl)) hb_)
        have hx_ := (blk_cell HA.out.1 4).trans rfl
        have hf_ := blk_frozen HA.out.1 4
        refine skip_ (w1 := w'.setCell ⟨d, 4, none⟩ (.slice (some ⟨g7, 0, none⟩) (D.queue ++ [c]).length n7)) (by rfl) rfl ?_ ?_
        · go_simp
          try rfl
        refine hK.out _ _ ⟨b6, g7, n7, m6_, m7_, (by rw [ha.out]; exact putSel_none (v := undef) rfl), fun h0_ => absurd ((hon 7 (by kernel_rfl)).symm.trans h0_) (by decide), fun h0_ => absurd ((hon 7 (by kernel_rfl)).symm.trans h0_) (by decide), fun h0_ => absurd ((hon 7 (by kernel_rfl)).symm.trans h0_) (by decide), fun h0_ => absurd ((hon 7 (by kernel_rfl)).symm.trans h0_) (by decide), fun _ h1_ => absurd ((hon 7 (by kernel_rfl)).symm.trans h1_) (by decide), fun _ h1_ => absurd ((up_self b 10).symm.trans h1_) (by decide), fun h0_ h1_ => HA.out.2, Q_X6_, Q_X7_⟩
      exact steps_nil
    rintro b a w1 hall ⟨b6, g7, n7, m6_, m7_, ha, Q_HD, Q_HK, Q_HC, Q_HS, Q_HP, Q_HA, Q_HF, Q_X6_, Q_X7_⟩
    clear HC HD HK HS
    have hb4_ := hall 4 (by kernel_rfl)
    have hb5_ := hall 5 (by kernel_rfl)
    have hb6_ := hall 6 (by kernel_rfl)
    have hb7_ := hall 7 (by kernel_rfl)
    have hb8_ := hall 8 (by kernel_rfl)
    have hb9_ := hall 9 (by kernel_rfl)
    have hb10_ := hall 10 (by kernel_rfl)
    subst ha
    obtain rfl := Q_X6_ hb6_
    obtain rfl := Q_X7_ hb7_
    simp only [putSel, hb4_, hb5_, hb6_, hb7_, hb8_, hb9_, hb10_, if_true, Act.put, List.setIfInBounds_toArray, List.set_cons_zero, List.set_cons_succ]
    clear Q_HD
    clear Q_HK
    clear Q_HC
    clear Q_HS
    clear Q_HP
    clear Q_HA
    have HF := Aside0.mk (Q_HF hb7_ hb10_)
    clear Q_HF
    clear hall hb4_ hb5_ hb6_ hb7_ hb8_ hb9_ hb10_
    go_wp2
    go_ret
    first | exact ⟨_, rfl, HF.out⟩ | exact ⟨rfl, _, HF.out⟩
set_option maxRecDepth 100000 in
set_option maxHeartbeats 16000000 in
theorem nSubmit0 (P : DevP) (D : Dev) (k s t : Int) (dt : ByteArray) (hk : k < 1 ∨ 4 < k) (w : World) (B : Nat) (h : DevAt B w P D) :
    Calls Tryd.prog 12 #[.pointer (some ⟨P.d, 0, none⟩), .agg #[.int .i64 k, .int .i64 s, .string dt, .int .i64 t]] w fun r w' => ∃ P', r = .returned (errW (D.submit ⟨k, s, dt, t⟩).2) ∧ DevAt B w' P' (D.submit ⟨k, s, dt, t⟩).1 ∧ DKeep P P' w w' := by
  have k1 : (k == 1) = false := beq_eq_false_iff_ne.2 (by omega)
  have k2 : (k == 2) = false := beq_eq_false_iff_ne.2 (by omega)
  have k3 : (k == 3) = false := beq_eq_false_iff_ne.2 (by omega)
  have k4 : (k == 4) = false := beq_eq_false_iff_ne.2 (by omega)
  have e : D.submit ⟨k, s, dt, t⟩ = match D.ready s with | some e => (D, some e) | none => (D, some 1) := by
    unfold Dev.submit NC.trim
    dsimp only
    rw [if_neg (show ¬ k = 4 by omega), if_neg (show ¬ (k = 2 ∨ k = 3) by omega), if_neg (show ¬ (k = 1 ∨ k = 4) by omega)]
    rfl
  rw [e]
  clear e
  have HR := Aside0.mk (fun W hW => nReadyF B P D s W hW)
  have HD := Aside0.mk h
  clear h hk
  rcases hr : D.ready s with _ | e <;> (rw [hr] at HR; dsimp only; clear hr)
  all_goals
    go_enter Tryd.func12, Tryd.ntmps12
    go_wp2_with (first | (go_at_call 37; (with_reducible refine (HR.out _ (HD.out.below (by repeat (first | exact Below.refl _ _ | (refine Below.setCell ?_ (by simp) _) | apply below_alloc | apply pw_below_drewN | exact below_drew1 ?_)))).mono ?_); rintro e w5 ⟨rfl, rfl⟩; simp only [errW_none, errW_some]) | fail)
    go_ret
    exact ⟨P, rfl, dev_same HD.out (by repeat (first | exact Below.refl _ _ | (refine Below.setCell ?_ (by simp) _) | apply below_alloc | apply pw_below_drewN | exact below_drew1 ?_))⟩
set_option maxRecDepth 100000 in
/-- Any command submitted. -/
theorem nSubmit (P : DevP) (D : Dev) (c : NC) (w : World) (B : Nat) (hB : B ≤ w.heap.size) (h : DevAt B w P D) (hl : D.queue.length < 1000000000) :
    Calls Tryd.prog 12 #[.pointer (some ⟨P.d, 0, none⟩), .agg #[.int .i64 c.kind, .int .i64 c.sector, .string c.data, .int .i64 c.tag]] w fun r w' => ∃ P', r = .returned (errW (D.submit c).2) ∧ DevAt B w' P' (D.submit c).1 ∧ DKeep P P' w w' := by
  obtain ⟨k, s, dt, t⟩ := c
  dsimp only
  by_cases hk : k < 1 ∨ 4 < k
  · exact nSubmit0 P D k s t dt hk w B h
  · obtain rfl | rfl | rfl | rfl : k = 1 ∨ k = 2 ∨ k = 3 ∨ k = 4 := by omega
    · exact nSubmit1 P D s t dt w B hB h hl
    · exact nSubmit2 P D s t dt w B hB h hl
    · exact nSubmit3 P D s t dt w B hB h hl
    · exact nSubmit4 P D s t dt w B hB h hl
set_option maxHeartbeats 4000000 in
set_option maxRecDepth 100000 in
theorem nSubmitNil (k s t : Int) (dt : ByteArray) (hk : (k == 4) = false) (w : World) : Calls Tryd.prog 12 #[.pointer none, .agg #[.int .i64 k, .int .i64 s, .string dt, .int .i64 t]] w fun r w' => r = .returned (.iface 75 (.int .i64 1)) ∧ Below w.heap.size w w' := by
  go_enter Tryd.func12, Tryd.ntmps12
  go_wp2_with (go_at_call 37; (with_reducible refine (nReadyNil _ _).mono ?_); rintro e w5 ⟨rfl, rfl⟩)
  go_ret
  exact ⟨rfl, below_alloc (Below.refl _ _) _⟩


end Go.Proofs.YtofiedgnnpednaaDoor.VNvmeRefuses
