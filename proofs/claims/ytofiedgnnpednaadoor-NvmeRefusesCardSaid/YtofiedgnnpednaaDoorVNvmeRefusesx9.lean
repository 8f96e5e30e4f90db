/- Contracts of functions of this seat: each call comes to what its Lean function computes; no condition beyond what each theorem states. Printed by a program of this session's own laid over the kit's printer. -/
import Derived.Test.YtofiedgnnpednaaDoorVNvmeRefusesx0
import Derived.Test.YtofiedgnnpednaaDoorVNvmeRefusesx1
import Derived.Test.YtofiedgnnpednaaDoorVNvmeRefusesx2
import Derived.Test.YtofiedgnnpednaaDoorVNvmeRefusesx3
import Derived.Test.YtofiedgnnpednaaDoorVNvmeRefusesx8
namespace Go.Proofs.YtofiedgnnpednaaDoor.VNvmeRefuses
open Go.RowKit Go.Proofs.YtofiedgnnpednaaDoorW.PrintWords Go.Proofs.YtofiedgnnpednaaDoorW.PrintLast Go.Proofs.YtofiedgnnpednaaDoorW.PrintMore
attribute [local go_sem] max2_int min2_int max_two min_two max_three min_three max_four min_four   -- for this text's walks alone
set_option linter.unusedVariables false
set_option linter.unusedSimpArgs false

-- @GIVEN nvme_persist
/-! ### nvme_persist: by hand -/
theorem persist_succ (D : Dev) (l : List NC) (k : Nat) (c : NC) (hc : l[k]? = some c) : D.persist (l.take (k + 1)) = { D.persist (l.take k) with last := putM c.sector c (D.persist (l.take k)).last } := by
  unfold Dev.persist putsM
  rw [List.take_add_one, hc]
  simp [List.foldl_append]
def nvme_persist.T3 : Bool × List (List Nat × List Nat) := (true, [([], []), ([0], [0]), ([1], [1]), ([2], [2]), ([], []), ([4], [4]), ([], []), ([3, 5, 6, 0, 1, 2, 3, 4, 5, 6], [3, 5, 6])])
def nvme_persist.B3 : List Nat := [0, 1, 3, 7, 0, 16, 0, 127]
theorem nvme_persist.tab3 : rtab .any (opsOf Tryd.f43 3) = nvme_persist.T3 := by kernel_rfl
theorem nvme_persist.bits3 : waitsOk nvme_persist.T3.2 nvme_persist.B3 = true := by kernel_rfl
set_option maxHeartbeats 16000000 in
set_option maxRecDepth 100000 in
/-- Some commands come to last, in order. -/
theorem nPersist (P : DevP) (D : Dev) (l : List NC) (v : Value) (W0 : World) (B : Nat) (h : DevAt B W0 P D) (hr : W0.ownsRow 0 38 4 v l.length (flatN l)) (hl : l.length < 1000000000) :
    Calls Tryd.prog 43 #[.pointer (some ⟨P.d, 0, none⟩), v] W0 fun r w' => r = .returned (.tuple #[]) ∧ DevAt B w' P (D.persist l) ∧ W0.grownBy w' (some P.mb) := by
  have HNM := Aside0.mk (show ∀ g, v.ownBlock = some g → g ≠ P.mb from fun g hg e => by
    obtain ⟨cur, hcur⟩ := own_kind hr hg
    obtain ⟨es, cl, h5, _⟩ := h.2.2.2.2.1
    rw [e, h5] at hcur
    cases hcur)
  obtain ⟨d, mb, cv, qv, kv⟩ := P
  obtain ⟨A, cap, rfl⟩ := own_form hr
  have HD := Aside0.mk h
  have HR := Aside0.mk hr
  dsimp only at HNM ⊢
  clear h hr
  go_enter Tryd.func43, Tryd.ntmps43
  go_wp2
  go_loopw [8] (fun i wr => ∃ k : Nat, k ≤ l.length ∧ i = .int .i64 k ∧ DevAt B wr ⟨d, mb, cv, qv, kv⟩ (D.persist (l.take k)) ∧ W0.grownBy wr (some mb)) (fun i _ => l.length - (intOf i).toNat)
  case atStart => exact ⟨0, Nat.zero_le _, rfl, HD.out, World.grownBy.refl _ _⟩
  case round =>
    obtain ⟨k, hk, rfl, hd, hg⟩ := hrel
    by_cases hlt : k < l.length
    · have hrow : wr.ownsRow 0 38 4 (.slice A l.length cap) l.length (flatN l) := own_same HR.out fun g hv => hg.block g (HR.out.lt g hv).2 (fun e => HNM.out g hv (Option.some.inj e))
      obtain ⟨g, c', cur, e, _⟩ := row4_open hrow (by omega)
      cases e
      obtain ⟨c, hc⟩ : ∃ c, l[k]? = some c := ⟨l[k], by simp [hlt]⟩
      obtain ⟨x0, x1, x2, x3⟩ := row4_cell hrow _ _ hc
      have hs := persist_succ D l k c hc
      have hp1 : decide ((k : Int) < (l.length : Int)) = true := decide_eq_true (by omega)
      have hw2 : wrap64 ((k : Int) + 1) = ((k + 1 : Nat) : Int) := by unfold wrap64; omega
      have HD1 := Aside0.mk (hd.alloc (.cells #[.int .i64 c.kind, .int .i64 c.sector, .string c.data, .int .i64 c.tag] 38))
      have HG1 := Aside0.mk (gr_transc hg (gr_belowc (below_alloc (Below.refl _ wr) (.cells #[.int .i64 c.kind, .int .i64 c.sector, .string c.data, .int .i64 c.tag] 38))))
      have HC := Aside0.mk (heap_alloc_new wr (.cells #[.int .i64 c.kind, .int .i64 c.sector, .string c.data, .int .i64 c.tag] 38))
      clear hd hc hrow HR HNM
      go_upto_region 3 with (fail)
      generalize wr.alloc (.cells #[.int .i64 c.kind, .int .i64 c.sector, .string c.data, .int .i64 c.tag] 38) = w2 at HD1 HG1 HC ⊢
      generalize wr.heap.size = bx at HC ⊢
      have HD := HD1; have HG := HG1
      clear HD1 HG1
      refine start_ (n := 8) (S := fun w' => True) (ds := []) #[false, false, false, false, false, false, false, false] (by kernel_rfl) rfl rfl trivial (fun hHeld => ?_)
      refine with_tabW nvme_persist.tab3 nvme_persist.bits3 (fun HT_ HW_ => ?_)
      have n0_ := Aside0.mk HD.out.drew; have n1_ := Aside0.mk (gr_drewc HG.out); have n2_ := Aside0.mk (blk_drew HC.out); clear HD HG HC; have HD := n0_; have HG := n1_; have HC := n2_; clear n0_ n1_ n2_; generalize w2.drew = wd at HD HG HC ⊢
      refine pure_ (i := 0) (N := some 12) (v := ?_) (a' := ?_) #[true, false, false, false, false, false, false, false] rfl rfl (any_of HT_.out (by kernel_rfl)) (fun _ _ _ h => h) (Or.inl ⟨by rfl, ?_⟩) ?_ ?_
      rotate_left
      · intro w'
        go_simp
        with_reducible rfl
      rotate_left
      · simp only [Act.put, List.setIfInBounds_toArray, List.set_cons_zero, List.set_cons_succ, i64_w, i32_w]
        rfl
      refine pure_ (i := 1) (N := some 13) (v := ?_) (a' := ?_) #[true, true, false, false, false, false, false, false] rfl rfl (any_of HT_.out (by kernel_rfl)) (fun _ _ _ h => h) (Or.inl ⟨by rfl, ?_⟩) ?_ ?_
      rotate_left
      · intro w'
        go_simp
        with_reducible rfl
      rotate_left
      · simp only [Act.put, List.setIfInBounds_toArray, List.set_cons_zero, List.set_cons_succ, i64_w, i32_w]
        rfl
      refine pure_ (i := 2) (N := some 14) (v := ?_) (a' := ?_) #[true, true, true, false, false, false, false, false] rfl rfl (any_of HT_.out (by kernel_rfl)) (fun _ _ _ h => h) (Or.inl ⟨by rfl, ?_⟩) ?_ ?_
      rotate_left
      · intro w'
        go_simp
        with_reducible rfl
      rotate_left
      · simp only [Act.put, List.setIfInBounds_toArray, List.set_cons_zero, List.set_cons_succ, i64_w, i32_w]
        rfl
      refine pure_ (i := 4) (N := some 16) (v := ?_) (a' := ?_) #[true, true, true, false, true, false, false, false] rfl rfl (any_of HT_.out (by kernel_rfl)) (fun _ _ _ h => h) (Or.inl ⟨by rfl, ?_⟩) ?_ ?_
      rotate_left
      · intro w'
        go_simp
        with_reducible rfl
      rotate_left
      · simp only [Act.put, List.setIfInBounds_toArray, List.set_cons_zero, List.set_cons_succ, i64_w, i32_w]
        rfl
      refine inv_at [3, 5, 6, 7] (fun a0_ b a w' => a = putSel a0_ b [(3, 15, .map (some mb)), (5, 17, .int .i64 c.sector), (6, 18, .agg #[.int .i64 c.kind, .int .i64 c.sector, .string c.data, .int .i64 c.tag])] ∧ (b 7 = false → DevAt B w' ⟨d, mb, cv, qv, kv⟩ (D.persist (l.take k))) ∧ (b 7 = false → W0.grownBy w' (some mb)) ∧ (b 7 = false → w'.heap[bx]? = some (.cells #[.int .i64 c.kind, .int .i64 c.sector, .string c.data, .int .i64 c.tag] 38 (0, 0))) ∧ (b 7 = true → DevAt B w' ⟨d, mb, cv, qv, kv⟩ { (D.persist (l.take k)) with last := putM c.sector c ((D.persist (l.take k))).last } ∧ W0.grownBy w' (some mb))) HT_.out HW_.out (by kernel_rfl) (by kernel_rfl) ?_ ?_ ?_
      · exact ⟨by simp only [putSel, Bool.false_eq_true, if_false], fun _ => HD.out, fun _ => HG.out, fun _ => HC.out, fun h_ => absurd h_ (by decide)⟩
      · skip
        clear HC HD HG
        refine steps_cons ?_ ?_
        · rintro b a w' ⟨ha, Q_HD, Q_HG, Q_HC, Q_HF⟩ hb_ hon hoff
          refine ⟨_, rfl, fun K hK => ?_⟩
          have e14 : a.tmps[14]? = some (.pointer (some ⟨d, 2, none⟩)) := by rw [ha]; exact (putSel_off rfl).trans rfl
          replace ha := Aside0.mk ha
          have HD := Aside0.mk (Q_HD (hoff 7 (by kernel_rfl)))
          have HG := Aside0.mk (Q_HG (hoff 7 (by kernel_rfl)))
          have HC := Aside0.mk (Q_HC (hoff 7 (by kernel_rfl)))
          have hx_ := (blk_cell HD.out.2.2.2.1 2).trans rfl
          refine value_ (w1 := w') (v := .map (some mb)) (by rfl) rfl ?_ ?_
          · go_simp
            (try simp only [i64_w])
            try rfl
          refine hK.out _ _ ⟨(by rw [ha.out]; exact putSel_upk 0 hb_ rfl rfl rfl), Q_HD, Q_HG, Q_HC, fun h0_ => absurd ((hoff 7 (by kernel_rfl)).symm.trans h0_) (by decide)⟩
        refine steps_cons ?_ ?_
        · rintro b a w' ⟨ha, Q_HD, Q_HG, Q_HC, Q_HF⟩ hb_ hon hoff
          refine ⟨_, rfl, fun K hK => ?_⟩
          have e16 : a.tmps[16]? = some (.pointer (some ⟨bx, 1, none⟩)) := by rw [ha]; exact (putSel_off rfl).trans rfl
          replace ha := Aside0.mk ha
          have HD := Aside0.mk (Q_HD (hoff 7 (by kernel_rfl)))
          have HG := Aside0.mk (Q_HG (hoff 7 (by kernel_rfl)))
          have HC := Aside0.mk (Q_HC (hoff 7 (by kernel_rfl)))
          have hx_ := (blk_cell HC.out 1).trans rfl
          refine value_ (w1 := w') (v := .int .i64 c.sector) (by rfl) rfl ?_ ?_
          · go_simp
            (try simp only [i64_w])
            try rfl
          refine hK.out _ _ ⟨(by rw [ha.out]; exact putSel_upk 1 hb_ rfl rfl rfl), Q_HD, Q_HG, Q_HC, fun h0_ => absurd ((hoff 7 (by kernel_rfl)).symm.trans h0_) (by decide)⟩
        refine steps_cons ?_ ?_
        · rintro b a w' ⟨ha, Q_HD, Q_HG, Q_HC, Q_HF⟩ hb_ hon hoff
          refine ⟨_, rfl, fun K hK => ?_⟩
          have e5 : a.tmps[5]? = some (.pointer (some ⟨bx, 0, none⟩)) := by rw [ha]; exact (putSel_off rfl).trans rfl
          replace ha := Aside0.mk ha
          have HD := Aside0.mk (Q_HD (hoff 7 (by kernel_rfl)))
          have HG := Aside0.mk (Q_HG (hoff 7 (by kernel_rfl)))
          have HC := Aside0.mk (Q_HC (hoff 7 (by kernel_rfl)))
          have hx0 := (blk_cell HC.out 0).trans rfl
          have hx1 := (blk_cell HC.out 1).trans rfl
          have hx2 := (blk_cell HC.out 2).trans rfl
          have hx3 := (blk_cell HC.out 3).trans rfl
          refine value_ (w1 := w') (v := .agg #[.int .i64 c.kind, .int .i64 c.sector, .string c.data, .int .i64 c.tag]) (by rfl) rfl ?_ ?_
          · go_simp
            (try simp only [i64_w])
            try rfl
          refine hK.out _ _ ⟨(by rw [ha.out]; exact putSel_upk 2 hb_ rfl rfl rfl), Q_HD, Q_HG, Q_HC, fun h0_ => absurd ((hoff 7 (by kernel_rfl)).symm.trans h0_) (by decide)⟩
        refine steps_cons ?_ ?_
        · rintro b a w' ⟨ha, Q_HD, Q_HG, Q_HC, Q_HF⟩ hb_ hon hoff
          refine ⟨_, rfl, fun K hK => ?_⟩
          have e15 : a.tmps[15]? = some (.map (some mb)) := by rw [ha]; exact putSel_on (e := (3, 15, .map (some mb))) 0 rfl rfl (hon 3 (by kernel_rfl)) rfl
          have e17 : a.tmps[17]? = some (.int .i64 c.sector) := by rw [ha]; exact putSel_on (e := (5, 17, .int .i64 c.sector)) 1 rfl rfl (hon 5 (by kernel_rfl)) rfl
          have e18 : a.tmps[18]? = some (.agg #[.int .i64 c.kind, .int .i64 c.sector, .string c.data, .int .i64 c.tag]) := by rw [ha]; exact putSel_on (e := (6, 18, .agg #[.int .i64 c.kind, .int .i64 c.sector, .string c.data, .int .i64 c.tag])) 2 rfl rfl (hon 6 (by kernel_rfl)) rfl
          replace ha := Aside0.mk ha
          have HD := Aside0.mk (Q_HD hb_)
          have HG := Aside0.mk (Q_HG hb_)
          have HC := Aside0.mk (Q_HC hb_)
          obtain ⟨wA, hr_, ha1_, ha2_⟩ := dev_map HD.out c
          refine skip_ (w1 := wA) (by rfl) rfl ?_ ?_
          · have hr2_ := hr_
            dsimp only at hr2_
            simp [execOp, resolve, invoke, builtin, Act.eval, hr2_, Result.andThen, *]
          refine hK.out _ _ ⟨(by rw [ha.out]; exact putSel_none (v := undef) rfl), fun h0_ => absurd ((up_self b 7).symm.trans h0_) (by decide), fun h0_ => absurd ((up_self b 7).symm.trans h0_) (by decide), fun h0_ => absurd ((up_self b 7).symm.trans h0_) (by decide), fun h0_ => ⟨ha1_, gr_transc HG.out ha2_⟩⟩
        exact steps_nil
      rintro b a w1 hall ⟨ha, Q_HD, Q_HG, Q_HC, Q_HF⟩
      clear HC HD HG
      have hb3_ := hall 3 (by kernel_rfl)
      have hb5_ := hall 5 (by kernel_rfl)
      have hb6_ := hall 6 (by kernel_rfl)
      have hb7_ := hall 7 (by kernel_rfl)
      subst ha
      simp only [putSel, hb3_, hb5_, hb6_, hb7_, if_true, Act.put, List.setIfInBounds_toArray, List.set_cons_zero, List.set_cons_succ]
      clear Q_HD
      clear Q_HG
      clear Q_HC
      have HF := Aside0.mk (Q_HF hb7_)
      clear Q_HF
      clear hall hb3_ hb5_ hb6_ hb7_
      go_wp2
      go_roundw
      case rel => exact ⟨k + 1, by omega, by simp, by rw [hs]; exact HF.out.1, HF.out.2⟩
      case measure => simp only [intOf]; omega
    · obtain rfl : k = l.length := by omega
      go_wp2
      go_end0
      rw [List.take_length] at hd
      exact ⟨rfl, hd, hg⟩


end Go.Proofs.YtofiedgnnpednaaDoor.VNvmeRefuses
