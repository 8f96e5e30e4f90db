/- Contracts of functions of this seat: each call comes to what its Lean function computes; no condition beyond what each theorem states. Printed by a program of this session's own laid over the kit's printer. -/
import Derived.Test.YtofiedgnnpednaaDoorVNvmeRefusesx0
import Derived.Test.YtofiedgnnpednaaDoorVNvmeRefusesx1
import Derived.Test.YtofiedgnnpednaaDoorVNvmeRefusesx2
import Derived.Test.YtofiedgnnpednaaDoorVNvmeRefusesx3
import Derived.Test.YtofiedgnnpednaaDoorVNvmeRefusesx15
import Derived.Test.YtofiedgnnpednaaDoorVNvmeRefusesx16
import Derived.Test.YtofiedgnnpednaaDoorVNvmeRefusesx17
namespace Go.Proofs.YtofiedgnnpednaaDoor.VNvmeRefuses
open Go.RowKit Go.Proofs.YtofiedgnnpednaaDoorW.PrintWords Go.Proofs.YtofiedgnnpednaaDoorW.PrintLast Go.Proofs.YtofiedgnnpednaaDoorW.PrintMore
attribute [local go_sem] max2_int min2_int max_two min_two max_three min_three max_four min_four   -- for this text's walks alone
set_option linter.unusedVariables false
set_option linter.unusedSimpArgs false

-- @GIVEN nvme_found
/-! ### nvme_found: by hand -/
attribute [local go_sem] Oper.semAt_some
def nvme_found.T5 : Bool × List (List Nat × List Nat) := (true, [([], []), ([0], [0]), ([1], [1]), ([2], [2]), ([], []), ([3, 4], [3, 4]), ([5], [5]), ([6], [6]), ([6], [6]), ([], []), ([9, 7, 0, 1, 2, 3, 4, 5, 6, 7, 9], [7, 9]), ([8, 10, 0, 1, 2, 3, 4, 5, 6, 7, 8, 9, 10], [8])])
def nvme_found.B5 : List Nat := [0, 1, 3, 7, 0, 31, 63, 127, 127, 0, 767, 2047]
theorem nvme_found.tab5 : rtab .any (opsOf Tryd.f40 5) = nvme_found.T5 := by kernel_rfl
theorem nvme_found.bits5 : waitsOk nvme_found.T5.2 nvme_found.B5 = true := by kernel_rfl
set_option maxHeartbeats 16000000 in
set_option maxRecDepth 100000 in
theorem nFound (P : DevP) (D : Dev) (s : Int) (w : World) (B : Nat) (h : DevAt B w P D) (hl : D.cache.length < 1000000000) :
    Calls Tryd.prog 40 #[.pointer (some ⟨P.d, 0, none⟩), .int .i64 s] w fun r w' => r = .returned (.string (D.found s)) ∧ Below w.heap.size w w' := by
  obtain ⟨d, mb, cv, qv, kv⟩ := P
  obtain ⟨cA, cc, rfl⟩ : ∃ A c, cv = _ := own_form h.2.2.2.2.2.1
  obtain ⟨qA, qc, rfl⟩ : ∃ A c, qv = _ := own_form h.2.2.2.2.2.2.1
  obtain ⟨kA, kc, rfl⟩ : ∃ A c, kv = _ := own_form h.2.2.2.2.2.2.2.1
  have HD := Aside0.mk h
  clear h
  refine (callsIn_wide (n := 4)).1 ?_
  refine callsIn_of_wp_marks Tryd.func40 rfl trivial ?_ rfl
  simp only [Tryd.ntmps40, List.size_toArray, List.length_cons, List.length_nil, Nat.reduceAdd, Nat.reduceSub, Array.replicate_succ, Array.replicate_zero, List.push_toArray, List.append_toArray, List.nil_append, List.cons_append]
  refine wpIn_wide.2 ?_
  go_upto_region 1 with (fail)
  have bS : Boxed ((w.alloc (.cells #[.int .i64 s] 3)).alloc (.cells #[.string ⟨#[]⟩] 9)) w.heap.size 3 (.int .i64 s) := (Boxed.new w 3 (.int .i64 s)).alloc _
  have bR : Boxed ((w.alloc (.cells #[.int .i64 s] 3)).alloc (.cells #[.string ⟨#[]⟩] 9)) (w.heap.size + 1) 9 (.string ⟨#[]⟩) := by
    have h1 := Boxed.new (w.alloc (.cells #[.int .i64 s] 3)) 9 (.string ⟨#[]⟩)
    rwa [World.size_alloc] at h1
  have hB0 : Below w.heap.size w ((w.alloc (.cells #[.int .i64 s] 3)).alloc (.cells #[.string ⟨#[]⟩] 9)) := below_alloc (below_alloc (Below.refl _ _) _) _
  have HD1 := Aside0.mk (HD.out.below hB0)
  have hsz : ((w.alloc (.cells #[.int .i64 s] 3)).alloc (.cells #[.string ⟨#[]⟩] 9)).heap.size = w.heap.size + 2 := by simp
  generalize (w.alloc (.cells #[.int .i64 s] 3)).alloc (.cells #[.string ⟨#[]⟩] 9) = w1 at bS bR hB0 HD1 hsz ⊢
  have c3 := (blk_cell HD1.out.2.2.2.1 3).trans rfl
  go_wp2_with (first | (go_at_call 55; (with_reducible refine (nBackward _ _ _ _).mono ?_); rintro e w5 ⟨rfl, rfl⟩) | fail)
  clear c3
  have bN := Boxed.new w1 64 (.slice cA D.cache.length cc)
  rw [hsz] at bN
  have bS0 := bS.alloc (.cells #[.slice cA D.cache.length cc] 64)
  have bR0 := bR.alloc (.cells #[.slice cA D.cache.length cc] 64)
  have hBW := hB0.alloc hB0.size (.cells #[.slice cA D.cache.length cc] 64)
  have hs0 : (w1.alloc (.cells #[.slice cA D.cache.length cc] 64)).heap.size = w.heap.size + 3 := by simp [hsz]
  clear bS bR HD1 hB0
  generalize w1.alloc (.cells #[.slice cA D.cache.length cc] 64) = W0 at bN bS0 bR0 hBW hs0 ⊢
  clear hsz
  refine (wpIn_wide (n := 4)).1 ?_
  refine wpIn_rangeFunc_ownH (F := Fence.wide) rfl (by decide : 1 ≤ 4) (gf := 70) (lb := #[.pointer (some ⟨w.heap.size + 2, 0, none⟩)]) rfl trivial (enters_of Tryd.func70 (by kernel_rfl) rfl)
    (nBack_stops Fence.wide (4 - 1) trivial rfl (by decide) (w.heap.size + 2) cA cc D.cache hl W0 (by omega) bN.cell (own_le (HD.out.below hBW).2.2.2.2.2.1 (Nat.zero_le _))) belowK_t (belowK_b (Nat.le_refl _)) (Below.refl _ _) (fun _ => rfl)
    (fun pre W => ((∀ p ∈ pre, p.2.sector ≠ s) ∧ Boxed W w.heap.size 3 (.int .i64 s) ∧ Boxed W (w.heap.size + 1) 9 (.string ⟨#[]⟩)) ∧ Below W0.heap.size W0 W)
    (fun c pre W => (c = .ret ∧ ∃ ini last, pre = ini ++ [last] ∧ (∀ p ∈ ini, p.2.sector ≠ s) ∧ last.2.sector = s ∧ Boxed W (w.heap.size + 1) 9 (.string last.2.data)) ∧ Below w.heap.size w W)
    (OwnFrom.and (OwnFrom.and (ownFrom_pure _ _) (OwnFrom.and (Own.from (boxed_own _ _ (fun _ => _)) _) (Own.from (boxed_own _ _ (fun _ => _)) _))) (ownFrom_below (Nat.le_refl _) (Nat.le_refl _)))
    (fun c => OwnFrom.and (Own.from (fun st A B' row hs hg hr => by obtain ⟨hc, ini, last, e1, e2, e3, e4⟩ := hs; exact ⟨hc, ini, last, e1, e2, e3, boxed_own _ _ (fun (_ : Unit) => Value.string last.2.data) () A B' row e4 hg hr⟩) _) (ownFrom_below (Nat.le_refl _) (by omega)))
    ⟨⟨by simp, bS0, bR0⟩, Below.refl _ _⟩
    (fun x a' W => ∃ Bx, w.heap.size + 2 < Bx ∧ W.heap[Bx]? = some (.cells #[.int .i64 x.2.kind, .int .i64 x.2.sector, .string x.2.data, .int .i64 x.2.tag] 38 (0, 0)) ∧ a' = { tmps := #[.pointer (some ⟨d, 0, none⟩), .int .i64 s, undef, .pointer (some ⟨w.heap.size, 0, none⟩), .pointer (some ⟨w.heap.size + 1, 0, none⟩), undef, .pointer (some ⟨Bx, 0, none⟩), undef, undef, .pointer (some ⟨d, 0, none⟩), .pointer (some ⟨d, 0, none⟩), .pointer (some ⟨d, 3, none⟩), .slice cA D.cache.length cc, .func (.func 70) #[] #[.pointer (some ⟨w.heap.size + 2, 0, none⟩)], .int .i64 (x.1 : Int), .agg #[.int .i64 x.2.kind, .int .i64 x.2.sector, .string x.2.data, .int .i64 x.2.tag], undef, undef, undef, undef, undef, undef, undef, undef, undef, undef, undef, undef, undef, undef, undef, undef, undef, undef, undef], defers := [] })
    (fun x a' _ X Y row hs hg hr => by
      obtain ⟨Bx, h1, h2, h3⟩ := hs
      refine ⟨Bx, h1, (hg.block Bx (Array.getElem?_eq_some_iff.1 h2).1 (fun e => ?_)).trans h2, h3⟩
      obtain ⟨_, o, ho, hc⟩ := hr Bx e.symm
      rw [h2] at ho
      cases ho
      cases hc)
    ?assign ?body ?done ?stop
  case assign =>
    rintro l pre x W K ⟨⟨hp, bS1, bR1⟩, hB1⟩ hK
    gi_wp2
    exact hK _ _ ((KeepsOthers.alloc _ _).from _) ((Below.refl _ W).alloc hB1.size _) ⟨⟨hp, bS1.alloc _, bR1.alloc _⟩, hB1.alloc hB1.size _⟩ ⟨W.heap.size, (by have := hB1.size; omega), heap_alloc_new W _, rfl⟩
  case body =>
    rintro l pre x a' W hl ⟨r, hr⟩ ⟨⟨hp, bS1, bR1⟩, hB1⟩ ⟨Bx, hBx, bX, rfl⟩ hlt
    have x1 := (blk_cell bX 1).trans rfl
    have x2 := (blk_cell bX 2).trans rfl
    have cS := bS1.cell
    have cR := bR1.cell
    have fR := bR1.frozen
    gi_wp2
    · have hx : x.2.sector = s := by first | assumption | exact beq_iff_eq.1 (by assumption)
      exact ⟨(KeepsOthers.setCell _ _ _).from _, ⟨rfl, pre, x, rfl, hp, hx, bR1.set _⟩, (hBW.trans (hB1.mono (by omega))).setCell (p := ⟨w.heap.size + 1, 0, none⟩) (Nat.le_succ _) _⟩
    · have hx : x.2.sector ≠ s := by first | assumption | exact beq_eq_false_iff_ne.1 (by assumption)
      exact ⟨KeepsFrom.refl _ _, Below.refl _ _, ⟨fun p hp' => (List.mem_append.1 hp').elim (hp p) (fun e => by simp at e; subst e; exact hx), bS1, bR1⟩, hB1⟩
  case done =>
    rintro D2 ys W hD rfl ⟨⟨hp, bS1, bR1⟩, hB1⟩ hK
    have HB := Aside0.mk (hBW.trans (hB1.mono (by omega)))
    have HX := Aside0.mk (show W.heap[w.heap.size]? = some (.cells #[.int .i64 s] 3 (0, 0)) from bS1)
    have HR := Aside0.mk (show W.heap[w.heap.size + 1]? = some (.cells #[.string ⟨#[]⟩] 9 (0, 0)) from bR1)
    have HQ := Aside0.mk hK
    have hnone := lookC_none s D.cache (fun j hj => hp _ (bwN_mem hj))
    obtain ⟨es, cl, hm, hes⟩ := (HD.out.below HB.out).2.2.2.2.1
    have HM := Aside0.mk hm
    have HV := Aside0.mk (show W.heap[d]? = some (.cells (D.cells ⟨d, mb, .slice cA D.cache.length cc, .slice qA D.queue.length qc, .slice kA D.keep.length kc⟩) 78 (0, 0)) from (HD.out.below HB.out).2.2.2.1)
    have hD3 : w.heap.size ≤ D2 := by omega
    clear hm hK bS1 bR1 hB1 hp hBW hs0 bN bS0 bR0
    rcases hlk : lookM s D.last with _ | c
    · have hfound : D.found s = noughts := by unfold Dev.found; rw [hnone, hlk]
      have hfind := findN_none (f := s) 0 hes hlk
      clear hnone
      go_upto_region 5 with (fail)
      generalize W = wd at HB HX HR HQ HM HV ⊢
      refine wp_onlyN ?_
      refine start_ (n := 12) (S := fun w' => True) (ds := []) #[false, false, false, false, false, false, false, false, false, false, false, false] (by kernel_rfl) rfl rfl trivial (fun hHeld => ?_)
      refine with_tabW nvme_found.tab5 nvme_found.bits5 (fun HT_ HW_ => ?_)
      have n0_ := Aside0.mk HB.out.drew; have n1_ := Aside0.mk (blk_drew HX.out); have n2_ := Aside0.mk (blk_drew HR.out); have n3_ := Aside0.mk (blk_drew HQ.out); have n4_ := Aside0.mk (blk_drew HM.out); have n5_ := Aside0.mk (blk_drew HV.out); clear HB HX HR HQ HM HV; have HB := n0_; have HX := n1_; have HR := n2_; have HQ := n3_; have HM := n4_; have HV := n5_; clear n0_ n1_ n2_ n3_ n4_ n5_; generalize wd.drew = wd at HB HX HR HQ HM HV ⊢
      refine pure_ (i := 0) (N := some 23) (v := ?_) (a' := ?_) #[true, false, false, false, false, false, false, false, false, false, false, false] rfl rfl (any_of HT_.out (by kernel_rfl)) (fun _ _ _ h => h) (Or.inl ⟨by rfl, ?_⟩) ?_ ?_
      rotate_left
      · intro w'
        go_simp
        with_reducible rfl
      rotate_left
      · simp only [Act.put, List.setIfInBounds_toArray, List.set_cons_zero, List.set_cons_succ, i64_w, i32_w]
        rfl
      refine pure_ (i := 1) (N := some 24) (v := ?_) (a' := ?_) #[true, true, false, false, false, false, false, false, false, false, false, false] rfl rfl (any_of HT_.out (by kernel_rfl)) (fun _ _ _ h => h) (Or.inl ⟨by rfl, ?_⟩) ?_ ?_
      rotate_left
      · intro w'
        go_simp
        with_reducible rfl
      rotate_left
      · simp only [Act.put, List.setIfInBounds_toArray, List.set_cons_zero, List.set_cons_succ, i64_w, i32_w]
        rfl
      refine pure_ (i := 2) (N := some 25) (v := ?_) (a' := ?_) #[true, true, true, false, false, false, false, false, false, false, false, false] rfl rfl (any_of HT_.out (by kernel_rfl)) (fun _ _ _ h => h) (Or.inl ⟨by rfl, ?_⟩) ?_ ?_
      rotate_left
      · intro w'
        go_simp
        with_reducible rfl
      rotate_left
      · simp only [Act.put, List.setIfInBounds_toArray, List.set_cons_zero, List.set_cons_succ, i64_w, i32_w]
        rfl
      refine inv_at [3, 4, 5, 6, 7, 8, 9, 10, 11] (fun a0_ b a w' => ∃ (b9 : Nat) (m9_ : Value), a = putSel a0_ b [(3, 26, .map (some mb)), (4, 27, .int .i64 s), (5, 28, .tuple #[.agg #[.int .i64 zeroN.kind, .int .i64 zeroN.sector, .string zeroN.data, .int .i64 zeroN.tag], .bool false]), (6, 22, .tuple #[.agg #[.int .i64 zeroN.kind, .int .i64 zeroN.sector, .string zeroN.data, .int .i64 zeroN.tag], .bool false]), (7, 29, .agg #[.int .i64 zeroN.kind, .int .i64 zeroN.sector, .string zeroN.data, .int .i64 zeroN.tag]), (8, 30, .bool false), (9, 7, m9_), (11, 8, .bool false)] ∧ (Below w.heap.size w w') ∧ (w'.heap[w.heap.size]? = some (.cells #[.int .i64 s] 3 (0, 0))) ∧ (w'.heap[w.heap.size + 1]? = some (.cells #[.string ⟨#[]⟩] 9 (0, 0))) ∧ (w'.heap[D2]? = some (.deferred (some []))) ∧ (w'.heap[mb]? = some (.map es cl)) ∧ (w'.heap[d]? = some (.cells (D.cells ⟨d, mb, .slice cA D.cache.length cc, .slice qA D.queue.length qc, .slice kA D.keep.length kc⟩) 78 (0, 0))) ∧ (b 9 = true → b 10 = false → w'.heap[b9]? = some (.cells #[.int .i64 0, .int .i64 0, .string ⟨#[]⟩, .int .i64 0] 38 (0, 0))) ∧ (b 9 = true → w.heap.size ≤ b9) ∧ (b 9 = true → b 10 = true → w'.heap[b9]? = some (.cells #[.int .i64 zeroN.kind, .int .i64 zeroN.sector, .string zeroN.data, .int .i64 zeroN.tag] 38 (0, 0))) ∧ (b 9 = true → (m9_ : Value) = .pointer (some ⟨b9, 0, none⟩))) HT_.out HW_.out (by kernel_rfl) (by kernel_rfl) ?_ ?_ ?_
      · exact ⟨0, .bool false, by simp only [putSel, Bool.false_eq_true, if_false], HB.out, HX.out, HR.out, HQ.out, HM.out, HV.out, fun h_ => absurd h_ (by decide), fun h_ => absurd h_ (by decide), fun h_ => absurd h_ (by decide), fun h_ => absurd h_ (by decide)⟩
      · skip
        clear HB HM HQ HR HV HX
        refine steps_cons ?_ ?_
        · rintro b a w' ⟨b9, m9_, ha, Q_HB, Q_HX, Q_HR, Q_HQ, Q_HM, Q_HV, Q_HZ, Q_HG, Q_HC, Q_X9_⟩ hb_ hon hoff
          refine ⟨_, rfl, fun K hK => ?_⟩
          have e25 : a.tmps[25]? = some (.pointer (some ⟨d, 2, none⟩)) := by rw [ha]; exact (putSel_off rfl).trans rfl
          replace ha := Aside0.mk ha
          have HB := Aside0.mk Q_HB
          have HX := Aside0.mk Q_HX
          have HR := Aside0.mk Q_HR
          have HQ := Aside0.mk Q_HQ
          have HM := Aside0.mk Q_HM
          have HV := Aside0.mk Q_HV
          have hx_ := (blk_cell HV.out 2).trans rfl
          refine value_ (w1 := w') (v := .map (some mb)) (by rfl) rfl ?_ ?_
          · go_simp
            (try simp only [i64_w])
            try rfl
          refine hK.out _ _ ⟨b9, m9_, (by rw [ha.out]; exact putSel_upk 0 hb_ rfl rfl rfl), Q_HB, Q_HX, Q_HR, Q_HQ, Q_HM, Q_HV, Q_HZ, Q_HG, fun _ h1_ => absurd ((hoff 10 (by kernel_rfl)).symm.trans h1_) (by decide), Q_X9_⟩
        refine steps_cons ?_ ?_
        · rintro b a w' ⟨b9, m9_, ha, Q_HB, Q_HX, Q_HR, Q_HQ, Q_HM, Q_HV, Q_HZ, Q_HG, Q_HC, Q_X9_⟩ hb_ hon hoff
          refine ⟨_, rfl, fun K hK => ?_⟩
          have e3 : a.tmps[3]? = some (.pointer (some ⟨w.heap.size, 0, none⟩)) := by rw [ha]; exact (putSel_off rfl).trans rfl
          replace ha := Aside0.mk ha
          have HB := Aside0.mk Q_HB
          have HX := Aside0.mk Q_HX
          have HR := Aside0.mk Q_HR
          have HQ := Aside0.mk Q_HQ
          have HM := Aside0.mk Q_HM
          have HV := Aside0.mk Q_HV
          have hx_ := (blk_cell HX.out 0).trans rfl
          refine value_ (w1 := w') (v := .int .i64 s) (by rfl) rfl ?_ ?_
          · go_simp
            (try simp only [i64_w])
            try rfl
          refine hK.out _ _ ⟨b9, m9_, (by rw [ha.out]; exact putSel_upk 1 hb_ rfl rfl rfl), Q_HB, Q_HX, Q_HR, Q_HQ, Q_HM, Q_HV, Q_HZ, Q_HG, fun _ h1_ => absurd ((hoff 10 (by kernel_rfl)).symm.trans h1_) (by decide), Q_X9_⟩
        refine steps_cons ?_ ?_
        · rintro b a w' ⟨b9, m9_, ha, Q_HB, Q_HX, Q_HR, Q_HQ, Q_HM, Q_HV, Q_HZ, Q_HG, Q_HC, Q_X9_⟩ hb_ hon hoff
          refine ⟨_, rfl, fun K hK => ?_⟩
          have e26 : a.tmps[26]? = some (.map (some mb)) := by rw [ha]; exact putSel_on (e := (3, 26, .map (some mb))) 0 rfl rfl (hon 3 (by kernel_rfl)) rfl
          have e27 : a.tmps[27]? = some (.int .i64 s) := by rw [ha]; exact putSel_on (e := (4, 27, .int .i64 s)) 1 rfl rfl (hon 4 (by kernel_rfl)) rfl
          replace ha := Aside0.mk ha
          have HB := Aside0.mk Q_HB
          have HX := Aside0.mk Q_HX
          have HR := Aside0.mk Q_HR
          have HQ := Aside0.mk Q_HQ
          have HM := Aside0.mk Q_HM
          have HV := Aside0.mk Q_HV
          refine value_ (w1 := w') (v := .tuple #[.agg #[.int .i64 zeroN.kind, .int .i64 zeroN.sector, .string zeroN.data, .int .i64 zeroN.tag], .bool false]) (by rfl) rfl ?_ ?_
          · have hl_ := n_look_none HM.out s hfind
            simp [execOp, resolve, invoke, builtin, Act.eval, hl_, NC.v, *]
          refine hK.out _ _ ⟨b9, m9_, (by rw [ha.out]; exact putSel_upk 2 hb_ rfl rfl rfl), HB.out, HX.out, HR.out, HQ.out, HM.out, HV.out, fun h0_ h1_ => (Q_HZ h0_ h1_), fun h0_ => (Q_HG h0_), fun _ h1_ => absurd ((hoff 10 (by kernel_rfl)).symm.trans h1_) (by decide), Q_X9_⟩
        refine steps_cons ?_ ?_
        · rintro b a w' ⟨b9, m9_, ha, Q_HB, Q_HX, Q_HR, Q_HQ, Q_HM, Q_HV, Q_HZ, Q_HG, Q_HC, Q_X9_⟩ hb_ hon hoff
          refine ⟨_, rfl, fun K hK => ?_⟩
          have e28 : a.tmps[28]? = some (.tuple #[.agg #[.int .i64 zeroN.kind, .int .i64 zeroN.sector, .string zeroN.data, .int .i64 zeroN.tag], .bool false]) := by rw [ha]; exact putSel_on (e := (5, 28, .tuple #[.agg #[.int .i64 zeroN.kind, .int .i64 zeroN.sector, .string zeroN.data, .int .i64 zeroN.tag], .bool false])) 2 rfl rfl (hon 5 (by kernel_rfl)) rfl
          replace ha := Aside0.mk ha
          have HB := Aside0.mk Q_HB
          have HX := Aside0.mk Q_HX
          have HR := Aside0.mk Q_HR
          have HQ := Aside0.mk Q_HQ
          have HM := Aside0.mk Q_HM
          have HV := Aside0.mk Q_HV
          refine value_ (w1 := w') (v := .tuple #[.agg #[.int .i64 zeroN.kind, .int .i64 zeroN.sector, .string zeroN.data, .int .i64 zeroN.tag], .bool false]) (by rfl) rfl ?_ ?_
          · go_simp
            (try simp only [i64_w])
            try rfl
          refine hK.out _ _ ⟨b9, m9_, (by rw [ha.out]; exact putSel_upk 3 hb_ rfl rfl rfl), Q_HB, Q_HX, Q_HR, Q_HQ, Q_HM, Q_HV, Q_HZ, Q_HG, fun _ h1_ => absurd ((hoff 10 (by kernel_rfl)).symm.trans h1_) (by decide), Q_X9_⟩
        refine steps_cons ?_ ?_
        · rintro b a w' ⟨b9, m9_, ha, Q_HB, Q_HX, Q_HR, Q_HQ, Q_HM, Q_HV, Q_HZ, Q_HG, Q_HC, Q_X9_⟩ hb_ hon hoff
          refine ⟨_, rfl, fun K hK => ?_⟩
          have e22 : a.tmps[22]? = some (.tuple #[.agg #[.int .i64 zeroN.kind, .int .i64 zeroN.sector, .string zeroN.data, .int .i64 zeroN.tag], .bool false]) := by rw [ha]; exact putSel_on (e := (6, 22, .tuple #[.agg #[.int .i64 zeroN.kind, .int .i64 zeroN.sector, .string zeroN.data, .int .i64 zeroN.tag], .bool false])) 3 rfl rfl (hon 6 (by kernel_rfl)) rfl
          replace ha := Aside0.mk ha
          have HB := Aside0.mk Q_HB
          have HX := Aside0.mk Q_HX
          have HR := Aside0.mk Q_HR
          have HQ := Aside0.mk Q_HQ
          have HM := Aside0.mk Q_HM
          have HV := Aside0.mk Q_HV
          refine value_ (w1 := w') (v := .agg #[.int .i64 zeroN.kind, .int .i64 zeroN.sector, .string zeroN.data, .int .i64 zeroN.tag]) (by rfl) rfl ?_ ?_
          · go_simp
            (try simp only [i64_w])
            try rfl
          refine hK.out _ _ ⟨b9, m9_, (by rw [ha.out]; exact putSel_upk 4 hb_ rfl rfl rfl), Q_HB, Q_HX, Q_HR, Q_HQ, Q_HM, Q_HV, Q_HZ, Q_HG, fun _ h1_ => absurd ((hoff 10 (by kernel_rfl)).symm.trans h1_) (by decide), Q_X9_⟩
        refine steps_cons ?_ ?_
        · rintro b a w' ⟨b9, m9_, ha, Q_HB, Q_HX, Q_HR, Q_HQ, Q_HM, Q_HV, Q_HZ, Q_HG, Q_HC, Q_X9_⟩ hb_ hon hoff
          refine ⟨_, rfl, fun K hK => ?_⟩
          have e22 : a.tmps[22]? = some (.tuple #[.agg #[.int .i64 zeroN.kind, .int .i64 zeroN.sector, .string zeroN.data, .int .i64 zeroN.tag], .bool false]) := by rw [ha]; exact putSel_on (e := (6, 22, .tuple #[.agg #[.int .i64 zeroN.kind, .int .i64 zeroN.sector, .string zeroN.data, .int .i64 zeroN.tag], .bool false])) 3 rfl rfl (hon 6 (by kernel_rfl)) rfl
          replace ha := Aside0.mk ha
          have HB := Aside0.mk Q_HB
          have HX := Aside0.mk Q_HX
          have HR := Aside0.mk Q_HR
          have HQ := Aside0.mk Q_HQ
          have HM := Aside0.mk Q_HM
          have HV := Aside0.mk Q_HV
          refine value_ (w1 := w') (v := .bool false) (by rfl) rfl ?_ ?_
          · go_simp
            (try simp only [i64_w])
            try rfl
          refine hK.out _ _ ⟨b9, m9_, (by rw [ha.out]; exact putSel_upk 5 hb_ rfl rfl rfl), Q_HB, Q_HX, Q_HR, Q_HQ, Q_HM, Q_HV, Q_HZ, Q_HG, Q_HC, Q_X9_⟩
        refine steps_cons ?_ ?_
        · rintro b a w' ⟨b9, m9_, ha, Q_HB, Q_HX, Q_HR, Q_HQ, Q_HM, Q_HV, Q_HZ, Q_HG, Q_HC, Q_X9_⟩ hb_ hon hoff
          refine ⟨_, rfl, fun K hK => ?_⟩
          replace ha := Aside0.mk ha
          have HB := Aside0.mk Q_HB
          have HX := Aside0.mk Q_HX
          have HR := Aside0.mk Q_HR
          have HQ := Aside0.mk Q_HQ
          have HM := Aside0.mk Q_HM
          have HV := Aside0.mk Q_HV
          refine value_ (w1 := w'.alloc (.cells #[.int .i64 0, .int .i64 0, .string ⟨#[]⟩, .int .i64 0] 38)) (v := .pointer (some ⟨w'.heap.size, 0, none⟩)) (by rfl) rfl ?_ ?_
          · go_simp
          refine hK.out _ _ ⟨w'.heap.size, (.pointer (some ⟨w'.heap.size, 0, none⟩)), (by rw [ha.out]; exact putSel_upk 6 hb_ rfl rfl rfl), below_step HB.out (below_alloc (Below.refl _ _) (.cells #[.int .i64 0, .int .i64 0, .string ⟨#[]⟩, .int .i64 0] 38)), blk_below HX.out (below_alloc (Below.refl _ _) (.cells #[.int .i64 0, .int .i64 0, .string ⟨#[]⟩, .int .i64 0] 38)), blk_below HR.out (below_alloc (Below.refl _ _) (.cells #[.int .i64 0, .int .i64 0, .string ⟨#[]⟩, .int .i64 0] 38)), blk_below HQ.out (below_alloc (Below.refl _ _) (.cells #[.int .i64 0, .int .i64 0, .string ⟨#[]⟩, .int .i64 0] 38)), blk_below HM.out (below_alloc (Below.refl _ _) (.cells #[.int .i64 0, .int .i64 0, .string ⟨#[]⟩, .int .i64 0] 38)), blk_below HV.out (below_alloc (Below.refl _ _) (.cells #[.int .i64 0, .int .i64 0, .string ⟨#[]⟩, .int .i64 0] 38)), fun h0_ h1_ => heap_alloc_new w' (.cells #[.int .i64 0, .int .i64 0, .string ⟨#[]⟩, .int .i64 0] 38), fun h0_ => Below.size HB.out, fun _ h1_ => absurd ((hoff 10 (by kernel_rfl)).symm.trans h1_) (by decide), fun _ => rfl⟩
        refine steps_cons ?_ ?_
        · rintro b a w' ⟨b9, m9_, ha, Q_HB, Q_HX, Q_HR, Q_HQ, Q_HM, Q_HV, Q_HZ, Q_HG, Q_HC, Q_X9_⟩ hb_ hon hoff
          refine ⟨_, rfl, fun K hK => ?_⟩
          have e7 : a.tmps[7]? = some (m9_) := by rw [ha]; exact putSel_on (e := (9, 7, m9_)) 6 rfl rfl (hon 9 (by kernel_rfl)) rfl
          rw [Q_X9_ (hon 9 (by kernel_rfl))] at e7
          have e29 : a.tmps[29]? = some (.agg #[.int .i64 zeroN.kind, .int .i64 zeroN.sector, .string zeroN.data, .int .i64 zeroN.tag]) := by rw [ha]; exact putSel_on (e := (7, 29, .agg #[.int .i64 zeroN.kind, .int .i64 zeroN.sector, .string zeroN.data, .int .i64 zeroN.tag])) 4 rfl rfl (hon 7 (by kernel_rfl)) rfl
          replace ha := Aside0.mk ha
          have HB := Aside0.mk Q_HB
          have HX := Aside0.mk Q_HX
          have HR := Aside0.mk Q_HR
          have HQ := Aside0.mk Q_HQ
          have HM := Aside0.mk Q_HM
          have HV := Aside0.mk Q_HV
          have HZ := Aside0.mk (Q_HZ (hon 9 (by kernel_rfl)) hb_)
          have HG := Aside0.mk (Q_HG (hon 9 (by kernel_rfl)))
          have hz0 := (blk_cell HZ.out 0).trans rfl
          have hz1 := (blk_cell HZ.out 1).trans rfl
          have hz2 := (blk_cell HZ.out 2).trans rfl
          have hz3 := (blk_cell HZ.out 3).trans rfl
          have hf0 := blk_frozen HZ.out 0
          have hf1 := blk_frozen HZ.out 1
          have hf2 := blk_frozen HZ.out 2
          have hf3 := blk_frozen HZ.out 3
          refine skip_ (w1 := (((w'.setCell ⟨b9, 0, none⟩ (.int .i64 zeroN.kind)).setCell ⟨b9, 1, none⟩ (.int .i64 zeroN.sector)).setCell ⟨b9, 2, none⟩ (.string zeroN.data)).setCell ⟨b9, 3, none⟩ (.int .i64 zeroN.tag)) (by rfl) rfl ?_ ?_
          · go_simp
            try rfl
          refine hK.out _ _ ⟨b9, m9_, (by rw [ha.out]; exact putSel_none (v := undef) rfl), set4b HB.out HG.out _ _ _ _, set4o HX.out (blk_ne HX.out HZ.out (by decide)) _ _ _ _, set4o HR.out (blk_ne HR.out HZ.out (by decide)) _ _ _ _, set4o HQ.out (obj_ne HQ.out HZ.out (by simp)) _ _ _ _, set4o HM.out (obj_ne HM.out HZ.out (by simp)) _ _ _ _, set4o HV.out (blk_ne HV.out HZ.out (by decide)) _ _ _ _, fun _ h1_ => absurd ((up_self b 10).symm.trans h1_) (by decide), fun _ => HG.out, fun h0_ h1_ => set4c HZ.out, Q_X9_⟩
        refine steps_cons ?_ ?_
        · rintro b a w' ⟨b9, m9_, ha, Q_HB, Q_HX, Q_HR, Q_HQ, Q_HM, Q_HV, Q_HZ, Q_HG, Q_HC, Q_X9_⟩ hb_ hon hoff
          refine ⟨_, rfl, fun K hK => ?_⟩
          have e30 : a.tmps[30]? = some (.bool false) := by rw [ha]; exact putSel_on (e := (8, 30, .bool false)) 5 rfl rfl (hon 8 (by kernel_rfl)) rfl
          replace ha := Aside0.mk ha
          have HB := Aside0.mk Q_HB
          have HX := Aside0.mk Q_HX
          have HR := Aside0.mk Q_HR
          have HQ := Aside0.mk Q_HQ
          have HM := Aside0.mk Q_HM
          have HV := Aside0.mk Q_HV
          have HG := Aside0.mk (Q_HG (hon 9 (by kernel_rfl)))
          have HC := Aside0.mk (Q_HC (hon 9 (by kernel_rfl)) (hon 10 (by kernel_rfl)))
          refine value_ (w1 := w') (v := .bool false) (by rfl) rfl ?_ ?_
          · go_simp
            (try simp only [i64_w])
            try rfl
          refine hK.out _ _ ⟨b9, m9_, (by rw [ha.out]; exact putSel_upk 7 hb_ rfl rfl rfl), Q_HB, Q_HX, Q_HR, Q_HQ, Q_HM, Q_HV, fun _ h1_ => absurd ((hon 10 (by kernel_rfl)).symm.trans h1_) (by decide), Q_HG, Q_HC, Q_X9_⟩
        exact steps_nil
      rintro b a w1 hall ⟨b9, m9_, ha, Q_HB, Q_HX, Q_HR, Q_HQ, Q_HM, Q_HV, Q_HZ, Q_HG, Q_HC, Q_X9_⟩
      clear HB HM HQ HR HV HX
      have hb3_ := hall 3 (by kernel_rfl)
      have hb4_ := hall 4 (by kernel_rfl)
      have hb5_ := hall 5 (by kernel_rfl)
      have hb6_ := hall 6 (by kernel_rfl)
      have hb7_ := hall 7 (by kernel_rfl)
      have hb8_ := hall 8 (by kernel_rfl)
      have hb9_ := hall 9 (by kernel_rfl)
      have hb10_ := hall 10 (by kernel_rfl)
      have hb11_ := hall 11 (by kernel_rfl)
      subst ha
      obtain rfl := Q_X9_ hb9_
      simp only [putSel, hb3_, hb4_, hb5_, hb6_, hb7_, hb8_, hb9_, hb10_, hb11_, if_true, Act.put, List.setIfInBounds_toArray, List.set_cons_zero, List.set_cons_succ]
      have HB := Aside0.mk Q_HB
      clear Q_HB
      have HX := Aside0.mk Q_HX
      clear Q_HX
      have HR := Aside0.mk Q_HR
      clear Q_HR
      have HQ := Aside0.mk Q_HQ
      clear Q_HQ
      have HM := Aside0.mk Q_HM
      clear Q_HM
      have HV := Aside0.mk Q_HV
      clear Q_HV
      clear Q_HZ
      have HG := Aside0.mk (Q_HG hb9_)
      clear Q_HG
      have HC := Aside0.mk (Q_HC hb9_ hb10_)
      clear Q_HC
      clear hall hb3_ hb4_ hb5_ hb6_ hb7_ hb8_ hb9_ hb10_ hb11_
      dsimp only [onlyN]
      have cR := (blk_cell HR.out 0).trans rfl
      have fR := blk_frozen HR.out 0
      have k2 := (blk_cell HC.out 2).trans rfl
      obtain ⟨z5, hz5⟩ : ∃ z, z = zerosB 512 := ⟨_, rfl⟩
      have HRep := Aside0.mk (fun W => rep0i 512 512 W rfl (by decide))
      rw [← hz5] at HRep
      have hz6 : noughts = z5 := by rw [hz5]; rfl
      clear hz5
      go_wp2_with (first | (go_at_call 56; (with_reducible refine (HRep.out _).mono ?_); rintro e w5 ⟨rfl, hb5⟩; have hR5 := blk_below HR.out hb5; have hQ5 := blk_below HQ.out hb5; have hB5 := HB.out.trans (hb5.mono (Below.size HB.out)); have cR5 := (blk_cell hR5 0).trans rfl; have fR5 := blk_frozen hR5 0) | fail)
      have hQ2 := (KeepsOthers.setCell w5 ⟨w.heap.size + 1, 0, none⟩ (.string z5)).same D2 _ hQ5 rfl
      have hc5 := cell_kept (World.cell?_setCell_same' w5 ⟨w.heap.size + 1, 0, none⟩ (.string z5) (by rw [cR5]; rfl)) (grownBy_putObj' _ D2 (.deferred none)) (fun r e => by cases e; exact ⟨_, hQ2, rfl⟩)
      refine ⟨by simp, .inl ⟨_, _, rfl, run_takeDeferred hQ2, ?_⟩⟩
      refine ⟨.string z5, ?_, by first | rfl | (rw [hfound]; first | done | exact by rw [hz6]), (hB5.setCell (p := ⟨w.heap.size + 1, 0, none⟩) (Nat.le_succ _) _).trans (belowK_b (w := w) (Nat.le_refl _) _ D2 _ _ hD3 hQ2 rfl rfl)⟩
      simp [results, Tryd.f40, go_sem, hc5]
    · have hfound : D.found s = c.data := by unfold Dev.found; rw [hnone, hlk]
      obtain ⟨jm, hfind, _, _⟩ := findN_some (c := c) 0 hes hlk
      clear hnone
      go_upto_region 5 with (fail)
      generalize W = wd at HB HX HR HQ HM HV ⊢
      refine wp_onlyN ?_
      refine start_ (n := 12) (S := fun w' => True) (ds := []) #[false, false, false, false, false, false, false, false, false, false, false, false] (by kernel_rfl) rfl rfl trivial (fun hHeld => ?_)
      refine with_tabW nvme_found.tab5 nvme_found.bits5 (fun HT_ HW_ => ?_)
      have n0_ := Aside0.mk HB.out.drew; have n1_ := Aside0.mk (blk_drew HX.out); have n2_ := Aside0.mk (blk_drew HR.out); have n3_ := Aside0.mk (blk_drew HQ.out); have n4_ := Aside0.mk (blk_drew HM.out); have n5_ := Aside0.mk (blk_drew HV.out); clear HB HX HR HQ HM HV; have HB := n0_; have HX := n1_; have HR := n2_; have HQ := n3_; have HM := n4_; have HV := n5_; clear n0_ n1_ n2_ n3_ n4_ n5_; generalize wd.drew = wd at HB HX HR HQ HM HV ⊢
      refine pure_ (i := 0) (N := some 23) (v := ?_) (a' := ?_) #[true, false, false, false, false, false, false, false, false, false, false, false] rfl rfl (any_of HT_.out (by kernel_rfl)) (fun _ _ _ h => h) (Or.inl ⟨by rfl, ?_⟩) ?_ ?_
      rotate_left
      · intro w'
        go_simp
        with_reducible rfl
      rotate_left
      · simp only [Act.put, List.setIfInBounds_toArray, List.set_cons_zero, List.set_cons_succ, i64_w, i32_w]
        rfl
      refine pure_ (i := 1) (N := some 24) (v := ?_) (a' := ?_) #[true, true, false, false, false, false, false, false, false, false, false, false] rfl rfl (any_of HT_.out (by kernel_rfl)) (fun _ _ _ h => h) (Or.inl ⟨by rfl, ?_⟩) ?_ ?_
      rotate_left
      · intro w'
        go_simp
        with_reducible rfl
      rotate_left
      · simp only [Act.put, List.setIfInBounds_toArray, List.set_cons_zero, List.set_cons_succ, i64_w, i32_w]
        rfl
      refine pure_ (i := 2) (N := some 25) (v := ?_) (a' := ?_) #[true, true, true, false, false, false, false, false, false, false, false, false] rfl rfl (any_of HT_.out (by kernel_rfl)) (fun _ _ _ h => h) (Or.inl ⟨by rfl, ?_⟩) ?_ ?_
      rotate_left
      · intro w'
        go_simp
        with_reducible rfl
      rotate_left
      · simp only [Act.put, List.setIfInBounds_toArray, List.set_cons_zero, List.set_cons_succ, i64_w, i32_w]
        rfl
      refine inv_at [3, 4, 5, 6, 7, 8, 9, 10, 11] (fun a0_ b a w' => ∃ (b9 : Nat) (m9_ : Value), a = putSel a0_ b [(3, 26, .map (some mb)), (4, 27, .int .i64 s), (5, 28, .tuple #[.agg #[.int .i64 c.kind, .int .i64 c.sector, .string c.data, .int .i64 c.tag], .bool true]), (6, 22, .tuple #[.agg #[.int .i64 c.kind, .int .i64 c.sector, .string c.data, .int .i64 c.tag], .bool true]), (7, 29, .agg #[.int .i64 c.kind, .int .i64 c.sector, .string c.data, .int .i64 c.tag]), (8, 30, .bool true), (9, 7, m9_), (11, 8, .bool true)] ∧ (Below w.heap.size w w') ∧ (w'.heap[w.heap.size]? = some (.cells #[.int .i64 s] 3 (0, 0))) ∧ (w'.heap[w.heap.size + 1]? = some (.cells #[.string ⟨#[]⟩] 9 (0, 0))) ∧ (w'.heap[D2]? = some (.deferred (some []))) ∧ (w'.heap[mb]? = some (.map es cl)) ∧ (w'.heap[d]? = some (.cells (D.cells ⟨d, mb, .slice cA D.cache.length cc, .slice qA D.queue.length qc, .slice kA D.keep.length kc⟩) 78 (0, 0))) ∧ (b 9 = true → b 10 = false → w'.heap[b9]? = some (.cells #[.int .i64 0, .int .i64 0, .string ⟨#[]⟩, .int .i64 0] 38 (0, 0))) ∧ (b 9 = true → w.heap.size ≤ b9) ∧ (b 9 = true → b 10 = true → w'.heap[b9]? = some (.cells #[.int .i64 c.kind, .int .i64 c.sector, .string c.data, .int .i64 c.tag] 38 (0, 0))) ∧ (b 9 = true → (m9_ : Value) = .pointer (some ⟨b9, 0, none⟩))) HT_.out HW_.out (by kernel_rfl) (by kernel_rfl) ?_ ?_ ?_
      · exact ⟨0, .bool false, by simp only [putSel, Bool.false_eq_true, if_false], HB.out, HX.out, HR.out, HQ.out, HM.out, HV.out, fun h_ => absurd h_ (by decide), fun h_ => absurd h_ (by decide), fun h_ => absurd h_ (by decide), fun h_ => absurd h_ (by decide)⟩
      · skip
        clear HB HM HQ HR HV HX
        refine steps_cons ?_ ?_
        · rintro b a w' ⟨b9, m9_, ha, Q_HB, Q_HX, Q_HR, Q_HQ, Q_HM, Q_HV, Q_HZ, Q_HG, Q_HC, Q_X9_⟩ hb_ hon hoff
          refine ⟨_, rfl, fun K hK => ?_⟩
          have e25 : a.tmps[25]? = some (.pointer (some ⟨d, 2, none⟩)) := by rw [ha]; exact (putSel_off rfl).trans rfl
          replace ha := Aside0.mk ha
          have HB := Aside0.mk Q_HB
          have HX := Aside0.mk Q_HX
          have HR := Aside0.mk Q_HR
          have HQ := Aside0.mk Q_HQ
          have HM := Aside0.mk Q_HM
          have HV := Aside0.mk Q_HV
          have hx_ := (blk_cell HV.out 2).trans rfl
          refine value_ (w1 := w') (v := .map (some mb)) (by rfl) rfl ?_ ?_
          · go_simp
            (try simp only [i64_w])
            try rfl
          refine hK.out _ _ ⟨b9, m9_, (by rw [ha.out]; exact putSel_upk 0 hb_ rfl rfl rfl), Q_HB, Q_HX, Q_HR, Q_HQ, Q_HM, Q_HV, Q_HZ, Q_HG, fun _ h1_ => absurd ((hoff 10 (by kernel_rfl)).symm.trans h1_) (by decide), Q_X9_⟩
        refine steps_cons ?_ ?_
        · rintro b a w' ⟨b9, m9_, ha, Q_HB, Q_HX, Q_HR, Q_HQ, Q_HM, Q_HV, Q_HZ, Q_HG, Q_HC, Q_X9_⟩ hb_ hon hoff
          refine ⟨_, rfl, fun K hK => ?_⟩
          have e3 : a.tmps[3]? = some (.pointer (some ⟨w.heap.size, 0, none⟩)) := by rw [ha]; exact (putSel_off rfl).trans rfl
          replace ha := Aside0.mk ha
          have HB := Aside0.mk Q_HB
          have HX := Aside0.mk Q_HX
          have HR := Aside0.mk Q_HR
          have HQ := Aside0.mk Q_HQ
          have HM := Aside0.mk Q_HM
          have HV := Aside0.mk Q_HV
          have hx_ := (blk_cell HX.out 0).trans rfl
          refine value_ (w1 := w') (v := .int .i64 s) (by rfl) rfl ?_ ?_
          · go_simp
            (try simp only [i64_w])
            try rfl
          refine hK.out _ _ ⟨b9, m9_, (by rw [ha.out]; exact putSel_upk 1 hb_ rfl rfl rfl), Q_HB, Q_HX, Q_HR, Q_HQ, Q_HM, Q_HV, Q_HZ, Q_HG, fun _ h1_ => absurd ((hoff 10 (by kernel_rfl)).symm.trans h1_) (by decide), Q_X9_⟩
        refine steps_cons ?_ ?_
        · rintro b a w' ⟨b9, m9_, ha, Q_HB, Q_HX, Q_HR, Q_HQ, Q_HM, Q_HV, Q_HZ, Q_HG, Q_HC, Q_X9_⟩ hb_ hon hoff
          refine ⟨_, rfl, fun K hK => ?_⟩
          have e26 : a.tmps[26]? = some (.map (some mb)) := by rw [ha]; exact putSel_on (e := (3, 26, .map (some mb))) 0 rfl rfl (hon 3 (by kernel_rfl)) rfl
          have e27 : a.tmps[27]? = some (.int .i64 s) := by rw [ha]; exact putSel_on (e := (4, 27, .int .i64 s)) 1 rfl rfl (hon 4 (by kernel_rfl)) rfl
          replace ha := Aside0.mk ha
          have HB := Aside0.mk Q_HB
          have HX := Aside0.mk Q_HX
          have HR := Aside0.mk Q_HR
          have HQ := Aside0.mk Q_HQ
          have HM := Aside0.mk Q_HM
          have HV := Aside0.mk Q_HV
          refine value_ (w1 := w') (v := .tuple #[.agg #[.int .i64 c.kind, .int .i64 c.sector, .string c.data, .int .i64 c.tag], .bool true]) (by rfl) rfl ?_ ?_
          · have hl_ := n_look_some HM.out s hfind
            simp [execOp, resolve, invoke, builtin, Act.eval, hl_, NC.v, *]
          refine hK.out _ _ ⟨b9, m9_, (by rw [ha.out]; exact putSel_upk 2 hb_ rfl rfl rfl), HB.out, HX.out, HR.out, HQ.out, HM.out, HV.out, fun h0_ h1_ => (Q_HZ h0_ h1_), fun h0_ => (Q_HG h0_), fun _ h1_ => absurd ((hoff 10 (by kernel_rfl)).symm.trans h1_) (by decide), Q_X9_⟩
        refine steps_cons ?_ ?_
        · rintro b a w' ⟨b9, m9_, ha, Q_HB, Q_HX, Q_HR, Q_HQ, Q_HM, Q_HV, Q_HZ, Q_HG, Q_HC, Q_X9_⟩ hb_ hon hoff
          refine ⟨_, rfl, fun K hK => ?_⟩
          have e28 : a.tmps[28]? = some (.tuple #[.agg #[.int .i64 c.kind, .int .i64 c.sector, .string c.data, .int .i64 c.tag], .bool true]) := by rw [ha]; exact putSel_on (e := (5, 28, .tuple #[.agg #[.int .i64 c.kind, .int .i64 c.sector, .string c.data, .int .i64 c.tag], .bool true])) 2 rfl rfl (hon 5 (by kernel_rfl)) rfl
          replace ha := Aside0.mk ha
          have HB := Aside0.mk Q_HB
          have HX := Aside0.mk Q_HX
          have HR := Aside0.mk Q_HR
          have HQ := Aside0.mk Q_HQ
          have HM := Aside0.mk Q_HM
          have HV := Aside0.mk Q_HV
          refine value_ (w1 := w') (v := .tuple #[.agg #[.int .i64 c.kind, .int .i64 c.sector, .string c.data, .int .i64 c.tag], .bool true]) (by rfl) rfl ?_ ?_
          · go_simp
            (try simp only [i64_w])
            try rfl
          refine hK.out _ _ ⟨b9, m9_, (by rw [ha.out]; exact putSel_upk 3 hb_ rfl rfl rfl), Q_HB, Q_HX, Q_HR, Q_HQ, Q_HM, Q_HV, Q_HZ, Q_HG, fun _ h1_ => absurd ((hoff 10 (by kernel_rfl)).symm.trans h1_) (by decide), Q_X9_⟩
        refine steps_cons ?_ ?_
        · rintro b a w' ⟨b9, m9_, ha, Q_HB, Q_HX, Q_HR, Q_HQ, Q_HM, Q_HV, Q_HZ, Q_HG, Q_HC, Q_X9_⟩ hb_ hon hoff
          refine ⟨_, rfl, fun K hK => ?_⟩
          have e22 : a.tmps[22]? = some (.tuple #[.agg #[.int .i64 c.kind, .int .i64 c.sector, .string c.data, .int .i64 c.tag], .bool true]) := by rw [ha]; exact putSel_on (e := (6, 22, .tuple #[.agg #[.int .i64 c.kind, .int .i64 c.sector, .string c.data, .int .i64 c.tag], .bool true])) 3 rfl rfl (hon 6 (by kernel_rfl)) rfl
          replace ha := Aside0.mk ha
          have HB := Aside0.mk Q_HB
          have HX := Aside0.mk Q_HX
          have HR := Aside0.mk Q_HR
          have HQ := Aside0.mk Q_HQ
          have HM := Aside0.mk Q_HM
          have HV := Aside0.mk Q_HV
          refine value_ (w1 := w') (v := .agg #[.int .i64 c.kind, .int .i64 c.sector, .string c.data, .int .i64 c.tag]) (by rfl) rfl ?_ ?_
          · go_simp
            (try simp only [i64_w])
            try rfl
          refine hK.out _ _ ⟨b9, m9_, (by rw [ha.out]; exact putSel_upk 4 hb_ rfl rfl rfl), Q_HB, Q_HX, Q_HR, Q_HQ, Q_HM, Q_HV, Q_HZ, Q_HG, fun _ h1_ => absurd ((hoff 10 (by kernel_rfl)).symm.trans h1_) (by decide), Q_X9_⟩
        refine steps_cons ?_ ?_
        · rintro b a w' ⟨b9, m9_, ha, Q_HB, Q_HX, Q_HR, Q_HQ, Q_HM, Q_HV, Q_HZ, Q_HG, Q_HC, Q_X9_⟩ hb_ hon hoff
          refine ⟨_, rfl, fun K hK => ?_⟩
          have e22 : a.tmps[22]? = some (.tuple #[.agg #[.int .i64 c.kind, .int .i64 c.sector, .string c.data, .int .i64 c.tag], .bool true]) := by rw [ha]; exact putSel_on (e := (6, 22, .tuple #[.agg #[.int .i64 c.kind, .int .i64 c.sector, .string c.data, .int .i64 c.tag], .bool true])) 3 rfl rfl (hon 6 (by kernel_rfl)) rfl
          replace ha := Aside0.mk ha
          have HB := Aside0.mk Q_HB
          have HX := Aside0.mk Q_HX
          have HR := Aside0.mk Q_HR
          have HQ := Aside0.mk Q_HQ
          have HM := Aside0.mk Q_HM
          have HV := Aside0.mk Q_HV
          refine value_ (w1 := w') (v := .bool true) (by rfl) rfl ?_ ?_
          · go_simp
            (try simp only [i64_w])
            try rfl
          refine hK.out _ _ ⟨b9, m9_, (by rw [ha.out]; exact putSel_upk 5 hb_ rfl rfl rfl), Q_HB, Q_HX, Q_HR, Q_HQ, Q_HM, Q_HV, Q_HZ, Q_HG, Q_HC, Q_X9_⟩
        refine steps_cons ?_ ?_
        · rintro b a w' ⟨b9, m9_, ha, Q_HB, Q_HX, Q_HR, Q_HQ, Q_HM, Q_HV, Q_HZ, Q_HG, Q_HC, Q_X9_⟩ hb_ hon hoff
          refine ⟨_, rfl, fun K hK => ?_⟩
          replace ha := Aside0.mk ha
          have HB := Aside0.mk Q_HB
          have HX := Aside0.mk Q_HX
          have HR := Aside0.mk Q_HR
          have HQ := Aside0.mk Q_HQ
          have HM := Aside0.mk Q_HM
          have HV := Aside0.mk Q_HV
          refine value_ (w1 := w'.alloc (.cells #[.int .i64 0, .int .i64 0, .string ⟨#[]⟩, .int .i64 0] 38)) (v := .pointer (some ⟨w'.heap.size, 0, none⟩)) (by rfl) rfl ?_ ?_
          · go_simp
          refine hK.out _ _ ⟨w'.heap.size, (.pointer (some ⟨w'.heap.size, 0, none⟩)), (by rw [ha.out]; exact putSel_upk 6 hb_ rfl rfl rfl), below_step HB.out (below_alloc (Below.refl _ _) (.cells #[.int .i64 0, .int .i64 0, .string ⟨#[]⟩, .int .i64 0] 38)), blk_below HX.out (below_alloc (Below.refl _ _) (.cells #[.int .i64 0, .int .i64 0, .string ⟨#[]⟩, .int .i64 0] 38)), blk_below HR.out (below_alloc (Below.refl _ _) (.cells #[.int .i64 0, .int .i64 0, .string ⟨#[]⟩, .int .i64 0] 38)), blk_below HQ.out (below_alloc (Below.refl _ _) (.cells #[.int .i64 0, .int .i64 0, .string ⟨#[]⟩, .int .i64 0] 38)), blk_below HM.out (below_alloc (Below.refl _ _) (.cells #[.int .i64 0, .int .i64 0, .string ⟨#[]⟩, .int .i64 0] 38)), blk_below HV.out (below_alloc (Below.refl _ _) (.cells #[.int .i64 0, .int .i64 0, .string ⟨#[]⟩, .int .i64 0] 38)), fun h0_ h1_ => heap_alloc_new w' (.cells #[.int .i64 0, .int .i64 0, .string ⟨#[]⟩, .int .i64 0] 38), fun h0_ => Below.size HB.out, fun _ h1_ => absurd ((hoff 10 (by kernel_rfl)).symm.trans h1_) (by decide), fun _ => rfl⟩
        refine steps_cons ?_ ?_
        · rintro b a w' ⟨b9, m9_, ha, Q_HB, Q_HX, Q_HR, Q_HQ, Q_HM, Q_HV, Q_HZ, Q_HG, Q_HC, Q_X9_⟩ hb_ hon hoff
          refine ⟨_, rfl, fun K hK => ?_⟩
          have e7 : a.tmps[7]? = some (m9_) := by rw [ha]; exact putSel_on (e := (9, 7, m9_)) 6 rfl rfl (hon 9 (by kernel_rfl)) rfl
          rw [Q_X9_ (hon 9 (by kernel_rfl))] at e7
          have e29 : a.tmps[29]? = some (.agg #[.int .i64 c.kind, .int .i64 c.sector, .string c.data, .int .i64 c.tag]) := by rw [ha]; exact putSel_on (e := (7, 29, .agg #[.int .i64 c.kind, .int .i64 c.sector, .string c.data, .int .i64 c.tag])) 4 rfl rfl (hon 7 (by kernel_rfl)) rfl
          replace ha := Aside0.mk ha
          have HB := Aside0.mk Q_HB
          have HX := Aside0.mk Q_HX
          have HR := Aside0.mk Q_HR
          have HQ := Aside0.mk Q_HQ
          have HM := Aside0.mk Q_HM
          have HV := Aside0.mk Q_HV
          have HZ := Aside0.mk (Q_HZ (hon 9 (by kernel_rfl)) hb_)
          have HG := Aside0.mk (Q_HG (hon 9 (by kernel_rfl)))
          have hz0 := (blk_cell HZ.out 0).trans rfl
          have hz1 := (blk_cell HZ.out 1).trans rfl
          have hz2 := (blk_cell HZ.out 2).trans rfl
          have hz3 := (blk_cell HZ.out 3).trans rfl
          have hf0 := blk_frozen HZ.out 0
          have hf1 := blk_frozen HZ.out 1
          have hf2 := blk_frozen HZ.out 2
          have hf3 := blk_frozen HZ.out 3
          refine skip_ (w1 := (((w'.setCell ⟨b9, 0, none⟩ (.int .i64 c.kind)).setCell ⟨b9, 1, none⟩ (.int .i64 c.sector)).setCell ⟨b9, 2, none⟩ (.string c.data)).setCell ⟨b9, 3, none⟩ (.int .i64 c.tag)) (by rfl) rfl ?_ ?_
          · go_simp
            try rfl
          refine hK.out _ _ ⟨b9, m9_, (by rw [ha.out]; exact putSel_none (v := undef) rfl), set4b HB.out HG.out _ _ _ _, set4o HX.out (blk_ne HX.out HZ.out (by decide)) _ _ _ _, set4o HR.out (blk_ne HR.out HZ.out (by decide)) _ _ _ _, set4o HQ.out (obj_ne HQ.out HZ.out (by simp)) _ _ _ _, set4o HM.out (obj_ne HM.out HZ.out (by simp)) _ _ _ _, set4o HV.out (blk_ne HV.out HZ.out (by decide)) _ _ _ _, fun _ h1_ => absurd ((up_self b 10).symm.trans h1_) (by decide), fun _ => HG.out, fun h0_ h1_ => set4c HZ.out, Q_X9_⟩
        refine steps_cons ?_ ?_
        · rintro b a w' ⟨b9, m9_, ha, Q_HB, Q_HX, Q_HR, Q_HQ, Q_HM, Q_HV, Q_HZ, Q_HG, Q_HC, Q_X9_⟩ hb_ hon hoff
          refine ⟨_, rfl, fun K hK => ?_⟩
          have e30 : a.tmps[30]? = some (.bool true) := by rw [ha]; exact putSel_on (e := (8, 30, .bool true)) 5 rfl rfl (hon 8 (by kernel_rfl)) rfl
          replace ha := Aside0.mk ha
          have HB := Aside0.mk Q_HB
          have HX := Aside0.mk Q_HX
          have HR := Aside0.mk Q_HR
          have HQ := Aside0.mk Q_HQ
          have HM := Aside0.mk Q_HM
          have HV := Aside0.mk Q_HV
          have HG := Aside0.mk (Q_HG (hon 9 (by kernel_rfl)))
          have HC := Aside0.mk (Q_HC (hon 9 (by kernel_rfl)) (hon 10 (by kernel_rfl)))
          refine value_ (w1 := w') (v := .bool true) (by rfl) rfl ?_ ?_
          · go_simp
            (try simp only [i64_w])
            try rfl
          refine hK.out _ _ ⟨b9, m9_, (by rw [ha.out]; exact putSel_upk 7 hb_ rfl rfl rfl), Q_HB, Q_HX, Q_HR, Q_HQ, Q_HM, Q_HV, fun _ h1_ => absurd ((hon 10 (by kernel_rfl)).symm.trans h1_) (by decide), Q_HG, Q_HC, Q_X9_⟩
        exact steps_nil
      rintro b a w1 hall ⟨b9, m9_, ha, Q_HB, Q_HX, Q_HR, Q_HQ, Q_HM, Q_HV, Q_HZ, Q_HG, Q_HC, Q_X9_⟩
      clear HB HM HQ HR HV HX
      have hb3_ := hall 3 (by kernel_rfl)
      have hb4_ := hall 4 (by kernel_rfl)
      have hb5_ := hall 5 (by kernel_rfl)
      have hb6_ := hall 6 (by kernel_rfl)
      have hb7_ := hall 7 (by kernel_rfl)
      have hb8_ := hall 8 (by kernel_rfl)
      have hb9_ := hall 9 (by kernel_rfl)
      have hb10_ := hall 10 (by kernel_rfl)
      have hb11_ := hall 11 (by kernel_rfl)
      subst ha
      obtain rfl := Q_X9_ hb9_
      simp only [putSel, hb3_, hb4_, hb5_, hb6_, hb7_, hb8_, hb9_, hb10_, hb11_, if_true, Act.put, List.setIfInBounds_toArray, List.set_cons_zero, List.set_cons_succ]
      have HB := Aside0.mk Q_HB
      clear Q_HB
      have HX := Aside0.mk Q_HX
      clear Q_HX
      have HR := Aside0.mk Q_HR
      clear Q_HR
      have HQ := Aside0.mk Q_HQ
      clear Q_HQ
      have HM := Aside0.mk Q_HM
      clear Q_HM
      have HV := Aside0.mk Q_HV
      clear Q_HV
      clear Q_HZ
      have HG := Aside0.mk (Q_HG hb9_)
      clear Q_HG
      have HC := Aside0.mk (Q_HC hb9_ hb10_)
      clear Q_HC
      clear hall hb3_ hb4_ hb5_ hb6_ hb7_ hb8_ hb9_ hb10_ hb11_
      dsimp only [onlyN]
      have cR := (blk_cell HR.out 0).trans rfl
      have fR := blk_frozen HR.out 0
      have k2 := (blk_cell HC.out 2).trans rfl
      go_wp2_with (fail)
      have hQ2 := (KeepsOthers.setCell w1 ⟨w.heap.size + 1, 0, none⟩ (.string c.data)).same D2 _ HQ.out rfl
      have hc5 := cell_kept (World.cell?_setCell_same' w1 ⟨w.heap.size + 1, 0, none⟩ (.string c.data) (by rw [cR]; rfl)) (grownBy_putObj' _ D2 (.deferred none)) (fun r e => by cases e; exact ⟨_, hQ2, rfl⟩)
      refine ⟨by simp, .inl ⟨_, _, rfl, run_takeDeferred hQ2, ?_⟩⟩
      refine ⟨.string c.data, ?_, by first | rfl | (rw [hfound]; first | done | exact rfl), (HB.out.setCell (p := ⟨w.heap.size + 1, 0, none⟩) (Nat.le_succ _) _).trans (belowK_b (w := w) (Nat.le_refl _) _ D2 _ _ hD3 hQ2 rfl rfl)⟩
      simp [results, Tryd.f40, go_sem, hc5]
  case stop =>
    rintro D2 c pre W hD ⟨k, hk, rfl⟩ ⟨⟨rfl, ini, last, e1, e2, e3, bR1⟩, hB1⟩ hK
    gi_wp2
    obtain ⟨k', rfl⟩ : ∃ k', k = k' + 1 := by
      cases k with
      | zero => simp [bwN] at e1
      | succ k' => exact ⟨k', rfl⟩
    rw [bwN_succ] at e1
    obtain ⟨rfl, e5⟩ := List.append_inj' e1 rfl
    obtain rfl : (D.cache.length - 1 - k', D.cache.getD (D.cache.length - 1 - k') zeroN) = last := by simpa using e5
    have hl2 := lookC_some s D.cache k' (by omega) e3 (fun j hj => e2 _ (bwN_mem hj))
    have hfound : D.found s = (D.cache.getD (D.cache.length - 1 - k') zeroN).data := by unfold Dev.found; rw [hl2]
    dsimp only at bR1
    rw [← hfound] at bR1
    have hc5 := cell_kept bR1.cell (grownBy_putObj' _ D2 (.deferred none)) (fun r e => by cases e; exact ⟨_, hK, rfl⟩)
    refine ⟨by simp, .inl ⟨_, _, rfl, run_takeDeferred hK, ?_⟩⟩
    refine ⟨.string (D.found s), ?_, rfl, hB1.trans (belowK_b (w := w) (Nat.le_refl _) _ D2 _ _ (by omega) hK rfl rfl)⟩
    simp [results, Tryd.f40, go_sem, hc5]


end Go.Proofs.YtofiedgnnpednaaDoor.VNvmeRefuses
