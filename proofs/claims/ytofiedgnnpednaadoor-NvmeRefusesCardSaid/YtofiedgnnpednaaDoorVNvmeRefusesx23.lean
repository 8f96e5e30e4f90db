/- Contracts of functions of this seat: each call comes to what its Lean function computes; no condition beyond what each theorem states. Printed by a program of this session's own laid over the kit's printer. -/
import Derived.Test.YtofiedgnnpednaaDoorVNvmeRefusesx0
import Derived.Test.YtofiedgnnpednaaDoorVNvmeRefusesx1
import Derived.Test.YtofiedgnnpednaaDoorVNvmeRefusesx2
import Derived.Test.YtofiedgnnpednaaDoorVNvmeRefusesx3
import Derived.Test.YtofiedgnnpednaaDoorVNvmeRefusesx6
import Derived.Test.YtofiedgnnpednaaDoorVNvmeRefusesx8
import Derived.Test.YtofiedgnnpednaaDoorVNvmeRefusesx12
import Derived.Test.YtofiedgnnpednaaDoorVNvmeRefusesx13
import Derived.Test.YtofiedgnnpednaaDoorVNvmeRefusesx16
import Derived.Test.YtofiedgnnpednaaDoorVNvmeRefusesx20
import Derived.Test.YtofiedgnnpednaaDoorVNvmeRefusesx22
namespace Go.Proofs.YtofiedgnnpednaaDoor.VNvmeRefuses
open Go.RowKit Go.Proofs.YtofiedgnnpednaaDoorW.PrintWords Go.Proofs.YtofiedgnnpednaaDoorW.PrintLast Go.Proofs.YtofiedgnnpednaaDoorW.PrintMore
attribute [local go_sem] max2_int min2_int max_two min_two max_three min_three max_four min_four   -- for this text's walks alone
set_option linter.unusedVariables false
set_option linter.unusedSimpArgs false

-- @GIVEN nvme_Complete
/-! ### nvme_Complete: by hand -/
def nvme_Complete14.T14 : Bool × List (List Nat × List Nat) := (true, [([], []), ([], []), ([1], [1]), ([0], [0]), ([3], [3]), ([4, 2], [2, 4]), ([5], [5]), ([6], [6]), ([0], [0]), ([8], [8]), ([9, 2, 0, 1, 2, 3, 4, 5, 6, 7], [2, 9]), ([10, 7, 0, 1, 2, 3, 4, 5, 6, 7], [7, 10])])
def nvme_Complete14.B14 : List Nat := [0, 0, 2, 1, 9, 31, 63, 127, 1, 257, 1023, 2047]
theorem nvme_Complete14.tab14 : rtab .any (opsOf Tryd.f14 14) = nvme_Complete14.T14 := by kernel_rfl
theorem nvme_Complete14.bits14 : waitsOk nvme_Complete14.T14.2 nvme_Complete14.B14 = true := by kernel_rfl
def nvme_Complete20.T20 : Bool × List (List Nat × List Nat) := (true, [([], []), ([0], [0]), ([1], [1]), ([2], [2]), ([], []), ([4], [4]), ([], []), ([3, 5, 6, 0, 1, 2, 3, 4, 5, 6], [3, 5, 6])])
def nvme_Complete20.B20 : List Nat := [0, 1, 3, 7, 0, 16, 0, 127]
theorem nvme_Complete20.tab20 : rtab .any (opsOf Tryd.f14 20) = nvme_Complete20.T20 := by kernel_rfl
theorem nvme_Complete20.bits20 : waitsOk nvme_Complete20.T20.2 nvme_Complete20.B20 = true := by kernel_rfl
def nvme_Complete22.T22 : Bool × List (List Nat × List Nat) := (true, [([], []), ([], []), ([1], [1]), ([2], [2]), ([3], [3]), ([], []), ([5], [5]), ([4, 6], [4, 6]), ([0, 0, 1, 2, 3, 4, 5, 6, 7], [0]), ([8, 0, 1, 2, 3, 4, 5, 6, 7], [8]), ([9, 7, 7, 0, 1, 2, 3, 4, 5, 6, 7], [7, 9])])
def nvme_Complete22.B22 : List Nat := [0, 0, 2, 6, 14, 0, 32, 126, 255, 511, 1023]
theorem nvme_Complete22.tab22 : rtab .any (opsOf Tryd.f14 22) = nvme_Complete22.T22 := by kernel_rfl
theorem nvme_Complete22.bits22 : waitsOk nvme_Complete22.T22.2 nvme_Complete22.B22 = true := by kernel_rfl
theorem comp_zeros {W : World} {b : Nat} (h : W.heap[b]? = some (.cells #[.int .i64 0, .int .i64 0, .string ⟨#[]⟩, .int .i64 0] 38 (0, 0))) : ((((W.setCell ⟨b, 0, none⟩ (.int .i64 0)).setCell ⟨b, 1, none⟩ (.int .i64 0)).setCell ⟨b, 2, none⟩ (.string ⟨#[]⟩)).setCell ⟨b, 3, none⟩ (.int .i64 0)).heap[b]? = some (.cells #[.int .i64 0, .int .i64 0, .string ⟨#[]⟩, .int .i64 0] 38 (0, 0)) := by
  simp [World.setCell, Array.getElem?_modify, h]
set_option maxHeartbeats 16000000 in
set_option maxRecDepth 100000 in
theorem nCompDown (P : DevP) (D : Dev) (i : Int) (w : World) (B : Nat) (h : DevAt B w P D) (hd : D.down = true) :
    Calls Tryd.prog 14 #[.pointer (some ⟨P.d, 0, none⟩), .int .i64 i] w fun r w' => ∃ P', r = .returned (.tuple #[.agg #[.int .i64 0, .int .i64 0, .string ⟨#[]⟩, .int .i64 0], .iface 75 (.int .i64 3)]) ∧ DevAt B w' P' D ∧ DKeep P P' w w' := by
  have HD := Aside0.mk h
  have h1 := h.alloc (.cells #[.int .i64 0, .int .i64 0, .string ⟨#[]⟩, .int .i64 0] 38)
  have c5 := (blk_cell h1.2.2.2.1 5).trans rfl
  rw [hd] at c5
  clear h h1 hd
  go_enter Tryd.func14, Tryd.ntmps14
  go_wp2_with (fail)
  refine bodyPost_ret (results_ct rfl _ _ w.heap.size 38 #[.int .i64 0, .int .i64 0, .string ⟨#[]⟩, .int .i64 0] (0, 0) _ rfl (heap_alloc_new w _) Tryd.underlying38 rfl (by kernel_rfl)) rfl ?_
  first | exact ⟨_, rfl, dev_same HD.out (below_alloc (Below.refl _ _) _)⟩ | exact ⟨rfl, _, dev_same HD.out (below_alloc (Below.refl _ _) _)⟩
set_option maxHeartbeats 16000000 in
set_option maxRecDepth 100000 in
theorem nCompRange (P : DevP) (D : Dev) (i : Int) (w : World) (B : Nat) (h : DevAt B w P D) (hd : D.down = false) (hi : i < 0 ∨ (D.queue.length : Int) ≤ i) :
    Calls Tryd.prog 14 #[.pointer (some ⟨P.d, 0, none⟩), .int .i64 i] w fun r w' => ∃ P', r = .returned (.tuple #[.agg #[.int .i64 0, .int .i64 0, .string ⟨#[]⟩, .int .i64 0], .iface 75 (.int .i64 1)]) ∧ DevAt B w' P' D ∧ DKeep P P' w w' := by
  obtain ⟨d, mb, cv, qv, kv⟩ := P
  obtain ⟨qA, qc, rfl⟩ : ∃ A c, qv = _ := own_form h.2.2.2.2.2.2.1
  have HD := Aside0.mk h
  have h1 := h.alloc (.cells #[.int .i64 0, .int .i64 0, .string ⟨#[]⟩, .int .i64 0] 38)
  have c5 := (blk_cell h1.2.2.2.1 5).trans rfl
  have c4 := (blk_cell h1.2.2.2.1 4).trans rfl
  rw [hd] at c5
  clear h h1 hd
  by_cases h0 : i < 0
  · have p1 : decide (i < 0) = true := decide_eq_true h0
    clear hi h0
    go_enter Tryd.func14, Tryd.ntmps14
    go_wp2_with (fail)
    refine bodyPost_ret (results_ct rfl _ _ w.heap.size 38 #[.int .i64 0, .int .i64 0, .string ⟨#[]⟩, .int .i64 0] (0, 0) _ rfl (heap_alloc_new w _) Tryd.underlying38 rfl (by kernel_rfl)) rfl ?_
    first | exact ⟨_, rfl, dev_same HD.out (below_alloc (Below.refl _ _) _)⟩ | exact ⟨rfl, _, dev_same HD.out (below_alloc (Below.refl _ _) _)⟩
  · have p1 : decide (i < 0) = false := decide_eq_false h0
    have p2 : decide ((D.queue.length : Int) ≤ i) = true := decide_eq_true (hi.resolve_left h0)
    clear hi h0
    go_enter Tryd.func14, Tryd.ntmps14
    go_wp2_with (fail)
    refine bodyPost_ret (results_ct rfl _ _ w.heap.size 38 #[.int .i64 0, .int .i64 0, .string ⟨#[]⟩, .int .i64 0] (0, 0) _ rfl (heap_alloc_new w _) Tryd.underlying38 rfl (by kernel_rfl)) rfl ?_
    first | exact ⟨_, rfl, dev_same HD.out (below_alloc (Below.refl _ _) _)⟩ | exact ⟨rfl, _, dev_same HD.out (below_alloc (Below.refl _ _) _)⟩
set_option maxHeartbeats 16000000 in
set_option maxRecDepth 100000 in
theorem nCompFail (P : DevP) (D : Dev) (i : Nat) (w : World) (B : Nat) (hB : B ≤ w.heap.size) (h : DevAt B w P D) (hd : D.down = false) (hi : i < D.queue.length) (hf : D.fail = 1) (hc : D.cache.length < 100000000) (hq : D.queue.length < 100000000) (hkl : D.keep.length < 100000000) :
    Calls Tryd.prog 14 #[.pointer (some ⟨P.d, 0, none⟩), .int .i64 i] w fun r w' => ∃ P', r = .returned (.tuple #[.agg #[.int .i64 0, .int .i64 0, .string ⟨#[]⟩, .int .i64 0], .iface 75 (.int .i64 3)]) ∧ DevAt B w' P' (D.lose D.keep) ∧ DKeep P P' w w' := by
  obtain ⟨d, mb, cv, qv, kv⟩ := P
  obtain ⟨qA, qc, rfl⟩ : ∃ A c, qv = _ := own_form h.2.2.2.2.2.2.1
  have h1 := h.alloc (.cells #[.int .i64 0, .int .i64 0, .string ⟨#[]⟩, .int .i64 0] 38)
  have c5 := (blk_cell h1.2.2.2.1 5).trans rfl
  have c4 := (blk_cell h1.2.2.2.1 4).trans rfl
  have c6 := (blk_cell h1.2.2.2.1 6).trans rfl
  have c7 := (blk_cell h1.2.2.2.1 7).trans rfl
  obtain ⟨kA, kc, rfl⟩ : ∃ A c, kv = _ := own_form h.2.2.2.2.2.2.2.1
  have HL := Aside0.mk (nLose _ D D.keep _ B B _ (Nat.le_trans hB (by simp)) h1 h1.2.2.2.2.2.2.2.1 hc hq hkl)
  have HD := Aside0.mk h
  have HN := Aside0.mk (show ¬ (DevP.mk d mb cv (.slice qA D.queue.length qc) (.slice kA D.keep.length kc)).has w.heap.size from fun e => Nat.lt_irrefl _ (h.lt _ e).2)
  rw [hd] at c5
  rw [hf] at c6
  have p1 : decide ((i : Int) < 0) = false := decide_eq_false (by omega)
  have p2 : decide ((D.queue.length : Int) ≤ (i : Int)) = false := decide_eq_false (by omega)
  have p2n : decide (D.queue.length ≤ i) = false := decide_eq_false (Nat.not_le.2 hi)
  clear h h1 hd hf hi hc hq hkl hB
  go_enter Tryd.func14, Tryd.ntmps14
  go_wp2_with (first | (go_at_call 38; (with_reducible refine HL.out.mono ?_); rintro e w6 ⟨P', rfl, hd6, hk6⟩; have HD6 := Aside0.mk hd6; have HK6 := Aside0.mk hk6; have hr6 := (hk6.block w.heap.size (by simp) HN.out).trans (heap_alloc_new w _); have HR6 := Aside0.mk hr6; have HN6 := Aside0.mk (hk6.not (by simp) HN.out); have y0 := (blk_cell hr6 0).trans rfl; have y1 := (blk_cell hr6 1).trans rfl; have y2 := (blk_cell hr6 2).trans rfl; have y3 := (blk_cell hr6 3).trans rfl; have f0 := blk_frozen hr6 0; have f1 := blk_frozen hr6 1; have f2 := blk_frozen hr6 2; have f3 := blk_frozen hr6 3; clear hd6 hk6 hr6) | fail)
  refine bodyPost_ret (results_ct rfl _ _ w.heap.size 38 #[.int .i64 0, .int .i64 0, .string ⟨#[]⟩, .int .i64 0] (0, 0) _ rfl (comp_zeros HR6.out) Tryd.underlying38 rfl (by kernel_rfl)) rfl ?_
  have hk9 := (((((dkeep_of (below_alloc (Below.refl w.heap.size w) (.cells #[.int .i64 0, .int .i64 0, .string ⟨#[]⟩, .int .i64 0] 38)) _).trans HK6.out).setNew (Nat.le_refl _) 0 (.int .i64 0)).setNew (Nat.le_refl _) 1 (.int .i64 0)).setNew (Nat.le_refl _) 2 (.string ⟨#[]⟩)).setNew (Nat.le_refl _) 3 (.int .i64 0)
  have hd9a := HD6.out.setOther HN6.out (HD6.out.kvne HR6.out) 0 (.int .i64 0)
  have hd9b := hd9a.setOther HN6.out (HD6.out.kvne HR6.out) 1 (.int .i64 0)
  have hd9c := hd9b.setOther HN6.out (HD6.out.kvne HR6.out) 2 (.string ⟨#[]⟩)
  have hd9 := hd9c.setOther HN6.out (HD6.out.kvne HR6.out) 3 (.int .i64 0)
  first | exact ⟨_, rfl, hd9, hk9⟩ | exact ⟨rfl, _, hd9, hk9⟩

theorem tick_same (D : Dev) (h : ¬ 1 < D.fail) : D.tick = D := if_neg h
theorem DevAt.ticked {B : Nat} {w : World} {P : DevP} {D : Dev} (h : DevAt B w P D) (v : Int) (hv : { D with fail := v } = D.tick) : DevAt B (w.setCell ⟨P.d, 6, none⟩ (.int .i64 v)) P D.tick ∧ DKeep P P w (w.setCell ⟨P.d, 6, none⟩ (.int .i64 v)) := by
  rw [← hv]
  have := h.put P.cv P.qv P.kv { D with fail := v } (w' := w.setCell ⟨P.d, 6, none⟩ (.int .i64 v)) (blk_putc h.2.2.2.1 6 _) (gr_put (World.grownBy.refl w _) 6 _) rfl (.inl ⟨rfl, rfl⟩) (.inl ⟨rfl, rfl⟩) (.inl ⟨rfl, rfl⟩)
  exact this
set_option maxHeartbeats 16000000 in
set_option maxRecDepth 100000 in
/-- A good completion. -/
theorem nCompGood2 (P : DevP) (D : Dev) (i : Nat) (c : NC) (w : World) (B : Nat) (hB : B ≤ w.heap.size) (h : DevAt B w P D) (hd : D.down = false) (hi : i < D.queue.length) (hx : D.queue[i]? = some c) (hf : D.fail ≠ 1) (hc : D.cache.length < 100000000) (hq : D.queue.length < 100000000) (hk : c.kind = 2)
    (R : NC × Dev) (hR : R = (let r := (({ D.tick with queue := D.queue.eraseIdx i }).bump c.kind).carry c; (r.2, r.1))) (hfw : D.fail < 9223372036854775808) :
    Calls Tryd.prog 14 #[.pointer (some ⟨P.d, 0, none⟩), .int .i64 i] w fun r w' => ∃ P', r = .returned (.tuple #[.agg #[.int .i64 R.1.kind, .int .i64 R.1.sector, .string R.1.data, .int .i64 R.1.tag], .nilIface]) ∧ DevAt B w' P' R.2 ∧ DKeep P P' w w' := by
  obtain ⟨d, mb, cv, qv, kv⟩ := P
  obtain ⟨g, qc, rfl⟩ : ∃ g c, qv = .slice (some ⟨g, 0, none⟩) D.queue.length c := by
    obtain ⟨g, qc, _, e, _⟩ := row4_open h.2.2.2.2.2.2.1 (Nat.lt_of_le_of_lt (Nat.zero_le i) hi)
    exact ⟨g, qc, e⟩
  obtain ⟨cA, cc, rfl⟩ : ∃ A c, cv = _ := own_form h.2.2.2.2.2.1
  obtain ⟨kA, kc, rfl⟩ : ∃ A c, kv = _ := own_form h.2.2.2.2.2.2.2.1
  have h1 := h.alloc (.cells #[.int .i64 0, .int .i64 0, .string ⟨#[]⟩, .int .i64 0] 38)
  have HN := Aside0.mk (show ¬ (DevP.mk d mb (.slice cA D.cache.length cc) (.slice (some ⟨g, 0, none⟩) D.queue.length qc) (.slice kA D.keep.length kc)).has w.heap.size from fun e => Nat.lt_irrefl _ (h.lt _ e).2)
  have HKN := Aside0.mk (show (Value.slice kA D.keep.length kc).ownBlock ≠ some w.heap.size from fun e => Nat.lt_irrefl _ (h.2.2.2.2.2.2.2.1.lt _ e).2)
  have c5 := (blk_cell h1.2.2.2.1 5).trans rfl
  have c4 := (blk_cell h1.2.2.2.1 4).trans rfl
  have c6 := (blk_cell h1.2.2.2.1 6).trans rfl
  have f6 := blk_frozen h1.2.2.2.1 6
  obtain ⟨x0, x1, x2, x3⟩ := row4_cell h1.2.2.2.2.2.2.1 i c hx
  have HD := Aside0.mk h1
  have HS := Aside0.mk hB
  have HI := Aside0.mk hi
  have HRR := Aside0.mk hR
  have HC := Aside0.mk hc
  have HQ := Aside0.mk hq
  have HKind := Aside0.mk hk
  have HX := Aside0.mk hx
  rw [hd] at c5
  have p1 : decide ((i : Int) < 0) = false := decide_eq_false (by omega)
  have p2 : decide ((D.queue.length : Int) ≤ (i : Int)) = false := decide_eq_false (by omega)
  have p2n : decide (D.queue.length ≤ i) = false := decide_eq_false (Nat.not_le.2 hi)
  have p3 : (D.fail == 1) = false := beq_eq_false_iff_ne.2 hf
  have hw1 : ∀ n : Int, 1 < n → n < 9223372036854775808 → wrap64 (n - 1) = n - 1 := fun n _ _ => by unfold wrap64; omega
  clear h h1 hd hf hc hq hB hR hk hx
  by_cases hft : 1 < D.fail
  · have p4 : decide (1 < D.fail) = true := decide_eq_true hft
    have HT := Aside0.mk (show { D with fail := wrap64 (D.fail - 1) } = D.tick from (if_pos hft).symm)
    clear hfw hw1 hft
    go_enter Tryd.func14, Tryd.ntmps14
    go_upto_region 12 with (fail)
    have HD1 := Aside0.mk (HD.out.ticked _ HT.out).1
    have HK1 := Aside0.mk ((dkeep_of (below_alloc (Below.refl w.heap.size w) (.cells #[.int .i64 0, .int .i64 0, .string ⟨#[]⟩, .int .i64 0] 38)) _).trans (HD.out.ticked _ HT.out).2)
    have HR1 := Aside0.mk (((HD.out.ticked _ HT.out).2.block w.heap.size (by simp) HN.out).trans (heap_alloc_new w (.cells #[.int .i64 0, .int .i64 0, .string ⟨#[]⟩, .int .i64 0] 38)))
    clear HT
    dsimp only at HD1 HK1 HR1
    have HQT := Aside0.mk (tick_queue D)
    have HCT := Aside0.mk (tick_cache D)
    generalize D.tick = T at HD1 HQT HCT HRR ⊢
    generalize (w.alloc (.cells #[.int .i64 0, .int .i64 0, .string ⟨#[]⟩, .int .i64 0] 38)).setCell ⟨d, 6, none⟩ (.int .i64 (wrap64 (D.fail - 1))) = w1 at HD1 HK1 HR1 ⊢
    generalize hb0 : w.heap.size = b0 at HR1 HN HKN ⊢
    have HS0 := Aside0.mk (Nat.le_of_eq hb0)
    clear hb0 c4 c5 c6 f6 x0 x1 x2 x3 HD
    have HCM := Aside0.mk (CAt.made HS.out HD1.out HK1.out HR1.out HN.out HKN.out HS0.out c)
    have hrow := HD1.out.2.2.2.2.2.2.1
    rw [HQT.out] at hrow
    obtain ⟨x0, x1, x2, x3⟩ := row4_cell hrow i c HX.out
    have hrow2 := HCM.out.dev.2.2.2.2.2.2.1
    rw [HQT.out] at hrow2
    have HDEL := Aside0.mk (nDelete g qc D.queue i B _ hrow2 HI.out (Nat.lt_trans HQ.out (by decide)))
    have c4 := (blk_cell HD1.out.2.2.2.1 4).trans rfl
    have c4b := (blk_cell HCM.out.dev.2.2.2.1 4).trans rfl
    have hgd := (HD1.out.apart (g := g) (.inr rfl)).1
    have hdl := (Array.getElem?_eq_some_iff.1 HCM.out.dev.2.2.2.1).1
    have HGD := Aside0.mk (And.intro hgd hdl)
    have hwi := wr_succ i (Nat.lt_trans hi (Nat.lt_trans HQ.out (by decide)))
    clear hrow hrow2 hgd hdl HN HKN HK1 HR1
    generalize hbx : w1.heap.size = bx at HCM HDEL HGD ⊢
    go_wp2_with (first | (go_at_call 39; refine HDEL.out.mono ?_; rintro e w3 ⟨rfl, ho3, hg3⟩; have hd3 := (hg3.block d HGD.out.2 (fun e => HGD.out.1 (Option.some.inj e).symm)).trans HCM.out.dev.2.2.2.1; have c43 := (blk_cell hd3 4).trans rfl; have f43 := blk_frozen hd3 4; have HG3 := Aside0.mk hg3; have HO3 := Aside0.mk ho3; clear ho3 hg3 hd3) | fail)
    have hreq := DevAt.reqd HCM.out.dev (vq := .slice (some ⟨g, 0, none⟩) (D.queue.length - 1) qc) (l := D.queue.eraseIdx i) (by rw [List.length_eraseIdx_of_lt hi]; exact HO3.out) HG3.out (fun k hk => .inl hk)
    have HC4 := Aside0.mk (HCM.out.step hreq.1 hreq.2 rfl)
    clear hreq HCM HO3 HG3 HDEL HGD c4 c4b x0 x1 x2 x3 hwi
    dsimp only at HC4
    generalize w3.setCell ⟨d, 4, none⟩ (.slice (some ⟨g, 0, none⟩) (D.queue.length - 1) qc) = w4 at HC4 ⊢
    obtain ⟨D4, hD4⟩ : ∃ D4, D4 = { T with queue := D.queue.eraseIdx i } := ⟨_, rfl⟩
    have HC4c := Aside0.mk (show D4.cache = D.cache from by rw [hD4]; exact HCT.out)
    rw [← hD4] at HC4 HRR
    clear hD4
    refine start_ (n := 12) (S := fun w' => True) (ds := []) #[false, false, false, false, false, false, false, false, false, false, false, false] (by kernel_rfl) rfl rfl trivial (fun hHeld => ?_)
    refine with_tabW nvme_Complete14.tab14 nvme_Complete14.bits14 (fun HT_ HW_ => ?_)
    have n0_ := Aside0.mk (HC4.out.below (below_drew1 (Below.refl _ _))); clear HC4; have HC4 := n0_; clear n0_; generalize w4.drew = wd at HC4 ⊢
    refine pure_ (i := 0) (N := some 78) (v := ?_) (a' := ?_) #[true, false, false, false, false, false, false, false, false, false, false, false] rfl rfl (any_of HT_.out (by kernel_rfl)) (fun _ _ _ h => h) (Or.inl ⟨by rfl, ?_⟩) ?_ ?_
    rotate_left
    · intro w'
      go_simp
      with_reducible rfl
    rotate_left
    · simp only [Act.put, List.setIfInBounds_toArray, List.set_cons_zero, List.set_cons_succ, i64_w, i32_w]
      rfl
    refine pure_ (i := 1) (N := some 79) (v := ?_) (a' := ?_) #[true, true, false, false, false, false, false, false, false, false, false, false] rfl rfl (any_of HT_.out (by kernel_rfl)) (fun _ _ _ h => h) (Or.inl ⟨by rfl, ?_⟩) ?_ ?_
    rotate_left
    · intro w'
      go_simp
      with_reducible rfl
    rotate_left
    · simp only [Act.put, List.setIfInBounds_toArray, List.set_cons_zero, List.set_cons_succ, i64_w, i32_w]
      rfl
    refine pure_ (i := 3) (N := some 81) (v := ?_) (a' := ?_) #[true, true, false, true, false, false, false, false, false, false, false, false] rfl rfl (any_of HT_.out (by kernel_rfl)) (fun _ _ _ h => h) (Or.inl ⟨by rfl, ?_⟩) ?_ ?_
    rotate_left
    · intro w'
      go_simp
      with_reducible rfl
    rotate_left
    · simp only [Act.put, List.setIfInBounds_toArray, List.set_cons_zero, List.set_cons_succ, i64_w, i32_w]
      rfl
    refine pure_ (i := 4) (N := some 82) (v := ?_) (a' := ?_) #[true, true, false, true, true, false, false, false, false, false, false, false] rfl rfl (any_of HT_.out (by kernel_rfl)) (fun _ _ _ h => h) (Or.inl ⟨by rfl, ?_⟩) ?_ ?_
    rotate_left
    · intro w'
      go_simp
      with_reducible rfl
    rotate_left
    · simp only [Act.put, List.setIfInBounds_toArray, List.set_cons_zero, List.set_cons_succ, i64_w, i32_w]
      rfl
    refine pure_ (i := 8) (N := some 86) (v := ?_) (a' := ?_) #[true, true, false, true, true, false, false, false, true, false, false, false] rfl rfl (any_of HT_.out (by kernel_rfl)) (fun _ _ _ h => h) (Or.inl ⟨by rfl, ?_⟩) ?_ ?_
    rotate_left
    · intro w'
      go_simp
      with_reducible rfl
    rotate_left
    · simp only [Act.put, List.setIfInBounds_toArray, List.set_cons_zero, List.set_cons_succ, i64_w, i32_w]
      rfl
    refine pure_ (i := 9) (N := some 87) (v := ?_) (a' := ?_) #[true, true, false, true, true, false, false, false, true, true, false, false] rfl rfl (any_of HT_.out (by kernel_rfl)) (fun _ _ _ h => h) (Or.inl ⟨by rfl, ?_⟩) ?_ ?_
    rotate_left
    · intro w'
      go_simp
      with_reducible rfl
    rotate_left
    · simp only [Act.put, List.setIfInBounds_toArray, List.set_cons_zero, List.set_cons_succ, i64_w, i32_w]
      rfl
    refine inv_at [2, 5, 6, 7, 10, 11] (fun a0_ b a w' => a = putSel a0_ b [(2, 80, .int .i64 2), (5, 83, .pointer (some ⟨d, 10, none⟩)), (6, 84, .int .i64 D4.c2), (7, 85, .int .i64 (wrap64 (D4.c2 + 1))), (10, 88, .pointer (some ⟨d, 10, none⟩))] ∧ (b 11 = false → CAt B w ⟨d, mb, .slice cA D.cache.length cc, .slice (some ⟨g, 0, none⟩) D.queue.length qc, .slice kA D.keep.length kc⟩ w' ⟨d, mb, .slice cA D.cache.length cc, .slice (some ⟨g, 0, none⟩) (D.queue.length - 1) qc, .slice kA D.keep.length kc⟩ D4 b0 bx c) ∧ (b 11 = true → CAt B w ⟨d, mb, .slice cA D.cache.length cc, .slice (some ⟨g, 0, none⟩) D.queue.length qc, .slice kA D.keep.length kc⟩ w' ⟨d, mb, .slice cA D.cache.length cc, .slice (some ⟨g, 0, none⟩) (D.queue.length - 1) qc, .slice kA D.keep.length kc⟩ (D4.bump 2) b0 bx c)) HT_.out HW_.out (by kernel_rfl) (by kernel_rfl) ?_ ?_ ?_
    · exact ⟨by simp only [putSel, Bool.false_eq_true, if_false], fun _ => HC4.out, fun h_ => absurd h_ (by decide)⟩
    · skip
      clear HC4
      refine steps_cons ?_ ?_
      · rintro b a w' ⟨ha, Q_HC4, Q_HF⟩ hb_ hon hoff
        refine ⟨_, rfl, fun K hK => ?_⟩
        have e79 : a.tmps[79]? = some (.pointer (some ⟨bx, 0, none⟩)) := by rw [ha]; exact (putSel_off rfl).trans rfl
        replace ha := Aside0.mk ha
        have HC4 := Aside0.mk (Q_HC4 (hoff 11 (by kernel_rfl)))
        have hx_ : w'.cell? ⟨bx, 0, none⟩ = some (.int .i64 2) := (blk_cell HC4.out.box 0).trans (by rw [HKind.out]; rfl)
        refine value_ (w1 := w') (v := .int .i64 2) (by rfl) rfl ?_ ?_
        · go_simp
          (try simp only [i64_w])
          try rfl
        refine hK.out _ _ ⟨(by rw [ha.out]; exact putSel_upk 0 hb_ rfl rfl rfl), Q_HC4, fun h0_ => absurd ((hoff 11 (by kernel_rfl)).symm.trans h0_) (by decide)⟩
      refine steps_cons ?_ ?_
      · rintro b a w' ⟨ha, Q_HC4, Q_HF⟩ hb_ hon hoff
        refine ⟨_, rfl, fun K hK => ?_⟩
        have e82 : a.tmps[82]? = some (.pointer (some ⟨d, 8, none⟩)) := by rw [ha]; exact (putSel_off rfl).trans rfl
        have e80 : a.tmps[80]? = some (.int .i64 2) := by rw [ha]; exact putSel_on (e := (2, 80, .int .i64 2)) 0 rfl rfl (hon 2 (by kernel_rfl)) rfl
        replace ha := Aside0.mk ha
        have HC4 := Aside0.mk (Q_HC4 (hoff 11 (by kernel_rfl)))
        refine value_ (w1 := w') (v := .pointer (some ⟨d, 10, none⟩)) (by rfl) rfl ?_ ?_
        · go_simp
          (try simp only [i64_w])
          try rfl
        refine hK.out _ _ ⟨(by rw [ha.out]; exact putSel_upk 1 hb_ rfl rfl rfl), Q_HC4, fun h0_ => absurd ((hoff 11 (by kernel_rfl)).symm.trans h0_) (by decide)⟩
      refine steps_cons ?_ ?_
      · rintro b a w' ⟨ha, Q_HC4, Q_HF⟩ hb_ hon hoff
        refine ⟨_, rfl, fun K hK => ?_⟩
        have e83 : a.tmps[83]? = some (.pointer (some ⟨d, 10, none⟩)) := by rw [ha]; exact putSel_on (e := (5, 83, .pointer (some ⟨d, 10, none⟩))) 1 rfl rfl (hon 5 (by kernel_rfl)) rfl
        replace ha := Aside0.mk ha
        have HC4 := Aside0.mk (Q_HC4 (hoff 11 (by kernel_rfl)))
        have hx_ := (blk_cell HC4.out.dev.2.2.2.1 10).trans rfl
        refine value_ (w1 := w') (v := .int .i64 D4.c2) (by rfl) rfl ?_ ?_
        · go_simp
          (try simp only [i64_w])
          try rfl
        refine hK.out _ _ ⟨(by rw [ha.out]; exact putSel_upk 2 hb_ rfl rfl rfl), Q_HC4, fun h0_ => absurd ((hoff 11 (by kernel_rfl)).symm.trans h0_) (by decide)⟩
      refine steps_cons ?_ ?_
      · rintro b a w' ⟨ha, Q_HC4, Q_HF⟩ hb_ hon hoff
        refine ⟨_, rfl, fun K hK => ?_⟩
        have e84 : a.tmps[84]? = some (.int .i64 D4.c2) := by rw [ha]; exact putSel_on (e := (6, 84, .int .i64 D4.c2)) 2 rfl rfl (hon 6 (by kernel_rfl)) rfl
        replace ha := Aside0.mk ha
        have HC4 := Aside0.mk (Q_HC4 (hoff 11 (by kernel_rfl)))
        refine value_ (w1 := w') (v := .int .i64 (wrap64 (D4.c2 + 1))) (by rfl) rfl ?_ ?_
        · go_simp
          (try simp only [i64_w])
          try rfl
        refine hK.out _ _ ⟨(by rw [ha.out]; exact putSel_upk 3 hb_ rfl rfl rfl), Q_HC4, fun h0_ => absurd ((hoff 11 (by kernel_rfl)).symm.trans h0_) (by decide)⟩
      refine steps_cons ?_ ?_
      · rintro b a w' ⟨ha, Q_HC4, Q_HF⟩ hb_ hon hoff
        refine ⟨_, rfl, fun K hK => ?_⟩
        have e87 : a.tmps[87]? = some (.pointer (some ⟨d, 8, none⟩)) := by rw [ha]; exact (putSel_off rfl).trans rfl
        have e80 : a.tmps[80]? = some (.int .i64 2) := by rw [ha]; exact putSel_on (e := (2, 80, .int .i64 2)) 0 rfl rfl (hon 2 (by kernel_rfl)) rfl
        replace ha := Aside0.mk ha
        have HC4 := Aside0.mk (Q_HC4 (hoff 11 (by kernel_rfl)))
        refine value_ (w1 := w') (v := .pointer (some ⟨d, 10, none⟩)) (by rfl) rfl ?_ ?_
        · go_simp
          (try simp only [i64_w])
          try rfl
        refine hK.out _ _ ⟨(by rw [ha.out]; exact putSel_upk 4 hb_ rfl rfl rfl), Q_HC4, fun h0_ => absurd ((hoff 11 (by kernel_rfl)).symm.trans h0_) (by decide)⟩
      refine steps_cons ?_ ?_
      · rintro b a w' ⟨ha, Q_HC4, Q_HF⟩ hb_ hon hoff
        refine ⟨_, rfl, fun K hK => ?_⟩
        have e88 : a.tmps[88]? = some (.pointer (some ⟨d, 10, none⟩)) := by rw [ha]; exact putSel_on (e := (10, 88, .pointer (some ⟨d, 10, none⟩))) 4 rfl rfl (hon 10 (by kernel_rfl)) rfl
        have e85 : a.tmps[85]? = some (.int .i64 (wrap64 (D4.c2 + 1))) := by rw [ha]; exact putSel_on (e := (7, 85, .int .i64 (wrap64 (D4.c2 + 1)))) 3 rfl rfl (hon 7 (by kernel_rfl)) rfl
        replace ha := Aside0.mk ha
        have HC4 := Aside0.mk (Q_HC4 hb_)
        have hx_ := (blk_cell HC4.out.dev.2.2.2.1 10).trans rfl
        have hf_ := blk_frozen HC4.out.dev.2.2.2.1 10
        refine skip_ (w1 := w'.setCell ⟨d, 10, none⟩ (.int .i64 (wrap64 (D4.c2 + 1)))) (by rfl) rfl ?_ ?_
        · go_simp
          try rfl
        refine hK.out _ _ ⟨(by rw [ha.out]; exact putSel_none (v := undef) rfl), fun h0_ => absurd ((up_self b 11).symm.trans h0_) (by decide), fun h0_ => HC4.out.step (HC4.out.dev.bumped).2.1.1 (HC4.out.dev.bumped).2.1.2 rfl⟩
      exact steps_nil
    rintro b a w7 hall ⟨ha, Q_HC4, Q_HF⟩
    clear HC4
    have hb2_ := hall 2 (by kernel_rfl)
    have hb5_ := hall 5 (by kernel_rfl)
    have hb6_ := hall 6 (by kernel_rfl)
    have hb7_ := hall 7 (by kernel_rfl)
    have hb10_ := hall 10 (by kernel_rfl)
    have hb11_ := hall 11 (by kernel_rfl)
    subst ha
    simp only [putSel, hb2_, hb5_, hb6_, hb7_, hb10_, hb11_, if_true, Act.put, List.setIfInBounds_toArray, List.set_cons_zero, List.set_cons_succ]
    clear Q_HC4
    have HF := Aside0.mk (Q_HF hb11_)
    clear Q_HF
    clear hall hb2_ hb5_ hb6_ hb7_ hb10_ hb11_
    have HC5 := HF
    clear HF
    have q1 : (c.kind == 1) = false := by rw [HKind.out]; rfl
    have q2 : (c.kind == 2) = true := by rw [HKind.out]; rfl
    have q3 : (c.kind == 3) = false := by rw [HKind.out]; rfl
    have q4 : (c.kind == 4) = false := by rw [HKind.out]; rfl
    have y0 := (blk_cell HC5.out.box 0).trans rfl
    have y1 := (blk_cell HC5.out.box 1).trans rfl
    have y2 := (blk_cell HC5.out.box 2).trans rfl
    have y3 := (blk_cell HC5.out.box 3).trans rfl
    go_upto_region 22 with (fail)
    obtain ⟨w5, hw5⟩ : ∃ w5, w5 = w7 := ⟨_, rfl⟩
    obtain ⟨D5, hD5⟩ : ∃ D5, D5 = D4.bump 2 := ⟨_, rfl⟩
    have hD5c : D5.cache = D.cache := by rw [hD5]; exact HC4c.out
    have hR5 : R = (c, { D5 with cache := D5.cache ++ [c] }) := by
      rw [HRR.out, HKind.out, ← hD5]
      unfold Dev.carry
      rw [if_neg (by rw [HKind.out]; decide), if_neg (by rw [HKind.out]; decide), if_pos HKind.out]
    have HR5 := Aside0.mk hR5
    rw [← hD5] at HC5
    have HL := Aside0.mk (show D5.cache.length < 1000000000 by rw [hD5c]; exact Nat.lt_trans HC.out (by decide))
    have HCW := Aside0.mk (by rw [hw5]; exact HC5.out : CAt B w ⟨d, mb, .slice cA D.cache.length cc, .slice (some ⟨g, 0, none⟩) D.queue.length qc, .slice kA D.keep.length kc⟩ w5 ⟨d, mb, .slice cA D.cache.length cc, .slice (some ⟨g, 0, none⟩) (D.queue.length - 1) qc, .slice kA D.keep.length kc⟩ D5 b0 bx c)
    have HK := Aside0.mk (by rw [hw5]; exact DKeep.refl _ _ : DKeep ⟨d, mb, .slice cA D.cache.length cc, .slice (some ⟨g, 0, none⟩) (D.queue.length - 1) qc, .slice kA D.keep.length kc⟩ ⟨d, mb, .slice cA D.cache.length cc, .slice (some ⟨g, 0, none⟩) (D.queue.length - 1) qc, .slice kA D.keep.length kc⟩ w5 w7)
    have HD := Aside0.mk HC5.out.dev
    have HCo := Aside0.mk HC5.out.box
    have HSo := Aside0.mk HC5.out.size
    clear HC HS HRR HC5 y0 y1 y2 y3 hD5 hw5 hR5 hD5c
    have HC := HCo
    have HS := HSo
    clear HCo HSo
    refine start_ (n := 11) (S := fun w' => True) (ds := []) #[false, false, false, false, false, false, false, false, false, false, false] (by kernel_rfl) rfl rfl trivial (fun hHeld => ?_)
    refine with_tabW nvme_Complete22.tab22 nvme_Complete22.bits22 (fun HT_ HW_ => ?_)
    have n0_ := Aside0.mk HD.out.drew; have n1_ := Aside0.mk HK.out.drew; have n2_ := Aside0.mk (blk_drew HC.out); have n3_ := Aside0.mk (show B ≤ w7.drew.heap.size from HS.out); clear HD HK HC HS; have HD := n0_; have HK := n1_; have HC := n2_; have HS := n3_; clear n0_ n1_ n2_ n3_; generalize w7.drew = wd at HD HK HC HS ⊢
    refine pure_ (i := 0) (N := some 118) (v := ?_) (a' := ?_) #[true, false, false, false, false, false, false, false, false, false, false] rfl rfl (any_of HT_.out (by kernel_rfl)) (fun _ _ _ h => h) (Or.inl ⟨by rfl, ?_⟩) ?_ ?_
    rotate_left
    · intro w'
      go_simp
      with_reducible rfl
    rotate_left
    · simp only [Act.put, List.setIfInBounds_toArray, List.set_cons_zero, List.set_cons_succ, i64_w, i32_w]
      rfl
    refine pure_ (i := 1) (N := some 119) (v := ?_) (a' := ?_) #[true, true, false, false, false, false, false, false, false, false, false] rfl rfl (any_of HT_.out (by kernel_rfl)) (fun _ _ _ h => h) (Or.inl ⟨by rfl, ?_⟩) ?_ ?_
    rotate_left
    · intro w'
      go_simp
      with_reducible rfl
    rotate_left
    · simp only [Act.put, List.setIfInBounds_toArray, List.set_cons_zero, List.set_cons_succ, i64_w, i32_w]
      rfl
    refine pure_ (i := 2) (N := some 120) (v := ?_) (a' := ?_) #[true, true, true, false, false, false, false, false, false, false, false] rfl rfl (any_of HT_.out (by kernel_rfl)) (fun _ _ _ h => h) (Or.inl ⟨by rfl, ?_⟩) ?_ ?_
    rotate_left
    · intro w'
      go_simp
      with_reducible rfl
    rotate_left
    · simp only [Act.put, List.setIfInBounds_toArray, List.set_cons_zero, List.set_cons_succ, i64_w, i32_w]
      rfl
    refine pure_ (i := 3) (N := some 121) (v := ?_) (a' := ?_) #[true, true, true, true, false, false, false, false, false, false, false] rfl rfl (any_of HT_.out (by kernel_rfl)) (fun _ _ _ h => h) (Or.inl ⟨by rfl, ?_⟩) ?_ ?_
    rotate_left
    · intro w'
      go_simp
      with_reducible rfl
    rotate_left
    · simp only [Act.put, List.setIfInBounds_toArray, List.set_cons_zero, List.set_cons_succ, i64_w, i32_w]
      rfl
    refine inv_at [4, 5, 6, 7, 8, 9, 10] (fun a0_ b a w' => ∃ (b6 : Nat) (g7 : Nat) (n7 : Nat) (m6_ : Value) (m7_ : Value), a = putSel a0_ b [(4, 122, .slice cA D.cache.length cc), (5, 123, .agg #[.int .i64 c.kind, .int .i64 c.sector, .string c.data, .int .i64 c.tag]), (6, 124, m6_), (7, 125, m7_), (8, 126, .pointer (some ⟨d, 0, none⟩)), (9, 127, .pointer (some ⟨d, 3, none⟩))] ∧ (b 7 = false → DevAt B w' ⟨d, mb, .slice cA D.cache.length cc, .slice (some ⟨g, 0, none⟩) (D.queue.length - 1) qc, .slice kA D.keep.length kc⟩ D5) ∧ (b 7 = false → DKeep ⟨d, mb, .slice cA D.cache.length cc, .slice (some ⟨g, 0, none⟩) (D.queue.length - 1) qc, .slice kA D.keep.length kc⟩ ⟨d, mb, .slice cA D.cache.length cc, .slice (some ⟨g, 0, none⟩) (D.queue.length - 1) qc, .slice kA D.keep.length kc⟩ w5 w') ∧ (b 7 = false → w'.heap[bx]? = some (.cells #[.int .i64 c.kind, .int .i64 c.sector, .string c.data, .int .i64 c.tag] 38 (0, 0))) ∧ (b 7 = false → B ≤ w'.heap.size) ∧ (b 6 = true → b 7 = false → w'.heap[b6]? = some (.cells #[.int .i64 c.kind, .int .i64 c.sector, .string c.data, .int .i64 c.tag] 38 (0, 0))) ∧ (b 7 = true → b 10 = false → w'.heap[d]? = some (.cells (D5.cells ⟨d, mb, .slice cA D.cache.length cc, .slice (some ⟨g, 0, none⟩) (D.queue.length - 1) qc, .slice kA D.keep.length kc⟩) 78 (0, 0)) ∧ DevAt B (w'.setCell ⟨d, 3, none⟩ (.slice (some ⟨g7, 0, none⟩) (D5.cache ++ [c]).length n7)) ⟨d, mb, .slice (some ⟨g7, 0, none⟩) (D5.cache ++ [c]).length n7, .slice (some ⟨g, 0, none⟩) (D.queue.length - 1) qc, .slice kA D.keep.length kc⟩ { D5 with cache := D5.cache ++ [c] } ∧ DKeep ⟨d, mb, .slice cA D.cache.length cc, .slice (some ⟨g, 0, none⟩) (D.queue.length - 1) qc, .slice kA D.keep.length kc⟩ ⟨d, mb, .slice (some ⟨g7, 0, none⟩) (D5.cache ++ [c]).length n7, .slice (some ⟨g, 0, none⟩) (D.queue.length - 1) qc, .slice kA D.keep.length kc⟩ w5 (w'.setCell ⟨d, 3, none⟩ (.slice (some ⟨g7, 0, none⟩) (D5.cache ++ [c]).length n7))) ∧ (b 7 = true → b 10 = true → DevAt B w' ⟨d, mb, .slice (some ⟨g7, 0, none⟩) (D5.cache ++ [c]).length n7, .slice (some ⟨g, 0, none⟩) (D.queue.length - 1) qc, .slice kA D.keep.length kc⟩ { D5 with cache := D5.cache ++ [c] } ∧ DKeep ⟨d, mb, .slice cA D.cache.length cc, .slice (some ⟨g, 0, none⟩) (D.queue.length - 1) qc, .slice kA D.keep.length kc⟩ ⟨d, mb, .slice (some ⟨g7, 0, none⟩) (D5.cache ++ [c]).length n7, .slice (some ⟨g, 0, none⟩) (D.queue.length - 1) qc, .slice kA D.keep.length kc⟩ w5 w') ∧ (b 6 = true → (m6_ : Value) = .slice (some ⟨b6, 0, none⟩) 1 1) ∧ (b 7 = true → (m7_ : Value) = .slice (some ⟨g7, 0, none⟩) (D5.cache ++ [c]).length n7)) HT_.out HW_.out (by kernel_rfl) (by kernel_rfl) ?_ ?_ ?_
    · exact ⟨0, 0, 0, .bool false, .bool false, by simp only [putSel, Bool.false_eq_true, if_false], fun _ => HD.out, fun _ => HK.out, fun _ => HC.out, fun _ => HS.out, fun h_ => absurd h_ (by decide), fun h_ => absurd h_ (by decide), fun h_ => absurd h_ (by decide), fun h_ => absurd h_ (by decide), fun h_ => absurd h_ (by decide)⟩
    · skip
      clear HC HD HK HS
      refine steps_cons ?_ ?_
      · rintro b a w' ⟨b6, g7, n7, m6_, m7_, ha, Q_HD, Q_HK, Q_HC, Q_HS, Q_HP, Q_HA, Q_HF, Q_X6_, Q_X7_⟩ hb_ hon hoff
        refine ⟨_, rfl, fun K hK => ?_⟩
        have e121 : a.tmps[121]? = some (.pointer (some ⟨d, 3, none⟩)) := by rw [ha]; exact (putSel_off rfl).trans rfl
        replace ha := Aside0.mk ha
        have HD := Aside0.mk (Q_HD (hoff 7 (by kernel_rfl)))
        have HK := Aside0.mk (Q_HK (hoff 7 (by kernel_rfl)))
        have HC := Aside0.mk (Q_HC (hoff 7 (by kernel_rfl)))
        have HS := Aside0.mk (Q_HS (hoff 7 (by kernel_rfl)))
        have hx_ := (blk_cell HD.out.2.2.2.1 3).trans rfl
        refine value_ (w1 := w') (v := .slice cA D.cache.length cc) (by rfl) rfl ?_ ?_
        · go_simp
          (try simp only [i64_w])
          try rfl
        refine hK.out _ _ ⟨b6, g7, n7, m6_, m7_, (by rw [ha.out]; exact putSel_upk 0 hb_ rfl rfl rfl), Q_HD, Q_HK, Q_HC, Q_HS, Q_HP, fun h0_ _ => absurd ((hoff 7 (by kernel_rfl)).symm.trans h0_) (by decide), fun h0_ _ => absurd ((hoff 7 (by kernel_rfl)).symm.trans h0_) (by decide), Q_X6_, fun h0_ => absurd ((hoff 7 (by kernel_rfl)).symm.trans h0_) (by decide)⟩
      refine steps_cons ?_ ?_
      · rintro b a w' ⟨b6, g7, n7, m6_, m7_, ha, Q_HD, Q_HK, Q_HC, Q_HS, Q_HP, Q_HA, Q_HF, Q_X6_, Q_X7_⟩ hb_ hon hoff
        refine ⟨_, rfl, fun K hK => ?_⟩
        have e6 : a.tmps[6]? = some (.pointer (some ⟨bx, 0, none⟩)) := by rw [ha]; exact (putSel_off rfl).trans rfl
        replace ha := Aside0.mk ha
        have HD := Aside0.mk (Q_HD (hoff 7 (by kernel_rfl)))
        have HK := Aside0.mk (Q_HK (hoff 7 (by kernel_rfl)))
        have HC := Aside0.mk (Q_HC (hoff 7 (by kernel_rfl)))
        have HS := Aside0.mk (Q_HS (hoff 7 (by kernel_rfl)))
        have hx0 := (blk_cell HC.out 0).trans rfl
        have hx1 := (blk_cell HC.out 1).trans rfl
        have hx2 := (blk_cell HC.out 2).trans rfl
        have hx3 := (blk_cell HC.out 3).trans rfl
        refine value_ (w1 := w') (v := .agg #[.int .i64 c.kind, .int .i64 c.sector, .string c.data, .int .i64 c.tag]) (by rfl) rfl ?_ ?_
        · go_simp
          (try simp only [i64_w])
          try rfl
        refine hK.out _ _ ⟨b6, g7, n7, m6_, m7_, (by rw [ha.out]; exact putSel_upk 1 hb_ rfl rfl rfl), Q_HD, Q_HK, Q_HC, Q_HS, fun h0_ _ => absurd ((hoff 6 (by kernel_rfl)).symm.trans h0_) (by decide), fun h0_ _ => absurd ((hoff 7 (by kernel_rfl)).symm.trans h0_) (by decide), fun h0_ _ => absurd ((hoff 7 (by kernel_rfl)).symm.trans h0_) (by decide), fun h0_ => absurd ((hoff 6 (by kernel_rfl)).symm.trans h0_) (by decide), fun h0_ => absurd ((hoff 7 (by kernel_rfl)).symm.trans h0_) (by decide)⟩
      refine steps_cons ?_ ?_
      · rintro b a w' ⟨b6, g7, n7, m6_, m7_, ha, Q_HD, Q_HK, Q_HC, Q_HS, Q_HP, Q_HA, Q_HF, Q_X6_, Q_X7_⟩ hb_ hon hoff
        refine ⟨_, rfl, fun K hK => ?_⟩
        have e123 : a.tmps[123]? = some (.agg #[.int .i64 c.kind, .int .i64 c.sector, .string c.data, .int .i64 c.tag]) := by rw [ha]; exact putSel_on (e := (5, 123, .agg #[.int .i64 c.kind, .int .i64 c.sector, .string c.data, .int .i64 c.tag])) 1 rfl rfl (hon 5 (by kernel_rfl)) rfl
        replace ha := Aside0.mk ha
        have HD := Aside0.mk (Q_HD (hoff 7 (by kernel_rfl)))
        have HK := Aside0.mk (Q_HK (hoff 7 (by kernel_rfl)))
        have HC := Aside0.mk (Q_HC (hoff 7 (by kernel_rfl)))
        have HS := Aside0.mk (Q_HS (hoff 7 (by kernel_rfl)))
        refine value_ (w1 := w'.alloc (.cells #[.int .i64 c.kind, .int .i64 c.sector, .string c.data, .int .i64 c.tag] 38)) (v := .slice (some ⟨w'.heap.size, 0, none⟩) 1 1) (by rfl) rfl ?_ ?_
        · go_simp
        refine hK.out _ _ ⟨w'.heap.size, g7, n7, (.slice (some ⟨w'.heap.size, 0, none⟩) 1 1), m7_, (by rw [ha.out]; exact putSel_upk 2 hb_ rfl rfl rfl), fun _ => (fun hd_ hb_ => DevAt.below hd_ hb_) (HD.out) ((below_alloc (Below.refl _ _) (.cells #[.int .i64 c.kind, .int .i64 c.sector, .string c.data, .int .i64 c.tag] 38))), fun _ => (fun hd_ hb_ => DKeep.trans hd_ (dkeep_of hb_ _)) (HK.out) ((below_alloc (Below.refl _ _) (.cells #[.int .i64 c.kind, .int .i64 c.sector, .string c.data, .int .i64 c.tag] 38))), fun _ => blk_below HC.out (below_alloc (Below.refl _ _) (.cells #[.int .i64 c.kind, .int .i64 c.sector, .string c.data, .int .i64 c.tag] 38)), fun _ => Nat.le_trans HS.out (Below.size (below_alloc (Below.refl _ _) (.cells #[.int .i64 c.kind, .int .i64 c.sector, .string c.data, .int .i64 c.tag] 38))), fun h0_ h1_ => heap_alloc_new w' (.cells #[.int .i64 c.kind, .int .i64 c.sector, .string c.data, .int .i64 c.tag] 38), fun h0_ _ => absurd ((hoff 7 (by kernel_rfl)).symm.trans h0_) (by decide), fun h0_ _ => absurd ((hoff 7 (by kernel_rfl)).symm.trans h0_) (by decide), fun _ => rfl, fun h0_ => absurd ((hoff 7 (by kernel_rfl)).symm.trans h0_) (by decide)⟩
      refine steps_cons ?_ ?_
      · rintro b a w' ⟨b6, g7, n7, m6_, m7_, ha, Q_HD, Q_HK, Q_HC, Q_HS, Q_HP, Q_HA, Q_HF, Q_X6_, Q_X7_⟩ hb_ hon hoff
        refine ⟨_, rfl, fun K hK => ?_⟩
        have e122 : a.tmps[122]? = some (.slice cA D.cache.length cc) := by rw [ha]; exact putSel_on (e := (4, 122, .slice cA D.cache.length cc)) 0 rfl rfl (hon 4 (by kernel_rfl)) rfl
        have e124 : a.tmps[124]? = some (m6_) := by rw [ha]; exact putSel_on (e := (6, 124, m6_)) 2 rfl rfl (hon 6 (by kernel_rfl)) rfl
        rw [Q_X6_ (hon 6 (by kernel_rfl))] at e124
        replace ha := Aside0.mk ha
        have HD := Aside0.mk (Q_HD hb_)
        have HK := Aside0.mk (Q_HK hb_)
        have HC := Aside0.mk (Q_HC hb_)
        have HS := Aside0.mk (Q_HS hb_)
        have HP := Aside0.mk (Q_HP (hon 6 (by kernel_rfl)) hb_)
        obtain ⟨g_, n_, wA, hr_, ha1_, ha2_, ha3_⟩ := dev_appc HD.out HS.out HL.out HP.out 1
        refine value_ (w1 := wA) (v := .slice (some ⟨g_, 0, none⟩) (D5.cache ++ [c]).length n_) (by rfl) rfl ?_ ?_
        · have hr2_ := hr_
          dsimp only at hr2_
          simp [execOp, resolve, invoke, builtin, Act.eval, hr2_, *]
        refine hK.out _ _ ⟨b6, g_, n_, m6_, (.slice (some ⟨g_, 0, none⟩) (D5.cache ++ [c]).length n_), (by rw [ha.out]; exact putSel_upk 3 hb_ rfl rfl rfl), fun h0_ => absurd ((up_self b 7).symm.trans h0_) (by decide), fun h0_ => absurd ((up_self b 7).symm.trans h0_) (by decide), fun h0_ => absurd ((up_self b 7).symm.trans h0_) (by decide), fun h0_ => absurd ((up_self b 7).symm.trans h0_) (by decide), fun _ h1_ => absurd ((up_self b 7).symm.trans h1_) (by decide), fun h0_ h1_ => ⟨ha1_, ha2_, HK.out.trans ha3_⟩, fun _ h1_ => absurd ((hoff 10 (by kernel_rfl)).symm.trans h1_) (by decide), Q_X6_, fun _ => rfl⟩
      refine steps_cons ?_ ?_
      · rintro b a w' ⟨b6, g7, n7, m6_, m7_, ha, Q_HD, Q_HK, Q_HC, Q_HS, Q_HP, Q_HA, Q_HF, Q_X6_, Q_X7_⟩ hb_ hon hoff
        refine ⟨_, rfl, fun K hK => ?_⟩
        have e118 : a.tmps[118]? = some (.pointer (some ⟨d, 0, none⟩)) := by rw [ha]; exact (putSel_off rfl).trans rfl
        replace ha := Aside0.mk ha
        have HA := Aside0.mk (Q_HA (hon 7 (by kernel_rfl)) (hoff 10 (by kernel_rfl)))
        refine value_ (w1 := w') (v := .pointer (some ⟨d, 0, none⟩)) (by rfl) rfl ?_ ?_
        · go_simp
          (try simp only [i64_w])
          try rfl
        refine hK.out _ _ ⟨b6, g7, n7, m6_, m7_, (by rw [ha.out]; exact putSel_upk 4 hb_ rfl rfl rfl), fun h0_ => absurd ((hon 7 (by kernel_rfl)).symm.trans h0_) (by decide), fun h0_ => absurd ((hon 7 (by kernel_rfl)).symm.trans h0_) (by decide), fun h0_ => absurd ((hon 7 (by kernel_rfl)).symm.trans h0_) (by decide), fun h0_ => absurd ((hon 7 (by kernel_rfl)).symm.trans h0_) (by decide), fun _ h1_ => absurd ((hon 7 (by kernel_rfl)).symm.trans h1_) (by decide), Q_HA, fun _ h1_ => absurd ((hoff 10 (by kernel_rfl)).symm.trans h1_) (by decide), Q_X6_, Q_X7_⟩
      refine steps_cons ?_ ?_
      · rintro b a w' ⟨b6, g7, n7, m6_, m7_, ha, Q_HD, Q_HK, Q_HC, Q_HS, Q_HP, Q_HA, Q_HF, Q_X6_, Q_X7_⟩ hb_ hon hoff
        refine ⟨_, rfl, fun K hK => ?_⟩
        have e126 : a.tmps[126]? = some (.pointer (some ⟨d, 0, none⟩)) := by rw [ha]; exact putSel_on (e := (8, 126, .pointer (some ⟨d, 0, none⟩))) 4 rfl rfl (hon 8 (by kernel_rfl)) rfl
        replace ha := Aside0.mk ha
        have HA := Aside0.mk (Q_HA (hon 7 (by kernel_rfl)) (hoff 10 (by kernel_rfl)))
        refine value_ (w1 := w') (v := .pointer (some ⟨d, 3, none⟩)) (by rfl) rfl ?_ ?_
        · go_simp
          (try simp only [i64_w])
          try rfl
        refine hK.out _ _ ⟨b6, g7, n7, m6_, m7_, (by rw [ha.out]; exact putSel_upk 5 hb_ rfl rfl rfl), fun h0_ => absurd ((hon 7 (by kernel_rfl)).symm.trans h0_) (by decide), fun h0_ => absurd ((hon 7 (by kernel_rfl)).symm.trans h0_) (by decide), fun h0_ => absurd ((hon 7 (by kernel_rfl)).symm.trans h0_) (by decide), fun h0_ => absurd ((hon 7 (by kernel_rfl)).symm.trans h0_) (by decide), fun _ h1_ => absurd ((hon 7 (by kernel_rfl)).symm.trans h1_) (by decide), Q_HA, fun _ h1_ => absurd ((hoff 10 (by kernel_rfl)).symm.trans h1_) (by decide), Q_X6_, Q_X7_⟩
      refine steps_cons ?_ ?_
      · rintro b a w' ⟨b6, g7, n7, m6_, m7_, ha, Q_HD, Q_HK, Q_HC, Q_HS, Q_HP, Q_HA, Q_HF, Q_X6_, Q_X7_⟩ hb_ hon hoff
        refine ⟨_, rfl, fun K hK => ?_⟩
        have e127 : a.tmps[127]? = some (.pointer (some ⟨d, 3, none⟩)) := by rw [ha]; exact putSel_on (e := (9, 127, .pointer (some ⟨d, 3, none⟩))) 5 rfl rfl (hon 9 (by kernel_rfl)) rfl
        have e125 : a.tmps[125]? = some (m7_) := by rw [ha]; exact putSel_on (e := (7, 125, m7_)) 3 rfl rfl (hon 7 (by kernel_rfl)) rfl
        rw [Q_X7_ (hon 7 (by kernel_rfl))] at e125
        replace ha := Aside0.mk ha
        have HA := Aside0.mk (Q_HA (hon 7 (by kernel_rfl)) hb_)
        have hx_ := (blk_cell HA.out.1 3).trans rfl
        have hf_ := blk_frozen HA.out.1 3
        refine skip_ (w1 := w'.setCell ⟨d, 3, none⟩ (.slice (some ⟨g7, 0, none⟩) (D5.cache ++ [c]).length n7)) (by rfl) rfl ?_ ?_
        · go_simp
          try rfl
        refine hK.out _ _ ⟨b6, g7, n7, m6_, m7_, (by rw [ha.out]; exact putSel_none (v := undef) rfl), fun h0_ => absurd ((hon 7 (by kernel_rfl)).symm.trans h0_) (by decide), fun h0_ => absurd ((hon 7 (by kernel_rfl)).symm.trans h0_) (by decide), fun h0_ => absurd ((hon 7 (by kernel_rfl)).symm.trans h0_) (by decide), fun h0_ => absurd ((hon 7 (by kernel_rfl)).symm.trans h0_) (by decide), fun _ h1_ => absurd ((hon 7 (by kernel_rfl)).symm.trans h1_) (by decide), fun _ h1_ => absurd ((up_self b 10).symm.trans h1_) (by decide), fun h0_ h1_ => HA.out.2, Q_X6_, Q_X7_⟩
      exact steps_nil
    rintro b a w8 hall ⟨b6, g7, n7, m6_, m7_, ha, Q_HD, Q_HK, Q_HC, Q_HS, Q_HP, Q_HA, Q_HF, Q_X6_, Q_X7_⟩
    clear HC HD HK HS
    have hb4_ := hall 4 (by kernel_rfl)
    have hb5_ := hall 5 (by kernel_rfl)
    have hb6_ := hall 6 (by kernel_rfl)
    have hb7_ := hall 7 (by kernel_rfl)
    have hb8_ := hall 8 (by kernel_rfl)
    have hb9_ := hall 9 (by kernel_rfl)
    have hb10_ := hall 10 (by kernel_rfl)
    subst ha
    obtain rfl := Q_X6_ hb6_
    obtain rfl := Q_X7_ hb7_
    simp only [putSel, hb4_, hb5_, hb6_, hb7_, hb8_, hb9_, hb10_, if_true, Act.put, List.setIfInBounds_toArray, List.set_cons_zero, List.set_cons_succ]
    clear Q_HD
    clear Q_HK
    clear Q_HC
    clear Q_HS
    clear Q_HP
    clear Q_HA
    have HF := Aside0.mk (Q_HF hb7_ hb10_)
    clear Q_HF
    clear hall hb4_ hb5_ hb6_ hb7_ hb8_ hb9_ hb10_
    have HC6 := Aside0.mk (HCW.out.step HF.out.1 HF.out.2 rfl)
    clear HF HCW
    obtain rfl : R = (c, { D5 with cache := D5.cache ++ [c] }) := HR5.out
    have z0 := (blk_cell HC6.out.box 0).trans rfl
    have z1 := (blk_cell HC6.out.box 1).trans rfl
    have z2 := (blk_cell HC6.out.box 2).trans rfl
    have z3 := (blk_cell HC6.out.box 3).trans rfl
    have r0 := (blk_cell HC6.out.res 0).trans rfl
    have r1 := (blk_cell HC6.out.res 1).trans rfl
    have r2 := (blk_cell HC6.out.res 2).trans rfl
    have r3 := (blk_cell HC6.out.res 3).trans rfl
    have g0 := blk_frozen HC6.out.res 0
    have g1 := blk_frozen HC6.out.res 1
    have g2 := blk_frozen HC6.out.res 2
    have g3 := blk_frozen HC6.out.res 3
    go_wp2_with (fail)
    refine bodyPost_ret (results_ct rfl _ _ b0 38 #[.int .i64 c.kind, .int .i64 c.sector, .string c.data, .int .i64 c.tag] (0, 0) _ rfl (set4c HC6.out.res) Tryd.underlying38 rfl (by kernel_rfl)) rfl ?_
    have hk9 := (((HC6.out.keep.setNew HC6.out.s0 0 (.int .i64 c.kind)).setNew HC6.out.s0 1 (.int .i64 c.sector)).setNew HC6.out.s0 2 (.string c.data)).setNew HC6.out.s0 3 (.int .i64 c.tag)
    have hd9 := (((HC6.out.dev.setOther HC6.out.n0 HC6.out.k0 0 (.int .i64 c.kind)).setOther HC6.out.n0 HC6.out.k0 1 (.int .i64 c.sector)).setOther HC6.out.n0 HC6.out.k0 2 (.string c.data)).setOther HC6.out.n0 HC6.out.k0 3 (.int .i64 c.tag)
    first | exact ⟨_, rfl, hd9, hk9⟩ | exact ⟨rfl, _, hd9, hk9⟩
  · have p4 : decide (1 < D.fail) = false := decide_eq_false hft
    have HT := Aside0.mk (tick_same D hft)
    clear hfw hw1 hft
    go_enter Tryd.func14, Tryd.ntmps14
    go_upto_region 12 with (fail)
    have HD1 := Aside0.mk (by rw [HT.out]; exact HD.out : DevAt B (w.alloc (.cells #[.int .i64 0, .int .i64 0, .string ⟨#[]⟩, .int .i64 0] 38)) ⟨d, mb, .slice cA D.cache.length cc, .slice (some ⟨g, 0, none⟩) D.queue.length qc, .slice kA D.keep.length kc⟩ D.tick)
    have HK1 := Aside0.mk (dkeep_of (below_alloc (Below.refl w.heap.size w) (.cells #[.int .i64 0, .int .i64 0, .string ⟨#[]⟩, .int .i64 0] 38)) ⟨d, mb, .slice cA D.cache.length cc, .slice (some ⟨g, 0, none⟩) D.queue.length qc, .slice kA D.keep.length kc⟩)
    have HR1 := Aside0.mk (heap_alloc_new w (.cells #[.int .i64 0, .int .i64 0, .string ⟨#[]⟩, .int .i64 0] 38))
    clear HT
    have HQT := Aside0.mk (tick_queue D)
    have HCT := Aside0.mk (tick_cache D)
    generalize D.tick = T at HD1 HQT HCT HRR ⊢
    generalize w.alloc (.cells #[.int .i64 0, .int .i64 0, .string ⟨#[]⟩, .int .i64 0] 38) = w1 at HD1 HK1 HR1 ⊢
    generalize hb0 : w.heap.size = b0 at HR1 HN HKN ⊢
    have HS0 := Aside0.mk (Nat.le_of_eq hb0)
    clear hb0 c4 c5 c6 f6 x0 x1 x2 x3 HD
    have HCM := Aside0.mk (CAt.made HS.out HD1.out HK1.out HR1.out HN.out HKN.out HS0.out c)
    have hrow := HD1.out.2.2.2.2.2.2.1
    rw [HQT.out] at hrow
    obtain ⟨x0, x1, x2, x3⟩ := row4_cell hrow i c HX.out
    have hrow2 := HCM.out.dev.2.2.2.2.2.2.1
    rw [HQT.out] at hrow2
    have HDEL := Aside0.mk (nDelete g qc D.queue i B _ hrow2 HI.out (Nat.lt_trans HQ.out (by decide)))
    have c4 := (blk_cell HD1.out.2.2.2.1 4).trans rfl
    have c4b := (blk_cell HCM.out.dev.2.2.2.1 4).trans rfl
    have hgd := (HD1.out.apart (g := g) (.inr rfl)).1
    have hdl := (Array.getElem?_eq_some_iff.1 HCM.out.dev.2.2.2.1).1
    have HGD := Aside0.mk (And.intro hgd hdl)
    have hwi := wr_succ i (Nat.lt_trans hi (Nat.lt_trans HQ.out (by decide)))
    clear hrow hrow2 hgd hdl HN HKN HK1 HR1
    generalize hbx : w1.heap.size = bx at HCM HDEL HGD ⊢
    go_wp2_with (first | (go_at_call 39; refine HDEL.out.mono ?_; rintro e w3 ⟨rfl, ho3, hg3⟩; have hd3 := (hg3.block d HGD.out.2 (fun e => HGD.out.1 (Option.some.inj e).symm)).trans HCM.out.dev.2.2.2.1; have c43 := (blk_cell hd3 4).trans rfl; have f43 := blk_frozen hd3 4; have HG3 := Aside0.mk hg3; have HO3 := Aside0.mk ho3; clear ho3 hg3 hd3) | fail)
    have hreq := DevAt.reqd HCM.out.dev (vq := .slice (some ⟨g, 0, none⟩) (D.queue.length - 1) qc) (l := D.queue.eraseIdx i) (by rw [List.length_eraseIdx_of_lt hi]; exact HO3.out) HG3.out (fun k hk => .inl hk)
    have HC4 := Aside0.mk (HCM.out.step hreq.1 hreq.2 rfl)
    clear hreq HCM HO3 HG3 HDEL HGD c4 c4b x0 x1 x2 x3 hwi
    dsimp only at HC4
    generalize w3.setCell ⟨d, 4, none⟩ (.slice (some ⟨g, 0, none⟩) (D.queue.length - 1) qc) = w4 at HC4 ⊢
    obtain ⟨D4, hD4⟩ : ∃ D4, D4 = { T with queue := D.queue.eraseIdx i } := ⟨_, rfl⟩
    have HC4c := Aside0.mk (show D4.cache = D.cache from by rw [hD4]; exact HCT.out)
    rw [← hD4] at HC4 HRR
    clear hD4
    refine start_ (n := 12) (S := fun w' => True) (ds := []) #[false, false, false, false, false, false, false, false, false, false, false, false] (by kernel_rfl) rfl rfl trivial (fun hHeld => ?_)
    refine with_tabW nvme_Complete14.tab14 nvme_Complete14.bits14 (fun HT_ HW_ => ?_)
    have n0_ := Aside0.mk (HC4.out.below (below_drew1 (Below.refl _ _))); clear HC4; have HC4 := n0_; clear n0_; generalize w4.drew = wd at HC4 ⊢
    refine pure_ (i := 0) (N := some 78) (v := ?_) (a' := ?_) #[true, false, false, false, false, false, false, false, false, false, false, false] rfl rfl (any_of HT_.out (by kernel_rfl)) (fun _ _ _ h => h) (Or.inl ⟨by rfl, ?_⟩) ?_ ?_
    rotate_left
    · intro w'
      go_simp
      with_reducible rfl
    rotate_left
    · simp only [Act.put, List.setIfInBounds_toArray, List.set_cons_zero, List.set_cons_succ, i64_w, i32_w]
      rfl
    refine pure_ (i := 1) (N := some 79) (v := ?_) (a' := ?_) #[true, true, false, false, false, false, false, false, false, false, false, false] rfl rfl (any_of HT_.out (by kernel_rfl)) (fun _ _ _ h => h) (Or.inl ⟨by rfl, ?_⟩) ?_ ?_
    rotate_left
    · intro w'
      go_simp
      with_reducible rfl
    rotate_left
    · simp only [Act.put, List.setIfInBounds_toArray, List.set_cons_zero, List.set_cons_succ, i64_w, i32_w]
      rfl
    refine pure_ (i := 3) (N := some 81) (v := ?_) (a' := ?_) #[true, true, false, true, false, false, false, false, false, false, false, false] rfl rfl (any_of HT_.out (by kernel_rfl)) (fun _ _ _ h => h) (Or.inl ⟨by rfl, ?_⟩) ?_ ?_
    rotate_left
    · intro w'
      go_simp
      with_reducible rfl
    rotate_left
    · simp only [Act.put, List.setIfInBounds_toArray, List.set_cons_zero, List.set_cons_succ, i64_w, i32_w]
      rfl
    refine pure_ (i := 4) (N := some 82) (v := ?_) (a' := ?_) #[true, true, false, true, true, false, false, false, false, false, false, false] rfl rfl (any_of HT_.out (by kernel_rfl)) (fun _ _ _ h => h) (Or.inl ⟨by rfl, ?_⟩) ?_ ?_
    rotate_left
    · intro w'
      go_simp
      with_reducible rfl
    rotate_left
    · simp only [Act.put, List.setIfInBounds_toArray, List.set_cons_zero, List.set_cons_succ, i64_w, i32_w]
      rfl
    refine pure_ (i := 8) (N := some 86) (v := ?_) (a' := ?_) #[true, true, false, true, true, false, false, false, true, false, false, false] rfl rfl (any_of HT_.out (by kernel_rfl)) (fun _ _ _ h => h) (Or.inl ⟨by rfl, ?_⟩) ?_ ?_
    rotate_left
    · intro w'
      go_simp
      with_reducible rfl
    rotate_left
    · simp only [Act.put, List.setIfInBounds_toArray, List.set_cons_zero, List.set_cons_succ, i64_w, i32_w]
      rfl
    refine pure_ (i := 9) (N := some 87) (v := ?_) (a' := ?_) #[true, true, false, true, true, false, false, false, true, true, false, false] rfl rfl (any_of HT_.out (by kernel_rfl)) (fun _ _ _ h => h) (Or.inl ⟨by rfl, ?_⟩) ?_ ?_
    rotate_left
    · intro w'
      go_simp
      with_reducible rfl
    rotate_left
    · simp only [Act.put, List.setIfInBounds_toArray, List.set_cons_zero, List.set_cons_succ, i64_w, i32_w]
      rfl
    refine inv_at [2, 5, 6, 7, 10, 11] (fun a0_ b a w' => a = putSel a0_ b [(2, 80, .int .i64 2), (5, 83, .pointer (some ⟨d, 10, none⟩)), (6, 84, .int .i64 D4.c2), (7, 85, .int .i64 (wrap64 (D4.c2 + 1))), (10, 88, .pointer (some ⟨d, 10, none⟩))] ∧ (b 11 = false → CAt B w ⟨d, mb, .slice cA D.cache.length cc, .slice (some ⟨g, 0, none⟩) D.queue.length qc, .slice kA D.keep.length kc⟩ w' ⟨d, mb, .slice cA D.cache.length cc, .slice (some ⟨g, 0, none⟩) (D.queue.length - 1) qc, .slice kA D.keep.length kc⟩ D4 b0 bx c) ∧ (b 11 = true → CAt B w ⟨d, mb, .slice cA D.cache.length cc, .slice (some ⟨g, 0, none⟩) D.queue.length qc, .slice kA D.keep.length kc⟩ w' ⟨d, mb, .slice cA D.cache.length cc, .slice (some ⟨g, 0, none⟩) (D.queue.length - 1) qc, .slice kA D.keep.length kc⟩ (D4.bump 2) b0 bx c)) HT_.out HW_.out (by kernel_rfl) (by kernel_rfl) ?_ ?_ ?_
    · exact ⟨by simp only [putSel, Bool.false_eq_true, if_false], fun _ => HC4.out, fun h_ => absurd h_ (by decide)⟩
    · skip
      clear HC4
      refine steps_cons ?_ ?_
      · rintro b a w' ⟨ha, Q_HC4, Q_HF⟩ hb_ hon hoff
        refine ⟨_, rfl, fun K hK => ?_⟩
        have e79 : a.tmps[79]? = some (.pointer (some ⟨bx, 0, none⟩)) := by rw [ha]; exact (putSel_off rfl).trans rfl
        replace ha := Aside0.mk ha
        have HC4 := Aside0.mk (Q_HC4 (hoff 11 (by kernel_rfl)))
        have hx_ : w'.cell? ⟨bx, 0, none⟩ = some (.int .i64 2) := (blk_cell HC4.out.box 0).trans (by rw [HKind.out]; rfl)
        refine value_ (w1 := w') (v := .int .i64 2) (by rfl) rfl ?_ ?_
        · go_simp
          (try simp only [i64_w])
          try rfl
        refine hK.out _ _ ⟨(by rw [ha.out]; exact putSel_upk 0 hb_ rfl rfl rfl), Q_HC4, fun h0_ => absurd ((hoff 11 (by kernel_rfl)).symm.trans h0_) (by decide)⟩
      refine steps_cons ?_ ?_
      · rintro b a w' ⟨ha, Q_HC4, Q_HF⟩ hb_ hon hoff
        refine ⟨_, rfl, fun K hK => ?_⟩
        have e82 : a.tmps[82]? = some (.pointer (some ⟨d, 8, none⟩)) := by rw [ha]; exact (putSel_off rfl).trans rfl
        have e80 : a.tmps[80]? = some (.int .i64 2) := by rw [ha]; exact putSel_on (e := (2, 80, .int .i64 2)) 0 rfl rfl (hon 2 (by kernel_rfl)) rfl
        replace ha := Aside0.mk ha
        have HC4 := Aside0.mk (Q_HC4 (hoff 11 (by kernel_rfl)))
        refine value_ (w1 := w') (v := .pointer (some ⟨d, 10, none⟩)) (by rfl) rfl ?_ ?_
        · go_simp
          (try simp only [i64_w])
          try rfl
        refine hK.out _ _ ⟨(by rw [ha.out]; exact putSel_upk 1 hb_ rfl rfl rfl), Q_HC4, fun h0_ => absurd ((hoff 11 (by kernel_rfl)).symm.trans h0_) (by decide)⟩
      refine steps_cons ?_ ?_
      · rintro b a w' ⟨ha, Q_HC4, Q_HF⟩ hb_ hon hoff
        refine ⟨_, rfl, fun K hK => ?_⟩
        have e83 : a.tmps[83]? = some (.pointer (some ⟨d, 10, none⟩)) := by rw [ha]; exact putSel_on (e := (5, 83, .pointer (some ⟨d, 10, none⟩))) 1 rfl rfl (hon 5 (by kernel_rfl)) rfl
        replace ha := Aside0.mk ha
        have HC4 := Aside0.mk (Q_HC4 (hoff 11 (by kernel_rfl)))
        have hx_ := (blk_cell HC4.out.dev.2.2.2.1 10).trans rfl
        refine value_ (w1 := w') (v := .int .i64 D4.c2) (by rfl) rfl ?_ ?_
        · go_simp
          (try simp only [i64_w])
          try rfl
        refine hK.out _ _ ⟨(by rw [ha.out]; exact putSel_upk 2 hb_ rfl rfl rfl), Q_HC4, fun h0_ => absurd ((hoff 11 (by kernel_rfl)).symm.trans h0_) (by decide)⟩
      refine steps_cons ?_ ?_
      · rintro b a w' ⟨ha, Q_HC4, Q_HF⟩ hb_ hon hoff
        refine ⟨_, rfl, fun K hK => ?_⟩
        have e84 : a.tmps[84]? = some (.int .i64 D4.c2) := by rw [ha]; exact putSel_on (e := (6, 84, .int .i64 D4.c2)) 2 rfl rfl (hon 6 (by kernel_rfl)) rfl
        replace ha := Aside0.mk ha
        have HC4 := Aside0.mk (Q_HC4 (hoff 11 (by kernel_rfl)))
        refine value_ (w1 := w') (v := .int .i64 (wrap64 (D4.c2 + 1))) (by rfl) rfl ?_ ?_
        · go_simp
          (try simp only [i64_w])
          try rfl
        refine hK.out _ _ ⟨(by rw [ha.out]; exact putSel_upk 3 hb_ rfl rfl rfl), Q_HC4, fun h0_ => absurd ((hoff 11 (by kernel_rfl)).symm.trans h0_) (by decide)⟩
      refine steps_cons ?_ ?_
      · rintro b a w' ⟨ha, Q_HC4, Q_HF⟩ hb_ hon hoff
        refine ⟨_, rfl, fun K hK => ?_⟩
        have e87 : a.tmps[87]? = some (.pointer (some ⟨d, 8, none⟩)) := by rw [ha]; exact (putSel_off rfl).trans rfl
        have e80 : a.tmps[80]? = some (.int .i64 2) := by rw [ha]; exact putSel_on (e := (2, 80, .int .i64 2)) 0 rfl rfl (hon 2 (by kernel_rfl)) rfl
        replace ha := Aside0.mk ha
        have HC4 := Aside0.mk (Q_HC4 (hoff 11 (by kernel_rfl)))
        refine value_ (w1 := w') (v := .pointer (some ⟨d, 10, none⟩)) (by rfl) rfl ?_ ?_
        · go_simp
          (try simp only [i64_w])
          try rfl
        refine hK.out _ _ ⟨(by rw [ha.out]; exact putSel_upk 4 hb_ rfl rfl rfl), Q_HC4, fun h0_ => absurd ((hoff 11 (by kernel_rfl)).symm.trans h0_) (by decide)⟩
      refine steps_cons ?_ ?_
      · rintro b a w' ⟨ha, Q_HC4, Q_HF⟩ hb_ hon hoff
        refine ⟨_, rfl, fun K hK => ?_⟩
        have e88 : a.tmps[88]? = some (.pointer (some ⟨d, 10, none⟩)) := by rw [ha]; exact putSel_on (e := (10, 88, .pointer (some ⟨d, 10, none⟩))) 4 rfl rfl (hon 10 (by kernel_rfl)) rfl
        have e85 : a.tmps[85]? = some (.int .i64 (wrap64 (D4.c2 + 1))) := by rw [ha]; exact putSel_on (e := (7, 85, .int .i64 (wrap64 (D4.c2 + 1)))) 3 rfl rfl (hon 7 (by kernel_rfl)) rfl
        replace ha := Aside0.mk ha
        have HC4 := Aside0.mk (Q_HC4 hb_)
        have hx_ := (blk_cell HC4.out.dev.2.2.2.1 10).trans rfl
        have hf_ := blk_frozen HC4.out.dev.2.2.2.1 10
        refine skip_ (w1 := w'.setCell ⟨d, 10, none⟩ (.int .i64 (wrap64 (D4.c2 + 1)))) (by rfl) rfl ?_ ?_
        · go_simp
          try rfl
        refine hK.out _ _ ⟨(by rw [ha.out]; exact putSel_none (v := undef) rfl), fun h0_ => absurd ((up_self b 11).symm.trans h0_) (by decide), fun h0_ => HC4.out.step (HC4.out.dev.bumped).2.1.1 (HC4.out.dev.bumped).2.1.2 rfl⟩
      exact steps_nil
    rintro b a w7 hall ⟨ha, Q_HC4, Q_HF⟩
    clear HC4
    have hb2_ := hall 2 (by kernel_rfl)
    have hb5_ := hall 5 (by kernel_rfl)
    have hb6_ := hall 6 (by kernel_rfl)
    have hb7_ := hall 7 (by kernel_rfl)
    have hb10_ := hall 10 (by kernel_rfl)
    have hb11_ := hall 11 (by kernel_rfl)
    subst ha
    simp only [putSel, hb2_, hb5_, hb6_, hb7_, hb10_, hb11_, if_true, Act.put, List.setIfInBounds_toArray, List.set_cons_zero, List.set_cons_succ]
    clear Q_HC4
    have HF := Aside0.mk (Q_HF hb11_)
    clear Q_HF
    clear hall hb2_ hb5_ hb6_ hb7_ hb10_ hb11_
    have HC5 := HF
    clear HF
    have q1 : (c.kind == 1) = false := by rw [HKind.out]; rfl
    have q2 : (c.kind == 2) = true := by rw [HKind.out]; rfl
    have q3 : (c.kind == 3) = false := by rw [HKind.out]; rfl
    have q4 : (c.kind == 4) = false := by rw [HKind.out]; rfl
    have y0 := (blk_cell HC5.out.box 0).trans rfl
    have y1 := (blk_cell HC5.out.box 1).trans rfl
    have y2 := (blk_cell HC5.out.box 2).trans rfl
    have y3 := (blk_cell HC5.out.box 3).trans rfl
    go_upto_region 22 with (fail)
    obtain ⟨w5, hw5⟩ : ∃ w5, w5 = w7 := ⟨_, rfl⟩
    obtain ⟨D5, hD5⟩ : ∃ D5, D5 = D4.bump 2 := ⟨_, rfl⟩
    have hD5c : D5.cache = D.cache := by rw [hD5]; exact HC4c.out
    have hR5 : R = (c, { D5 with cache := D5.cache ++ [c] }) := by
      rw [HRR.out, HKind.out, ← hD5]
      unfold Dev.carry
      rw [if_neg (by rw [HKind.out]; decide), if_neg (by rw [HKind.out]; decide), if_pos HKind.out]
    have HR5 := Aside0.mk hR5
    rw [← hD5] at HC5
    have HL := Aside0.mk (show D5.cache.length < 1000000000 by rw [hD5c]; exact Nat.lt_trans HC.out (by decide))
    have HCW := Aside0.mk (by rw [hw5]; exact HC5.out : CAt B w ⟨d, mb, .slice cA D.cache.length cc, .slice (some ⟨g, 0, none⟩) D.queue.length qc, .slice kA D.keep.length kc⟩ w5 ⟨d, mb, .slice cA D.cache.length cc, .slice (some ⟨g, 0, none⟩) (D.queue.length - 1) qc, .slice kA D.keep.length kc⟩ D5 b0 bx c)
    have HK := Aside0.mk (by rw [hw5]; exact DKeep.refl _ _ : DKeep ⟨d, mb, .slice cA D.cache.length cc, .slice (some ⟨g, 0, none⟩) (D.queue.length - 1) qc, .slice kA D.keep.length kc⟩ ⟨d, mb, .slice cA D.cache.length cc, .slice (some ⟨g, 0, none⟩) (D.queue.length - 1) qc, .slice kA D.keep.length kc⟩ w5 w7)
    have HD := Aside0.mk HC5.out.dev
    have HCo := Aside0.mk HC5.out.box
    have HSo := Aside0.mk HC5.out.size
    clear HC HS HRR HC5 y0 y1 y2 y3 hD5 hw5 hR5 hD5c
    have HC := HCo
    have HS := HSo
    clear HCo HSo
    refine start_ (n := 11) (S := fun w' => True) (ds := []) #[false, false, false, false, false, false, false, false, false, false, false] (by kernel_rfl) rfl rfl trivial (fun hHeld => ?_)
    refine with_tabW nvme_Complete22.tab22 nvme_Complete22.bits22 (fun HT_ HW_ => ?_)
    have n0_ := Aside0.mk HD.out.drew; have n1_ := Aside0.mk HK.out.drew; have n2_ := Aside0.mk (blk_drew HC.out); have n3_ := Aside0.mk (show B ≤ w7.drew.heap.size from HS.out); clear HD HK HC HS; have HD := n0_; have HK := n1_; have HC := n2_; have HS := n3_; clear n0_ n1_ n2_ n3_; generalize w7.drew = wd at HD HK HC HS ⊢
    refine pure_ (i := 0) (N := some 118) (v := ?_) (a' := ?_) #[true, false, false, false, false, false, false, false, false, false, false] rfl rfl (any_of HT_.out (by kernel_rfl)) (fun _ _ _ h => h) (Or.inl ⟨by rfl, ?_⟩) ?_ ?_
    rotate_left
    · intro w'
      go_simp
      with_reducible rfl
    rotate_left
    · simp only [Act.put, List.setIfInBounds_toArray, List.set_cons_zero, List.set_cons_succ, i64_w, i32_w]
      rfl
    refine pure_ (i := 1) (N := some 119) (v := ?_) (a' := ?_) #[true, true, false, false, false, false, false, false, false, false, false] rfl rfl (any_of HT_.out (by kernel_rfl)) (fun _ _ _ h => h) (Or.inl ⟨by rfl, ?_⟩) ?_ ?_
    rotate_left
    · intro w'
      go_simp
      with_reducible rfl
    rotate_left
    · simp only [Act.put, List.setIfInBounds_toArray, List.set_cons_zero, List.set_cons_succ, i64_w, i32_w]
      rfl
    refine pure_ (i := 2) (N := some 120) (v := ?_) (a' := ?_) #[true, true, true, false, false, false, false, false, false, false, false] rfl rfl (any_of HT_.out (by kernel_rfl)) (fun _ _ _ h => h) (Or.inl ⟨by rfl, ?_⟩) ?_ ?_
    rotate_left
    · intro w'
      go_simp
      with_reducible rfl
    rotate_left
    · simp only [Act.put, List.setIfInBounds_toArray, List.set_cons_zero, List.set_cons_succ, i64_w, i32_w]
      rfl
    refine pure_ (i := 3) (N := some 121) (v := ?_) (a' := ?_) #[true, true, true, true, false, false, false, false, false, false, false] rfl rfl (any_of HT_.out (by kernel_rfl)) (fun _ _ _ h => h) (Or.inl ⟨by rfl, ?_⟩) ?_ ?_
    rotate_left
    · intro w'
      go_simp
      with_reducible rfl
    rotate_left
    · simp only [Act.put, List.setIfInBounds_toArray, List.set_cons_zero, List.set_cons_succ, i64_w, i32_w]
      rfl
    refine inv_at [4, 5, 6, 7, 8, 9, 10] (fun a0_ b a w' => ∃ (b6 : Nat) (g7 : Nat) (n7 : Nat) (m6_ : Value) (m7_ : Value), a = putSel a0_ b [(4, 122, .slice cA D.cache.length cc), (5, 123, .agg #[.int .i64 c.kind, .int .i64 c.sector, .string c.data, .int .i64 c.tag]), (6, 124, m6_), (7, 125, m7_), (8, 126, .pointer (some ⟨d, 0, none⟩)), (9, 127, .pointer (some ⟨d, 3, none⟩))] ∧ (b 7 = false → DevAt B w' ⟨d, mb, .slice cA D.cache.length cc, .slice (some ⟨g, 0, none⟩) (D.queue.length - 1) qc, .slice kA D.keep.length kc⟩ D5) ∧ (b 7 = false → DKeep ⟨d, mb, .slice cA D.cache.length cc, .slice (some ⟨g, 0, none⟩) (D.queue.length - 1) qc, .slice kA D.keep.length kc⟩ ⟨d, mb, .slice cA D.cache.length cc, .slice (some ⟨g, 0, none⟩) (D.queue.length - 1) qc, .slice kA D.keep.length kc⟩ w5 w') ∧ (b 7 = false → w'.heap[bx]? = some (.cells #[.int .i64 c.kind, .int .i64 c.sector, .string c.data, .int .i64 c.tag] 38 (0, 0))) ∧ (b 7 = false → B ≤ w'.heap.size) ∧ (b 6 = true → b 7 = false → w'.heap[b6]? = some (.cells #[.int .i64 c.kind, .int .i64 c.sector, .string c.data, .int .i64 c.tag] 38 (0, 0))) ∧ (b 7 = true → b 10 = false → w'.heap[d]? = some (.cells (D5.cells ⟨d, mb, .slice cA D.cache.length cc, .slice (some ⟨g, 0, none⟩) (D.queue.length - 1) qc, .slice kA D.keep.length kc⟩) 78 (0, 0)) ∧ DevAt B (w'.setCell ⟨d, 3, none⟩ (.slice (some ⟨g7, 0, none⟩) (D5.cache ++ [c]).length n7)) ⟨d, mb, .slice (some ⟨g7, 0, none⟩) (D5.cache ++ [c]).length n7, .slice (some ⟨g, 0, none⟩) (D.queue.length - 1) qc, .slice kA D.keep.length kc⟩ { D5 with cache := D5.cache ++ [c] } ∧ DKeep ⟨d, mb, .slice cA D.cache.length cc, .slice (some ⟨g, 0, none⟩) (D.queue.length - 1) qc, .slice kA D.keep.length kc⟩ ⟨d, mb, .slice (some ⟨g7, 0, none⟩) (D5.cache ++ [c]).length n7, .slice (some ⟨g, 0, none⟩) (D.queue.length - 1) qc, .slice kA D.keep.length kc⟩ w5 (w'.setCell ⟨d, 3, none⟩ (.slice (some ⟨g7, 0, none⟩) (D5.cache ++ [c]).length n7))) ∧ (b 7 = true → b 10 = true → DevAt B w' ⟨d, mb, .slice (some ⟨g7, 0, none⟩) (D5.cache ++ [c]).length n7, .slice (some ⟨g, 0, none⟩) (D.queue.length - 1) qc, .slice kA D.keep.length kc⟩ { D5 with cache := D5.cache ++ [c] } ∧ DKeep ⟨d, mb, .slice cA D.cache.length cc, .slice (some ⟨g, 0, none⟩) (D.queue.length - 1) qc, .slice kA D.keep.length kc⟩ ⟨d, mb, .slice (some ⟨g7, 0, none⟩) (D5.cache ++ [c]).length n7, .slice (some ⟨g, 0, none⟩) (D.queue.length - 1) qc, .slice kA D.keep.length kc⟩ w5 w') ∧ (b 6 = true → (m6_ : Value) = .slice (some ⟨b6, 0, none⟩) 1 1) ∧ (b 7 = true → (m7_ : Value) = .slice (some ⟨g7, 0, none⟩) (D5.cache ++ [c]).length n7)) HT_.out HW_.out (by kernel_rfl) (by kernel_rfl) ?_ ?_ ?_
    · exact ⟨0, 0, 0, .bool false, .bool false, by simp only [putSel, Bool.false_eq_true, if_false], fun _ => HD.out, fun _ => HK.out, fun _ => HC.out, fun _ => HS.out, fun h_ => absurd h_ (by decide), fun h_ => absurd h_ (by decide), fun h_ => absurd h_ (by decide), fun h_ => absurd h_ (by decide), fun h_ => absurd h_ (by decide)⟩
    · skip
      clear HC HD HK HS
      refine steps_cons ?_ ?_
      · rintro b a w' ⟨b6, g7, n7, m6_, m7_, ha, Q_HD, Q_HK, Q_HC, Q_HS, Q_HP, Q_HA, Q_HF, Q_X6_, Q_X7_⟩ hb_ hon hoff
        refine ⟨_, rfl, fun K hK => ?_⟩
        have e121 : a.tmps[121]? = some (.pointer (some ⟨d, 3, none⟩)) := by rw [ha]; exact (putSel_off rfl).trans rfl
        replace ha := Aside0.mk ha
        have HD := Aside0.mk (Q_HD (hoff 7 (by kernel_rfl)))
        have HK := Aside0.mk (Q_HK (hoff 7 (by kernel_rfl)))
        have HC := Aside0.mk (Q_HC (hoff 7 (by kernel_rfl)))
        have HS := Aside0.mk (Q_HS (hoff 7 (by kernel_rfl)))
        have hx_ := (blk_cell HD.out.2.2.2.1 3).trans rfl
        refine value_ (w1 := w') (v := .slice cA D.cache.length cc) (by rfl) rfl ?_ ?_
        · go_simp
          (try simp only [i64_w])
          try rfl
        refine hK.out _ _ ⟨b6, g7, n7, m6_, m7_, (by rw [ha.out]; exact putSel_upk 0 hb_ rfl rfl rfl), Q_HD, Q_HK, Q_HC, Q_HS, Q_HP, fun h0_ _ => absurd ((hoff 7 (by kernel_rfl)).symm.trans h0_) (by decide), fun h0_ _ => absurd ((hoff 7 (by kernel_rfl)).symm.trans h0_) (by decide), Q_X6_, fun h0_ => absurd ((hoff 7 (by kernel_rfl)).symm.trans h0_) (by decide)⟩
      refine steps_cons ?_ ?_
      · rintro b a w' ⟨b6, g7, n7, m6_, m7_, ha, Q_HD, Q_HK, Q_HC, Q_HS, Q_HP, Q_HA, Q_HF, Q_X6_, Q_X7_⟩ hb_ hon hoff
        refine ⟨_, rfl, fun K hK => ?_⟩
        have e6 : a.tmps[6]? = some (.pointer (some ⟨bx, 0, none⟩)) := by rw [ha]; exact (putSel_off rfl).trans rfl
        replace ha := Aside0.mk ha
        have HD := Aside0.mk (Q_HD (hoff 7 (by kernel_rfl)))
        have HK := Aside0.mk (Q_HK (hoff 7 (by kernel_rfl)))
        have HC := Aside0.mk (Q_HC (hoff 7 (by kernel_rfl)))
        have HS := Aside0.mk (Q_HS (hoff 7 (by kernel_rfl)))
        have hx0 := (blk_cell HC.out 0).trans rfl
        have hx1 := (blk_cell HC.out 1).trans rfl
        have hx2 := (blk_cell HC.out 2).trans rfl
        have hx3 := (blk_cell HC.out 3).trans rfl
        refine value_ (w1 := w') (v := .agg #[.int .i64 c.kind, .int .i64 c.sector, .string c.data, .int .i64 c.tag]) (by rfl) rfl ?_ ?_
        · go_simp
          (try simp only [i64_w])
          try rfl
        refine hK.out _ _ ⟨b6, g7, n7, m6_, m7_, (by rw [ha.out]; exact putSel_upk 1 hb_ rfl rfl rfl), Q_HD, Q_HK, Q_HC, Q_HS, fun h0_ _ => absurd ((hoff 6 (by kernel_rfl)).symm.trans h0_) (by decide), fun h0_ _ => absurd ((hoff 7 (by kernel_rfl)).symm.trans h0_) (by decide), fun h0_ _ => absurd ((hoff 7 (by kernel_rfl)).symm.trans h0_) (by decide), fun h0_ => absurd ((hoff 6 (by kernel_rfl)).symm.trans h0_) (by decide), fun h0_ => absurd ((hoff 7 (by kernel_rfl)).symm.trans h0_) (by decide)⟩
      refine steps_cons ?_ ?_
      · rintro b a w' ⟨b6, g7, n7, m6_, m7_, ha, Q_HD, Q_HK, Q_HC, Q_HS, Q_HP, Q_HA, Q_HF, Q_X6_, Q_X7_⟩ hb_ hon hoff
        refine ⟨_, rfl, fun K hK => ?_⟩
        have e123 : a.tmps[123]? = some (.agg #[.int .i64 c.kind, .int .i64 c.sector, .string c.data, .int .i64 c.tag]) := by rw [ha]; exact putSel_on (e := (5, 123, .agg #[.int .i64 c.kind, .int .i64 c.sector, .string c.data, .int .i64 c.tag])) 1 rfl rfl (hon 5 (by kernel_rfl)) rfl
        replace ha := Aside0.mk ha
        have HD := Aside0.mk (Q_HD (hoff 7 (by kernel_rfl)))
        have HK := Aside0.mk (Q_HK (hoff 7 (by kernel_rfl)))
        have HC := Aside0.mk (Q_HC (hoff 7 (by kernel_rfl)))
        have HS := Aside0.mk (Q_HS (hoff 7 (by kernel_rfl)))
        refine value_ (w1 := w'.alloc (.cells #[.int .i64 c.kind, .int .i64 c.sector, .string c.data, .int .i64 c.tag] 38)) (v := .slice (some ⟨w'.heap.size, 0, none⟩) 1 1) (by rfl) rfl ?_ ?_
        · go_simp
        refine hK.out _ _ ⟨w'.heap.size, g7, n7, (.slice (some ⟨w'.heap.size, 0, none⟩) 1 1), m7_, (by rw [ha.out]; exact putSel_upk 2 hb_ rfl rfl rfl), fun _ => (fun hd_ hb_ => DevAt.below hd_ hb_) (HD.out) ((below_alloc (Below.refl _ _) (.cells #[.int .i64 c.kind, .int .i64 c.sector, .string c.data, .int .i64 c.tag] 38))), fun _ => (fun hd_ hb_ => DKeep.trans hd_ (dkeep_of hb_ _)) (HK.out) ((below_alloc (Below.refl _ _) (.cells #[.int .i64 c.kind, .int .i64 c.sector, .string c.data, .int .i64 c.tag] 38))), fun _ => blk_below HC.out (below_alloc (Below.refl _ _) (.cells #[.int .i64 c.kind, .int .i64 c.sector, .string c.data, .int .i64 c.tag] 38)), fun _ => Nat.le_trans HS.out (Below.size (below_alloc (Below.refl _ _) (.cells #[.int .i64 c.kind, .int .i64 c.sector, .string c.data, .int .i64 c.tag] 38))), fun h0_ h1_ => heap_alloc_new w' (.cells #[.int .i64 c.kind, .int .i64 c.sector, .string c.data, .int .i64 c.tag] 38), fun h0_ _ => absurd ((hoff 7 (by kernel_rfl)).symm.trans h0_) (by decide), fun h0_ _ => absurd ((hoff 7 (by kernel_rfl)).symm.trans h0_) (by decide), fun _ => rfl, fun h0_ => absurd ((hoff 7 (by kernel_rfl)).symm.trans h0_) (by decide)⟩
      refine steps_cons ?_ ?_
      · rintro b a w' ⟨b6, g7, n7, m6_, m7_, ha, Q_HD, Q_HK, Q_HC, Q_HS, Q_HP, Q_HA, Q_HF, Q_X6_, Q_X7_⟩ hb_ hon hoff
        refine ⟨_, rfl, fun K hK => ?_⟩
        have e122 : a.tmps[122]? = some (.slice cA D.cache.length cc) := by rw [ha]; exact putSel_on (e := (4, 122, .slice cA D.cache.length cc)) 0 rfl rfl (hon 4 (by kernel_rfl)) rfl
        have e124 : a.tmps[124]? = some (m6_) := by rw [ha]; exact putSel_on (e := (6, 124, m6_)) 2 rfl rfl (hon 6 (by kernel_rfl)) rfl
        rw [Q_X6_ (hon 6 (by kernel_rfl))] at e124
        replace ha := Aside0.mk ha
        have HD := Aside0.mk (Q_HD hb_)
        have HK := Aside0.mk (Q_HK hb_)
        have HC := Aside0.mk (Q_HC hb_)
        have HS := Aside0.mk (Q_HS hb_)
        have HP := Aside0.mk (Q_HP (hon 6 (by kernel_rfl)) hb_)
        obtain ⟨g_, n_, wA, hr_, ha1_, ha2_, ha3_⟩ := dev_appc HD.out HS.out HL.out HP.out 1
        refine value_ (w1 := wA) (v := .slice (some ⟨g_, 0, none⟩) (D5.cache ++ [c]).length n_) (by rfl) rfl ?_ ?_
        · have hr2_ := hr_
          dsimp only at hr2_
          simp [execOp, resolve, invoke, builtin, Act.eval, hr2_, *]
        refine hK.out _ _ ⟨b6, g_, n_, m6_, (.slice (some ⟨g_, 0, none⟩) (D5.cache ++ [c]).length n_), (by rw [ha.out]; exact putSel_upk 3 hb_ rfl rfl rfl), fun h0_ => absurd ((up_self b 7).symm.trans h0_) (by decide), fun h0_ => absurd ((up_self b 7).symm.trans h0_) (by decide), fun h0_ => absurd ((up_self b 7).symm.trans h0_) (by decide), fun h0_ => absurd ((up_self b 7).symm.trans h0_) (by decide), fun _ h1_ => absurd ((up_self b 7).symm.trans h1_) (by decide), fun h0_ h1_ => ⟨ha1_, ha2_, HK.out.trans ha3_⟩, fun _ h1_ => absurd ((hoff 10 (by kernel_rfl)).symm.trans h1_) (by decide), Q_X6_, fun _ => rfl⟩
      refine steps_cons ?_ ?_
      · rintro b a w' ⟨b6, g7, n7, m6_, m7_, ha, Q_HD, Q_HK, Q_HC, Q_HS, Q_HP, Q_HA, Q_HF, Q_X6_, Q_X7_⟩ hb_ hon hoff
        refine ⟨_, rfl, fun K hK => ?_⟩
        have e118 : a.tmps[118]? = some (.pointer (some ⟨d, 0, none⟩)) := by rw [ha]; exact (putSel_off rfl).trans rfl
        replace ha := Aside0.mk ha
        have HA := Aside0.mk (Q_HA (hon 7 (by kernel_rfl)) (hoff 10 (by kernel_rfl)))
        refine value_ (w1 := w') (v := .pointer (some ⟨d, 0, none⟩)) (by rfl) rfl ?_ ?_
        · go_simp
          (try simp only [i64_w])
          try rfl
        refine hK.out _ _ ⟨b6, g7, n7, m6_, m7_, (by rw [ha.out]; exact putSel_upk 4 hb_ rfl rfl rfl), fun h0_ => absurd ((hon 7 (by kernel_rfl)).symm.trans h0_) (by decide), fun h0_ => absurd ((hon 7 (by kernel_rfl)).symm.trans h0_) (by decide), fun h0_ => absurd ((hon 7 (by kernel_rfl)).symm.trans h0_) (by decide), fun h0_ => absurd ((hon 7 (by kernel_rfl)).symm.trans h0_) (by decide), fun _ h1_ => absurd ((hon 7 (by kernel_rfl)).symm.trans h1_) (by decide), Q_HA, fun _ h1_ => absurd ((hoff 10 (by kernel_rfl)).symm.trans h1_) (by decide), Q_X6_, Q_X7_⟩
      refine steps_cons ?_ ?_
      · rintro b a w' ⟨b6, g7, n7, m6_, m7_, ha, Q_HD, Q_HK, Q_HC, Q_HS, Q_HP, Q_HA, Q_HF, Q_X6_, Q_X7_⟩ hb_ hon hoff
        refine ⟨_, rfl, fun K hK => ?_⟩
        have e126 : a.tmps[126]? = some (.pointer (some ⟨d, 0, none⟩)) := by rw [ha]; exact putSel_on (e := (8, 126, .pointer (some ⟨d, 0, none⟩))) 4 rfl rfl (hon 8 (by kernel_rfl)) rfl
        replace ha := Aside0.mk ha
        have HA := Aside0.mk (Q_HA (hon 7 (by kernel_rfl)) (hoff 10 (by kernel_rfl)))
        refine value_ (w1 := w') (v := .pointer (some ⟨d, 3, none⟩)) (by rfl) rfl ?_ ?_
        · go_simp
          (try simp only [i64_w])
          try rfl
        refine hK.out _ _ ⟨b6, g7, n7, m6_, m7_, (by rw [ha.out]; exact putSel_upk 5 hb_ rfl rfl rfl), fun h0_ => absurd ((hon 7 (by kernel_rfl)).symm.trans h0_) (by decide), fun h0_ => absurd ((hon 7 (by kernel_rfl)).symm.trans h0_) (by decide), fun h0_ => absurd ((hon 7 (by kernel_rfl)).symm.trans h0_) (by decide), fun h0_ => absurd ((hon 7 (by kernel_rfl)).symm.trans h0_) (by decide), fun _ h1_ => absurd ((hon 7 (by kernel_rfl)).symm.trans h1_) (by decide), Q_HA, fun _ h1_ => absurd ((hoff 10 (by kernel_rfl)).symm.trans h1_) (by decide), Q_X6_, Q_X7_⟩
      refine steps_cons ?_ ?_
      · rintro b a w' ⟨b6, g7, n7, m6_, m7_, ha, Q_HD, Q_HK, Q_HC, Q_HS, Q_HP, Q_HA, Q_HF, Q_X6_, Q_X7_⟩ hb_ hon hoff
        refine ⟨_, rfl, fun K hK => ?_⟩
        have e127 : a.tmps[127]? = some (.pointer (some ⟨d, 3, none⟩)) := by rw [ha]; exact putSel_on (e := (9, 127, .pointer (some ⟨d, 3, none⟩))) 5 rfl rfl (hon 9 (by kernel_rfl)) rfl
        have e125 : a.tmps[125]? = some (m7_) := by rw [ha]; exact putSel_on (e := (7, 125, m7_)) 3 rfl rfl (hon 7 (by kernel_rfl)) rfl
        rw [Q_X7_ (hon 7 (by kernel_rfl))] at e125
        replace ha := Aside0.mk ha
        have HA := Aside0.mk (Q_HA (hon 7 (by kernel_rfl)) hb_)
        have hx_ := (blk_cell HA.out.1 3).trans rfl
        have hf_ := blk_frozen HA.out.1 3
        refine skip_ (w1 := w'.setCell ⟨d, 3, none⟩ (.slice (some ⟨g7, 0, none⟩) (D5.cache ++ [c]).length n7)) (by rfl) rfl ?_ ?_
        · go_simp
          try rfl
        refine hK.out _ _ ⟨b6, g7, n7, m6_, m7_, (by rw [ha.out]; exact putSel_none (v := undef) rfl), fun h0_ => absurd ((hon 7 (by kernel_rfl)).symm.trans h0_) (by decide), fun h0_ => absurd ((hon 7 (by kernel_rfl)).symm.trans h0_) (by decide), fun h0_ => absurd ((hon 7 (by kernel_rfl)).symm.trans h0_) (by decide), fun h0_ => absurd ((hon 7 (by kernel_rfl)).symm.trans h0_) (by decide), fun _ h1_ => absurd ((hon 7 (by kernel_rfl)).symm.trans h1_) (by decide), fun _ h1_ => absurd ((up_self b 10).symm.trans h1_) (by decide), fun h0_ h1_ => HA.out.2, Q_X6_, Q_X7_⟩
      exact steps_nil
    rintro b a w8 hall ⟨b6, g7, n7, m6_, m7_, ha, Q_HD, Q_HK, Q_HC, Q_HS, Q_HP, Q_HA, Q_HF, Q_X6_, Q_X7_⟩
    clear HC HD HK HS
    have hb4_ := hall 4 (by kernel_rfl)
    have hb5_ := hall 5 (by kernel_rfl)
    have hb6_ := hall 6 (by kernel_rfl)
    have hb7_ := hall 7 (by kernel_rfl)
    have hb8_ := hall 8 (by kernel_rfl)
    have hb9_ := hall 9 (by kernel_rfl)
    have hb10_ := hall 10 (by kernel_rfl)
    subst ha
    obtain rfl := Q_X6_ hb6_
    obtain rfl := Q_X7_ hb7_
    simp only [putSel, hb4_, hb5_, hb6_, hb7_, hb8_, hb9_, hb10_, if_true, Act.put, List.setIfInBounds_toArray, List.set_cons_zero, List.set_cons_succ]
    clear Q_HD
    clear Q_HK
    clear Q_HC
    clear Q_HS
    clear Q_HP
    clear Q_HA
    have HF := Aside0.mk (Q_HF hb7_ hb10_)
    clear Q_HF
    clear hall hb4_ hb5_ hb6_ hb7_ hb8_ hb9_ hb10_
    have HC6 := Aside0.mk (HCW.out.step HF.out.1 HF.out.2 rfl)
    clear HF HCW
    obtain rfl : R = (c, { D5 with cache := D5.cache ++ [c] }) := HR5.out
    have z0 := (blk_cell HC6.out.box 0).trans rfl
    have z1 := (blk_cell HC6.out.box 1).trans rfl
    have z2 := (blk_cell HC6.out.box 2).trans rfl
    have z3 := (blk_cell HC6.out.box 3).trans rfl
    have r0 := (blk_cell HC6.out.res 0).trans rfl
    have r1 := (blk_cell HC6.out.res 1).trans rfl
    have r2 := (blk_cell HC6.out.res 2).trans rfl
    have r3 := (blk_cell HC6.out.res 3).trans rfl
    have g0 := blk_frozen HC6.out.res 0
    have g1 := blk_frozen HC6.out.res 1
    have g2 := blk_frozen HC6.out.res 2
    have g3 := blk_frozen HC6.out.res 3
    go_wp2_with (fail)
    refine bodyPost_ret (results_ct rfl _ _ b0 38 #[.int .i64 c.kind, .int .i64 c.sector, .string c.data, .int .i64 c.tag] (0, 0) _ rfl (set4c HC6.out.res) Tryd.underlying38 rfl (by kernel_rfl)) rfl ?_
    have hk9 := (((HC6.out.keep.setNew HC6.out.s0 0 (.int .i64 c.kind)).setNew HC6.out.s0 1 (.int .i64 c.sector)).setNew HC6.out.s0 2 (.string c.data)).setNew HC6.out.s0 3 (.int .i64 c.tag)
    have hd9 := (((HC6.out.dev.setOther HC6.out.n0 HC6.out.k0 0 (.int .i64 c.kind)).setOther HC6.out.n0 HC6.out.k0 1 (.int .i64 c.sector)).setOther HC6.out.n0 HC6.out.k0 2 (.string c.data)).setOther HC6.out.n0 HC6.out.k0 3 (.int .i64 c.tag)
    first | exact ⟨_, rfl, hd9, hk9⟩ | exact ⟨rfl, _, hd9, hk9⟩
set_option maxHeartbeats 16000000 in
set_option maxRecDepth 100000 in
/-- A good completion. -/
theorem nCompGood3 (P : DevP) (D : Dev) (i : Nat) (c : NC) (w : World) (B : Nat) (hB : B ≤ w.heap.size) (h : DevAt B w P D) (hd : D.down = false) (hi : i < D.queue.length) (hx : D.queue[i]? = some c) (hf : D.fail ≠ 1) (hc : D.cache.length < 100000000) (hq : D.queue.length < 100000000) (hk : c.kind = 3)
    (R : NC × Dev) (hR : R = (let r := (({ D.tick with queue := D.queue.eraseIdx i }).bump c.kind).carry c; (r.2, r.1))) (hfw : D.fail < 9223372036854775808) :
    Calls Tryd.prog 14 #[.pointer (some ⟨P.d, 0, none⟩), .int .i64 i] w fun r w' => ∃ P', r = .returned (.tuple #[.agg #[.int .i64 R.1.kind, .int .i64 R.1.sector, .string R.1.data, .int .i64 R.1.tag], .nilIface]) ∧ DevAt B w' P' R.2 ∧ DKeep P P' w w' := by
  obtain ⟨d, mb, cv, qv, kv⟩ := P
  obtain ⟨g, qc, rfl⟩ : ∃ g c, qv = .slice (some ⟨g, 0, none⟩) D.queue.length c := by
    obtain ⟨g, qc, _, e, _⟩ := row4_open h.2.2.2.2.2.2.1 (Nat.lt_of_le_of_lt (Nat.zero_le i) hi)
    exact ⟨g, qc, e⟩
  obtain ⟨cA, cc, rfl⟩ : ∃ A c, cv = _ := own_form h.2.2.2.2.2.1
  obtain ⟨kA, kc, rfl⟩ : ∃ A c, kv = _ := own_form h.2.2.2.2.2.2.2.1
  have h1 := h.alloc (.cells #[.int .i64 0, .int .i64 0, .string ⟨#[]⟩, .int .i64 0] 38)
  have HN := Aside0.mk (show ¬ (DevP.mk d mb (.slice cA D.cache.length cc) (.slice (some ⟨g, 0, none⟩) D.queue.length qc) (.slice kA D.keep.length kc)).has w.heap.size from fun e => Nat.lt_irrefl _ (h.lt _ e).2)
  have HKN := Aside0.mk (show (Value.slice kA D.keep.length kc).ownBlock ≠ some w.heap.size from fun e => Nat.lt_irrefl _ (h.2.2.2.2.2.2.2.1.lt _ e).2)
  have c5 := (blk_cell h1.2.2.2.1 5).trans rfl
  have c4 := (blk_cell h1.2.2.2.1 4).trans rfl
  have c6 := (blk_cell h1.2.2.2.1 6).trans rfl
  have f6 := blk_frozen h1.2.2.2.1 6
  obtain ⟨x0, x1, x2, x3⟩ := row4_cell h1.2.2.2.2.2.2.1 i c hx
  have HD := Aside0.mk h1
  have HS := Aside0.mk hB
  have HI := Aside0.mk hi
  have HRR := Aside0.mk hR
  have HC := Aside0.mk hc
  have HQ := Aside0.mk hq
  have HKind := Aside0.mk hk
  have HX := Aside0.mk hx
  rw [hd] at c5
  have p1 : decide ((i : Int) < 0) = false := decide_eq_false (by omega)
  have p2 : decide ((D.queue.length : Int) ≤ (i : Int)) = false := decide_eq_false (by omega)
  have p2n : decide (D.queue.length ≤ i) = false := decide_eq_false (Nat.not_le.2 hi)
  have p3 : (D.fail == 1) = false := beq_eq_false_iff_ne.2 hf
  have hw1 : ∀ n : Int, 1 < n → n < 9223372036854775808 → wrap64 (n - 1) = n - 1 := fun n _ _ => by unfold wrap64; omega
  clear h h1 hd hf hc hq hB hR hk hx
  by_cases hft : 1 < D.fail
  · have p4 : decide (1 < D.fail) = true := decide_eq_true hft
    have HT := Aside0.mk (show { D with fail := wrap64 (D.fail - 1) } = D.tick from (if_pos hft).symm)
    clear hfw hw1 hft
    go_enter Tryd.func14, Tryd.ntmps14
    go_upto_region 12 with (fail)
    have HD1 := Aside0.mk (HD.out.ticked _ HT.out).1
    have HK1 := Aside0.mk ((dkeep_of (below_alloc (Below.refl w.heap.size w) (.cells #[.int .i64 0, .int .i64 0, .string ⟨#[]⟩, .int .i64 0] 38)) _).trans (HD.out.ticked _ HT.out).2)
    have HR1 := Aside0.mk (((HD.out.ticked _ HT.out).2.block w.heap.size (by simp) HN.out).trans (heap_alloc_new w (.cells #[.int .i64 0, .int .i64 0, .string ⟨#[]⟩, .int .i64 0] 38)))
    clear HT
    dsimp only at HD1 HK1 HR1
    have HQT := Aside0.mk (tick_queue D)
    have HCT := Aside0.mk (tick_cache D)
    generalize D.tick = T at HD1 HQT HCT HRR ⊢
    generalize (w.alloc (.cells #[.int .i64 0, .int .i64 0, .string ⟨#[]⟩, .int .i64 0] 38)).setCell ⟨d, 6, none⟩ (.int .i64 (wrap64 (D.fail - 1))) = w1 at HD1 HK1 HR1 ⊢
    generalize hb0 : w.heap.size = b0 at HR1 HN HKN ⊢
    have HS0 := Aside0.mk (Nat.le_of_eq hb0)
    clear hb0 c4 c5 c6 f6 x0 x1 x2 x3 HD
    have HCM := Aside0.mk (CAt.made HS.out HD1.out HK1.out HR1.out HN.out HKN.out HS0.out c)
    have hrow := HD1.out.2.2.2.2.2.2.1
    rw [HQT.out] at hrow
    obtain ⟨x0, x1, x2, x3⟩ := row4_cell hrow i c HX.out
    have hrow2 := HCM.out.dev.2.2.2.2.2.2.1
    rw [HQT.out] at hrow2
    have HDEL := Aside0.mk (nDelete g qc D.queue i B _ hrow2 HI.out (Nat.lt_trans HQ.out (by decide)))
    have c4 := (blk_cell HD1.out.2.2.2.1 4).trans rfl
    have c4b := (blk_cell HCM.out.dev.2.2.2.1 4).trans rfl
    have hgd := (HD1.out.apart (g := g) (.inr rfl)).1
    have hdl := (Array.getElem?_eq_some_iff.1 HCM.out.dev.2.2.2.1).1
    have HGD := Aside0.mk (And.intro hgd hdl)
    have hwi := wr_succ i (Nat.lt_trans hi (Nat.lt_trans HQ.out (by decide)))
    clear hrow hrow2 hgd hdl HN HKN HK1 HR1
    generalize hbx : w1.heap.size = bx at HCM HDEL HGD ⊢
    go_wp2_with (first | (go_at_call 39; refine HDEL.out.mono ?_; rintro e w3 ⟨rfl, ho3, hg3⟩; have hd3 := (hg3.block d HGD.out.2 (fun e => HGD.out.1 (Option.some.inj e).symm)).trans HCM.out.dev.2.2.2.1; have c43 := (blk_cell hd3 4).trans rfl; have f43 := blk_frozen hd3 4; have HG3 := Aside0.mk hg3; have HO3 := Aside0.mk ho3; clear ho3 hg3 hd3) | fail)
    have hreq := DevAt.reqd HCM.out.dev (vq := .slice (some ⟨g, 0, none⟩) (D.queue.length - 1) qc) (l := D.queue.eraseIdx i) (by rw [List.length_eraseIdx_of_lt hi]; exact HO3.out) HG3.out (fun k hk => .inl hk)
    have HC4 := Aside0.mk (HCM.out.step hreq.1 hreq.2 rfl)
    clear hreq HCM HO3 HG3 HDEL HGD c4 c4b x0 x1 x2 x3 hwi
    dsimp only at HC4
    generalize w3.setCell ⟨d, 4, none⟩ (.slice (some ⟨g, 0, none⟩) (D.queue.length - 1) qc) = w4 at HC4 ⊢
    obtain ⟨D4, hD4⟩ : ∃ D4, D4 = { T with queue := D.queue.eraseIdx i } := ⟨_, rfl⟩
    have HC4c := Aside0.mk (show D4.cache = D.cache from by rw [hD4]; exact HCT.out)
    rw [← hD4] at HC4 HRR
    clear hD4
    refine start_ (n := 12) (S := fun w' => True) (ds := []) #[false, false, false, false, false, false, false, false, false, false, false, false] (by kernel_rfl) rfl rfl trivial (fun hHeld => ?_)
    refine with_tabW nvme_Complete14.tab14 nvme_Complete14.bits14 (fun HT_ HW_ => ?_)
    have n0_ := Aside0.mk (HC4.out.below (below_drew1 (Below.refl _ _))); clear HC4; have HC4 := n0_; clear n0_; generalize w4.drew = wd at HC4 ⊢
    refine pure_ (i := 0) (N := some 78) (v := ?_) (a' := ?_) #[true, false, false, false, false, false, false, false, false, false, false, false] rfl rfl (any_of HT_.out (by kernel_rfl)) (fun _ _ _ h => h) (Or.inl ⟨by rfl, ?_⟩) ?_ ?_
    rotate_left
    · intro w'
      go_simp
      with_reducible rfl
    rotate_left
    · simp only [Act.put, List.setIfInBounds_toArray, List.set_cons_zero, List.set_cons_succ, i64_w, i32_w]
      rfl
    refine pure_ (i := 1) (N := some 79) (v := ?_) (a' := ?_) #[true, true, false, false, false, false, false, false, false, false, false, false] rfl rfl (any_of HT_.out (by kernel_rfl)) (fun _ _ _ h => h) (Or.inl ⟨by rfl, ?_⟩) ?_ ?_
    rotate_left
    · intro w'
      go_simp
      with_reducible rfl
    rotate_left
    · simp only [Act.put, List.setIfInBounds_toArray, List.set_cons_zero, List.set_cons_succ, i64_w, i32_w]
      rfl
    refine pure_ (i := 3) (N := some 81) (v := ?_) (a' := ?_) #[true, true, false, true, false, false, false, false, false, false, false, false] rfl rfl (any_of HT_.out (by kernel_rfl)) (fun _ _ _ h => h) (Or.inl ⟨by rfl, ?_⟩) ?_ ?_
    rotate_left
    · intro w'
      go_simp
      with_reducible rfl
    rotate_left
    · simp only [Act.put, List.setIfInBounds_toArray, List.set_cons_zero, List.set_cons_succ, i64_w, i32_w]
      rfl
    refine pure_ (i := 4) (N := some 82) (v := ?_) (a' := ?_) #[true, true, false, true, true, false, false, false, false, false, false, false] rfl rfl (any_of HT_.out (by kernel_rfl)) (fun _ _ _ h => h) (Or.inl ⟨by rfl, ?_⟩) ?_ ?_
    rotate_left
    · intro w'
      go_simp
      with_reducible rfl
    rotate_left
    · simp only [Act.put, List.setIfInBounds_toArray, List.set_cons_zero, List.set_cons_succ, i64_w, i32_w]
      rfl
    refine pure_ (i := 8) (N := some 86) (v := ?_) (a' := ?_) #[true, true, false, true, true, false, false, false, true, false, false, false] rfl rfl (any_of HT_.out (by kernel_rfl)) (fun _ _ _ h => h) (Or.inl ⟨by rfl, ?_⟩) ?_ ?_
    rotate_left
    · intro w'
      go_simp
      with_reducible rfl
    rotate_left
    · simp only [Act.put, List.setIfInBounds_toArray, List.set_cons_zero, List.set_cons_succ, i64_w, i32_w]
      rfl
    refine pure_ (i := 9) (N := some 87) (v := ?_) (a' := ?_) #[true, true, false, true, true, false, false, false, true, true, false, false] rfl rfl (any_of HT_.out (by kernel_rfl)) (fun _ _ _ h => h) (Or.inl ⟨by rfl, ?_⟩) ?_ ?_
    rotate_left
    · intro w'
      go_simp
      with_reducible rfl
    rotate_left
    · simp only [Act.put, List.setIfInBounds_toArray, List.set_cons_zero, List.set_cons_succ, i64_w, i32_w]
      rfl
    refine inv_at [2, 5, 6, 7, 10, 11] (fun a0_ b a w' => a = putSel a0_ b [(2, 80, .int .i64 3), (5, 83, .pointer (some ⟨d, 11, none⟩)), (6, 84, .int .i64 D4.c3), (7, 85, .int .i64 (wrap64 (D4.c3 + 1))), (10, 88, .pointer (some ⟨d, 11, none⟩))] ∧ (b 11 = false → CAt B w ⟨d, mb, .slice cA D.cache.length cc, .slice (some ⟨g, 0, none⟩) D.queue.length qc, .slice kA D.keep.length kc⟩ w' ⟨d, mb, .slice cA D.cache.length cc, .slice (some ⟨g, 0, none⟩) (D.queue.length - 1) qc, .slice kA D.keep.length kc⟩ D4 b0 bx c) ∧ (b 11 = true → CAt B w ⟨d, mb, .slice cA D.cache.length cc, .slice (some ⟨g, 0, none⟩) D.queue.length qc, .slice kA D.keep.length kc⟩ w' ⟨d, mb, .slice cA D.cache.length cc, .slice (some ⟨g, 0, none⟩) (D.queue.length - 1) qc, .slice kA D.keep.length kc⟩ (D4.bump 3) b0 bx c)) HT_.out HW_.out (by kernel_rfl) (by kernel_rfl) ?_ ?_ ?_
    · exact ⟨by simp only [putSel, Bool.false_eq_true, if_false], fun _ => HC4.out, fun h_ => absurd h_ (by decide)⟩
    · skip
      clear HC4
      refine steps_cons ?_ ?_
      · rintro b a w' ⟨ha, Q_HC4, Q_HF⟩ hb_ hon hoff
        refine ⟨_, rfl, fun K hK => ?_⟩
        have e79 : a.tmps[79]? = some (.pointer (some ⟨bx, 0, none⟩)) := by rw [ha]; exact (putSel_off rfl).trans rfl
        replace ha := Aside0.mk ha
        have HC4 := Aside0.mk (Q_HC4 (hoff 11 (by kernel_rfl)))
        have hx_ : w'.cell? ⟨bx, 0, none⟩ = some (.int .i64 3) := (blk_cell HC4.out.box 0).trans (by rw [HKind.out]; rfl)
        refine value_ (w1 := w') (v := .int .i64 3) (by rfl) rfl ?_ ?_
        · go_simp
          (try simp only [i64_w])
          try rfl
        refine hK.out _ _ ⟨(by rw [ha.out]; exact putSel_upk 0 hb_ rfl rfl rfl), Q_HC4, fun h0_ => absurd ((hoff 11 (by kernel_rfl)).symm.trans h0_) (by decide)⟩
      refine steps_cons ?_ ?_
      · rintro b a w' ⟨ha, Q_HC4, Q_HF⟩ hb_ hon hoff
        refine ⟨_, rfl, fun K hK => ?_⟩
        have e82 : a.tmps[82]? = some (.pointer (some ⟨d, 8, none⟩)) := by rw [ha]; exact (putSel_off rfl).trans rfl
        have e80 : a.tmps[80]? = some (.int .i64 3) := by rw [ha]; exact putSel_on (e := (2, 80, .int .i64 3)) 0 rfl rfl (hon 2 (by kernel_rfl)) rfl
        replace ha := Aside0.mk ha
        have HC4 := Aside0.mk (Q_HC4 (hoff 11 (by kernel_rfl)))
        refine value_ (w1 := w') (v := .pointer (some ⟨d, 11, none⟩)) (by rfl) rfl ?_ ?_
        · go_simp
          (try simp only [i64_w])
          try rfl
        refine hK.out _ _ ⟨(by rw [ha.out]; exact putSel_upk 1 hb_ rfl rfl rfl), Q_HC4, fun h0_ => absurd ((hoff 11 (by kernel_rfl)).symm.trans h0_) (by decide)⟩
      refine steps_cons ?_ ?_
      · rintro b a w' ⟨ha, Q_HC4, Q_HF⟩ hb_ hon hoff
        refine ⟨_, rfl, fun K hK => ?_⟩
        have e83 : a.tmps[83]? = some (.pointer (some ⟨d, 11, none⟩)) := by rw [ha]; exact putSel_on (e := (5, 83, .pointer (some ⟨d, 11, none⟩))) 1 rfl rfl (hon 5 (by kernel_rfl)) rfl
        replace ha := Aside0.mk ha
        have HC4 := Aside0.mk (Q_HC4 (hoff 11 (by kernel_rfl)))
        have hx_ := (blk_cell HC4.out.dev.2.2.2.1 11).trans rfl
        refine value_ (w1 := w') (v := .int .i64 D4.c3) (by rfl) rfl ?_ ?_
        · go_simp
          (try simp only [i64_w])
          try rfl
        refine hK.out _ _ ⟨(by rw [ha.out]; exact putSel_upk 2 hb_ rfl rfl rfl), Q_HC4, fun h0_ => absurd ((hoff 11 (by kernel_rfl)).symm.trans h0_) (by decide)⟩
      refine steps_cons ?_ ?_
      · rintro b a w' ⟨ha, Q_HC4, Q_HF⟩ hb_ hon hoff
        refine ⟨_, rfl, fun K hK => ?_⟩
        have e84 : a.tmps[84]? = some (.int .i64 D4.c3) := by rw [ha]; exact putSel_on (e := (6, 84, .int .i64 D4.c3)) 2 rfl rfl (hon 6 (by kernel_rfl)) rfl
        replace ha := Aside0.mk ha
        have HC4 := Aside0.mk (Q_HC4 (hoff 11 (by kernel_rfl)))
        refine value_ (w1 := w') (v := .int .i64 (wrap64 (D4.c3 + 1))) (by rfl) rfl ?_ ?_
        · go_simp
          (try simp only [i64_w])
          try rfl
        refine hK.out _ _ ⟨(by rw [ha.out]; exact putSel_upk 3 hb_ rfl rfl rfl), Q_HC4, fun h0_ => absurd ((hoff 11 (by kernel_rfl)).symm.trans h0_) (by decide)⟩
      refine steps_cons ?_ ?_
      · rintro b a w' ⟨ha, Q_HC4, Q_HF⟩ hb_ hon hoff
        refine ⟨_, rfl, fun K hK => ?_⟩
        have e87 : a.tmps[87]? = some (.pointer (some ⟨d, 8, none⟩)) := by rw [ha]; exact (putSel_off rfl).trans rfl
        have e80 : a.tmps[80]? = some (.int .i64 3) := by rw [ha]; exact putSel_on (e := (2, 80, .int .i64 3)) 0 rfl rfl (hon 2 (by kernel_rfl)) rfl
        replace ha := Aside0.mk ha
        have HC4 := Aside0.mk (Q_HC4 (hoff 11 (by kernel_rfl)))
        refine value_ (w1 := w') (v := .pointer (some ⟨d, 11, none⟩)) (by rfl) rfl ?_ ?_
        · go_simp
          (try simp only [i64_w])
          try rfl
        refine hK.out _ _ ⟨(by rw [ha.out]; exact putSel_upk 4 hb_ rfl rfl rfl), Q_HC4, fun h0_ => absurd ((hoff 11 (by kernel_rfl)).symm.trans h0_) (by decide)⟩
      refine steps_cons ?_ ?_
      · rintro b a w' ⟨ha, Q_HC4, Q_HF⟩ hb_ hon hoff
        refine ⟨_, rfl, fun K hK => ?_⟩
        have e88 : a.tmps[88]? = some (.pointer (some ⟨d, 11, none⟩)) := by rw [ha]; exact putSel_on (e := (10, 88, .pointer (some ⟨d, 11, none⟩))) 4 rfl rfl (hon 10 (by kernel_rfl)) rfl
        have e85 : a.tmps[85]? = some (.int .i64 (wrap64 (D4.c3 + 1))) := by rw [ha]; exact putSel_on (e := (7, 85, .int .i64 (wrap64 (D4.c3 + 1)))) 3 rfl rfl (hon 7 (by kernel_rfl)) rfl
        replace ha := Aside0.mk ha
        have HC4 := Aside0.mk (Q_HC4 hb_)
        have hx_ := (blk_cell HC4.out.dev.2.2.2.1 11).trans rfl
        have hf_ := blk_frozen HC4.out.dev.2.2.2.1 11
        refine skip_ (w1 := w'.setCell ⟨d, 11, none⟩ (.int .i64 (wrap64 (D4.c3 + 1)))) (by rfl) rfl ?_ ?_
        · go_simp
          try rfl
        refine hK.out _ _ ⟨(by rw [ha.out]; exact putSel_none (v := undef) rfl), fun h0_ => absurd ((up_self b 11).symm.trans h0_) (by decide), fun h0_ => HC4.out.step (HC4.out.dev.bumped).2.2.1.1 (HC4.out.dev.bumped).2.2.1.2 rfl⟩
      exact steps_nil
    rintro b a w7 hall ⟨ha, Q_HC4, Q_HF⟩
    clear HC4
    have hb2_ := hall 2 (by kernel_rfl)
    have hb5_ := hall 5 (by kernel_rfl)
    have hb6_ := hall 6 (by kernel_rfl)
    have hb7_ := hall 7 (by kernel_rfl)
    have hb10_ := hall 10 (by kernel_rfl)
    have hb11_ := hall 11 (by kernel_rfl)
    subst ha
    simp only [putSel, hb2_, hb5_, hb6_, hb7_, hb10_, hb11_, if_true, Act.put, List.setIfInBounds_toArray, List.set_cons_zero, List.set_cons_succ]
    clear Q_HC4
    have HF := Aside0.mk (Q_HF hb11_)
    clear Q_HF
    clear hall hb2_ hb5_ hb6_ hb7_ hb10_ hb11_
    have HC5 := HF
    clear HF
    have q1 : (c.kind == 1) = false := by rw [HKind.out]; rfl
    have q2 : (c.kind == 2) = false := by rw [HKind.out]; rfl
    have q3 : (c.kind == 3) = true := by rw [HKind.out]; rfl
    have q4 : (c.kind == 4) = false := by rw [HKind.out]; rfl
    have y0 := (blk_cell HC5.out.box 0).trans rfl
    have y1 := (blk_cell HC5.out.box 1).trans rfl
    have y2 := (blk_cell HC5.out.box 2).trans rfl
    have y3 := (blk_cell HC5.out.box 3).trans rfl
    have hmf : ∀ (fn : Fn) (first cap : Array Value) (w : World), (Instr.makeFunc fn first cap).run Tryd.prog w = .ok (.func fn first cap) w := fun _ _ _ _ => rfl
    obtain ⟨D5, hD5⟩ : ∃ D5, D5 = D4.bump 3 := ⟨_, rfl⟩
    have hD5c : D5.cache = D.cache := by rw [hD5]; exact HC4c.out
    rw [← hD5] at HC5
    have hrowc := HC5.out.dev.2.2.2.2.2.1
    rw [hD5c] at hrowc
    have HDF := Aside0.mk (nDelFunc _ bx c D.cache B w7 hrowc (Nat.lt_trans HC.out (by decide)) HC5.out.box (fun e => HC5.out.n6 (.inr (.inr (.inl e)))))
    have HGC := Aside0.mk (show ∀ gg, (Value.slice cA D.cache.length cc).ownBlock = some gg → gg ≠ d from fun gg hgg => (HC5.out.dev.apart (.inl hgg)).1)
    have c3 := (blk_cell HC5.out.dev.2.2.2.1 3).trans rfl
    have HD5 := Aside0.mk hD5
    have HD5c := Aside0.mk hD5c
    clear hrowc hD5 hD5c
    go_upto_region 20 with (first | (go_at_call 41; (with_reducible refine HDF.out.mono ?_); rintro e w9 ⟨v9, rfl, ho9, hg9, he9⟩; obtain ⟨A9, c9, rfl⟩ := own_form ho9; have hd9 := (hg9.block d (Array.getElem?_eq_some_iff.1 HC5.out.dev.2.2.2.1).1 (fun e => HGC.out d e.symm rfl)).trans HC5.out.dev.2.2.2.1; have c39 := (blk_cell hd9 3).trans rfl; have f39 := blk_frozen hd9 3; have HO9 := Aside0.mk ho9; have HG9 := Aside0.mk hg9; have HE9 := Aside0.mk he9; clear ho9 hg9 he9 hd9) | fail)
    have hreq := DevAt.reqc HC5.out.dev HO9.out HG9.out (fun k hk => .inl (HE9.out.symm.trans hk))
    have HC6 := Aside0.mk (HC5.out.step hreq.1 hreq.2 rfl)
    dsimp only at HC6
    clear hreq HO9 HG9 HE9 HDF HGC c3 c39 f39 HC5 q1 q2 q3 q4 y0 y1 y2 y3
    generalize (D.cache.filter fun x => x.sector != c.sector).length = n9 at HC6 ⊢
    generalize w9.setCell ⟨d, 3, none⟩ (.slice A9 n9 c9) = w2 at HC6 ⊢
    obtain ⟨D6, hD6⟩ : ∃ D6, D6 = { D5 with cache := D.cache.filter fun x => x.sector != c.sector } := ⟨_, rfl⟩
    have hR5 : R = (c, { D6 with last := putM c.sector c D6.last }) := by
      rw [HRR.out, HKind.out, ← HD5.out, hD6, ← HD5c.out]
      unfold Dev.carry
      rw [if_neg (by rw [HKind.out]; decide), if_pos HKind.out]
    rw [← hD6] at HC6
    have HR5 := Aside0.mk hR5
    obtain ⟨w5, hw5⟩ : ∃ w5, w5 = w2 := ⟨_, rfl⟩
    have HCW := Aside0.mk (by rw [hw5]; exact HC6.out : CAt B w ⟨d, mb, .slice cA D.cache.length cc, .slice (some ⟨g, 0, none⟩) D.queue.length qc, .slice kA D.keep.length kc⟩ w5 ⟨d, mb, .slice A9 n9 c9, .slice (some ⟨g, 0, none⟩) (D.queue.length - 1) qc, .slice kA D.keep.length kc⟩ D6 b0 bx c)
    have HG := Aside0.mk (by rw [hw5]; exact World.grownBy.refl _ _ : w5.grownBy w2 (some mb))
    have HD := Aside0.mk HC6.out.dev
    clear HC
    have HC := Aside0.mk HC6.out.box
    clear HC6 hw5 hR5 hD6
    refine start_ (n := 8) (S := fun w' => True) (ds := []) #[false, false, false, false, false, false, false, false] (by kernel_rfl) rfl rfl trivial (fun hHeld => ?_)
    refine with_tabW nvme_Complete20.tab20 nvme_Complete20.bits20 (fun HT_ HW_ => ?_)
    have n0_ := Aside0.mk HD.out.drew; have n1_ := Aside0.mk (gr_drewc HG.out); have n2_ := Aside0.mk (blk_drew HC.out); clear HD HG HC; have HD := n0_; have HG := n1_; have HC := n2_; clear n0_ n1_ n2_; generalize w2.drew = wd at HD HG HC ⊢
    refine pure_ (i := 0) (N := some 109) (v := ?_) (a' := ?_) #[true, false, false, false, false, false, false, false] rfl rfl (any_of HT_.out (by kernel_rfl)) (fun _ _ _ h => h) (Or.inl ⟨by rfl, ?_⟩) ?_ ?_
    rotate_left
    · intro w'
      go_simp
      with_reducible rfl
    rotate_left
    · simp only [Act.put, List.setIfInBounds_toArray, List.set_cons_zero, List.set_cons_succ, i64_w, i32_w]
      rfl
    refine pure_ (i := 1) (N := some 110) (v := ?_) (a' := ?_) #[true, true, false, false, false, false, false, false] rfl rfl (any_of HT_.out (by kernel_rfl)) (fun _ _ _ h => h) (Or.inl ⟨by rfl, ?_⟩) ?_ ?_
    rotate_left
    · intro w'
      go_simp
      with_reducible rfl
    rotate_left
    · simp only [Act.put, List.setIfInBounds_toArray, List.set_cons_zero, List.set_cons_succ, i64_w, i32_w]
      rfl
    refine pure_ (i := 2) (N := some 111) (v := ?_) (a' := ?_) #[true, true, true, false, false, false, false, false] rfl rfl (any_of HT_.out (by kernel_rfl)) (fun _ _ _ h => h) (Or.inl ⟨by rfl, ?_⟩) ?_ ?_
    rotate_left
    · intro w'
      go_simp
      with_reducible rfl
    rotate_left
    · simp only [Act.put, List.setIfInBounds_toArray, List.set_cons_zero, List.set_cons_succ, i64_w, i32_w]
      rfl
    refine pure_ (i := 4) (N := some 113) (v := ?_) (a' := ?_) #[true, true, true, false, true, false, false, false] rfl rfl (any_of HT_.out (by kernel_rfl)) (fun _ _ _ h => h) (Or.inl ⟨by rfl, ?_⟩) ?_ ?_
    rotate_left
    · intro w'
      go_simp
      with_reducible rfl
    rotate_left
    · simp only [Act.put, List.setIfInBounds_toArray, List.set_cons_zero, List.set_cons_succ, i64_w, i32_w]
      rfl
    refine inv_at [3, 5, 6, 7] (fun a0_ b a w' => a = putSel a0_ b [(3, 112, .map (some mb)), (5, 114, .int .i64 c.sector), (6, 115, .agg #[.int .i64 c.kind, .int .i64 c.sector, .string c.data, .int .i64 c.tag])] ∧ (b 7 = false → DevAt B w' ⟨d, mb, .slice A9 n9 c9, .slice (some ⟨g, 0, none⟩) (D.queue.length - 1) qc, .slice kA D.keep.length kc⟩ D6) ∧ (b 7 = false → w5.grownBy w' (some mb)) ∧ (b 7 = false → w'.heap[bx]? = some (.cells #[.int .i64 c.kind, .int .i64 c.sector, .string c.data, .int .i64 c.tag] 38 (0, 0))) ∧ (b 7 = true → DevAt B w' ⟨d, mb, .slice A9 n9 c9, .slice (some ⟨g, 0, none⟩) (D.queue.length - 1) qc, .slice kA D.keep.length kc⟩ { D6 with last := putM c.sector c (D6).last } ∧ w5.grownBy w' (some mb))) HT_.out HW_.out (by kernel_rfl) (by kernel_rfl) ?_ ?_ ?_
    · exact ⟨by simp only [putSel, Bool.false_eq_true, if_false], fun _ => HD.out, fun _ => HG.out, fun _ => HC.out, fun h_ => absurd h_ (by decide)⟩
    · skip
      clear HC HD HG
      refine steps_cons ?_ ?_
      · rintro b a w' ⟨ha, Q_HD, Q_HG, Q_HC, Q_HF⟩ hb_ hon hoff
        refine ⟨_, rfl, fun K hK => ?_⟩
        have e111 : a.tmps[111]? = some (.pointer (some ⟨d, 2, none⟩)) := by rw [ha]; exact (putSel_off rfl).trans rfl
        replace ha := Aside0.mk ha
        have HD := Aside0.mk (Q_HD (hoff 7 (by kernel_rfl)))
        have HG := Aside0.mk (Q_HG (hoff 7 (by kernel_rfl)))
        have HC := Aside0.mk (Q_HC (hoff 7 (by kernel_rfl)))
        have hx_ := (blk_cell HD.out.2.2.2.1 2).trans rfl
        refine value_ (w1 := w') (v := .map (some mb)) (by rfl) rfl ?_ ?_
        · go_simp
          (try simp only [i64_w])
          try rfl
        refine hK.out _ _ ⟨(by rw [ha.out]; exact putSel_upk 0 hb_ rfl rfl rfl), Q_HD, Q_HG, Q_HC, fun h0_ => absurd ((hoff 7 (by kernel_rfl)).symm.trans h0_) (by decide)⟩
      refine steps_cons ?_ ?_
      · rintro b a w' ⟨ha, Q_HD, Q_HG, Q_HC, Q_HF⟩ hb_ hon hoff
        refine ⟨_, rfl, fun K hK => ?_⟩
        have e113 : a.tmps[113]? = some (.pointer (some ⟨bx, 1, none⟩)) := by rw [ha]; exact (putSel_off rfl).trans rfl
        replace ha := Aside0.mk ha
        have HD := Aside0.mk (Q_HD (hoff 7 (by kernel_rfl)))
        have HG := Aside0.mk (Q_HG (hoff 7 (by kernel_rfl)))
        have HC := Aside0.mk (Q_HC (hoff 7 (by kernel_rfl)))
        have hx_ := (blk_cell HC.out 1).trans rfl
        refine value_ (w1 := w') (v := .int .i64 c.sector) (by rfl) rfl ?_ ?_
        · go_simp
          (try simp only [i64_w])
          try rfl
        refine hK.out _ _ ⟨(by rw [ha.out]; exact putSel_upk 1 hb_ rfl rfl rfl), Q_HD, Q_HG, Q_HC, fun h0_ => absurd ((hoff 7 (by kernel_rfl)).symm.trans h0_) (by decide)⟩
      refine steps_cons ?_ ?_
      · rintro b a w' ⟨ha, Q_HD, Q_HG, Q_HC, Q_HF⟩ hb_ hon hoff
        refine ⟨_, rfl, fun K hK => ?_⟩
        have e6 : a.tmps[6]? = some (.pointer (some ⟨bx, 0, none⟩)) := by rw [ha]; exact (putSel_off rfl).trans rfl
        replace ha := Aside0.mk ha
        have HD := Aside0.mk (Q_HD (hoff 7 (by kernel_rfl)))
        have HG := Aside0.mk (Q_HG (hoff 7 (by kernel_rfl)))
        have HC := Aside0.mk (Q_HC (hoff 7 (by kernel_rfl)))
        have hx0 := (blk_cell HC.out 0).trans rfl
        have hx1 := (blk_cell HC.out 1).trans rfl
        have hx2 := (blk_cell HC.out 2).trans rfl
        have hx3 := (blk_cell HC.out 3).trans rfl
        refine value_ (w1 := w') (v := .agg #[.int .i64 c.kind, .int .i64 c.sector, .string c.data, .int .i64 c.tag]) (by rfl) rfl ?_ ?_
        · go_simp
          (try simp only [i64_w])
          try rfl
        refine hK.out _ _ ⟨(by rw [ha.out]; exact putSel_upk 2 hb_ rfl rfl rfl), Q_HD, Q_HG, Q_HC, fun h0_ => absurd ((hoff 7 (by kernel_rfl)).symm.trans h0_) (by decide)⟩
      refine steps_cons ?_ ?_
      · rintro b a w' ⟨ha, Q_HD, Q_HG, Q_HC, Q_HF⟩ hb_ hon hoff
        refine ⟨_, rfl, fun K hK => ?_⟩
        have e112 : a.tmps[112]? = some (.map (some mb)) := by rw [ha]; exact putSel_on (e := (3, 112, .map (some mb))) 0 rfl rfl (hon 3 (by kernel_rfl)) rfl
        have e114 : a.tmps[114]? = some (.int .i64 c.sector) := by rw [ha]; exact putSel_on (e := (5, 114, .int .i64 c.sector)) 1 rfl rfl (hon 5 (by kernel_rfl)) rfl
        have e115 : a.tmps[115]? = some (.agg #[.int .i64 c.kind, .int .i64 c.sector, .string c.data, .int .i64 c.tag]) := by rw [ha]; exact putSel_on (e := (6, 115, .agg #[.int .i64 c.kind, .int .i64 c.sector, .string c.data, .int .i64 c.tag])) 2 rfl rfl (hon 6 (by kernel_rfl)) rfl
        replace ha := Aside0.mk ha
        have HD := Aside0.mk (Q_HD hb_)
        have HG := Aside0.mk (Q_HG hb_)
        have HC := Aside0.mk (Q_HC hb_)
        obtain ⟨wA, hr_, ha1_, ha2_⟩ := dev_map HD.out c
        refine skip_ (w1 := wA) (by rfl) rfl ?_ ?_
        · have hr2_ := hr_
          dsimp only at hr2_
          simp [execOp, resolve, invoke, builtin, Act.eval, hr2_, Result.andThen, *]
        refine hK.out _ _ ⟨(by rw [ha.out]; exact putSel_none (v := undef) rfl), fun h0_ => absurd ((up_self b 7).symm.trans h0_) (by decide), fun h0_ => absurd ((up_self b 7).symm.trans h0_) (by decide), fun h0_ => absurd ((up_self b 7).symm.trans h0_) (by decide), fun h0_ => ⟨ha1_, gr_transc HG.out ha2_⟩⟩
      exact steps_nil
    rintro b a w8 hall ⟨ha, Q_HD, Q_HG, Q_HC, Q_HF⟩
    clear HC HD HG
    have hb3_ := hall 3 (by kernel_rfl)
    have hb5_ := hall 5 (by kernel_rfl)
    have hb6_ := hall 6 (by kernel_rfl)
    have hb7_ := hall 7 (by kernel_rfl)
    subst ha
    simp only [putSel, hb3_, hb5_, hb6_, hb7_, if_true, Act.put, List.setIfInBounds_toArray, List.set_cons_zero, List.set_cons_succ]
    clear Q_HD
    clear Q_HG
    clear Q_HC
    have HF := Aside0.mk (Q_HF hb7_)
    clear Q_HF
    clear hall hb3_ hb5_ hb6_ hb7_
    have HC6 := Aside0.mk (HCW.out.step HF.out.1 (grown_dkeep HF.out.2) rfl)
    clear HF HCW
    obtain rfl : R = (c, { D6 with last := putM c.sector c D6.last }) := HR5.out
    have q1 : (c.kind == 1) = false := by rw [HKind.out]; rfl
    have q2 : (c.kind == 2) = false := by rw [HKind.out]; rfl
    have q3 : (c.kind == 3) = true := by rw [HKind.out]; rfl
    have q4 : (c.kind == 4) = false := by rw [HKind.out]; rfl
    have z0 := (blk_cell HC6.out.box 0).trans rfl
    have z1 := (blk_cell HC6.out.box 1).trans rfl
    have z2 := (blk_cell HC6.out.box 2).trans rfl
    have z3 := (blk_cell HC6.out.box 3).trans rfl
    have r0 := (blk_cell HC6.out.res 0).trans rfl
    have r1 := (blk_cell HC6.out.res 1).trans rfl
    have r2 := (blk_cell HC6.out.res 2).trans rfl
    have r3 := (blk_cell HC6.out.res 3).trans rfl
    have g0 := blk_frozen HC6.out.res 0
    have g1 := blk_frozen HC6.out.res 1
    have g2 := blk_frozen HC6.out.res 2
    have g3 := blk_frozen HC6.out.res 3
    go_wp2_with (fail)
    refine bodyPost_ret (results_ct rfl _ _ b0 38 #[.int .i64 c.kind, .int .i64 c.sector, .string c.data, .int .i64 c.tag] (0, 0) _ rfl (set4c HC6.out.res) Tryd.underlying38 rfl (by kernel_rfl)) rfl ?_
    have hk9 := (((HC6.out.keep.setNew HC6.out.s0 0 (.int .i64 c.kind)).setNew HC6.out.s0 1 (.int .i64 c.sector)).setNew HC6.out.s0 2 (.string c.data)).setNew HC6.out.s0 3 (.int .i64 c.tag)
    have hd9 := (((HC6.out.dev.setOther HC6.out.n0 HC6.out.k0 0 (.int .i64 c.kind)).setOther HC6.out.n0 HC6.out.k0 1 (.int .i64 c.sector)).setOther HC6.out.n0 HC6.out.k0 2 (.string c.data)).setOther HC6.out.n0 HC6.out.k0 3 (.int .i64 c.tag)
    first | exact ⟨_, rfl, hd9, hk9⟩ | exact ⟨rfl, _, hd9, hk9⟩
  · have p4 : decide (1 < D.fail) = false := decide_eq_false hft
    have HT := Aside0.mk (tick_same D hft)
    clear hfw hw1 hft
    go_enter Tryd.func14, Tryd.ntmps14
    go_upto_region 12 with (fail)
    have HD1 := Aside0.mk (by rw [HT.out]; exact HD.out : DevAt B (w.alloc (.cells #[.int .i64 0, .int .i64 0, .string ⟨#[]⟩, .int .i64 0] 38)) ⟨d, mb, .slice cA D.cache.length cc, .slice (some ⟨g, 0, none⟩) D.queue.length qc, .slice kA D.keep.length kc⟩ D.tick)
    have HK1 := Aside0.mk (dkeep_of (below_alloc (Below.refl w.heap.size w) (.cells #[.int .i64 0, .int .i64 0, .string ⟨#[]⟩, .int .i64 0] 38)) ⟨d, mb, .slice cA D.cache.length cc, .slice (some ⟨g, 0, none⟩) D.queue.length qc, .slice kA D.keep.length kc⟩)
    have HR1 := Aside0.mk (heap_alloc_new w (.cells #[.int .i64 0, .int .i64 0, .string ⟨#[]⟩, .int .i64 0] 38))
    clear HT
    have HQT := Aside0.mk (tick_queue D)
    have HCT := Aside0.mk (tick_cache D)
    generalize D.tick = T at HD1 HQT HCT HRR ⊢
    generalize w.alloc (.cells #[.int .i64 0, .int .i64 0, .string ⟨#[]⟩, .int .i64 0] 38) = w1 at HD1 HK1 HR1 ⊢
    generalize hb0 : w.heap.size = b0 at HR1 HN HKN ⊢
    have HS0 := Aside0.mk (Nat.le_of_eq hb0)
    clear hb0 c4 c5 c6 f6 x0 x1 x2 x3 HD
    have HCM := Aside0.mk (CAt.made HS.out HD1.out HK1.out HR1.out HN.out HKN.out HS0.out c)
    have hrow := HD1.out.2.2.2.2.2.2.1
    rw [HQT.out] at hrow
    obtain ⟨x0, x1, x2, x3⟩ := row4_cell hrow i c HX.out
    have hrow2 := HCM.out.dev.2.2.2.2.2.2.1
    rw [HQT.out] at hrow2
    have HDEL := Aside0.mk (nDelete g qc D.queue i B _ hrow2 HI.out (Nat.lt_trans HQ.out (by decide)))
    have c4 := (blk_cell HD1.out.2.2.2.1 4).trans rfl
    have c4b := (blk_cell HCM.out.dev.2.2.2.1 4).trans rfl
    have hgd := (HD1.out.apart (g := g) (.inr rfl)).1
    have hdl := (Array.getElem?_eq_some_iff.1 HCM.out.dev.2.2.2.1).1
    have HGD := Aside0.mk (And.intro hgd hdl)
    have hwi := wr_succ i (Nat.lt_trans hi (Nat.lt_trans HQ.out (by decide)))
    clear hrow hrow2 hgd hdl HN HKN HK1 HR1
    generalize hbx : w1.heap.size = bx at HCM HDEL HGD ⊢
    go_wp2_with (first | (go_at_call 39; refine HDEL.out.mono ?_; rintro e w3 ⟨rfl, ho3, hg3⟩; have hd3 := (hg3.block d HGD.out.2 (fun e => HGD.out.1 (Option.some.inj e).symm)).trans HCM.out.dev.2.2.2.1; have c43 := (blk_cell hd3 4).trans rfl; have f43 := blk_frozen hd3 4; have HG3 := Aside0.mk hg3; have HO3 := Aside0.mk ho3; clear ho3 hg3 hd3) | fail)
    have hreq := DevAt.reqd HCM.out.dev (vq := .slice (some ⟨g, 0, none⟩) (D.queue.length - 1) qc) (l := D.queue.eraseIdx i) (by rw [List.length_eraseIdx_of_lt hi]; exact HO3.out) HG3.out (fun k hk => .inl hk)
    have HC4 := Aside0.mk (HCM.out.step hreq.1 hreq.2 rfl)
    clear hreq HCM HO3 HG3 HDEL HGD c4 c4b x0 x1 x2 x3 hwi
    dsimp only at HC4
    generalize w3.setCell ⟨d, 4, none⟩ (.slice (some ⟨g, 0, none⟩) (D.queue.length - 1) qc) = w4 at HC4 ⊢
    obtain ⟨D4, hD4⟩ : ∃ D4, D4 = { T with queue := D.queue.eraseIdx i } := ⟨_, rfl⟩
    have HC4c := Aside0.mk (show D4.cache = D.cache from by rw [hD4]; exact HCT.out)
    rw [← hD4] at HC4 HRR
    clear hD4
    refine start_ (n := 12) (S := fun w' => True) (ds := []) #[false, false, false, false, false, false, false, false, false, false, false, false] (by kernel_rfl) rfl rfl trivial (fun hHeld => ?_)
    refine with_tabW nvme_Complete14.tab14 nvme_Complete14.bits14 (fun HT_ HW_ => ?_)
    have n0_ := Aside0.mk (HC4.out.below (below_drew1 (Below.refl _ _))); clear HC4; have HC4 := n0_; clear n0_; generalize w4.drew = wd at HC4 ⊢
    refine pure_ (i := 0) (N := some 78) (v := ?_) (a' := ?_) #[true, false, false, false, false, false, false, false, false, false, false, false] rfl rfl (any_of HT_.out (by kernel_rfl)) (fun _ _ _ h => h) (Or.inl ⟨by rfl, ?_⟩) ?_ ?_
    rotate_left
    · intro w'
      go_simp
      with_reducible rfl
    rotate_left
    · simp only [Act.put, List.setIfInBounds_toArray, List.set_cons_zero, List.set_cons_succ, i64_w, i32_w]
      rfl
    refine pure_ (i := 1) (N := some 79) (v := ?_) (a' := ?_) #[true, true, false, false, false, false, false, false, false, false, false, false] rfl rfl (any_of HT_.out (by kernel_rfl)) (fun _ _ _ h => h) (Or.inl ⟨by rfl, ?_⟩) ?_ ?_
    rotate_left
    · intro w'
      go_simp
      with_reducible rfl
    rotate_left
    · simp only [Act.put, List.setIfInBounds_toArray, List.set_cons_zero, List.set_cons_succ, i64_w, i32_w]
      rfl
    refine pure_ (i := 3) (N := some 81) (v := ?_) (a' := ?_) #[true, true, false, true, false, false, false, false, false, false, false, false] rfl rfl (any_of HT_.out (by kernel_rfl)) (fun _ _ _ h => h) (Or.inl ⟨by rfl, ?_⟩) ?_ ?_
    rotate_left
    · intro w'
      go_simp
      with_reducible rfl
    rotate_left
    · simp only [Act.put, List.setIfInBounds_toArray, List.set_cons_zero, List.set_cons_succ, i64_w, i32_w]
      rfl
    refine pure_ (i := 4) (N := some 82) (v := ?_) (a' := ?_) #[true, true, false, true, true, false, false, false, false, false, false, false] rfl rfl (any_of HT_.out (by kernel_rfl)) (fun _ _ _ h => h) (Or.inl ⟨by rfl, ?_⟩) ?_ ?_
    rotate_left
    · intro w'
      go_simp
      with_reducible rfl
    rotate_left
    · simp only [Act.put, List.setIfInBounds_toArray, List.set_cons_zero, List.set_cons_succ, i64_w, i32_w]
      rfl
    refine pure_ (i := 8) (N := some 86) (v := ?_) (a' := ?_) #[true, true, false, true, true, false, false, false, true, false, false, false] rfl rfl (any_of HT_.out (by kernel_rfl)) (fun _ _ _ h => h) (Or.inl ⟨by rfl, ?_⟩) ?_ ?_
    rotate_left
    · intro w'
      go_simp
      with_reducible rfl
    rotate_left
    · simp only [Act.put, List.setIfInBounds_toArray, List.set_cons_zero, List.set_cons_succ, i64_w, i32_w]
      rfl
    refine pure_ (i := 9) (N := some 87) (v := ?_) (a' := ?_) #[true, true, false, true, true, false, false, false, true, true, false, false] rfl rfl (any_of HT_.out (by kernel_rfl)) (fun _ _ _ h => h) (Or.inl ⟨by rfl, ?_⟩) ?_ ?_
    rotate_left
    · intro w'
      go_simp
      with_reducible rfl
    rotate_left
    · simp only [Act.put, List.setIfInBounds_toArray, List.set_cons_zero, List.set_cons_succ, i64_w, i32_w]
      rfl
    refine inv_at [2, 5, 6, 7, 10, 11] (fun a0_ b a w' => a = putSel a0_ b [(2, 80, .int .i64 3), (5, 83, .pointer (some ⟨d, 11, none⟩)), (6, 84, .int .i64 D4.c3), (7, 85, .int .i64 (wrap64 (D4.c3 + 1))), (10, 88, .pointer (some ⟨d, 11, none⟩))] ∧ (b 11 = false → CAt B w ⟨d, mb, .slice cA D.cache.length cc, .slice (some ⟨g, 0, none⟩) D.queue.length qc, .slice kA D.keep.length kc⟩ w' ⟨d, mb, .slice cA D.cache.length cc, .slice (some ⟨g, 0, none⟩) (D.queue.length - 1) qc, .slice kA D.keep.length kc⟩ D4 b0 bx c) ∧ (b 11 = true → CAt B w ⟨d, mb, .slice cA D.cache.length cc, .slice (some ⟨g, 0, none⟩) D.queue.length qc, .slice kA D.keep.length kc⟩ w' ⟨d, mb, .slice cA D.cache.length cc, .slice (some ⟨g, 0, none⟩) (D.queue.length - 1) qc, .slice kA D.keep.length kc⟩ (D4.bump 3) b0 bx c)) HT_.out HW_.out (by kernel_rfl) (by kernel_rfl) ?_ ?_ ?_
    · exact ⟨by simp only [putSel, Bool.false_eq_true, if_false], fun _ => HC4.out, fun h_ => absurd h_ (by decide)⟩
    · skip
      clear HC4
      refine steps_cons ?_ ?_
      · rintro b a w' ⟨ha, Q_HC4, Q_HF⟩ hb_ hon hoff
        refine ⟨_, rfl, fun K hK => ?_⟩
        have e79 : a.tmps[79]? = some (.pointer (some ⟨bx, 0, none⟩)) := by rw [ha]; exact (putSel_off rfl).trans rfl
        replace ha := Aside0.mk ha
        have HC4 := Aside0.mk (Q_HC4 (hoff 11 (by kernel_rfl)))
        have hx_ : w'.cell? ⟨bx, 0, none⟩ = some (.int .i64 3) := (blk_cell HC4.out.box 0).trans (by rw [HKind.out]; rfl)
        refine value_ (w1 := w') (v := .int .i64 3) (by rfl) rfl ?_ ?_
        · go_simp
          (try simp only [i64_w])
          try rfl
        refine hK.out _ _ ⟨(by rw [ha.out]; exact putSel_upk 0 hb_ rfl rfl rfl), Q_HC4, fun h0_ => absurd ((hoff 11 (by kernel_rfl)).symm.trans h0_) (by decide)⟩
      refine steps_cons ?_ ?_
      · rintro b a w' ⟨ha, Q_HC4, Q_HF⟩ hb_ hon hoff
        refine ⟨_, rfl, fun K hK => ?_⟩
        have e82 : a.tmps[82]? = some (.pointer (some ⟨d, 8, none⟩)) := by rw [ha]; exact (putSel_off rfl).trans rfl
        have e80 : a.tmps[80]? = some (.int .i64 3) := by rw [ha]; exact putSel_on (e := (2, 80, .int .i64 3)) 0 rfl rfl (hon 2 (by kernel_rfl)) rfl
        replace ha := Aside0.mk ha
        have HC4 := Aside0.mk (Q_HC4 (hoff 11 (by kernel_rfl)))
        refine value_ (w1 := w') (v := .pointer (some ⟨d, 11, none⟩)) (by rfl) rfl ?_ ?_
        · go_simp
          (try simp only [i64_w])
          try rfl
        refine hK.out _ _ ⟨(by rw [ha.out]; exact putSel_upk 1 hb_ rfl rfl rfl), Q_HC4, fun h0_ => absurd ((hoff 11 (by kernel_rfl)).symm.trans h0_) (by decide)⟩
      refine steps_cons ?_ ?_
      · rintro b a w' ⟨ha, Q_HC4, Q_HF⟩ hb_ hon hoff
        refine ⟨_, rfl, fun K hK => ?_⟩
        have e83 : a.tmps[83]? = some (.pointer (some ⟨d, 11, none⟩)) := by rw [ha]; exact putSel_on (e := (5, 83, .pointer (some ⟨d, 11, none⟩))) 1 rfl rfl (hon 5 (by kernel_rfl)) rfl
        replace ha := Aside0.mk ha
        have HC4 := Aside0.mk (Q_HC4 (hoff 11 (by kernel_rfl)))
        have hx_ := (blk_cell HC4.out.dev.2.2.2.1 11).trans rfl
        refine value_ (w1 := w') (v := .int .i64 D4.c3) (by rfl) rfl ?_ ?_
        · go_simp
          (try simp only [i64_w])
          try rfl
        refine hK.out _ _ ⟨(by rw [ha.out]; exact putSel_upk 2 hb_ rfl rfl rfl), Q_HC4, fun h0_ => absurd ((hoff 11 (by kernel_rfl)).symm.trans h0_) (by decide)⟩
      refine steps_cons ?_ ?_
      · rintro b a w' ⟨ha, Q_HC4, Q_HF⟩ hb_ hon hoff
        refine ⟨_, rfl, fun K hK => ?_⟩
        have e84 : a.tmps[84]? = some (.int .i64 D4.c3) := by rw [ha]; exact putSel_on (e := (6, 84, .int .i64 D4.c3)) 2 rfl rfl (hon 6 (by kernel_rfl)) rfl
        replace ha := Aside0.mk ha
        have HC4 := Aside0.mk (Q_HC4 (hoff 11 (by kernel_rfl)))
        refine value_ (w1 := w') (v := .int .i64 (wrap64 (D4.c3 + 1))) (by rfl) rfl ?_ ?_
        · go_simp
          (try simp only [i64_w])
          try rfl
        refine hK.out _ _ ⟨(by rw [ha.out]; exact putSel_upk 3 hb_ rfl rfl rfl), Q_HC4, fun h0_ => absurd ((hoff 11 (by kernel_rfl)).symm.trans h0_) (by decide)⟩
      refine steps_cons ?_ ?_
      · rintro b a w' ⟨ha, Q_HC4, Q_HF⟩ hb_ hon hoff
        refine ⟨_, rfl, fun K hK => ?_⟩
        have e87 : a.tmps[87]? = some (.pointer (some ⟨d, 8, none⟩)) := by rw [ha]; exact (putSel_off rfl).trans rfl
        have e80 : a.tmps[80]? = some (.int .i64 3) := by rw [ha]; exact putSel_on (e := (2, 80, .int .i64 3)) 0 rfl rfl (hon 2 (by kernel_rfl)) rfl
        replace ha := Aside0.mk ha
        have HC4 := Aside0.mk (Q_HC4 (hoff 11 (by kernel_rfl)))
        refine value_ (w1 := w') (v := .pointer (some ⟨d, 11, none⟩)) (by rfl) rfl ?_ ?_
        · go_simp
          (try simp only [i64_w])
          try rfl
        refine hK.out _ _ ⟨(by rw [ha.out]; exact putSel_upk 4 hb_ rfl rfl rfl), Q_HC4, fun h0_ => absurd ((hoff 11 (by kernel_rfl)).symm.trans h0_) (by decide)⟩
      refine steps_cons ?_ ?_
      · rintro b a w' ⟨ha, Q_HC4, Q_HF⟩ hb_ hon hoff
        refine ⟨_, rfl, fun K hK => ?_⟩
        have e88 : a.tmps[88]? = some (.pointer (some ⟨d, 11, none⟩)) := by rw [ha]; exact putSel_on (e := (10, 88, .pointer (some ⟨d, 11, none⟩))) 4 rfl rfl (hon 10 (by kernel_rfl)) rfl
        have e85 : a.tmps[85]? = some (.int .i64 (wrap64 (D4.c3 + 1))) := by rw [ha]; exact putSel_on (e := (7, 85, .int .i64 (wrap64 (D4.c3 + 1)))) 3 rfl rfl (hon 7 (by kernel_rfl)) rfl
        replace ha := Aside0.mk ha
        have HC4 := Aside0.mk (Q_HC4 hb_)
        have hx_ := (blk_cell HC4.out.dev.2.2.2.1 11).trans rfl
        have hf_ := blk_frozen HC4.out.dev.2.2.2.1 11
        refine skip_ (w1 := w'.setCell ⟨d, 11, none⟩ (.int .i64 (wrap64 (D4.c3 + 1)))) (by rfl) rfl ?_ ?_
        · go_simp
          try rfl
        refine hK.out _ _ ⟨(by rw [ha.out]; exact putSel_none (v := undef) rfl), fun h0_ => absurd ((up_self b 11).symm.trans h0_) (by decide), fun h0_ => HC4.out.step (HC4.out.dev.bumped).2.2.1.1 (HC4.out.dev.bumped).2.2.1.2 rfl⟩
      exact steps_nil
    rintro b a w7 hall ⟨ha, Q_HC4, Q_HF⟩
    clear HC4
    have hb2_ := hall 2 (by kernel_rfl)
    have hb5_ := hall 5 (by kernel_rfl)
    have hb6_ := hall 6 (by kernel_rfl)
    have hb7_ := hall 7 (by kernel_rfl)
    have hb10_ := hall 10 (by kernel_rfl)
    have hb11_ := hall 11 (by kernel_rfl)
    subst ha
    simp only [putSel, hb2_, hb5_, hb6_, hb7_, hb10_, hb11_, if_true, Act.put, List.setIfInBounds_toArray, List.set_cons_zero, List.set_cons_succ]
    clear Q_HC4
    have HF := Aside0.mk (Q_HF hb11_)
    clear Q_HF
    clear hall hb2_ hb5_ hb6_ hb7_ hb10_ hb11_
    have HC5 := HF
    clear HF
    have q1 : (c.kind == 1) = false := by rw [HKind.out]; rfl
    have q2 : (c.kind == 2) = false := by rw [HKind.out]; rfl
    have q3 : (c.kind == 3) = true := by rw [HKind.out]; rfl
    have q4 : (c.kind == 4) = false := by rw [HKind.out]; rfl
    have y0 := (blk_cell HC5.out.box 0).trans rfl
    have y1 := (blk_cell HC5.out.box 1).trans rfl
    have y2 := (blk_cell HC5.out.box 2).trans rfl
    have y3 := (blk_cell HC5.out.box 3).trans rfl
    have hmf : ∀ (fn : Fn) (first cap : Array Value) (w : World), (Instr.makeFunc fn first cap).run Tryd.prog w = .ok (.func fn first cap) w := fun _ _ _ _ => rfl
    obtain ⟨D5, hD5⟩ : ∃ D5, D5 = D4.bump 3 := ⟨_, rfl⟩
    have hD5c : D5.cache = D.cache := by rw [hD5]; exact HC4c.out
    rw [← hD5] at HC5
    have hrowc := HC5.out.dev.2.2.2.2.2.1
    rw [hD5c] at hrowc
    have HDF := Aside0.mk (nDelFunc _ bx c D.cache B w7 hrowc (Nat.lt_trans HC.out (by decide)) HC5.out.box (fun e => HC5.out.n6 (.inr (.inr (.inl e)))))
    have HGC := Aside0.mk (show ∀ gg, (Value.slice cA D.cache.length cc).ownBlock = some gg → gg ≠ d from fun gg hgg => (HC5.out.dev.apart (.inl hgg)).1)
    have c3 := (blk_cell HC5.out.dev.2.2.2.1 3).trans rfl
    have HD5 := Aside0.mk hD5
    have HD5c := Aside0.mk hD5c
    clear hrowc hD5 hD5c
    go_upto_region 20 with (first | (go_at_call 41; (with_reducible refine HDF.out.mono ?_); rintro e w9 ⟨v9, rfl, ho9, hg9, he9⟩; obtain ⟨A9, c9, rfl⟩ := own_form ho9; have hd9 := (hg9.block d (Array.getElem?_eq_some_iff.1 HC5.out.dev.2.2.2.1).1 (fun e => HGC.out d e.symm rfl)).trans HC5.out.dev.2.2.2.1; have c39 := (blk_cell hd9 3).trans rfl; have f39 := blk_frozen hd9 3; have HO9 := Aside0.mk ho9; have HG9 := Aside0.mk hg9; have HE9 := Aside0.mk he9; clear ho9 hg9 he9 hd9) | fail)
    have hreq := DevAt.reqc HC5.out.dev HO9.out HG9.out (fun k hk => .inl (HE9.out.symm.trans hk))
    have HC6 := Aside0.mk (HC5.out.step hreq.1 hreq.2 rfl)
    dsimp only at HC6
    clear hreq HO9 HG9 HE9 HDF HGC c3 c39 f39 HC5 q1 q2 q3 q4 y0 y1 y2 y3
    generalize (D.cache.filter fun x => x.sector != c.sector).length = n9 at HC6 ⊢
    generalize w9.setCell ⟨d, 3, none⟩ (.slice A9 n9 c9) = w2 at HC6 ⊢
    obtain ⟨D6, hD6⟩ : ∃ D6, D6 = { D5 with cache := D.cache.filter fun x => x.sector != c.sector } := ⟨_, rfl⟩
    have hR5 : R = (c, { D6 with last := putM c.sector c D6.last }) := by
      rw [HRR.out, HKind.out, ← HD5.out, hD6, ← HD5c.out]
      unfold Dev.carry
      rw [if_neg (by rw [HKind.out]; decide), if_pos HKind.out]
    rw [← hD6] at HC6
    have HR5 := Aside0.mk hR5
    obtain ⟨w5, hw5⟩ : ∃ w5, w5 = w2 := ⟨_, rfl⟩
    have HCW := Aside0.mk (by rw [hw5]; exact HC6.out : CAt B w ⟨d, mb, .slice cA D.cache.length cc, .slice (some ⟨g, 0, none⟩) D.queue.length qc, .slice kA D.keep.length kc⟩ w5 ⟨d, mb, .slice A9 n9 c9, .slice (some ⟨g, 0, none⟩) (D.queue.length - 1) qc, .slice kA D.keep.length kc⟩ D6 b0 bx c)
    have HG := Aside0.mk (by rw [hw5]; exact World.grownBy.refl _ _ : w5.grownBy w2 (some mb))
    have HD := Aside0.mk HC6.out.dev
    clear HC
    have HC := Aside0.mk HC6.out.box
    clear HC6 hw5 hR5 hD6
    refine start_ (n := 8) (S := fun w' => True) (ds := []) #[false, false, false, false, false, false, false, false] (by kernel_rfl) rfl rfl trivial (fun hHeld => ?_)
    refine with_tabW nvme_Complete20.tab20 nvme_Complete20.bits20 (fun HT_ HW_ => ?_)
    have n0_ := Aside0.mk HD.out.drew; have n1_ := Aside0.mk (gr_drewc HG.out); have n2_ := Aside0.mk (blk_drew HC.out); clear HD HG HC; have HD := n0_; have HG := n1_; have HC := n2_; clear n0_ n1_ n2_; generalize w2.drew = wd at HD HG HC ⊢
    refine pure_ (i := 0) (N := some 109) (v := ?_) (a' := ?_) #[true, false, false, false, false, false, false, false] rfl rfl (any_of HT_.out (by kernel_rfl)) (fun _ _ _ h => h) (Or.inl ⟨by rfl, ?_⟩) ?_ ?_
    rotate_left
    · intro w'
      go_simp
      with_reducible rfl
    rotate_left
    · simp only [Act.put, List.setIfInBounds_toArray, List.set_cons_zero, List.set_cons_succ, i64_w, i32_w]
      rfl
    refine pure_ (i := 1) (N := some 110) (v := ?_) (a' := ?_) #[true, true, false, false, false, false, false, false] rfl rfl (any_of HT_.out (by kernel_rfl)) (fun _ _ _ h => h) (Or.inl ⟨by rfl, ?_⟩) ?_ ?_
    rotate_left
    · intro w'
      go_simp
      with_reducible rfl
    rotate_left
    · simp only [Act.put, List.setIfInBounds_toArray, List.set_cons_zero, List.set_cons_succ, i64_w, i32_w]
      rfl
    refine pure_ (i := 2) (N := some 111) (v := ?_) (a' := ?_) #[true, true, true, false, false, false, false, false] rfl rfl (any_of HT_.out (by kernel_rfl)) (fun _ _ _ h => h) (Or.inl ⟨by rfl, ?_⟩) ?_ ?_
    rotate_left
    · intro w'
      go_simp
      with_reducible rfl
    rotate_left
    · simp only [Act.put, List.setIfInBounds_toArray, List.set_cons_zero, List.set_cons_succ, i64_w, i32_w]
      rfl
    refine pure_ (i := 4) (N := some 113) (v := ?_) (a' := ?_) #[true, true, true, false, true, false, false, false] rfl rfl (any_of HT_.out (by kernel_rfl)) (fun _ _ _ h => h) (Or.inl ⟨by rfl, ?_⟩) ?_ ?_
    rotate_left
    · intro w'
      go_simp
      with_reducible rfl
    rotate_left
    · simp only [Act.put, List.setIfInBounds_toArray, List.set_cons_zero, List.set_cons_succ, i64_w, i32_w]
      rfl
    refine inv_at [3, 5, 6, 7] (fun a0_ b a w' => a = putSel a0_ b [(3, 112, .map (some mb)), (5, 114, .int .i64 c.sector), (6, 115, .agg #[.int .i64 c.kind, .int .i64 c.sector, .string c.data, .int .i64 c.tag])] ∧ (b 7 = false → DevAt B w' ⟨d, mb, .slice A9 n9 c9, .slice (some ⟨g, 0, none⟩) (D.queue.length - 1) qc, .slice kA D.keep.length kc⟩ D6) ∧ (b 7 = false → w5.grownBy w' (some mb)) ∧ (b 7 = false → w'.heap[bx]? = some (.cells #[.int .i64 c.kind, .int .i64 c.sector, .string c.data, .int .i64 c.tag] 38 (0, 0))) ∧ (b 7 = true → DevAt B w' ⟨d, mb, .slice A9 n9 c9, .slice (some ⟨g, 0, none⟩) (D.queue.length - 1) qc, .slice kA D.keep.length kc⟩ { D6 with last := putM c.sector c (D6).last } ∧ w5.grownBy w' (some mb))) HT_.out HW_.out (by kernel_rfl) (by kernel_rfl) ?_ ?_ ?_
    · exact ⟨by simp only [putSel, Bool.false_eq_true, if_false], fun _ => HD.out, fun _ => HG.out, fun _ => HC.out, fun h_ => absurd h_ (by decide)⟩
    · skip
      clear HC HD HG
      refine steps_cons ?_ ?_
      · rintro b a w' ⟨ha, Q_HD, Q_HG, Q_HC, Q_HF⟩ hb_ hon hoff
        refine ⟨_, rfl, fun K hK => ?_⟩
        have e111 : a.tmps[111]? = some (.pointer (some ⟨d, 2, none⟩)) := by rw [ha]; exact (putSel_off rfl).trans rfl
        replace ha := Aside0.mk ha
        have HD := Aside0.mk (Q_HD (hoff 7 (by kernel_rfl)))
        have HG := Aside0.mk (Q_HG (hoff 7 (by kernel_rfl)))
        have HC := Aside0.mk (Q_HC (hoff 7 (by kernel_rfl)))
        have hx_ := (blk_cell HD.out.2.2.2.1 2).trans rfl
        refine value_ (w1 := w') (v := .map (some mb)) (by rfl) rfl ?_ ?_
        · go_simp
          (try simp only [i64_w])
          try rfl
        refine hK.out _ _ ⟨(by rw [ha.out]; exact putSel_upk 0 hb_ rfl rfl rfl), Q_HD, Q_HG, Q_HC, fun h0_ => absurd ((hoff 7 (by kernel_rfl)).symm.trans h0_) (by decide)⟩
      refine steps_cons ?_ ?_
      · rintro b a w' ⟨ha, Q_HD, Q_HG, Q_HC, Q_HF⟩ hb_ hon hoff
        refine ⟨_, rfl, fun K hK => ?_⟩
        have e113 : a.tmps[113]? = some (.pointer (some ⟨bx, 1, none⟩)) := by rw [ha]; exact (putSel_off rfl).trans rfl
        replace ha := Aside0.mk ha
        have HD := Aside0.mk (Q_HD (hoff 7 (by kernel_rfl)))
        have HG := Aside0.mk (Q_HG (hoff 7 (by kernel_rfl)))
        have HC := Aside0.mk (Q_HC (hoff 7 (by kernel_rfl)))
        have hx_ := (blk_cell HC.out 1).trans rfl
        refine value_ (w1 := w') (v := .int .i64 c.sector) (by rfl) rfl ?_ ?_
        · go_simp
          (try simp only [i64_w])
          try rfl
        refine hK.out _ _ ⟨(by rw [ha.out]; exact putSel_upk 1 hb_ rfl rfl rfl), Q_HD, Q_HG, Q_HC, fun h0_ => absurd ((hoff 7 (by kernel_rfl)).symm.trans h0_) (by decide)⟩
      refine steps_cons ?_ ?_
      · rintro b a w' ⟨ha, Q_HD, Q_HG, Q_HC, Q_HF⟩ hb_ hon hoff
        refine ⟨_, rfl, fun K hK => ?_⟩
        have e6 : a.tmps[6]? = some (.pointer (some ⟨bx, 0, none⟩)) := by rw [ha]; exact (putSel_off rfl).trans rfl
        replace ha := Aside0.mk ha
        have HD := Aside0.mk (Q_HD (hoff 7 (by kernel_rfl)))
        have HG := Aside0.mk (Q_HG (hoff 7 (by kernel_rfl)))
        have HC := Aside0.mk (Q_HC (hoff 7 (by kernel_rfl)))
        have hx0 := (blk_cell HC.out 0).trans rfl
        have hx1 := (blk_cell HC.out 1).trans rfl
        have hx2 := (blk_cell HC.out 2).trans rfl
        have hx3 := (blk_cell HC.out 3).trans rfl
        refine value_ (w1 := w') (v := .agg #[.int .i64 c.kind, .int .i64 c.sector, .string c.data, .int .i64 c.tag]) (by rfl) rfl ?_ ?_
        · go_simp
          (try simp only [i64_w])
          try rfl
        refine hK.out _ _ ⟨(by rw [ha.out]; exact putSel_upk 2 hb_ rfl rfl rfl), Q_HD, Q_HG, Q_HC, fun h0_ => absurd ((hoff 7 (by kernel_rfl)).symm.trans h0_) (by decide)⟩
      refine steps_cons ?_ ?_
      · rintro b a w' ⟨ha, Q_HD, Q_HG, Q_HC, Q_HF⟩ hb_ hon hoff
        refine ⟨_, rfl, fun K hK => ?_⟩
        have e112 : a.tmps[112]? = some (.map (some mb)) := by rw [ha]; exact putSel_on (e := (3, 112, .map (some mb))) 0 rfl rfl (hon 3 (by kernel_rfl)) rfl
        have e114 : a.tmps[114]? = some (.int .i64 c.sector) := by rw [ha]; exact putSel_on (e := (5, 114, .int .i64 c.sector)) 1 rfl rfl (hon 5 (by kernel_rfl)) rfl
        have e115 : a.tmps[115]? = some (.agg #[.int .i64 c.kind, .int .i64 c.sector, .string c.data, .int .i64 c.tag]) := by rw [ha]; exact putSel_on (e := (6, 115, .agg #[.int .i64 c.kind, .int .i64 c.sector, .string c.data, .int .i64 c.tag])) 2 rfl rfl (hon 6 (by kernel_rfl)) rfl
        replace ha := Aside0.mk ha
        have HD := Aside0.mk (Q_HD hb_)
        have HG := Aside0.mk (Q_HG hb_)
        have HC := Aside0.mk (Q_HC hb_)
        obtain ⟨wA, hr_, ha1_, ha2_⟩ := dev_map HD.out c
        refine skip_ (w1 := wA) (by rfl) rfl ?_ ?_
        · have hr2_ := hr_
          dsimp only at hr2_
          simp [execOp, resolve, invoke, builtin, Act.eval, hr2_, Result.andThen, *]
        refine hK.out _ _ ⟨(by rw [ha.out]; exact putSel_none (v := undef) rfl), fun h0_ => absurd ((up_self b 7).symm.trans h0_) (by decide), fun h0_ => absurd ((up_self b 7).symm.trans h0_) (by decide), fun h0_ => absurd ((up_self b 7).symm.trans h0_) (by decide), fun h0_ => ⟨ha1_, gr_transc HG.out ha2_⟩⟩
      exact steps_nil
    rintro b a w8 hall ⟨ha, Q_HD, Q_HG, Q_HC, Q_HF⟩
    clear HC HD HG
    have hb3_ := hall 3 (by kernel_rfl)
    have hb5_ := hall 5 (by kernel_rfl)
    have hb6_ := hall 6 (by kernel_rfl)
    have hb7_ := hall 7 (by kernel_rfl)
    subst ha
    simp only [putSel, hb3_, hb5_, hb6_, hb7_, if_true, Act.put, List.setIfInBounds_toArray, List.set_cons_zero, List.set_cons_succ]
    clear Q_HD
    clear Q_HG
    clear Q_HC
    have HF := Aside0.mk (Q_HF hb7_)
    clear Q_HF
    clear hall hb3_ hb5_ hb6_ hb7_
    have HC6 := Aside0.mk (HCW.out.step HF.out.1 (grown_dkeep HF.out.2) rfl)
    clear HF HCW
    obtain rfl : R = (c, { D6 with last := putM c.sector c D6.last }) := HR5.out
    have q1 : (c.kind == 1) = false := by rw [HKind.out]; rfl
    have q2 : (c.kind == 2) = false := by rw [HKind.out]; rfl
    have q3 : (c.kind == 3) = true := by rw [HKind.out]; rfl
    have q4 : (c.kind == 4) = false := by rw [HKind.out]; rfl
    have z0 := (blk_cell HC6.out.box 0).trans rfl
    have z1 := (blk_cell HC6.out.box 1).trans rfl
    have z2 := (blk_cell HC6.out.box 2).trans rfl
    have z3 := (blk_cell HC6.out.box 3).trans rfl
    have r0 := (blk_cell HC6.out.res 0).trans rfl
    have r1 := (blk_cell HC6.out.res 1).trans rfl
    have r2 := (blk_cell HC6.out.res 2).trans rfl
    have r3 := (blk_cell HC6.out.res 3).trans rfl
    have g0 := blk_frozen HC6.out.res 0
    have g1 := blk_frozen HC6.out.res 1
    have g2 := blk_frozen HC6.out.res 2
    have g3 := blk_frozen HC6.out.res 3
    go_wp2_with (fail)
    refine bodyPost_ret (results_ct rfl _ _ b0 38 #[.int .i64 c.kind, .int .i64 c.sector, .string c.data, .int .i64 c.tag] (0, 0) _ rfl (set4c HC6.out.res) Tryd.underlying38 rfl (by kernel_rfl)) rfl ?_
    have hk9 := (((HC6.out.keep.setNew HC6.out.s0 0 (.int .i64 c.kind)).setNew HC6.out.s0 1 (.int .i64 c.sector)).setNew HC6.out.s0 2 (.string c.data)).setNew HC6.out.s0 3 (.int .i64 c.tag)
    have hd9 := (((HC6.out.dev.setOther HC6.out.n0 HC6.out.k0 0 (.int .i64 c.kind)).setOther HC6.out.n0 HC6.out.k0 1 (.int .i64 c.sector)).setOther HC6.out.n0 HC6.out.k0 2 (.string c.data)).setOther HC6.out.n0 HC6.out.k0 3 (.int .i64 c.tag)
    first | exact ⟨_, rfl, hd9, hk9⟩ | exact ⟨rfl, _, hd9, hk9⟩
set_option maxHeartbeats 4000000 in
set_option maxRecDepth 100000 in
theorem nCompNil (i : Int) (w : World) : Calls Tryd.prog 14 #[.pointer none, .int .i64 i] w fun r w' => r = .returned (.tuple #[.agg #[.int .i64 0, .int .i64 0, .string ⟨#[]⟩, .int .i64 0], .iface 75 (.int .i64 1)]) ∧ Below w.heap.size w w' := by
  go_enter Tryd.func14, Tryd.ntmps14
  go_wp2_with (fail)
  refine bodyPost_ret (results_ct rfl _ _ w.heap.size 38 #[.int .i64 0, .int .i64 0, .string ⟨#[]⟩, .int .i64 0] (0, 0) _ rfl (heap_alloc_new w _) Tryd.underlying38 rfl (by kernel_rfl)) rfl ?_
  exact ⟨rfl, below_alloc (Below.refl _ _) _⟩


end Go.Proofs.YtofiedgnnpednaaDoor.VNvmeRefuses
