/- Contracts of functions of this seat: each call comes to what its Lean function computes; no condition beyond what each theorem states. Printed by a program of this session's own laid over the kit's printer. -/
import Derived.Test.YtofiedgnnpednaaDoorVNvmeRefusesx0
import Derived.Test.YtofiedgnnpednaaDoorVNvmeRefusesx1
import Derived.Test.YtofiedgnnpednaaDoorVNvmeRefusesx2
import Derived.Test.YtofiedgnnpednaaDoorVNvmeRefusesx3
namespace Go.Proofs.YtofiedgnnpednaaDoor.VNvmeRefuses
open Go.RowKit Go.Proofs.YtofiedgnnpednaaDoorW.PrintWords Go.Proofs.YtofiedgnnpednaaDoorW.PrintLast Go.Proofs.YtofiedgnnpednaaDoorW.PrintMore
attribute [local go_sem] max2_int min2_int max_two min_two max_three min_three max_four min_four   -- for this text's walks alone
set_option linter.unusedVariables false
set_option linter.unusedSimpArgs false

-- @GIVEN nvme_New
/-! ### nvme_New: by hand -/
set_option maxHeartbeats 4000000 in
set_option maxRecDepth 100000 in
/-- A device that may be: all noughts. -/
theorem nNew (s d : Int) (h1 : 1 ≤ s) (h2 : s ≤ 2048) (h3 : 1 ≤ d) (h4 : d ≤ 64) (w : World) :
    Calls Tryd.prog 7 #[.int .i64 s, .int .i64 d] w fun r w' => ∃ P, r = .returned (.tuple #[.pointer (some ⟨P.d, 0, none⟩), .nilIface]) ∧ DevAt w.heap.size w' P ⟨s, d, [], [], [], false, 0, [], 0, 0, 0, 0, 0⟩ ∧ Below w.heap.size w w' := by
  have p1 : decide (s < 1) = false := decide_eq_false (by omega)
  have p2 : decide (2048 < s) = false := decide_eq_false (by omega)
  have p3 : decide (d < 1) = false := decide_eq_false (by omega)
  have p4 : decide (64 < d) = false := decide_eq_false (by omega)
  have hmm := @run_makeMap Tryd.prog
  clear h1 h2 h3 h4
  go_enter Tryd.func7, Tryd.ntmps7
  go_wp2
  go_ret2
  have h1 := heap_alloc_new w (.map #[] 0)
  have h2 := below_alloc (Below.refl w.heap.size w) (.map #[] 0)
  refine ⟨⟨w.heap.size + 1, w.heap.size, .slice none 0 0, .slice none 0 0, .slice none 0 0⟩, rfl, ⟨Nat.le_succ _, Nat.le_refl _, by simp, ?_, ⟨#[], 0, ?_, trivial⟩, own_nil _ _ _ _, own_nil _ _ _ _, own_nil _ _ _ _, .inl rfl⟩, below_alloc h2 _⟩
  · have h3 := blk_new (w.alloc (.map #[] 0)) (.cells #[.int .i64 s, .int .i64 d, .map (some w.heap.size), .slice none 0 0, .slice none 0 0, .bool false, .int .i64 0, .slice none 0 0, .int .i64 0, .int .i64 0, .int .i64 0, .int .i64 0, .int .i64 0] 78)
    simpa using h3
  · exact (Below.heap_alloc _ _ _ (by simp)).trans h1
set_option maxHeartbeats 4000000 in
set_option maxRecDepth 100000 in
/-- A sector that may be asked for. -/
theorem nReady (B : Nat) (P : DevP) (D : Dev) (s : Int) (w : World) (h : DevAt B w P D) (hd : D.down = false) (h0 : 0 ≤ s) (h1 : s < D.sectors) :
    Calls Tryd.prog 37 #[.pointer (some ⟨P.d, 0, none⟩), .int .i64 s] w fun r w' => r = .returned .nilIface ∧ w' = w := by
  obtain ⟨_, _, _, hg, _⟩ := h
  rw [hd] at hg
  have c5 := (blk_cell hg 5).trans rfl
  have c0 := (blk_cell hg 0).trans rfl
  have p1 : decide (s < 0) = false := decide_eq_false (by omega)
  have p2 : decide (D.sectors ≤ s) = false := decide_eq_false (by omega)
  clear hg hd h0 h1
  go_enter Tryd.func37, Tryd.ntmps37
  go_wp2
  go_ret
  exact ⟨rfl, rfl⟩
set_option maxHeartbeats 4000000 in
set_option maxRecDepth 100000 in
/-- May a sector be asked for? -/
theorem nReadyF (B : Nat) (P : DevP) (D : Dev) (s : Int) (w : World) (h : DevAt B w P D) :
    Calls Tryd.prog 37 #[.pointer (some ⟨P.d, 0, none⟩), .int .i64 s] w fun r w' => r = .returned (errW (D.ready s)) ∧ w' = w := by
  obtain ⟨_, _, _, hg, _⟩ := h
  have c5 := (blk_cell hg 5).trans rfl
  have c0 := (blk_cell hg 0).trans rfl
  unfold Dev.ready
  obtain ⟨sc, dp, la, ca, qu, dn, fa, ke, c_0, c_1, c_2, c_3, c_4⟩ := D
  dsimp only at hg c5 c0 ⊢
  cases dn with
  | true =>
    simp only [if_true, errW_some]
    go_enter Tryd.func37, Tryd.ntmps37
    go_wp2
    go_ret
    exact ⟨rfl, rfl⟩
  | false =>
    simp only [Bool.false_eq_true, if_false]
    by_cases h1 : s < 0
    · have p1 : decide (s < 0) = true := decide_eq_true h1
      rw [if_pos (.inl h1)]
      simp only [errW_some]
      clear h1
      go_enter Tryd.func37, Tryd.ntmps37
      go_wp2
      go_ret
      exact ⟨rfl, rfl⟩
    · have p1 : decide (s < 0) = false := decide_eq_false h1
      by_cases h2 : sc ≤ s
      · have p2 : decide (sc ≤ s) = true := decide_eq_true h2
        rw [if_pos (.inr h2)]
        simp only [errW_some]
        clear h1 h2
        go_enter Tryd.func37, Tryd.ntmps37
        go_wp2
        go_ret
        exact ⟨rfl, rfl⟩
      · have p2 : decide (sc ≤ s) = false := decide_eq_false h2
        rw [if_neg (by omega)]
        simp only [errW_none]
        clear h1 h2
        go_enter Tryd.func37, Tryd.ntmps37
        go_wp2
        go_ret
        exact ⟨rfl, rfl⟩
set_option maxHeartbeats 4000000 in
set_option maxRecDepth 100000 in
theorem nDown (B : Nat) (P : DevP) (D : Dev) (w : World) (h : DevAt B w P D) :
    Calls Tryd.prog 25 #[.pointer (some ⟨P.d, 0, none⟩)] w fun r w' => r = .returned (.bool D.down) ∧ w' = w := by
  obtain ⟨_, _, _, hg, _⟩ := h
  have c5 := (blk_cell hg 5).trans rfl
  clear hg
  go_enter Tryd.func25, Tryd.ntmps25
  go_wp2
  go_ret
  exact ⟨rfl, rfl⟩
set_option maxHeartbeats 4000000 in
set_option maxRecDepth 100000 in
theorem nSize (B : Nat) (P : DevP) (D : Dev) (w : World) (h : DevAt B w P D) :
    Calls Tryd.prog 22 #[.pointer (some ⟨P.d, 0, none⟩)] w fun r w' => r = .returned (.tuple #[.int .i64 D.sectors, .int .i64 D.depth]) ∧ ∃ n, w' = w.drewN n := by
  obtain ⟨_, _, _, hg, _⟩ := h
  have c0 := (blk_cell hg 0).trans rfl
  have c1 := (blk_cell hg 1).trans rfl
  clear hg
  go_enter Tryd.func22, Tryd.ntmps22
  go_wp2_with (first | go_quiet (fail) | fail)
  go_ret2
  exact ⟨rfl, _, rfl⟩
set_option maxHeartbeats 8000000 in
set_option maxRecDepth 100000 in
theorem nCounts (B : Nat) (P : DevP) (D : Dev) (w : World) (h : DevAt B w P D) :
    Calls Tryd.prog 24 #[.pointer (some ⟨P.d, 0, none⟩)] w fun r w' => r = .returned (.tuple #[.int .i64 D.c1, .int .i64 (wrap64 (D.c2 + D.c3)), .int .i64 D.c4]) ∧ ∃ n, w' = w.drewN n := by
  obtain ⟨_, _, _, hg, _⟩ := h
  have c1 := (blk_cell hg 9).trans rfl
  have c2 := (blk_cell hg 10).trans rfl
  have c3 := (blk_cell hg 11).trans rfl
  have c4 := (blk_cell hg 12).trans rfl
  clear hg
  go_enter Tryd.func24, Tryd.ntmps24
  go_wp2_with (first | go_quiet (fail) | fail)
  go_ret3
  exact ⟨rfl, _, rfl⟩
set_option maxHeartbeats 4000000 in
set_option maxRecDepth 100000 in
/-- The power is on again. -/
theorem nBoot (B : Nat) (P : DevP) (D : Dev) (w : World) (h : DevAt B w P D) :
    Calls Tryd.prog 19 #[.pointer (some ⟨P.d, 0, none⟩)] w fun r w' => ∃ P', r = .returned (.tuple #[]) ∧ DevAt B w' P' D.boot ∧ DKeep P P' w w' := by
  have HD := Aside0.mk h
  obtain ⟨_, _, _, hg, _⟩ := h
  have c0 := (blk_cell hg 5).trans rfl
  have c1 := (blk_cell hg 6).trans rfl
  have c2 := (blk_cell hg 7).trans rfl
  have f0 := blk_frozen hg 5
  have f1 := blk_frozen hg 6
  have f2 := blk_frozen hg 7
  clear hg
  go_enter Tryd.func19, Tryd.ntmps19
  go_wp2
  go_end0
  obtain ⟨h1, h2⟩ := HD.out.put P.cv P.qv (.slice none 0 0) D.boot (w' := ((w.setCell ⟨P.d, 5, none⟩ (.bool false)).setCell ⟨P.d, 6, none⟩ (.int .i64 0)).setCell ⟨P.d, 7, none⟩ (.slice none 0 0)) (blk_putc (blk_putc (blk_putc HD.out.2.2.2.1 5 _) 6 _) 7 _) (gr_put (gr_put (gr_put (World.grownBy.refl w _) 5 _) 6 _) 7 _) rfl (.inl ⟨rfl, rfl⟩) (.inl ⟨rfl, rfl⟩) (.inr ⟨rfl, rfl⟩)
  exact ⟨⟨P.d, P.mb, P.cv, P.qv, .slice none 0 0⟩, rfl, h1, h2⟩
-- NIL
set_option maxHeartbeats 4000000 in
set_option maxRecDepth 100000 in
theorem nNewBad (s d : Int) (h : ¬ (1 ≤ s ∧ s ≤ 2048 ∧ 1 ≤ d ∧ d ≤ 64)) (w : World) : Calls Tryd.prog 7 #[.int .i64 s, .int .i64 d] w fun r w' => r = .returned (.tuple #[.pointer none, .iface 75 (.int .i64 1)]) ∧ w' = w := by
  by_cases h1 : s < 1
  · have p1 : decide (s < 1) = true := decide_eq_true h1
    clear h h1
    go_enter Tryd.func7, Tryd.ntmps7
    go_wp2
    go_ret2
    exact ⟨rfl, rfl⟩
  · have p1 : decide (s < 1) = false := decide_eq_false h1
    by_cases h2 : 2048 < s
    · have p2 : decide (2048 < s) = true := decide_eq_true h2
      clear h h1 h2
      go_enter Tryd.func7, Tryd.ntmps7
      go_wp2
      go_ret2
      exact ⟨rfl, rfl⟩
    · have p2 : decide (2048 < s) = false := decide_eq_false h2
      by_cases h3 : d < 1
      · have p3 : decide (d < 1) = true := decide_eq_true h3
        clear h h1 h2 h3
        go_enter Tryd.func7, Tryd.ntmps7
        go_wp2
        go_ret2
        exact ⟨rfl, rfl⟩
      · have p3 : decide (d < 1) = false := decide_eq_false h3
        have p4 : decide (64 < d) = true := decide_eq_true (by omega)
        clear h h1 h2 h3
        go_enter Tryd.func7, Tryd.ntmps7
        go_wp2
        go_ret2
        exact ⟨rfl, rfl⟩
set_option maxHeartbeats 4000000 in
set_option maxRecDepth 100000 in
theorem nReadyNil (s : Int) (w : World) : Calls Tryd.prog 37 #[.pointer none, .int .i64 s] w fun r w' => r = .returned (.iface 75 (.int .i64 1)) ∧ w' = w := by
  go_enter Tryd.func37, Tryd.ntmps37
  go_wp2_with (fail)
  go_ret
  exact ⟨rfl, rfl⟩
set_option maxHeartbeats 4000000 in
set_option maxRecDepth 100000 in
theorem nDownNil (w : World) : Calls Tryd.prog 25 #[.pointer none] w fun r w' => r = .returned (.bool true) ∧ w' = w := by
  go_enter Tryd.func25, Tryd.ntmps25
  go_wp2_with (fail)
  go_ret
  exact ⟨rfl, rfl⟩
set_option maxHeartbeats 4000000 in
set_option maxRecDepth 100000 in
theorem nSizeNil (w : World) : Calls Tryd.prog 22 #[.pointer none] w fun r w' => r = .returned (.tuple #[.int .i64 0, .int .i64 0]) ∧ w' = w := by
  go_enter Tryd.func22, Tryd.ntmps22
  go_wp2_with (fail)
  go_ret2
  exact ⟨rfl, rfl⟩
set_option maxHeartbeats 4000000 in
set_option maxRecDepth 100000 in
theorem nCountsNil (w : World) : Calls Tryd.prog 24 #[.pointer none] w fun r w' => r = .returned (.tuple #[.int .i64 0, .int .i64 0, .int .i64 0]) ∧ w' = w := by
  go_enter Tryd.func24, Tryd.ntmps24
  go_wp2_with (fail)
  go_ret3
  exact ⟨rfl, rfl⟩
set_option maxHeartbeats 4000000 in
set_option maxRecDepth 100000 in
theorem nBootNil (w : World) : Calls Tryd.prog 19 #[.pointer none] w fun r w' => r = .returned (.tuple #[]) ∧ w' = w := by
  go_enter Tryd.func19, Tryd.ntmps19
  go_wp2_with (fail)
  go_end0
  exact ⟨rfl, rfl⟩


end Go.Proofs.YtofiedgnnpednaaDoor.VNvmeRefuses
