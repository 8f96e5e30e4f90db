/- Contracts of functions of this seat: each call comes to what its Lean function computes; no condition beyond what each theorem states. Printed by a program of this session's own laid over the kit's printer. -/
import Derived.Test.YtofiedgnnpednaaDoorVNvmeRefusesx0
import Derived.Test.YtofiedgnnpednaaDoorVNvmeRefusesx1
namespace Go.Proofs.YtofiedgnnpednaaDoor.VNvmeRefuses
open Go.RowKit Go.Proofs.YtofiedgnnpednaaDoorW.PrintWords Go.Proofs.YtofiedgnnpednaaDoorW.PrintLast Go.Proofs.YtofiedgnnpednaaDoorW.PrintMore
attribute [local go_sem] max2_int min2_int max_two min_two max_three min_three max_four min_four   -- for this text's walks alone
set_option linter.unusedVariables false
set_option linter.unusedSimpArgs false

-- @GIVEN slices_Clone_nvme
/-! ### slices_Clone_nvme: by hand -/
set_option maxHeartbeats 4000000 in
set_option maxRecDepth 100000 in
/-- A row's copy, in a block of its own. -/
theorem nClone (v : Value) (l : List NC) (B0 : Nat) (w : World) (h : w.ownsRow B0 38 4 v l.length (flatN l)) (hl : l.length < 1000000000) :
    Calls Tryd.prog 48 #[v] w fun r w' => ∃ v', r = .returned v' ∧ w'.ownsRow w.heap.size 38 4 v' l.length (flatN l) ∧ Below w.heap.size w w' := by
  have hm : maxLen = 9223372036854775807 := rfl
  rcases h.2 with ⟨rfl, h0⟩ | ⟨g, c, cur, rfl, h1, h2, h3, h4, h5, h6⟩
  · obtain rfl : l = [] := List.eq_nil_of_length_eq_zero h0
    have hne : (binOp BinOp.eql 64 (.slice none 0 0) (.slice none 0 0)).run Tryd.prog w = .ok (.bool true) w := by
      first | rfl | (simp [binOp]; rfl) | (simp [binOp]; done) | go_simp
    clear h h0
    go_enter Tryd.func48, Tryd.ntmps48
    go_wp2
    go_ret
    exact ⟨_, rfl, own_nil _ _ _ _, Below.refl _ _⟩
  · have hne : ∀ W : World, (binOp BinOp.eql 64 (.slice (some ⟨g, 0, none⟩) l.length c) (.slice none 0 0)).run Tryd.prog W = .ok (.bool false) W := fun W => by
      first | rfl | (simp [binOp]; rfl) | (simp [binOp]; done) | go_simp
    obtain ⟨i0, hi, hz0, hz1, hz2⟩ := info_parts (P := Tryd.prog) (e := 38) (z := zeroN.v) (size := 4) (bytes := 40) (by kernel_rfl)
    obtain ⟨v', w', hrun, o1, o2, _⟩ := run_append_own (P := Tryd.prog) (w := w.alloc (.cells #[] 38)) w.heap.size 64 64 38 i0 (zeroN.v) 4 40 Tryd.underlying64 hi hz0 hz1 hz2 rfl (by decide) (.slice (some ⟨w.heap.size, 0, none⟩) 0 0) 0 [] (World.ownsRow_made w #[] 0 (Nat.le_refl _) (by omega) rfl) ⟨g, 0, none⟩ l.length c (flatN l) (flatN_length l) (fun j u hu => (h.alloc (.cells #[] 38)).cells (g := g) rfl j u hu) (flatN_oneCell l) (by omega) (by omega) (by simp)
    rw [Nat.zero_add, List.nil_append] at o1
    have HRUN := Aside0.mk hrun
    clear h h2 h3 h4 h5 h6 hrun
    go_enter Tryd.func48, Tryd.ntmps48
    go_wp2_with (first | (at_builtin; refine Lib.wpList_append_run _ rfl _ _ _ _ rfl _ _ rfl rfl _ _ HRUN.out ?_) | fail)
    go_ret
    exact ⟨_, rfl, o1, (below_alloc (Below.refl w.heap.size w) (.cells #[] 38)).grown o2 (by simp) (fun k e => by cases e; exact Nat.le_refl _)⟩


end Go.Proofs.YtofiedgnnpednaaDoor.VNvmeRefuses
