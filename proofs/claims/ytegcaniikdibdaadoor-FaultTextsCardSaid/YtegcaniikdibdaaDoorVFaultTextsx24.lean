/- Contracts of functions of this seat: each call comes to what its Lean function computes; no condition beyond what each theorem states. Printed by a program of this session's own laid over the kit's printer. -/
import Derived.Test.YtegcaniikdibdaaDoorVFaultTextsx0
import Derived.Test.YtegcaniikdibdaaDoorVFaultTextsx1
import Derived.Test.YtegcaniikdibdaaDoorVFaultTextsx14
import Derived.Test.YtegcaniikdibdaaDoorVFaultTextsx21
namespace Go.Proofs.YtegcaniikdibdaaDoor.VFaultTexts
open Go.RowKit Go.Proofs.YtegcaniikdibdaaDoorW.PrintWords Go.Proofs.YtegcaniikdibdaaDoorW.PrintLast Go.Proofs.YtegcaniikdibdaaDoorW.PrintMore
attribute [local go_sem] max2_int min2_int max_two min_two max_three min_three max_four min_four   -- for this text's walks alone
set_option linter.unusedVariables false
set_option linter.unusedSimpArgs false

-- @GIVEN lib_refops
set_option maxHeartbeats 8000000 in
set_option maxRecDepth 100000 in
theorem refops_num (m : Int) (w : World) : Calls Tryd.prog 16 #[.agg #[.int .i64 3, .int .i64 0, .int .i64 m, .string ⟨#[]⟩, .slice none 0 0]] w fun r w' => r = .returned (.slice none 0 0) ∧ Below w.heap.size w w' := by
  go_enter Tryd.func16, Tryd.ntmps16
  go_wp2
  refine wp_loop_rounds 1 ?_
  rw [rounds_succ]
  go_wp2
  go_ret
  exact ⟨rfl, below_alloc (Below.refl _ _) _⟩
set_option maxHeartbeats 8000000 in
set_option maxRecDepth 100000 in
/-- The document's operations of a node. -/
theorem refops_tree (B : Nat) : ∀ (e : Er) (k a n : Int) (op : ByteArray) (sl : Value) (w : World), e.two → e.sz ≤ 1000 → NodeV w B k a n op sl e →
    Calls Tryd.prog 16 #[.agg #[.int .i64 k, .int .i64 a, .int .i64 n, .string op, sl]] w fun r w' => ∃ sv, r = .returned sv ∧ StrRow w' w.heap.size sv e.ops ∧ Below w.heap.size w w' := by
  intro e
  induction e with
  | num m =>
    intro k a n op sl w _ _ h
    obtain ⟨rfl, rfl, rfl, rfl, rfl⟩ := h
    refine (refops_num n w).mono ?_
    rintro r w' ⟨rfl, hb⟩
    exact ⟨_, rfl, StrRow.nil _ _, hb⟩
  | wrap o p e ih =>
    intro k a n op sl w h2 hs h
    obtain ⟨rfl, rfl, rfl, rfl, g, k1, a1, n1, o1, s1, rfl, _, hg, hn⟩ := h
    have hba := below_alloc (Below.refl w.heap.size w) (.cells #[.int .i64 1, .int .i64 a, .int .i64 0, .string op, .slice (some ⟨g, 0, none⟩) 1 1] 30)
    have HBA := Aside0.mk hba
    have HX := Aside0.mk (blk_new w (.cells #[.int .i64 1, .int .i64 a, .int .i64 0, .string op, .slice (some ⟨g, 0, none⟩) 1 1] 30))
    obtain ⟨sA, sn, sc, rfl⟩ := hn.slice
    have HN := Aside0.mk (hn.below hba)
    have hsz := e.ops_sz
    have HZ := Aside0.mk (show e.ops.length ≤ 1000 ∧ e.sz ≤ 1000 by simp only [Er.sz] at hs; omega)
    have h2e : e.two := h2
    have IH := Aside0.mk (fun (W : World) (hv : NodeV W B k1 a1 n1 o1 (.slice sA sn sc) e) => ih k1 a1 n1 o1 (.slice sA sn sc) W h2e HZ.out.2 hv)
    have HGG := Aside0.mk (blk_below hg hba)
    have HGL := Aside0.mk (blk_lt hg)
    have c0 := (blk_cell HX.out 0).trans rfl
    have c3 := (blk_cell HX.out 3).trans rfl
    obtain ⟨v6, w6, hrun, ho6, hb6, hk6⟩ := app_lit (w := w.alloc (.cells #[.int .i64 1, .int .i64 a, .int .i64 0, .string op, .slice (some ⟨g, 0, none⟩) 1 1] 30)) (w0 := w) op (StrRow.nil _ w.heap.size) (by decide) HBA.out.size HBA.out
    have hsz2 : (w.alloc (.cells #[.int .i64 1, .int .i64 a, .int .i64 0, .string op, .slice (some ⟨g, 0, none⟩) 1 1] 30)).heap.size = w.heap.size + 1 := by simp
    rw [hsz2] at hrun
    have HRUN := Aside0.mk hrun
    have HO6 := Aside0.mk ho6
    have HB6 := Aside0.mk hb6
    have hX6 := hk6 _ _ (by simp [Value.ownBlock]) HX.out
    have HX6 := Aside0.mk hX6
    have hG6 := hk6 _ _ (by simp [Value.ownBlock]) HGG.out
    have HN6 := Aside0.mk (NodeV.step (fun k o _ hk => hk6 k o (by simp [Value.ownBlock]) hk) (Nat.le_refl _) HN.out)
    have c4 := (blk_cell hX6 4).trans rfl
    have q0 := (blk_cell hG6 0).trans rfl
    have q1 := (blk_cell hG6 1).trans rfl
    have q2 := (blk_cell hG6 2).trans rfl
    have q3 := (blk_cell hG6 3).trans rfl
    have q4 := (blk_cell hG6 4).trans rfl
    clear hba ih h2 hs hg hn hsz h2e hrun ho6 hb6 hk6 hX6 hG6 hsz2
    show Calls _ _ _ _ fun r w' => ∃ sv, r = .returned sv ∧ StrRow w' w.heap.size sv (op :: e.ops) ∧ Below w.heap.size w w'
    go_enter Tryd.func16, Tryd.ntmps16
    go_wp2_with (at_builtin; refine Lib.wpList_append_run _ rfl _ _ _ _ rfl _ _ rfl rfl _ _ HRUN.out ?_)
    refine wp_loop_rounds 2 ?_
    rw [rounds_succ]
    go_wp2_with (first
      | (go_at_call 16; (refine (IH.out _ HN6.out).mono ?_); rintro r w8 ⟨sv, rfl, ho8, hb8⟩; obtain ⟨v9, w9, hrun9, ho9, hb9, hk9⟩ := app_rows (w0 := w) (HO6.out.below hb8) ho8 (by have := HZ.out; simp; omega) (Nat.le_trans HB6.out.size hb8.size) (below_step HB6.out hb8); have HRUN9 := Aside0.mk hrun9; have HO9 := Aside0.mk ho9; have HB9 := Aside0.mk hb9; have c4 := (blk_cell (hk9 _ _ (own_ne (HO6.out.below hb8).1 (blk_below HX6.out hb8) (by decide)).symm (blk_below HX6.out hb8)) 4).trans rfl; clear ho8 hb8 hrun9 ho9 hb9 hk9 q0 q1 q2 q3 q4)
      | (at_builtin; refine Lib.wpList_append_run _ rfl _ _ _ _ rfl _ _ rfl rfl _ _ HRUN9.out ?_))
    rw [rounds_succ]
    go_wp2
    go_ret
    exact ⟨_, rfl, HO9.out, HB9.out⟩
  | many e l ih =>
    intro k a n op sl w h2 hs h
    obtain ⟨rfl, rfl, rfl, rfl, g, k1, a1, n1, o1, s1, m, rfl, _, rfl, hg, hn⟩ := h
    have hba := below_alloc (Below.refl w.heap.size w) (.cells #[.int .i64 2, .int .i64 0, .int .i64 0, .string ⟨#[]⟩, .slice (some ⟨g, 0, none⟩) 2 2] 30)
    have HBA := Aside0.mk hba
    have HX := Aside0.mk (blk_new w (.cells #[.int .i64 2, .int .i64 0, .int .i64 0, .string ⟨#[]⟩, .slice (some ⟨g, 0, none⟩) 2 2] 30))
    obtain ⟨sA, sn, sc, rfl⟩ := hn.slice
    have HN := Aside0.mk (hn.below hba)
    have hsz := e.ops_sz
    have HZ := Aside0.mk (show e.ops.length ≤ 1000 ∧ e.sz ≤ 1000 by simp only [Er.sz] at hs; omega)
    have h2e : e.two := h2.2
    have IH := Aside0.mk (fun (W : World) (hv : NodeV W B k1 a1 n1 o1 (.slice sA sn sc) e) => ih k1 a1 n1 o1 (.slice sA sn sc) W h2e HZ.out.2 hv)
    have hgg := blk_below hg hba
    have HGG := Aside0.mk hgg
    have c0 := (blk_cell HX.out 0).trans rfl
    have c4 := (blk_cell HX.out 4).trans rfl
    have q0 := (blk_cell hgg 0).trans rfl
    have q1 := (blk_cell hgg 1).trans rfl
    have q2 := (blk_cell hgg 2).trans rfl
    have q3 := (blk_cell hgg 3).trans rfl
    have q4 := (blk_cell hgg 4).trans rfl
    clear hba ih h2 hs hg hn hsz h2e hgg
    show Calls _ _ _ _ fun r w' => ∃ sv, r = .returned sv ∧ StrRow w' w.heap.size sv e.ops ∧ Below w.heap.size w w'
    go_enter Tryd.func16, Tryd.ntmps16
    go_wp2
    refine wp_loop_rounds 3 ?_
    rw [rounds_succ]
    go_wp2_with (first
      | (go_at_call 16; (refine (IH.out _ HN.out).mono ?_); clear IH; rintro r w8 ⟨sv8, rfl, ho8, hb8⟩; obtain ⟨v9, w9, hrun9, ho9, hb9, hk9⟩ := app_rows (B := w.heap.size) (w0 := w) (StrRow.nil _ _) ho8 (by have := HZ.out; simp; omega) (Nat.le_trans HBA.out.size hb8.size) (below_step HBA.out hb8); have HRUN9 := Aside0.mk hrun9; have HO9 := Aside0.mk ho9; have HB9 := Aside0.mk hb9; have HX9 := Aside0.mk (hk9 _ _ (by simp [Value.ownBlock]) (blk_below HX.out hb8)); have hG9 := hk9 _ _ (by simp [Value.ownBlock]) (blk_below HGG.out hb8); have c4 := (blk_cell HX9.out 4).trans rfl; have q0 := (blk_cell hG9 5).trans rfl; have q1 := (blk_cell hG9 6).trans rfl; have q2 := (blk_cell hG9 7).trans rfl; have q3 := (blk_cell hG9 8).trans rfl; have q4 := (blk_cell hG9 9).trans rfl; clear ho8 hb8 hrun9 ho9 hb9 hk9 hG9)
      | (at_builtin; refine Lib.wpList_append_run _ rfl _ _ _ _ rfl _ _ rfl rfl _ _ HRUN9.out ?_))
    rw [rounds_succ]
    go_wp2_with (first
      | (go_at_call 16; (refine (refops_num m _).mono ?_); rintro r w10 ⟨rfl, hb10⟩; have HB10 := Aside0.mk (below_step HB9.out hb10); have HO10 := Aside0.mk (HO9.out.below hb10); have HA0 := Aside0.mk (app_str0 w10 _ (own_sl HO9.out.1)); have c4 := (blk_cell (blk_below HX9.out hb10) 4).trans rfl; clear hb10)
      | (at_builtin; refine Lib.wpList_append_run _ rfl _ _ _ _ rfl _ _ rfl rfl _ _ HA0.out ?_))
    rw [rounds_succ]
    go_wp2
    go_ret
    exact ⟨_, rfl, by simpa using HO10.out, HB10.out⟩


end Go.Proofs.YtegcaniikdibdaaDoor.VFaultTexts
